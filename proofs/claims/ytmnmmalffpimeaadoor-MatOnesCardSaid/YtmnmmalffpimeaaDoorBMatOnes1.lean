/- edenlaw16.MatOnes returns true whatever number is handed in; no condition beyond the row's own. (Part 1 of 3: Num, Mem, Norm, Add, Mul, Cmp, Err, ErrAs, Env, Is, Over, Parse.) -/
import Derived.Test.YtmnmmalffpimeaaDoorGNatx1
import Derived.Lib.Hide
import Derived.IntWalk
import Derived.Outline
import Derived.Deep.QuietTactic
import Derived.BigQuiet
import Derived.LaidEql
import Derived.Stop.Asserts
import Derived.RowKitTokens
import Derived.Test.YtmnmmalffpimeaaDoorGNatx2
import Derived.Deep.RegionWith
import Derived.Laws.BitsLemmas
import Derived.Deep.RegionHeld3
/- Plain facts on natural numbers as lists of limbs of 32 bits, the lowest first; no program is named here. -/
namespace Go.Proofs.YtmnmmalffpimeaaDoor

/-- what a list of limbs is worth -/
def val : List Int → Int
  | [] => 0
  | x :: xs => x + 4294967296 * val xs
/-- each limb is one -/
def Limbs (l : List Int) : Prop := ∀ x ∈ l, 0 ≤ x ∧ x < 4294967296
/-- no limb 0 at the end -/
def Tip : List Int → Prop
  | [] => True
  | [x] => x ≠ 0
  | _ :: y :: ys => Tip (y :: ys)
def Nrm (l : List Int) : Prop := Limbs l ∧ Tip l
/-- without limbs 0 at the end -/
def trim : List Int → List Int
  | [] => []
  | x :: xs => if trim xs = [] then (if x = 0 then [] else [x]) else x :: trim xs

theorem Limbs.tail {x : Int} {xs : List Int} (h : Limbs (x :: xs)) : Limbs xs := fun y hy => h y (List.mem_cons_of_mem _ hy)
theorem Limbs.head {x : Int} {xs : List Int} (h : Limbs (x :: xs)) : 0 ≤ x ∧ x < 4294967296 := h x List.mem_cons_self
theorem Limbs.nil : Limbs [] := fun _ h => by cases h
theorem Limbs.cons {x : Int} {xs : List Int} (hx : 0 ≤ x ∧ x < 4294967296) (h : Limbs xs) : Limbs (x :: xs) := by
  intro y hy
  rcases List.mem_cons.1 hy with rfl | hy
  · exact hx
  · exact h y hy
theorem Limbs.append {l m : List Int} (h : Limbs l) (k : Limbs m) : Limbs (l ++ m) := by
  intro x hx
  rcases List.mem_append.1 hx with hx | hx
  · exact h x hx
  · exact k x hx
theorem Limbs.take {l : List Int} (h : Limbs l) (n : Nat) : Limbs (l.take n) := fun x hx => h x (List.mem_of_mem_take hx)
theorem Limbs.drop {l : List Int} (h : Limbs l) (n : Nat) : Limbs (l.drop n) := fun x hx => h x (List.mem_of_mem_drop hx)
theorem Limbs.getD {l : List Int} (h : Limbs l) (i : Nat) : 0 ≤ l.getD i 0 ∧ l.getD i 0 < 4294967296 := by
  by_cases hi : i < l.length
  · rw [List.getD_eq_getElem?_getD, List.getElem?_eq_getElem hi]; exact h _ (List.getElem_mem hi)
  · rw [List.getD_eq_getElem?_getD, List.getElem?_eq_none (by omega)]; exact ⟨by decide, by decide⟩
theorem Limbs.replicate (n : Nat) : Limbs (List.replicate n 0) := by
  intro x hx
  rw [(List.mem_replicate.1 hx).2]
  exact ⟨by decide, by decide⟩

theorem val_nonneg : ∀ {l : List Int}, Limbs l → 0 ≤ val l
  | [], _ => by simp [val]
  | x :: xs, h => by
    have := val_nonneg h.tail
    have := h.head
    simp only [val]; omega
theorem Nrm.tail {x : Int} {xs : List Int} (h : Nrm (x :: xs)) : Nrm xs := by
  refine ⟨h.1.tail, ?_⟩
  cases xs with
  | nil => trivial
  | cons y ys => exact h.2
theorem Nrm.zero : ∀ {l : List Int}, Nrm l → val l = 0 → l = []
  | [], _, _ => rfl
  | x :: xs, h, hv => by
    exfalso
    have h0 := val_nonneg h.1.tail
    have h1 := h.1.head
    simp only [val] at hv
    have hx : xs = [] := Nrm.zero h.tail (by omega)
    subst hx
    have := h.2
    simp only [Tip, val] at this hv
    omega
/-- two normal lists of one worth are one -/
theorem Nrm.inj : ∀ {l m : List Int}, Nrm l → Nrm m → val l = val m → l = m
  | [], m, _, hm, hv => (Nrm.zero hm (by simpa [val] using hv.symm)).symm
  | x :: xs, [], hl, _, hv => by
    have := Nrm.zero hl (by simpa [val] using hv)
    cases this
  | x :: xs, y :: ys, hl, hm, hv => by
    have h1 := hl.1.head
    have h2 := hm.1.head
    simp only [val] at hv
    have hx : x = y := by omega
    have ht : val xs = val ys := by omega
    rw [hx, Nrm.inj hl.tail hm.tail ht]

theorem trim_limbs : ∀ {l : List Int}, Limbs l → Limbs (trim l)
  | [], _ => Limbs.nil
  | x :: xs, h => by
    simp only [trim]
    split
    · split
      · exact Limbs.nil
      · exact Limbs.cons h.head Limbs.nil
    · exact Limbs.cons h.head (trim_limbs h.tail)
theorem trim_tip : ∀ (l : List Int), Tip (trim l)
  | [] => trivial
  | x :: xs => by
    have ih := trim_tip xs
    simp only [trim]
    split
    · split
      · trivial
      · rename_i h; exact h
    · rename_i h
      match ht : trim xs, h with
      | y :: ys, _ => rw [ht] at ih; exact ih
theorem trim_nrm {l : List Int} (h : Limbs l) : Nrm (trim l) := ⟨trim_limbs h, trim_tip l⟩
theorem trim_val : ∀ (l : List Int), val (trim l) = val l
  | [] => rfl
  | x :: xs => by
    have ih := trim_val xs
    simp only [trim]
    split
    · rename_i h
      rw [h] at ih
      split
      · rename_i hx; simp only [val] at ih ⊢; omega
      · simp only [val] at ih ⊢; omega
    · simp only [val]; rw [ih]
theorem trim_of_tip : ∀ {l : List Int}, Tip l → trim l = l
  | [], _ => rfl
  | [x], h => by simp only [trim, if_pos trivial]; rw [if_neg h]
  | x :: y :: ys, h => by
    have ih := trim_of_tip (l := y :: ys) h
    rw [trim, ih, if_neg (by simp)]
theorem trim_length_le : ∀ (l : List Int), (trim l).length ≤ l.length
  | [] => Nat.le_refl _
  | x :: xs => by
    have := trim_length_le xs
    simp only [trim]
    split
    · split <;> simp
    · simp only [List.length_cons]; omega
theorem trim_take : ∀ (l : List Int), l.take (trim l).length = trim l
  | [] => rfl
  | x :: xs => by
    have ih := trim_take xs
    simp only [trim]
    split
    · split
      · rfl
      · rfl
    · simp only [List.length_cons, List.take_succ_cons]; rw [ih]
theorem trim_append_zero : ∀ (l : List Int), trim (l ++ [0]) = trim l
  | [] => by simp [trim]
  | x :: xs => by simp only [List.cons_append, trim]; rw [trim_append_zero xs]
theorem tip_append_ne : ∀ (l : List Int) {x : Int}, x ≠ 0 → Tip (l ++ [x])
  | [], _, h => h
  | [y], _, h => h
  | y :: z :: zs, _, h => by
    have := tip_append_ne (z :: zs) h
    exact this
theorem take_snoc_int (l : List Int) (k : Nat) (h : k < l.length) : l.take (k + 1) = l.take k ++ [l.getD k 0] := by
  rw [List.take_succ_eq_append_getElem h, List.getD_eq_getElem?_getD, List.getElem?_eq_getElem h]; rfl
/-- norm's loop: the last limb is 0 -/
theorem trim_step {l : List Int} {k : Nat} (h : k < l.length) (h0 : l.getD k 0 = 0) : trim (l.take (k + 1)) = trim (l.take k) := by
  rw [take_snoc_int l k h, h0, trim_append_zero]
/-- .. or not -/
theorem trim_done {l : List Int} {k : Nat} (h : k < l.length) (h0 : l.getD k 0 ≠ 0) : trim (l.take (k + 1)) = l.take (k + 1) := by
  rw [take_snoc_int l k h]; exact trim_of_tip (tip_append_ne _ h0)

theorem val_append : ∀ (l m : List Int), val (l ++ m) = val l + 4294967296 ^ l.length * val m
  | [], m => by simp [val]
  | x :: xs, m => by
    simp only [List.cons_append, val, List.length_cons, val_append xs m]
    rw [Int.pow_succ]; grind
theorem val_snoc (l : List Int) (x : Int) : val (l ++ [x]) = val l + 4294967296 ^ l.length * x := by
  rw [val_append]; simp [val]
theorem val_replicate (n : Nat) : val (List.replicate n 0) = 0 := by
  induction n with
  | zero => rfl
  | succ n ih => rw [List.replicate_succ]; simp only [val, ih]; rfl
theorem val_lt : ∀ {l : List Int}, Limbs l → val l < 4294967296 ^ l.length
  | [], _ => by simp [val]
  | x :: xs, h => by
    have := val_lt h.tail
    have := h.head
    simp only [val, List.length_cons]
    rw [Int.pow_succ]; omega
theorem val_take_succ (l : List Int) (k : Nat) (h : k < l.length) : val (l.take (k + 1)) = val (l.take k) + 4294967296 ^ k * l.getD k 0 := by
  rw [take_snoc_int l k h, val_snoc, List.length_take, Nat.min_eq_left (by omega)]

end Go.Proofs.YtmnmmalffpimeaaDoor

/- Words for memory: a value that reads as a list of limbs, and what a call leaves behind; over the printed words. -/
set_option linter.unusedVariables false
set_option linter.unusedSimpArgs false
namespace Go.Proofs.YtmnmmalffpimeaaDoor
open Go.RowKit Go.Proofs.YtmnmmalffpimeaaDoorW.PrintWords Go.Proofs.YtmnmmalffpimeaaDoorW.PrintLast Go.Proofs.YtmnmmalffpimeaaDoorW.PrintMore

/-- the value is a slice of limbs that reads as the list -/
def RdN (w : World) (v : Value) (l : List Int) : Prop := ∃ A c, v = .slice A l.length c ∧ l.length ≤ c ∧ Kd.C (Kd.int .u32) w A l.length l
theorem RdN.below {w w1 : World} {v : Value} {l : List Int} (h : RdN w v l) (hb : Below w.heap.size w w1) : RdN w1 v l := by
  obtain ⟨A, c, e, hc, hC⟩ := h
  exact ⟨A, c, e, hc, Kd.C_below hC hb⟩
theorem RdN.of_V {w : World} {b : Nat} {ok : Nat → Prop} {t : Nat} {v : Value} {l : List Int} (h : Kd.V (Kd.int .u32) t w b ok v l) : RdN w v l := by
  obtain ⟨A, c, e, hc, hF⟩ := h
  exact ⟨A, c, e, hc, Kd.F_now hF⟩
theorem RdN.of_R {w : World} {b : Nat} {ok : Nat → Prop} {t : Nat} {v : Value} {l : List Int} (h : Kd.R (Kd.int .u32) t w b ok v l) : RdN w v l := by
  obtain ⟨A, c, e, hc, hC⟩ := Kd.R_reads h
  exact ⟨A, c, e, hc, hC⟩
theorem RdN.nil (w : World) (c : Nat) : RdN w (.slice none 0 c) [] := ⟨none, c, rfl, Nat.zero_le _, Kd.C_nil _ _⟩

/-- likewise, in memory from block b on -/
def FrN (b : Nat) (w : World) (v : Value) (l : List Int) : Prop := Kd.V (Kd.int .u32) 74 w 0 (fun k => b ≤ k) v l
theorem FrN.rd {b : Nat} {w : World} {v : Value} {l : List Int} (h : FrN b w v l) : RdN w v l := RdN.of_V h
theorem FrN.below {b : Nat} {w w1 : World} {v : Value} {l : List Int} (h : FrN b w v l) (hb : Below w.heap.size w w1) : FrN b w1 v l := Kd.V_below h hb
theorem FrN.lower {b b' : Nat} {w : World} {v : Value} {l : List Int} (h : FrN b w v l) (hb : b' ≤ b) : FrN b' w v l := Kd.V_mono h (fun k hk => Nat.le_trans hb hk)
theorem FrN.nil (b : Nat) (w : World) : FrN b w (.slice none 0 0) [] := Kd.V_nil _ _ _ _ _
theorem FrN.of_R {b base : Nat} {w : World} {ok : Nat → Prop} {g n c : Nat} {l : List Int} (h : Kd.R (Kd.int .u32) 74 w base ok (.slice (some ⟨g, 0, none⟩) n c) l) (hg : b ≤ g) : FrN b w (.slice (some ⟨g, 0, none⟩) n c) l :=
  Kd.V_mono (Kd.R_V (Kd.R_tight rfl h)) (fun k hk => by
    have : k = g := by simpa [Value.ownBlock] using hk
    omega)
theorem FrN.take {b : Nat} {w : World} {A : Option Addr} {n c m : Nat} {l : List Int} (h : FrN b w (.slice A n c) l) (hm : m ≤ l.length) : FrN b w (.slice A (l.take m).length c) (l.take m) := by
  obtain ⟨h1, h2, h3⟩ := Kd.V_at h
  subst h1
  exact Kd.V_mk (by rw [List.length_take]; omega) (Kd.F_take h3 hm)
theorem FrN.trimmed {b : Nat} {w : World} {A : Option Addr} {n c : Nat} {l : List Int} (h : FrN b w (.slice A n c) l) : FrN b w (.slice A (trim l).length c) (trim l) := by
  have h1 := h.take (trim_length_le l)
  rwa [trim_take] at h1

/-- what a call that answers a normal number leaves -/
def NatRes (w : World) (x : Int) (e : Ending) (w' : World) : Prop := ∃ v r, e = .returned v ∧ FrN w.heap.size w' v r ∧ Nrm r ∧ val r = x ∧ Below w.heap.size w w'

theorem nrm_length {r : List Int} {k : Nat} (h : Nrm r) (hv : val r < 4294967296 ^ k) : r.length ≤ k := by
  induction r generalizing k with
  | nil => simp
  | cons x xs ih =>
    have h1 := h.1.head
    have h0 := val_nonneg h.1.tail
    simp only [val] at hv
    cases k with
    | zero =>
      exfalso
      simp at hv
      have hz : xs = [] := Nrm.zero h.tail (by omega)
      subst hz
      have := h.2
      simp only [Tip, val] at this hv
      omega
    | succ k =>
      rw [Int.pow_succ] at hv
      have := ih h.tail (k := k) (by omega)
      simp only [List.length_cons]; omega
end Go.Proofs.YtmnmmalffpimeaaDoor

/- What nat.norm and bits.Add32 compute: the same slice, cut to what is without limbs 0 at the end; a sum and its carry. -/
namespace Go.Proofs.YtmnmmalffpimeaaDoor
open Go.RowKit Go.Proofs.YtmnmmalffpimeaaDoorW.PrintWords Go.Proofs.YtmnmmalffpimeaaDoorW.PrintLast Go.Proofs.YtmnmmalffpimeaaDoorW.PrintMore
set_option linter.unusedVariables false
set_option linter.unusedSimpArgs false

theorem info_u32 : (Tryd.prog.info? 74).map (fun i => (i.zero, i.size, i.bytes)) = some (some (.int .u32 0), 1, 4) := by kernel_rfl

def sliceLen : Value → Nat
  | .slice _ n _ => n
  | _ => 0

set_option maxHeartbeats 2000000 in
set_option maxRecDepth 100000 in
theorem norm_calls (A : Option Addr) (c : Nat) (l : List Int) (w : World) (hr : Kd.C (Kd.int .u32) w A l.length l) (hc : l.length ≤ c) :
    Calls Tryd.prog 101 #[.slice A l.length c] w fun e w' => e = .returned (.slice A (trim l).length c) ∧ w = w' := by
  have HR := Aside0.mk hr
  have HC := Aside0.mk hc
  have hlen : l.length ≤ 9223372036854775807 := Kd.C_max hr
  clear hr hc
  go_enter Tryd.func101, Tryd.ntmps101
  go_wp2
  go_loop [0] (fun v => ∃ k : Nat, v = .slice A k c ∧ k ≤ l.length ∧ Aside0 (trim (l.take k) = trim l)) (fun v => sliceLen v)
  case atStart => exact ⟨l.length, rfl, Nat.le_refl _, ⟨by rw [List.take_length]⟩⟩
  case round =>
    obtain ⟨k, rfl, hk, HT⟩ := hrel
    cases k with
    | zero =>
      go_wp2
      go_ret
      exact ⟨by rw [← HT.out]; rfl, rfl⟩
    | succ k =>
      obtain ⟨ad, e, hx⟩ := Kd.at_int HR.out (k : Int) (by omega) (by omega)
      cases e
      simp only [Int.toNat_natCast] at hx
      have hck : k + 1 ≤ c := by have := HC.out; omega
      by_cases h0 : rd l (k : Int) = 0
      · have HZ := Aside0.mk h0
        have h0b : (rd l (k : Int) == 0) = true := beq_iff_eq.mpr h0
        clear h0
        go_wp2
        go_round
        case rel => exact ⟨k, rfl, by omega, ⟨by rw [← HT.out]; exact (trim_step (by omega) (by have := HZ.out; simpa [rd] using this)).symm⟩⟩
        case measure => simp [sliceLen]
      · have HZ := Aside0.mk h0
        have h0b : (rd l (k : Int) == 0) = false := beq_eq_false_iff_ne.mpr h0
        clear h0
        go_wp2
        go_ret
        refine ⟨?_, rfl⟩
        have h1 := trim_done (l := l) (k := k) (by omega) (by have := HZ.out; simpa [rd] using this)
        rw [← HT.out, h1, List.length_take, Nat.min_eq_left hk]
        rfl

set_option maxHeartbeats 2000000 in
set_option maxRecDepth 100000 in
theorem add32_calls (x y c : Int) (w : World) (hx0 : 0 ≤ x) (hx : x < 4294967296) (hy0 : 0 ≤ y) (hy : y < 4294967296) (hc0 : 0 ≤ c) (hc : c ≤ 1) :
    Calls Tryd.prog 106 #[.int .u32 x, .int .u32 y, .int .u32 c] w fun e w' => e = .returned (.tuple #[.int .u32 ((x + y + c) % 4294967296), .int .u32 ((x + y + c) / 4294967296)]) ∧ w = w' := by
  have hm : (x + y + c) / 4294967296 % 4294967296 = (x + y + c) / 4294967296 := by omega
  have HM := Aside0.mk hm
  clear hm
  go_enter Tryd.func106, Tryd.ntmps106
  go_wp2
  go_ret2
  exact ⟨by first | rfl | (rw [HM.out]) | (simp [HM.out]), rfl⟩
end Go.Proofs.YtmnmmalffpimeaaDoor

/- What nat.Add computes: the sum of two numbers, normal. -/
namespace Go.Proofs.YtmnmmalffpimeaaDoor
open Go.RowKit Go.Proofs.YtmnmmalffpimeaaDoorW.PrintWords Go.Proofs.YtmnmmalffpimeaaDoorW.PrintLast Go.Proofs.YtmnmmalffpimeaaDoorW.PrintMore
set_option linter.unusedVariables false
set_option linter.unusedSimpArgs false

/-- after i rounds: the digits so far, and the carry -/
def AddInv (l0 l1 : List Int) (i : Nat) (c : Int) (s : List Int) : Prop :=
  i ≤ l0.length ∧ s.length = i ∧ Limbs s ∧ 0 ≤ c ∧ c ≤ 1 ∧ val s + 4294967296 ^ i * c = val (l0.take i) + val (l1.take i)
def limb (l : List Int) (i : Nat) : Int := if i < l.length then rd l (i : Int) else 0
theorem rd_nat (l : List Int) (i : Nat) : rd l (i : Int) = l.getD i 0 := by simp [rd]
theorem limb_eq (l : List Int) (i : Nat) : limb l i = l.getD i 0 := by
  unfold limb
  split
  · exact rd_nat l i
  · rename_i h
    rw [List.getD_eq_getElem?_getD, List.getElem?_eq_none (by omega)]; rfl
theorem val_take_limb (l : List Int) (i : Nat) : val (l.take (i + 1)) = val (l.take i) + 4294967296 ^ i * limb l i := by
  by_cases h : i < l.length
  · rw [val_take_succ l i h, limb_eq]
  · rw [List.take_of_length_le (by omega), List.take_of_length_le (by omega)]
    simp [limb, h]
theorem AddInv.step {l0 l1 : List Int} {i : Nat} {c : Int} {s : List Int} (h : AddInv l0 l1 i c s) (hi : i < l0.length) (h0 : Limbs l0) (h1 : Limbs l1) :
    AddInv l0 l1 (i + 1) ((limb l0 i + limb l1 i + c) / 4294967296) (s ++ [(limb l0 i + limb l1 i + c) % 4294967296]) := by
  obtain ⟨a1, a2, a3, a4, a5, a6⟩ := h
  have b0 := h0.getD i
  have b1 := h1.getD i
  rw [← limb_eq] at b0 b1
  refine ⟨by omega, by simp [a2], a3.append (Limbs.cons ⟨by omega, by omega⟩ Limbs.nil), by omega, by omega, ?_⟩
  rw [val_snoc, a2, val_take_limb, val_take_limb, Int.pow_succ]
  have e : limb l0 i + limb l1 i + c = (limb l0 i + limb l1 i + c) % 4294967296 + 4294967296 * ((limb l0 i + limb l1 i + c) / 4294967296) := by omega
  generalize (limb l0 i + limb l1 i + c) / 4294967296 = q at *
  generalize (limb l0 i + limb l1 i + c) % 4294967296 = m at *
  generalize (4294967296 : Int) ^ i = p at *
  grind
theorem AddInv.done {l0 l1 : List Int} {c : Int} {s : List Int} (h : AddInv l0 l1 l0.length c s) (hge : l1.length ≤ l0.length) : val (s ++ [c]) = val l0 + val l1 ∧ Limbs (s ++ [c]) := by
  obtain ⟨a1, a2, a3, a4, a5, a6⟩ := h
  rw [List.take_length, List.take_of_length_le hge] at a6
  exact ⟨by rw [val_snoc, a2, a6], a3.append (Limbs.cons ⟨a4, by omega⟩ Limbs.nil)⟩
theorem set_zeros (s : List Int) (n : Nat) (x : Int) (i : Nat) (hi : s.length = i) (hn : 0 < n) : (s ++ List.replicate n 0).set i x = (s ++ [x]) ++ List.replicate (n - 1) 0 := by
  obtain ⟨m, rfl⟩ : ∃ m, n = m + 1 := ⟨n - 1, by omega⟩
  rw [List.set_append_right _ _ (by omega), List.replicate_succ, hi]
  simp

set_option maxHeartbeats 8000000 in
set_option maxRecDepth 100000 in
theorem add_ge (A0 A1 : Option Addr) (c0 c1 : Nat) (l0 l1 : List Int) (w : World) (hr0 : Kd.C (Kd.int .u32) w A0 l0.length l0) (hc0 : l0.length ≤ c0) (hr1 : Kd.C (Kd.int .u32) w A1 l1.length l1) (hc1 : l1.length ≤ c1)
    (hL0 : Limbs l0) (hL1 : Limbs l1) (hm : l0.length + 1 ≤ 70368744177664) (hge : l1.length ≤ l0.length) :
    Calls Tryd.prog 51 #[.slice A0 l0.length c0, .slice A1 l1.length c1] w (NatRes w (val l0 + val l1)) := by
  have HR0 := Aside0.mk hr0
  have HC0 := Aside0.mk hc0
  have HR1 := Aside0.mk hr1
  have HC1 := Aside0.mk hc1
  have HL0 := Aside0.mk hL0
  have HL1 := Aside0.mk hL1
  have HM := Aside0.mk hm
  have hd : decide (l0.length < l1.length) = false := decide_eq_false (by omega)
  obtain ⟨n1, hn1⟩ : ∃ n1 : Int, IntKind.i64.wrap ((l0.length : Int) + 1) = n1 := ⟨_, rfl⟩
  have hn1' : n1 = (l0.length : Int) + 1 := by rw [← hn1]; exact IntWalk.i64_in _ (by omega)
  have HN1 := Aside0.mk hn1'
  have p0 : 0 ≤ n1 := by omega
  have P0 := Aside0.mk p0
  have HB := Aside0.mk (Below.refl w.heap.size w)
  clear hr0 hc0 hr1 hc1 hL0 hL1 hm hn1' p0
  go_enter Tryd.func51, Tryd.ntmps51
  go_wp2_with (first | ((with_reducible refine gate_dst (N := 20) rfl ?_); refine Kd.R_make (Kd.int .u32) _ 74 rfl (N := 20) rfl 44 _ _ rfl n1 rfl rfl Tryd.underlying44 (.int .u32 0) 4 info_u32 rfl (by decide) (by omega) 0 (ok := fun _ => True) (okp := fun _ => True) rfl (fun _ hk => hk) trivial P0.out (by have := HM.out; have := HN1.out; omega) HB.out (Nat.le_refl _) ?_; intro vo w1 ho hb hg_ hnew_; clear hg_ hnew_ HB; have HB := Aside0.mk hb; have HO := Aside0.mk ho; clear hb ho))
  obtain ⟨n2, hn2⟩ : ∃ n2 : Nat, n2 = n1.toNat := ⟨_, rfl⟩
  have hn2' : n2 = l0.length + 1 := by have := HN1.out; omega
  rw [← hn2] at HO
  clear hn2
  subst hn2'
  clear hd
  obtain ⟨g, co, eo, gb, gl, cl, HG⟩ := Kd.R_form HO.out (by simp)
  rw [List.length_replicate] at eo
  subst eo
  have GB := Aside0.mk gb
  clear gb gl cl HG hn1
  go_loopg [6, 23] (l0.length + 1) (fun kq v6 v23 w' => ∃ (i : Nat) (c : Int) (s : List Int), v6 = .int .u32 c ∧ v23 = .int .i64 i ∧ Aside0 (AddInv l0 l1 i c s) ∧ Aside0 (kq + i = l0.length + 1) ∧ Aside0 (Kd.R (Kd.int .u32) 74 w' w.heap.size (fun _ => True) (.slice (some ⟨g, 0, none⟩) (l0.length + 1) co) (s ++ List.replicate (l0.length + 1 - i) 0)) ∧ Aside0 (Below w.heap.size w w'))
  case atStart => exact ⟨0, 0, [], rfl, rfl, ⟨⟨Nat.zero_le _, rfl, Limbs.nil, by decide, by decide, by simp [val]⟩⟩, ⟨rfl⟩, ⟨by simpa using HO.out⟩, HB⟩
  case round =>
    clear HO HB
    obtain ⟨i, c, s, rfl, rfl, HA, HK, HO, HB⟩ := hrel
    by_cases hlt : i < l0.length
    · obtain ⟨k1, rfl⟩ : ∃ k1, gk = k1 + 1 := ⟨gk - 1, by have := HK.out; omega⟩
      obtain ⟨ad0, e0, hx0⟩ := Kd.at_int HR0.out (i : Int) (by omega) (by omega)
      cases e0
      replace hx0 := (HB.out.cell (World.block_lt_of_cell? w _ hx0)).trans hx0
      simp only [Int.toNat_natCast] at hx0
      have hib : i < 9223372036854775807 := by have := HM.out; omega
      have BX := Aside0.mk (HL0.out.getD i)
      have BY := Aside0.mk (HL1.out.getD i)
      have BC : Aside0 (0 ≤ c ∧ c ≤ 1) := ⟨⟨HA.out.2.2.2.1, HA.out.2.2.2.2.1⟩⟩
      have HS := Aside0.mk (HA.out.step hlt HL0.out HL1.out)
      have hrep := set_zeros s (l0.length + 1 - i) ((limb l0 i + limb l1 i + c) % 4294967296) i HA.out.2.1 (by omega)
      have HX : Aside0 (limb l0 i = rd l0 (i : Int)) := ⟨by rw [limb, if_pos hlt]⟩
      by_cases hl1 : i < l1.length
      · obtain ⟨ad1, e1, hx1⟩ := Kd.at_int HR1.out (i : Int) (by omega) (by omega)
        cases e1
        replace hx1 := (HB.out.cell (World.block_lt_of_cell? w _ hx1)).trans hx1
        simp only [Int.toNat_natCast] at hx1
        have hl1b : decide (i < l1.length) = true := decide_eq_true hl1
        have HY : Aside0 (limb l1 i = rd l1 (i : Int)) := ⟨by rw [limb, if_pos hl1]⟩
        have HE : Aside0 ((limb l0 i + limb l1 i + c) % 4294967296 = ((rd l0 (i : Int) + rd l1 (i : Int) + c) % 4294967296)) := ⟨by rw [HX.out, HY.out]⟩
        have HPP : Aside0 (Kd.R (Kd.int .u32) 74 (wr.setCell ⟨g, i, none⟩ (.int .u32 ((rd l0 (i : Int) + rd l1 (i : Int) + c) % 4294967296))) w.heap.size (fun _ => True) (.slice (some ⟨g, 0, none⟩) (l0.length + 1) co) ((s ++ [(limb l0 i + limb l1 i + c) % 4294967296]) ++ List.replicate (l0.length + 1 - i - 1) 0)) :=
          ⟨by have h := (Kd.R_putg HO.out (i : Int) ((limb l0 i + limb l1 i + c) % 4294967296)).1; rw [Int.toNat_natCast, hrep] at h; rw [← HE.out]; exact h⟩
        obtain ⟨hc, hf⟩ := Kd.R_celln 0 HO.out (i : Int) (by omega) (by omega)
        rw [Int.toNat_natCast] at hc hf
        have HBS := Aside0.mk (fun v => below_set (g := g) (j := i) HB.out GB.out (v := v))
        clear hrep
        go_wp2_with (go_at_call 106; refine (add32_calls _ _ _ _ (by have := BX.out; rw [rd_nat]; omega) (by have := BX.out; rw [rd_nat]; omega) (by have := BY.out; rw [rd_nat]; omega) (by have := BY.out; rw [rd_nat]; omega) BC.out.1 BC.out.2).mono ?_; rintro e w' ⟨rfl, rfl⟩)
        go_roundg k1
        case measure => omega
        case rel => exact ⟨i + 1, _, _, by rw [HX.out, HY.out], by go_num, HS, ⟨by have := HK.out; omega⟩, ⟨by rw [show l0.length + 1 - (i + 1) = l0.length + 1 - i - 1 by omega]; exact HPP.out⟩, ⟨HBS.out _⟩⟩
      · have hl1b : decide (i < l1.length) = false := decide_eq_false hl1
        have HY : Aside0 (limb l1 i = 0) := ⟨by rw [limb, if_neg hl1]⟩
        have HE : Aside0 ((limb l0 i + limb l1 i + c) % 4294967296 = ((rd l0 (i : Int) + c) % 4294967296)) := ⟨by rw [HX.out, HY.out, Int.add_zero]⟩
        have HPP : Aside0 (Kd.R (Kd.int .u32) 74 (wr.setCell ⟨g, i, none⟩ (.int .u32 ((rd l0 (i : Int) + c) % 4294967296))) w.heap.size (fun _ => True) (.slice (some ⟨g, 0, none⟩) (l0.length + 1) co) ((s ++ [(limb l0 i + limb l1 i + c) % 4294967296]) ++ List.replicate (l0.length + 1 - i - 1) 0)) :=
          ⟨by have h := (Kd.R_putg HO.out (i : Int) ((limb l0 i + limb l1 i + c) % 4294967296)).1; rw [Int.toNat_natCast, hrep] at h; rw [← HE.out]; exact h⟩
        obtain ⟨hc, hf⟩ := Kd.R_celln 0 HO.out (i : Int) (by omega) (by omega)
        rw [Int.toNat_natCast] at hc hf
        have HBS := Aside0.mk (fun v => below_set (g := g) (j := i) HB.out GB.out (v := v))
        clear hrep
        go_wp2_with (go_at_call 106; refine (add32_calls _ _ _ _ (by have := BX.out; rw [rd_nat]; omega) (by have := BX.out; rw [rd_nat]; omega) (by have := BY.out; omega) (by have := BY.out; omega) BC.out.1 BC.out.2).mono ?_; rintro e w' ⟨rfl, rfl⟩)
        go_roundg k1
        case measure => omega
        case rel => exact ⟨i + 1, _, _, by rw [HX.out, HY.out, Int.add_zero], by go_num, HS, ⟨by have := HK.out; omega⟩, ⟨by rw [show l0.length + 1 - (i + 1) = l0.length + 1 - i - 1 by omega]; exact HPP.out⟩, ⟨HBS.out _⟩⟩
    · obtain rfl : i = l0.length := by have := HA.out.1; omega
      have hib : l0.length < 9223372036854775807 := by have := HM.out; omega
      have hrep := set_zeros s (l0.length + 1 - l0.length) c l0.length HA.out.2.1 (by omega)
      have hz : l0.length + 1 - l0.length - 1 = 0 := by omega
      rw [hz, List.replicate_zero, List.append_nil] at hrep
      have hd2 := HA.out.done hge
      have hl2 : (s ++ [c]).length = l0.length + 1 := by rw [List.length_append, HA.out.2.1]; rfl
      have HPP : Aside0 (Kd.R (Kd.int .u32) 74 (wr.setCell ⟨g, l0.length, none⟩ (.int .u32 c)) w.heap.size (fun _ => True) (.slice (some ⟨g, 0, none⟩) (l0.length + 1) co) (s ++ [c])) :=
        ⟨by have h := (Kd.R_putg HO.out (l0.length : Int) c).1; rw [Int.toNat_natCast, hrep] at h; exact h⟩
      obtain ⟨hc, hf⟩ := Kd.R_celln 0 HO.out (l0.length : Int) (by omega) (by omega)
      rw [Int.toNat_natCast] at hc hf
      have HBS := Aside0.mk (below_set (g := g) (j := l0.length) HB.out GB.out (v := .int .u32 c))
      have HD2 := Aside0.mk hd2
      obtain ⟨t, ht⟩ : ∃ t, t = s ++ [c] := ⟨_, rfl⟩
      rw [← ht] at HPP HD2 hl2
      have HRR := Aside0.mk (Kd.R_reads' HPP.out)
      have HL2 := Aside0.mk hl2
      clear hrep hz hd2 ht hl2 hge
      go_wp2_with (go_at_call 101; (refine calls_of_args ?_ ((norm_calls (some ⟨g, 0, none⟩) co t _ HRR.out.2.2 (by have := HRR.out; omega)).mono ?_)); (case refine_1 => rw [HL2.out]); rintro e w' ⟨rfl, rfl⟩)
      go_ret
      exact ⟨_, trim t, rfl, (FrN.of_R HPP.out GB.out).trimmed, trim_nrm HD2.out.2, by rw [trim_val]; exact HD2.out.1, HBS.out⟩

set_option maxHeartbeats 8000000 in
set_option maxRecDepth 100000 in
theorem add_lt (A0 A1 : Option Addr) (c0 c1 : Nat) (l0 l1 : List Int) (w : World) (hr0 : Kd.C (Kd.int .u32) w A0 l0.length l0) (hc0 : l0.length ≤ c0) (hr1 : Kd.C (Kd.int .u32) w A1 l1.length l1) (hc1 : l1.length ≤ c1)
    (hL0 : Limbs l0) (hL1 : Limbs l1) (hm : l0.length + 1 ≤ 70368744177664) (hge' : l1.length < l0.length) :
    Calls Tryd.prog 51 #[.slice A1 l1.length c1, .slice A0 l0.length c0] w (NatRes w (val l0 + val l1)) := by
  have HR0 := Aside0.mk hr0
  have HC0 := Aside0.mk hc0
  have HR1 := Aside0.mk hr1
  have HC1 := Aside0.mk hc1
  have HL0 := Aside0.mk hL0
  have HL1 := Aside0.mk hL1
  have HM := Aside0.mk hm
  have hge : l1.length ≤ l0.length := by omega
  have hd : decide (l1.length < l0.length) = true := decide_eq_true hge'
  clear hge'
  obtain ⟨n1, hn1⟩ : ∃ n1 : Int, IntKind.i64.wrap ((l0.length : Int) + 1) = n1 := ⟨_, rfl⟩
  have hn1' : n1 = (l0.length : Int) + 1 := by rw [← hn1]; exact IntWalk.i64_in _ (by omega)
  have HN1 := Aside0.mk hn1'
  have p0 : 0 ≤ n1 := by omega
  have P0 := Aside0.mk p0
  have HB := Aside0.mk (Below.refl w.heap.size w)
  clear hr0 hc0 hr1 hc1 hL0 hL1 hm hn1' p0
  go_enter Tryd.func51, Tryd.ntmps51
  go_wp2_with (first | ((with_reducible refine gate_dst (N := 20) rfl ?_); refine Kd.R_make (Kd.int .u32) _ 74 rfl (N := 20) rfl 44 _ _ rfl n1 rfl rfl Tryd.underlying44 (.int .u32 0) 4 info_u32 rfl (by decide) (by omega) 0 (ok := fun _ => True) (okp := fun _ => True) rfl (fun _ hk => hk) trivial P0.out (by have := HM.out; have := HN1.out; omega) HB.out (Nat.le_refl _) ?_; intro vo w1 ho hb hg_ hnew_; clear hg_ hnew_ HB; have HB := Aside0.mk hb; have HO := Aside0.mk ho; clear hb ho))
  obtain ⟨n2, hn2⟩ : ∃ n2 : Nat, n2 = n1.toNat := ⟨_, rfl⟩
  have hn2' : n2 = l0.length + 1 := by have := HN1.out; omega
  rw [← hn2] at HO
  clear hn2
  subst hn2'
  clear hd
  obtain ⟨g, co, eo, gb, gl, cl, HG⟩ := Kd.R_form HO.out (by simp)
  rw [List.length_replicate] at eo
  subst eo
  have GB := Aside0.mk gb
  clear gb gl cl HG hn1
  go_loopg [6, 23] (l0.length + 1) (fun kq v6 v23 w' => ∃ (i : Nat) (c : Int) (s : List Int), v6 = .int .u32 c ∧ v23 = .int .i64 i ∧ Aside0 (AddInv l0 l1 i c s) ∧ Aside0 (kq + i = l0.length + 1) ∧ Aside0 (Kd.R (Kd.int .u32) 74 w' w.heap.size (fun _ => True) (.slice (some ⟨g, 0, none⟩) (l0.length + 1) co) (s ++ List.replicate (l0.length + 1 - i) 0)) ∧ Aside0 (Below w.heap.size w w'))
  case atStart => exact ⟨0, 0, [], rfl, rfl, ⟨⟨Nat.zero_le _, rfl, Limbs.nil, by decide, by decide, by simp [val]⟩⟩, ⟨rfl⟩, ⟨by simpa using HO.out⟩, HB⟩
  case round =>
    clear HO HB
    obtain ⟨i, c, s, rfl, rfl, HA, HK, HO, HB⟩ := hrel
    by_cases hlt : i < l0.length
    · obtain ⟨k1, rfl⟩ : ∃ k1, gk = k1 + 1 := ⟨gk - 1, by have := HK.out; omega⟩
      obtain ⟨ad0, e0, hx0⟩ := Kd.at_int HR0.out (i : Int) (by omega) (by omega)
      cases e0
      replace hx0 := (HB.out.cell (World.block_lt_of_cell? w _ hx0)).trans hx0
      simp only [Int.toNat_natCast] at hx0
      have hib : i < 9223372036854775807 := by have := HM.out; omega
      have BX := Aside0.mk (HL0.out.getD i)
      have BY := Aside0.mk (HL1.out.getD i)
      have BC : Aside0 (0 ≤ c ∧ c ≤ 1) := ⟨⟨HA.out.2.2.2.1, HA.out.2.2.2.2.1⟩⟩
      have HS := Aside0.mk (HA.out.step hlt HL0.out HL1.out)
      have hrep := set_zeros s (l0.length + 1 - i) ((limb l0 i + limb l1 i + c) % 4294967296) i HA.out.2.1 (by omega)
      have HX : Aside0 (limb l0 i = rd l0 (i : Int)) := ⟨by rw [limb, if_pos hlt]⟩
      by_cases hl1 : i < l1.length
      · obtain ⟨ad1, e1, hx1⟩ := Kd.at_int HR1.out (i : Int) (by omega) (by omega)
        cases e1
        replace hx1 := (HB.out.cell (World.block_lt_of_cell? w _ hx1)).trans hx1
        simp only [Int.toNat_natCast] at hx1
        have hl1b : decide (i < l1.length) = true := decide_eq_true hl1
        have HY : Aside0 (limb l1 i = rd l1 (i : Int)) := ⟨by rw [limb, if_pos hl1]⟩
        have HE : Aside0 ((limb l0 i + limb l1 i + c) % 4294967296 = ((rd l0 (i : Int) + rd l1 (i : Int) + c) % 4294967296)) := ⟨by rw [HX.out, HY.out]⟩
        have HPP : Aside0 (Kd.R (Kd.int .u32) 74 (wr.setCell ⟨g, i, none⟩ (.int .u32 ((rd l0 (i : Int) + rd l1 (i : Int) + c) % 4294967296))) w.heap.size (fun _ => True) (.slice (some ⟨g, 0, none⟩) (l0.length + 1) co) ((s ++ [(limb l0 i + limb l1 i + c) % 4294967296]) ++ List.replicate (l0.length + 1 - i - 1) 0)) :=
          ⟨by have h := (Kd.R_putg HO.out (i : Int) ((limb l0 i + limb l1 i + c) % 4294967296)).1; rw [Int.toNat_natCast, hrep] at h; rw [← HE.out]; exact h⟩
        obtain ⟨hc, hf⟩ := Kd.R_celln 0 HO.out (i : Int) (by omega) (by omega)
        rw [Int.toNat_natCast] at hc hf
        have HBS := Aside0.mk (fun v => below_set (g := g) (j := i) HB.out GB.out (v := v))
        clear hrep
        go_wp2_with (go_at_call 106; refine (add32_calls _ _ _ _ (by have := BX.out; rw [rd_nat]; omega) (by have := BX.out; rw [rd_nat]; omega) (by have := BY.out; rw [rd_nat]; omega) (by have := BY.out; rw [rd_nat]; omega) BC.out.1 BC.out.2).mono ?_; rintro e w' ⟨rfl, rfl⟩)
        go_roundg k1
        case measure => omega
        case rel => exact ⟨i + 1, _, _, by rw [HX.out, HY.out], by go_num, HS, ⟨by have := HK.out; omega⟩, ⟨by rw [show l0.length + 1 - (i + 1) = l0.length + 1 - i - 1 by omega]; exact HPP.out⟩, ⟨HBS.out _⟩⟩
      · have hl1b : decide (i < l1.length) = false := decide_eq_false hl1
        have HY : Aside0 (limb l1 i = 0) := ⟨by rw [limb, if_neg hl1]⟩
        have HE : Aside0 ((limb l0 i + limb l1 i + c) % 4294967296 = ((rd l0 (i : Int) + c) % 4294967296)) := ⟨by rw [HX.out, HY.out, Int.add_zero]⟩
        have HPP : Aside0 (Kd.R (Kd.int .u32) 74 (wr.setCell ⟨g, i, none⟩ (.int .u32 ((rd l0 (i : Int) + c) % 4294967296))) w.heap.size (fun _ => True) (.slice (some ⟨g, 0, none⟩) (l0.length + 1) co) ((s ++ [(limb l0 i + limb l1 i + c) % 4294967296]) ++ List.replicate (l0.length + 1 - i - 1) 0)) :=
          ⟨by have h := (Kd.R_putg HO.out (i : Int) ((limb l0 i + limb l1 i + c) % 4294967296)).1; rw [Int.toNat_natCast, hrep] at h; rw [← HE.out]; exact h⟩
        obtain ⟨hc, hf⟩ := Kd.R_celln 0 HO.out (i : Int) (by omega) (by omega)
        rw [Int.toNat_natCast] at hc hf
        have HBS := Aside0.mk (fun v => below_set (g := g) (j := i) HB.out GB.out (v := v))
        clear hrep
        go_wp2_with (go_at_call 106; refine (add32_calls _ _ _ _ (by have := BX.out; rw [rd_nat]; omega) (by have := BX.out; rw [rd_nat]; omega) (by have := BY.out; omega) (by have := BY.out; omega) BC.out.1 BC.out.2).mono ?_; rintro e w' ⟨rfl, rfl⟩)
        go_roundg k1
        case measure => omega
        case rel => exact ⟨i + 1, _, _, by rw [HX.out, HY.out, Int.add_zero], by go_num, HS, ⟨by have := HK.out; omega⟩, ⟨by rw [show l0.length + 1 - (i + 1) = l0.length + 1 - i - 1 by omega]; exact HPP.out⟩, ⟨HBS.out _⟩⟩
    · obtain rfl : i = l0.length := by have := HA.out.1; omega
      have hib : l0.length < 9223372036854775807 := by have := HM.out; omega
      have hrep := set_zeros s (l0.length + 1 - l0.length) c l0.length HA.out.2.1 (by omega)
      have hz : l0.length + 1 - l0.length - 1 = 0 := by omega
      rw [hz, List.replicate_zero, List.append_nil] at hrep
      have hd2 := HA.out.done hge
      have hl2 : (s ++ [c]).length = l0.length + 1 := by rw [List.length_append, HA.out.2.1]; rfl
      have HPP : Aside0 (Kd.R (Kd.int .u32) 74 (wr.setCell ⟨g, l0.length, none⟩ (.int .u32 c)) w.heap.size (fun _ => True) (.slice (some ⟨g, 0, none⟩) (l0.length + 1) co) (s ++ [c])) :=
        ⟨by have h := (Kd.R_putg HO.out (l0.length : Int) c).1; rw [Int.toNat_natCast, hrep] at h; exact h⟩
      obtain ⟨hc, hf⟩ := Kd.R_celln 0 HO.out (l0.length : Int) (by omega) (by omega)
      rw [Int.toNat_natCast] at hc hf
      have HBS := Aside0.mk (below_set (g := g) (j := l0.length) HB.out GB.out (v := .int .u32 c))
      have HD2 := Aside0.mk hd2
      obtain ⟨t, ht⟩ : ∃ t, t = s ++ [c] := ⟨_, rfl⟩
      rw [← ht] at HPP HD2 hl2
      have HRR := Aside0.mk (Kd.R_reads' HPP.out)
      have HL2 := Aside0.mk hl2
      clear hrep hz hd2 ht hl2 hge
      go_wp2_with (go_at_call 101; (refine calls_of_args ?_ ((norm_calls (some ⟨g, 0, none⟩) co t _ HRR.out.2.2 (by have := HRR.out; omega)).mono ?_)); (case refine_1 => rw [HL2.out]); rintro e w' ⟨rfl, rfl⟩)
      go_ret
      exact ⟨_, trim t, rfl, (FrN.of_R HPP.out GB.out).trimmed, trim_nrm HD2.out.2, by rw [trim_val]; exact HD2.out.1, HBS.out⟩

set_option maxHeartbeats 400000 in
theorem add_calls (A0 A1 : Option Addr) (c0 c1 : Nat) (l0 l1 : List Int) (w : World) (hr0 : Kd.C (Kd.int .u32) w A0 l0.length l0) (hc0 : l0.length ≤ c0) (hr1 : Kd.C (Kd.int .u32) w A1 l1.length l1) (hc1 : l1.length ≤ c1)
    (hL0 : Limbs l0) (hL1 : Limbs l1) (hm0 : l0.length + 1 ≤ 70368744177664) (hm1 : l1.length + 1 ≤ 70368744177664) :
    Calls Tryd.prog 51 #[.slice A0 l0.length c0, .slice A1 l1.length c1] w (NatRes w (val l0 + val l1)) := by
  by_cases h : l1.length ≤ l0.length
  · exact add_ge A0 A1 c0 c1 l0 l1 w hr0 hc0 hr1 hc1 hL0 hL1 hm0 h
  · rw [Int.add_comm]
    exact add_lt A1 A0 c1 c0 l1 l0 w hr1 hc1 hr0 hc0 hL1 hL0 hm1 (by omega)
end Go.Proofs.YtmnmmalffpimeaaDoor

/- What nat.Mul computes: the product of two numbers, normal. -/
namespace Go.Proofs.YtmnmmalffpimeaaDoor
open Go.RowKit Go.Proofs.YtmnmmalffpimeaaDoorW.PrintWords Go.Proofs.YtmnmmalffpimeaaDoorW.PrintLast Go.Proofs.YtmnmmalffpimeaaDoorW.PrintMore
set_option linter.unusedVariables false
set_option linter.unusedSimpArgs false

theorem val_set : ∀ (l : List Int) (i : Nat) (v : Int), i < l.length → val (l.set i v) = val l + 4294967296 ^ i * (v - l.getD i 0)
  | x :: xs, 0, v, _ => by simp [val]; omega
  | x :: xs, i + 1, v, h => by
    have ih := val_set xs i v (by simpa using h)
    simp only [List.set_cons_succ, val, ih, List.getD_cons_succ]
    rw [Int.pow_succ]; grind
theorem Limbs.set {l : List Int} (h : Limbs l) (i : Nat) {v : Int} (hv : 0 ≤ v ∧ v < 4294967296) : Limbs (l.set i v) := by
  intro x hx
  rcases List.mem_or_eq_of_mem_set hx with hx | rfl
  · exact h x hx
  · exact hv
theorem getD_set_ne_ (l : List Int) (i m : Nat) (v : Int) (h : i ≠ m) : (l.set i v).getD m 0 = l.getD m 0 := by
  rw [List.getD_eq_getElem?_getD, List.getD_eq_getElem?_getD, List.getElem?_set_ne h]

def MulInv (l0 l1 : List Int) (i : Nat) (o : List Int) : Prop :=
  i ≤ l0.length ∧ o.length = l0.length + l1.length ∧ Limbs o ∧ val o = val (l0.take i) * val l1 ∧ ∀ m, i + l1.length ≤ m → o.getD m 0 = 0
def MulIn (l0 l1 : List Int) (i : Nat) (o : List Int) (j : Nat) (c : Int) (o2 : List Int) : Prop :=
  j ≤ l1.length ∧ o2.length = l0.length + l1.length ∧ Limbs o2 ∧ 0 ≤ c ∧ c < 4294967296 ∧ val o2 + 4294967296 ^ (i + j) * c = val o + 4294967296 ^ i * (rd l0 (i : Int) * val (l1.take j)) ∧ ∀ m, i + l1.length ≤ m → o2.getD m 0 = 0
theorem MulInv.start (l0 l1 : List Int) : MulInv l0 l1 0 (List.replicate (l0.length + l1.length) 0) :=
  ⟨Nat.zero_le _, by simp, Limbs.replicate _, by rw [val_replicate]; simp [val], fun m _ => by
    rw [List.getD_eq_getElem?_getD, List.getElem?_replicate]
    split <;> rfl⟩
theorem MulInv.inner {l0 l1 o : List Int} {i : Nat} (h : MulInv l0 l1 i o) : MulIn l0 l1 i o 0 0 o :=
  ⟨Nat.zero_le _, h.2.1, h.2.2.1, by decide, by decide, by simp [val], h.2.2.2.2⟩
theorem mul_bd {x y : Int} (hx : 0 ≤ x ∧ x < 4294967296) (hy : 0 ≤ y ∧ y < 4294967296) : 0 ≤ x * y ∧ x * y ≤ 18446744065119617025 := by
  refine ⟨Int.mul_nonneg hx.1 hy.1, ?_⟩
  have := Int.mul_le_mul (show x ≤ 4294967295 by omega) (show y ≤ 4294967295 by omega) hy.1 (by omega)
  omega
theorem MulIn.step {l0 l1 o o2 : List Int} {i j : Nat} {c t : Int} (h : MulIn l0 l1 i o j c o2) (hi : i < l0.length) (hj : j < l1.length) (h0 : Limbs l0) (h1 : Limbs l1) (ht : t = rd l0 (i : Int) * rd l1 (j : Int) + rd o2 ((i + j : Nat) : Int) + c) :
    0 ≤ t ∧ t < 18446744073709551616 ∧ MulIn l0 l1 i o (j + 1) (t / 4294967296) (o2.set (i + j) (t % 4294967296)) := by
  obtain ⟨a1, a2, a3, a4, a5, a6, a7⟩ := h
  have b0 := h0.getD i
  have b1 := h1.getD j
  have b2 := a3.getD (i + j)
  rw [← rd_nat] at b0 b1 b2
  have hm := mul_bd b0 b1
  have hb : 0 ≤ t ∧ t < 18446744073709551616 := by omega
  refine ⟨hb.1, hb.2, by omega, by simp [a2], a3.set _ ⟨by omega, by omega⟩, by omega, by omega, ?_, fun m hm => ?_⟩
  · rw [val_set _ _ _ (by omega), val_take_succ l1 j hj, ← rd_nat, ← rd_nat l1 j]
    have e : t = t % 4294967296 + 4294967296 * (t / 4294967296) := by omega
    generalize t / 4294967296 = q at *
    generalize t % 4294967296 = r at *
    rw [show i + (j + 1) = (i + j) + 1 by omega, Int.pow_succ]
    have e2 : (4294967296 : Int) ^ (i + j) = 4294967296 ^ i * 4294967296 ^ j := Int.pow_add _ _ _
    generalize (4294967296 : Int) ^ (i + j) = p at *
    generalize (4294967296 : Int) ^ i = pi at *
    generalize (4294967296 : Int) ^ j = pj at *
    subst ht
    generalize rd l0 (i : Int) = x at *
    generalize rd l1 (j : Int) = y at *
    generalize rd o2 ((i + j : Nat) : Int) = z at *
    grind
  · rw [getD_set_ne_ _ _ _ _ (by omega)]
    exact a7 m hm
theorem MulIn.done {l0 l1 o o2 : List Int} {i : Nat} {c : Int} (h : MulIn l0 l1 i o l1.length c o2) (hI : MulInv l0 l1 i o) (hi : i < l0.length) :
    MulInv l0 l1 (i + 1) (o2.set (i + l1.length) (c % 4294967296)) := by
  obtain ⟨a1, a2, a3, a4, a5, a6, a7⟩ := h
  obtain ⟨b1, b2, b3, b4, b5⟩ := hI
  have hc : c % 4294967296 = c := by omega
  rw [hc]
  refine ⟨hi, by simp [a2], a3.set _ ⟨a4, a5⟩, ?_, fun m hm => ?_⟩
  · rw [val_set _ _ _ (by omega), a7 _ (Nat.le_refl _), val_take_succ l0 i hi, ← rd_nat]
    rw [List.take_length] at a6
    rw [b4] at a6
    generalize (4294967296 : Int) ^ (i + l1.length) = p at *
    generalize (4294967296 : Int) ^ i = pi at *
    generalize rd l0 (i : Int) = x at *
    generalize val (l0.take i) = u at *
    generalize val l1 = y at *
    grind
  · rw [getD_set_ne_ _ _ _ _ (by omega)]
    exact a7 m (by omega)

theorem FrN.of_R' {base : Nat} {w0 w : World} {ok : Nat → Prop} {A : Option Addr} {n c : Nat} {l : List Int} (h : Kd.R (Kd.int .u32) 74 w base ok (.slice A n c) l) (_hb : Below base w0 w) : FrN base w (.slice A n c) l :=
  Kd.V_mono (Kd.R_V (Kd.R_tight rfl h)) (fun k hk => Kd.R_base h k hk.symm)
theorem u64_in (x : Int) (h0 : 0 ≤ x) (h1 : x < 18446744073709551616) : IntKind.u64.wrap x = x := by
  simp [IntKind.wrap, IntKind.bits, IntKind.signed]
  omega
set_option maxHeartbeats 8000000 in
set_option maxRecDepth 100000 in
theorem mul_calls (A0 A1 : Option Addr) (c0 c1 : Nat) (l0 l1 : List Int) (w : World) (hr0 : Kd.C (Kd.int .u32) w A0 l0.length l0) (hc0 : l0.length ≤ c0) (hr1 : Kd.C (Kd.int .u32) w A1 l1.length l1) (hc1 : l1.length ≤ c1)
    (hL0 : Limbs l0) (hL1 : Limbs l1) (hm : l0.length + l1.length ≤ 70368744177664) :
    Calls Tryd.prog 52 #[.slice A0 l0.length c0, .slice A1 l1.length c1] w (NatRes w (val l0 * val l1)) := by
  have HR0 := Aside0.mk hr0
  have HC0 := Aside0.mk hc0
  have HR1 := Aside0.mk hr1
  have HC1 := Aside0.mk hc1
  have HL0 := Aside0.mk hL0
  have HL1 := Aside0.mk hL1
  have HM := Aside0.mk hm
  obtain ⟨n1, hn1⟩ : ∃ n1 : Int, IntKind.i64.wrap ((l0.length : Int) + (l1.length : Int)) = n1 := ⟨_, rfl⟩
  have hn1' : n1 = (l0.length : Int) + (l1.length : Int) := by rw [← hn1]; exact IntWalk.i64_in _ (by omega)
  have HN1 := Aside0.mk hn1'
  have p0 : 0 ≤ n1 := by omega
  have P0 := Aside0.mk p0
  have HB := Aside0.mk (Below.refl w.heap.size w)
  clear hr0 hc0 hr1 hc1 hL0 hL1 hm hn1' p0
  go_enter Tryd.func52, Tryd.ntmps52
  go_wp2_with (first | ((with_reducible refine gate_dst (N := 17) rfl ?_); refine Kd.R_make (Kd.int .u32) _ 74 rfl (N := 17) rfl 44 _ _ rfl n1 rfl rfl Tryd.underlying44 (.int .u32 0) 4 info_u32 rfl (by decide) (by omega) 0 (ok := fun _ => True) (okp := fun _ => True) rfl (fun _ hk => hk) trivial P0.out (by have := HM.out; have := HN1.out; omega) HB.out (Nat.le_refl _) ?_; intro vo w1 ho hb hg_ hnew_; clear hg_ hnew_ HB; have HB := Aside0.mk hb; have HO := Aside0.mk ho; clear hb ho))
  obtain ⟨n2, hn2⟩ : ∃ n2 : Nat, n2 = n1.toNat := ⟨_, rfl⟩
  have hn2' : n2 = l0.length + l1.length := by have := HN1.out; omega
  rw [← hn2] at HO
  clear hn2 hn1
  subst hn2'
  obtain ⟨Ao, co, eo⟩ := Kd.R_slice HO.out
  rw [List.length_replicate] at eo
  subst eo
  go_loopg [20] (l0.length + 1) (fun kq v20 w' => ∃ (i : Nat) (o : List Int), v20 = .int .i64 i ∧ Aside0 (MulInv l0 l1 i o) ∧ Aside0 (kq + i = l0.length + 1) ∧ Aside0 (Kd.R (Kd.int .u32) 74 w' w.heap.size (fun _ => True) (.slice Ao (l0.length + l1.length) co) o) ∧ Aside0 (Below w.heap.size w w'))
  case atStart => exact ⟨0, _, rfl, ⟨MulInv.start l0 l1⟩, ⟨rfl⟩, HO, HB⟩
  case round =>
    clear HO HB
    obtain ⟨i, o, rfl, HI, HK, HO, HB⟩ := hrel
    by_cases hlt : i < l0.length
    · obtain ⟨k1, rfl⟩ : ∃ k1, gk = k1 + 1 := ⟨gk - 1, by have := HK.out; omega⟩
      obtain ⟨ad0, e0, hx0⟩ := Kd.at_int HR0.out (i : Int) (by omega) (by omega)
      cases e0
      replace hx0 := (HB.out.cell (World.block_lt_of_cell? w _ hx0)).trans hx0
      simp only [Int.toNat_natCast] at hx0
      have hib : i + l1.length < 9223372036854775807 := by have := HM.out; omega
      obtain ⟨g, cq, eo, gb, gl, cl, HG⟩ := Kd.R_form HO.out (by have := HI.out.2.1; omega)
      injection eo with e1 e2 e3
      subst e1
      subst e3
      clear e2
      have GB := Aside0.mk gb
      clear gb gl cl HG
      go_wp2
      go_loopg [8, 27] (l1.length + 1) (fun kq v8 v27 w' => ∃ (j : Nat) (c : Int) (o2 : List Int), v8 = .int .u64 c ∧ v27 = .int .i64 j ∧ Aside0 (MulIn l0 l1 i o j c o2) ∧ Aside0 (kq + j = l1.length + 1) ∧ Aside0 (Kd.R (Kd.int .u32) 74 w' w.heap.size (fun _ => True) (.slice (some ⟨g, 0, none⟩) (l0.length + l1.length) co) o2) ∧ Aside0 (Below w.heap.size w w'))
      case atStart => exact ⟨0, 0, o, rfl, rfl, ⟨HI.out.inner⟩, ⟨rfl⟩, HO, HB⟩
      case round =>
        clear HO HB hx0
        obtain ⟨j, c, o2, rfl, rfl, HJ, HKJ, HO, HB⟩ := hrel
        by_cases hjt : j < l1.length
        · obtain ⟨k2, rfl⟩ : ∃ k2, gk = k2 + 1 := ⟨gk - 1, by have := HKJ.out; omega⟩
          obtain ⟨ad1, e1, hx1⟩ := Kd.at_int HR1.out (j : Int) (by omega) (by omega)
          cases e1
          replace hx1 := (HB.out.cell (World.block_lt_of_cell? w _ hx1)).trans hx1
          simp only [Int.toNat_natCast] at hx1
          have hst := HJ.out.step hlt hjt HL0.out HL1.out rfl
          have hbx := HL0.out.getD i
          have hby := HL1.out.getD j
          have hbz := HJ.out.2.2.1.getD (i + j)
          have hbc := And.intro HJ.out.2.2.2.1 HJ.out.2.2.2.2.1
          rw [← rd_nat] at hbx hby hbz
          have hmd := mul_bd hbx hby
          obtain ⟨hz, hzf⟩ := Kd.R_celln 0 HO.out ((i + j : Nat) : Int) (by omega) (by omega)
          rw [Int.toNat_natCast] at hz hzf
          have hz' : wr.cell? ⟨g, i + j, none⟩ = some (.int .u32 (rd o2 ((i + j : Nat) : Int))) := hz
          clear hz
          obtain ⟨y, hy⟩ : ∃ y, rd l1 (j : Int) = y := ⟨_, rfl⟩
          obtain ⟨z, hz⟩ : ∃ z, rd o2 ((i + j : Nat) : Int) = z := ⟨_, rfl⟩
          rw [hy, hz] at hst
          rw [hy] at hby hx1 hmd
          rw [hz] at hbz hz'
          clear hy hz
          have q1 : IntKind.u64.wrap (rd l0 (i : Int)) = rd l0 (i : Int) := u64_in _ hbx.1 (by omega)
          have q2 : IntKind.u64.wrap y = y := u64_in _ hby.1 (by omega)
          have q3 : IntKind.u64.wrap z = z := u64_in _ hbz.1 (by omega)
          have q4 : IntKind.u64.wrap (rd l0 (i : Int) * y) = rd l0 (i : Int) * y := u64_in _ hmd.1 (by omega)
          have q5 : IntKind.u64.wrap (rd l0 (i : Int) * y + z) = rd l0 (i : Int) * y + z := u64_in _ (by omega) (by omega)
          have q6 : IntKind.u64.wrap (rd l0 (i : Int) * y + z + c) = rd l0 (i : Int) * y + z + c := u64_in _ (by omega) (by omega)
          have HPP : Aside0 (Kd.R (Kd.int .u32) 74 (wr.setCell ⟨g, i + j, none⟩ (.int .u32 ((rd l0 (i : Int) * y + z + c) % 4294967296))) w.heap.size (fun _ => True) (.slice (some ⟨g, 0, none⟩) (l0.length + l1.length) co) (o2.set (i + j) ((rd l0 (i : Int) * y + z + c) % 4294967296))) :=
            ⟨by have h := (Kd.R_putg HO.out ((i + j : Nat) : Int) ((rd l0 (i : Int) * y + z + c) % 4294967296)).1; rw [Int.toNat_natCast] at h; exact h⟩
          have HBS := Aside0.mk (fun v => below_set (g := g) (j := i + j) HB.out GB.out (v := v))
          have HST := Aside0.mk hst.2.2
          have hq7 : (rd l0 (i : Int) * y + z + c) / 4294967296 % 4294967296 = (rd l0 (i : Int) * y + z + c) / 4294967296 := by have := hst.1; have := hst.2.1; omega
          have HQ := Aside0.mk hq7
          have hij : i + j < 9223372036854775807 := by omega
          clear hst hbx hby hbz hbc hmd hq7
          go_wp2_with fail
          go_roundg k2
          case measure => omega
          case rel => exact ⟨j + 1, _, _, by first | rfl | rw [HQ.out], by go_num, HST, ⟨by have := HKJ.out; omega⟩, HPP, ⟨HBS.out _⟩⟩
        · obtain rfl : j = l1.length := by have := HJ.out.1; omega
          have hxz := HJ.out.done HI.out hlt
          obtain ⟨hz, hzf⟩ := Kd.R_celln 0 HO.out ((i + l1.length : Nat) : Int) (by omega) (by omega)
          rw [Int.toNat_natCast] at hz hzf
          have HPP : Aside0 (Kd.R (Kd.int .u32) 74 (wr.setCell ⟨g, i + l1.length, none⟩ (.int .u32 (c % 4294967296))) w.heap.size (fun _ => True) (.slice (some ⟨g, 0, none⟩) (l0.length + l1.length) co) (o2.set (i + l1.length) (c % 4294967296))) :=
            ⟨by have h := (Kd.R_putg HO.out ((i + l1.length : Nat) : Int) (c % 4294967296)).1; rw [Int.toNat_natCast] at h; exact h⟩
          have HBS := Aside0.mk (fun v => below_set (g := g) (j := i + l1.length) HB.out GB.out (v := v))
          have HXZ := Aside0.mk hxz
          clear hxz
          go_wp2_with fail
          go_roundg k1
          case measure => omega
          case rel => exact ⟨i + 1, _, by go_num, HXZ, ⟨by have := HK.out; omega⟩, HPP, ⟨HBS.out _⟩⟩
    · obtain rfl : i = l0.length := by have := HI.out.1; omega
      have hrr := Kd.R_reads' HO.out
      have HRR := Aside0.mk hrr
      have hl2 := HI.out.2.1
      have HL2 := Aside0.mk hl2
      have hv := HI.out.2.2.2.1
      rw [List.take_length] at hv
      have HV := Aside0.mk hv
      clear hrr hl2 hv
      go_wp2_with (go_at_call 101; (refine calls_of_args ?_ ((norm_calls Ao co o _ HRR.out.2.2 (by have := HRR.out; omega)).mono ?_)); (case refine_1 => rw [HL2.out]); rintro e w' ⟨rfl, rfl⟩)
      go_ret
      exact ⟨_, trim o, rfl, (FrN.of_R' HO.out HB.out).trimmed, trim_nrm HI.out.2.2.1, by rw [trim_val]; exact HV.out, HB.out⟩
end Go.Proofs.YtmnmmalffpimeaaDoor

/- What nat.Cmp computes: -1, 0, 1, as the numbers are. -/
namespace Go.Proofs.YtmnmmalffpimeaaDoor
open Go.RowKit Go.Proofs.YtmnmmalffpimeaaDoorW.PrintWords Go.Proofs.YtmnmmalffpimeaaDoorW.PrintLast Go.Proofs.YtmnmmalffpimeaaDoorW.PrintMore
set_option linter.unusedVariables false
set_option linter.unusedSimpArgs false

/-- -1, 0, 1 -/
def cmpI (x y : Int) : Int := if x < y then -1 else if x = y then 0 else 1
theorem cmpI_lt {x y : Int} (h : x < y) : cmpI x y = -1 := by simp [cmpI, h]
theorem cmpI_gt {x y : Int} (h : y < x) : cmpI x y = 1 := by
  unfold cmpI
  rw [if_neg (by omega), if_neg (by omega)]
theorem cmpI_eq {x y : Int} (h : x = y) : cmpI x y = 0 := by simp [cmpI, h]
theorem Nrm.ge : ∀ {l : List Int}, Nrm l → l ≠ [] → 4294967296 ^ (l.length - 1) ≤ val l
  | [], _, h => absurd rfl h
  | [x], h, _ => by
    have h1 := h.1.head
    have := h.2
    simp only [Tip, val, List.length_cons, List.length_nil] at this ⊢
    simp
    omega
  | x :: y :: ys, h, _ => by
    have ih := Nrm.ge h.tail (by simp)
    have h1 := h.1.head
    simp only [List.length_cons, Nat.add_sub_cancel] at ih ⊢
    rw [Int.pow_succ]
    simp only [val] at ih ⊢
    omega
theorem pow_mono_ {m n : Nat} (h : m ≤ n) : (4294967296 : Int) ^ m ≤ 4294967296 ^ n := by
  obtain ⟨k, rfl⟩ := Nat.le.dest h
  rw [Int.pow_add]
  have h1 : (1 : Int) ≤ 4294967296 ^ k := Int.pow_pos (by decide)
  have h2 : (0 : Int) < 4294967296 ^ m := Int.pow_pos (by decide)
  have := Int.mul_le_mul_of_nonneg_left h1 (Int.le_of_lt h2)
  simpa using this
theorem val_lt_of_length {a b : List Int} (ha : Nrm a) (hb : Nrm b) (h : a.length < b.length) : val a < val b := by
  have h1 := val_lt ha.1
  have h2 := hb.ge (by intro e; subst e; simp at h)
  have h3 := pow_mono_ (show a.length ≤ b.length - 1 by omega)
  omega
theorem val_split (l : List Int) (i : Nat) (h : i < l.length) : val l = val (l.take i) + 4294967296 ^ i * (rd l (i : Int) + 4294967296 * val (l.drop (i + 1))) := by
  have h1 := val_append (l.take (i + 1)) (l.drop (i + 1))
  rw [List.take_append_drop, List.length_take, Nat.min_eq_left (by omega), val_take_succ l i h, ← rd_nat, Int.pow_succ] at h1
  rw [h1]; grind
theorem val_lt_at {a b : List Int} (ha : Limbs a) (hb : Limbs b) (i : Nat) (h1 : i < a.length) (h2 : i < b.length) (he : a.drop (i + 1) = b.drop (i + 1)) (hlt : rd a (i : Int) < rd b (i : Int)) : val a < val b := by
  rw [val_split a i h1, val_split b i h2, he]
  have h3 := val_lt (ha.take i)
  have h4 := val_nonneg (hb.take i)
  rw [List.length_take, Nat.min_eq_left (by omega)] at h3
  have hp : (0 : Int) < 4294967296 ^ i := Int.pow_pos (by decide)
  generalize (4294967296 : Int) ^ i = p at *
  generalize val (b.drop (i + 1)) = D at *
  obtain ⟨d, hd⟩ : ∃ d : Int, rd b (i : Int) = rd a (i : Int) + 1 + d := ⟨rd b (i : Int) - rd a (i : Int) - 1, by omega⟩
  have hd0 : 0 ≤ d := by omega
  rw [hd]
  have hpd := Int.mul_nonneg (Int.le_of_lt hp) hd0
  have e : p * (rd a (i : Int) + 1 + d + 4294967296 * D) = p * (rd a (i : Int) + 4294967296 * D) + p + p * d := by grind
  rw [e]
  omega

set_option maxHeartbeats 4000000 in
set_option maxRecDepth 100000 in
theorem cmp_calls (A0 A1 : Option Addr) (c0 c1 : Nat) (l0 l1 : List Int) (w : World) (hr0 : Kd.C (Kd.int .u32) w A0 l0.length l0) (hc0 : l0.length ≤ c0) (hr1 : Kd.C (Kd.int .u32) w A1 l1.length l1) (hc1 : l1.length ≤ c1)
    (hL0 : Limbs l0) (hL1 : Limbs l1) :
    Calls Tryd.prog 45 #[.slice A0 l0.length c0, .slice A1 l1.length c1] w fun e w' => e = .returned (.int .i64 (cmpI (val l0) (val l1))) ∧ Drawn0 w w' := by
  have HR0 := Aside0.mk hr0
  have HR1 := Aside0.mk hr1
  have HC0 := Aside0.mk hc0
  have HC1 := Aside0.mk hc1
  have ht0 := Kd.C_take (m := (trim l0).length) hr0 (trim_length_le l0)
  have ht1 := Kd.C_take (m := (trim l1).length) hr1 (trim_length_le l1)
  rw [trim_take] at ht0 ht1
  have HN0 := Aside0.mk (trim_nrm hL0)
  have HN1 := Aside0.mk (trim_nrm hL1)
  rw [← trim_val l0, ← trim_val l1]
  have hk0 : (trim l0).length ≤ c0 := Nat.le_trans (trim_length_le l0) hc0
  have hk1 : (trim l1).length ≤ c1 := Nat.le_trans (trim_length_le l1) hc1
  obtain ⟨t0, e0⟩ : ∃ t, trim l0 = t := ⟨_, rfl⟩
  obtain ⟨t1, e1⟩ : ∃ t, trim l1 = t := ⟨_, rfl⟩
  rw [e0] at ht0 hk0 HN0 ⊢
  rw [e1] at ht1 hk1 HN1 ⊢
  have E0 := Aside0.mk e0
  have E1 := Aside0.mk e1
  have HT0 := Aside0.mk ht0
  have HT1 := Aside0.mk ht1
  have hm0 := Kd.C_max ht0
  clear hr0 hr1 hc0 hc1 e0 e1 ht0 ht1 hL0 hL1
  have harm0 : Calls Tryd.prog 101 #[.slice A0 l0.length c0] w fun e w' => e = .returned (.slice A0 t0.length c0) ∧ w = w' := by
    have h := norm_calls A0 c0 l0 w HR0.out HC0.out
    rw [E0.out] at h
    exact h
  have harm1 : Calls Tryd.prog 101 #[.slice A1 l1.length c1] w fun e w' => e = .returned (.slice A1 t1.length c1) ∧ w = w' := by
    have h := norm_calls A1 c1 l1 w HR1.out HC1.out
    rw [E1.out] at h
    exact h
  have HA0 := Aside0.mk harm0
  have HA1 := Aside0.mk harm1
  clear harm0 harm1
  rcases Nat.lt_trichotomy t0.length t1.length with hlt | heq | hgt
  · have hne : ((t0.length : Int) != (t1.length : Int)) = true := by rw [bne_iff_ne]; omega
    have hd : decide (t0.length < t1.length) = true := decide_eq_true hlt
    have HV := Aside0.mk (val_lt_of_length HN0.out HN1.out hlt)
    clear hlt
    go_enter Tryd.func45, Tryd.ntmps45
    go_wp2_with fail
    refine HA0.out.mono ?_
    rintro e w' ⟨rfl, rfl⟩
    go_wp2_with fail
    refine HA1.out.mono ?_
    rintro e w' ⟨rfl, rfl⟩
    go_wp2_with fail
    go_ret
    exact ⟨by rw [cmpI_lt HV.out]; rfl, Drawn0.refl _⟩
  · have hne : ((t0.length : Int) != (t1.length : Int)) = false := by rw [bne_eq_false_iff_eq]; omega
    have HQ := Aside0.mk heq
    have hle : t0.length ≤ t1.length := by omega
    clear heq
    go_enter Tryd.func45, Tryd.ntmps45
    go_wp2_with fail
    refine HA0.out.mono ?_
    rintro e w' ⟨rfl, rfl⟩
    go_wp2_with fail
    refine HA1.out.mono ?_
    rintro e w' ⟨rfl, rfl⟩
    go_wp2_with fail
    go_loopg [5] (t0.length) (fun kq v5 w' => v5 = .int .i64 ((kq : Int) - 1) ∧ kq ≤ t0.length ∧ Aside0 (t0.drop kq = t1.drop kq) ∧ Aside0 (Drawn0 w w'))
    case atStart => exact ⟨rfl, Nat.le_refl _, ⟨by rw [List.drop_length, HQ.out, List.drop_length]⟩, ⟨Drawn0.refl _⟩⟩
    case round =>
      obtain ⟨rfl, hk, HD, HW⟩ := hrel
      cases gk with
      | zero =>
        go_wp2_with fail
        go_ret
        refine ⟨?_, HW.out⟩
        have h0 : t0 = t1 := by simpa using HD.out
        rw [cmpI_eq (by rw [h0])]
        rfl
      | succ k =>
        rw [show ((k + 1 : Nat) : Int) - 1 = (k : Int) by omega]
        have hb := HW.out.below
        obtain ⟨ad0, e0, hx0⟩ := Kd.at_int (Kd.C_below HT0.out hb) (k : Int) (by omega) (by omega)
        obtain ⟨ad1, e1, hx1⟩ := Kd.at_int (Kd.C_below HT1.out hb) (k : Int) (by omega) (by omega)
        subst e0
        subst e1
        simp only [Int.toNat_natCast] at hx0 hx1
        have hk' : k < t0.length := by omega
        have hk1' : k < t1.length := by omega
        rcases Int.lt_trichotomy (rd t0 (k : Int)) (rd t1 (k : Int)) with hlt | heq | hgt
        · have hd : decide (rd t0 (k : Int) < rd t1 (k : Int)) = true := decide_eq_true hlt
          have HV := Aside0.mk (val_lt_at HN0.out.1 HN1.out.1 k hk' hk1' HD.out hlt)
          clear hlt hb
          go_wp2_with fail
          go_quiet (fail)
          go_wp2_with fail
          go_ret
          exact ⟨by rw [cmpI_lt HV.out]; rfl, by repeat (first | exact HW.out | apply Drawn0.step)⟩
        · have hd : decide (rd t0 (k : Int) < rd t1 (k : Int)) = false := decide_eq_false (by omega)
          have hd2 : decide (rd t1 (k : Int) < rd t0 (k : Int)) = false := decide_eq_false (by omega)
          have HE : Aside0 (t0.drop k = t1.drop k) := ⟨by
            rw [List.drop_eq_getElem_cons hk', List.drop_eq_getElem_cons hk1', HD.out]
            rw [rd_nat, rd_nat, List.getD_eq_getElem?_getD, List.getD_eq_getElem?_getD, List.getElem?_eq_getElem hk', List.getElem?_eq_getElem hk1'] at heq
            simp only [Option.getD_some] at heq
            rw [heq]⟩
          clear heq hb
          go_wp2_with fail
          go_quiet (fail)
          go_wp2_with fail
          go_quiet (fail)
          go_wp2_with fail
          go_roundg k
          case measure => omega
          case rel => exact ⟨rfl, by omega, HE, ⟨by repeat (first | exact HW.out | apply Drawn0.step)⟩⟩
        · have hd : decide (rd t0 (k : Int) < rd t1 (k : Int)) = false := decide_eq_false (by omega)
          have hd2 : decide (rd t1 (k : Int) < rd t0 (k : Int)) = true := decide_eq_true hgt
          have HV := Aside0.mk (val_lt_at HN1.out.1 HN0.out.1 k hk1' hk' HD.out.symm hgt)
          clear hgt hb
          go_wp2_with fail
          go_quiet (fail)
          go_wp2_with fail
          go_quiet (fail)
          go_wp2_with fail
          go_ret
          exact ⟨by rw [cmpI_gt HV.out]; rfl, by repeat (first | exact HW.out | apply Drawn0.step)⟩
  · have hne : ((t0.length : Int) != (t1.length : Int)) = true := by rw [bne_iff_ne]; omega
    have hd : decide (t0.length < t1.length) = false := decide_eq_false (by omega)
    have HV := Aside0.mk (val_lt_of_length HN1.out HN0.out hgt)
    clear hgt
    go_enter Tryd.func45, Tryd.ntmps45
    go_wp2_with fail
    refine HA0.out.mono ?_
    rintro e w' ⟨rfl, rfl⟩
    go_wp2_with fail
    refine HA1.out.mono ?_
    rintro e w' ⟨rfl, rfl⟩
    go_wp2_with fail
    go_ret
    exact ⟨by rw [cmpI_gt HV.out]; rfl, Drawn0.refl _⟩
end Go.Proofs.YtmnmmalffpimeaaDoor

/- Errors: what fault.New and fault.Under make, and that errors.Is finds the error at the end of a chain of Faults. -/
namespace Go.Proofs.YtmnmmalffpimeaaDoor
open Go.RowKit Go.Extern.Stop Go.Stop Go.Extern Go.Proofs.YtmnmmalffpimeaaDoorW.PrintWords Go.Proofs.YtmnmmalffpimeaaDoorW.PrintLast Go.Proofs.YtmnmmalffpimeaaDoorW.PrintMore
set_option linter.unusedVariables false
set_option linter.unusedSimpArgs false

/-- an error value: a chain of Faults, at its end the n-th of the errors themselves -/
def ErrAt (S : Nat → Addr) (w : World) (n : Nat) : List (ByteArray × Int) → Value → Prop
  | [], v => v = .iface 212 (.pointer (some (S n)))
  | p :: rest, v => ∃ (b : Nat) (v' : Value), v = .iface 100 (.pointer (some ⟨b, 0, none⟩)) ∧ w.cell? ⟨b, 0, none⟩ = some (.string p.1) ∧ w.cell? ⟨b, 1, none⟩ = some (.int .i64 p.2) ∧ w.cell? ⟨b, 2, none⟩ = some v' ∧ ErrAt S w n rest v'
theorem ErrAt.below {S : Nat → Addr} {w w1 : World} {n : Nat} (hb : Below w.heap.size w w1) : ∀ {l : List (ByteArray × Int)} {v : Value}, ErrAt S w n l v → ErrAt S w1 n l v
  | [], _, h => h
  | p :: rest, v, ⟨b, v', h1, h2, h3, h4, h5⟩ => ⟨b, v', h1, pw_cell_below hb h2, pw_cell_below hb h3, pw_cell_below hb h4, ErrAt.below hb h5⟩
theorem ErrAt.form {S : Nat → Addr} {w : World} {n : Nat} : ∀ {l : List (ByteArray × Int)} {v : Value}, ErrAt S w n l v → ∃ t x, v = .iface t x
  | [], _, h => ⟨_, _, h⟩
  | p :: rest, v, ⟨b, v', h1, _⟩ => ⟨_, _, h1⟩

theorem isTypeOf (v : Value) (w : World) : (Extern.ReflectliteType.typeOf #[.iface 212 v]).run Tryd.prog w = .ok (.iface 174 (.agg #[.pointer (some ⟨17, 212, none⟩)])) w := by kernel_rfl
theorem isComp : (Tryd.prog.info? 212).map (·.comparable) = some true := by kernel_rfl
theorem isSize : (Tryd.prog.info? 233).map (·.size) = some 1 := by kernel_rfl
theorem noIsF (v : Value) (xT : TypeId) (w : World) : (Instr.typeAssert (.iface 100 v) xT 176 true).run Tryd.prog w = .ok (.tuple #[.nilIface, .bool false]) w := run_typeAssert_lacksB Tryd.underlying176 (by kernel_rfl) (by kernel_rfl) v xT w
theorem hasUnwrapF (v : Value) (xT : TypeId) (w : World) : (Instr.typeAssert (.iface 100 v) xT 179 true).run Tryd.prog w = .ok (.tuple #[.iface 100 v, .bool true]) w := run_typeAssert_hasB Tryd.underlying179 (by kernel_rfl) v xT w

theorem isComparable (w : World) : (callFunc 194 #[.agg #[.pointer (some ⟨17, 212, none⟩)]]).run Tryd.prog w = .ok (.value (.bool true)) w := by
  have h := @run_callFunc_extern Tryd.prog 194 _ (Extern.ReflectliteType.method fun t => do Extern.Rtype.noPackHeld "Comparable" t; pure (.bool (← typeInfo t).comparable)) Tryd.func194 (by kernel_rfl) (by kernel_rfl) (by kernel_rfl) (by kernel_rfl)
  have c : ((Extern.ReflectliteType.method fun t => do Extern.Rtype.noPackHeld "Comparable" t; pure (.bool (← typeInfo t).comparable)) #[.agg #[.pointer (some ⟨17, 212, none⟩)]]).run Tryd.prog w = .ok (.bool true) w := by kernel_rfl
  rw [h, c]; rfl
theorem isMethodComparable (v : Value) (w : World) : (Go.method 345 174 v "Comparable").run Tryd.prog w = .ok (194, v) w := by kernel_rfl
theorem methodUnwrap (v : Value) (w : World) : (Go.method 345 100 v "Unwrap").run Tryd.prog w = .ok (188, v) w := by kernel_rfl

theorem unwrap_calls (b : Nat) (v : Value) (w : World) (hc : w.cell? ⟨b, 2, none⟩ = some v) :
    Calls Tryd.prog 188 #[.pointer (some ⟨b, 0, none⟩)] w fun e w' => e = .returned v ∧ w = w' := by
  go_enter Tryd.func188, Tryd.ntmps188
  go_wp2
  go_ret
  exact ⟨rfl, rfl⟩


set_option maxHeartbeats 1000000 in
set_option maxRecDepth 100000 in
theorem is_loop (S : Nat → Addr) (n : Nat) (l : List (ByteArray × Int)) (v : Value) (w : World) (h : ErrAt S w n l v) :
    Calls Tryd.prog 120 #[v, .iface 212 (.pointer (some (S n))), .bool true] w fun e w' => e = .returned (.bool true) ∧ w = w' := by
  obtain ⟨i, hi, hcmp⟩ := Option.map_eq_some_iff.1 isComp
  obtain ⟨j, hj, hjs⟩ := Option.map_eq_some_iff.1 isSize
  obtain ⟨a, ha⟩ : ∃ a, S n = a := ⟨_, rfl⟩
  have heq := run_eql_iface_ptr_same (P := Tryd.prog) w a Tryd.underlying25 Tryd.underlying212 hi hcmp hj
  have hne := fun (x : Value) => run_eql_iface_types (P := Tryd.prog) 100 212 x (.pointer (some a)) Tryd.underlying25 (by decide) w
  have H := Aside0.mk h
  rw [ha]
  have HA := Aside0.mk ha
  clear h hjs ha hi hcmp hj
  have nF := noIsF
  have uF := hasUnwrapF
  have mU := methodUnwrap
  go_enter Tryd.func120, Tryd.ntmps120
  go_wp2_with fail
  go_loopg [0] l.length (fun kq v0 w' => ∃ rest : List (ByteArray × Int), Aside0 (ErrAt S w n rest v0) ∧ Aside0 (kq = rest.length) ∧ w = w')
  case atStart => exact ⟨l, H, ⟨rfl⟩, rfl⟩
  case round =>
    obtain ⟨rest, HE, HK, rfl⟩ := hrel
    cases rest with
    | nil =>
      have h0 := HE.out
      simp only [ErrAt] at h0
      rw [HA.out] at h0
      subst h0
      go_wp2
      go_ret
      exact ⟨rfl, rfl⟩
    | cons p rest =>
      obtain ⟨b, v', h1, h2, h3, h4, h5⟩ := HE.out
      subst h1
      obtain ⟨t, x, rfl⟩ := h5.form
      have H5 := Aside0.mk h5
      clear h5 heq h2 h3
      go_wp2_with (go_at_call 188; refine (unwrap_calls _ _ _ h4).mono ?_; rintro e w' ⟨rfl, rfl⟩)
      go_roundg rest.length
      case measure => have := HK.out; simp only [List.length_cons] at this; omega
      case rel => exact ⟨rest, H5, ⟨rfl⟩, rfl⟩
set_option maxHeartbeats 1000000 in
set_option maxRecDepth 100000 in
theorem is_calls (S : Nat → Addr) (n : Nat) (l : List (ByteArray × Int)) (v : Value) (w : World) (h : ErrAt S w n l v) :
    Calls Tryd.prog 70 #[v, .iface 212 (.pointer (some (S n)))] w fun e w' => e = .returned (.bool true) ∧ w = w' := by
  obtain ⟨i, hi, hcmp⟩ := Option.map_eq_some_iff.1 isComp
  obtain ⟨j, hj, hjs⟩ := Option.map_eq_some_iff.1 isSize
  obtain ⟨a, ha⟩ : ∃ a, S n = a := ⟨_, rfl⟩
  have heq := run_eql_iface_ptr_same (P := Tryd.prog) w a Tryd.underlying25 Tryd.underlying212 hi hcmp hj
  obtain ⟨t, x, rfl⟩ := h.form
  have H := Aside0.mk h
  have HA := Aside0.mk ha
  clear h hjs ha hi hcmp hj heq
  have h8 := @run_callFunc_extern Tryd.prog 119 _ Extern.ReflectliteType.typeOf Tryd.func119 (by kernel_rfl) (by kernel_rfl) (by kernel_rfl) (by kernel_rfl)
  have tT := isTypeOf
  have cT := isComparable
  have mR := isMethodComparable
  go_enter Tryd.func70, Tryd.ntmps70
  go_wp2_with (go_at_call 120; refine (is_loop S n l _ _ (by exact H.out)).mono ?_; rintro e w' ⟨rfl, rfl⟩)
  go_ret
  exact ⟨rfl, rfl⟩
end Go.Proofs.YtmnmmalffpimeaaDoor

/- errors.As at a Fault and the address of a variable for a pointer to a Fault: true; the variable holds the pointer. After the worked example ToyasAs. -/
namespace Go.Proofs.YtmnmmalffpimeaaDoor
open Go.RowKit Go.Extern.Stop Go.Stop Go.Extern Go.Proofs.YtmnmmalffpimeaaDoorW.PrintWords Go.Proofs.YtmnmmalffpimeaaDoorW.PrintLast Go.Proofs.YtmnmmalffpimeaaDoorW.PrintMore
set_option linter.unusedVariables false
set_option linter.unusedSimpArgs false

/-- errors.As(nil, target). -/
theorem as_nil (t : Value) (w : World) :
    Calls Tryd.prog 72 #[.nilIface, t] w fun e w' => e = .returned (.bool false) ∧ w' = w := by
  go_enter Tryd.func72, Tryd.ntmps72
  go_wp2
  go_ret
  exact ⟨rfl, rfl⟩

/-! ### CLOSED FACTS ON THE MODEL's ENTRIES FOR internal/reflectlite, at this program's types: 25: *p.E · 27: **p.E · 23: error · 45: reflectlite's rtype · 1: how many package-level variables the dump has -/
theorem asvalueOf27 (t : Addr) (w : World) : (ReflectliteValue.unpack (.iface 102 (.pointer (some t)))).run Tryd.prog w
    = .ok (.agg #[.pointer (some ⟨17, 102, none⟩), .pointer (some ⟨w.heap.size, 0, none⟩), .int .u64 150]) (w.alloc (.cells #[.pointer (some t)] 102)) := by kernel_rfl
theorem astype27 (a : Addr) (w : World) : (ReflectliteValue.methodAny (ReflectliteValue.valueError "reflectlite.Value.Type" 0) (fun t _ _ _ => ReflectliteType.toType t) #[.agg #[.pointer (some ⟨17, 102, none⟩), .pointer (some a), .int .u64 150]]).run Tryd.prog w
    = .ok (.iface 174 (.agg #[.pointer (some ⟨17, 102, none⟩)])) w := by kernel_rfl
theorem asmethodKind (h : Value) (w : World) : (Go.method 345 174 (.agg #[h]) "Kind").run Tryd.prog w = .ok (184, h) w := by kernel_rfl
theorem askind27 (w : World) : ((ReflectliteType.abiMethod fun t => (fun a : Nat => Value.int IntKind.u8 (a : Int)) <$> Rtype.kind t) #[.pointer (some ⟨17, 102, none⟩)]).run Tryd.prog w = .ok (.int .u8 22) w := by kernel_rfl
theorem askind25 (w : World) : ((ReflectliteType.abiMethod fun t => (fun a : Nat => Value.int IntKind.u8 (a : Int)) <$> Rtype.kind t) #[.pointer (some ⟨17, 100, none⟩)]).run Tryd.prog w = .ok (.int .u8 22) w := by kernel_rfl

/-! ### THE ENTRIES THAT READ OR WRITE MEMORY: laws with a premise on the cell (after Derived/Lib/ReflectliteSlice.lean's manner: each unfolding a lemma of its own, by rfl) -/
theorem asRlm (z : Sem Value) (f : TypeId → Addr → Nat → Nat → Sem Value) (v : Value) :
    ReflectliteValue.method z f #[v] = (do match ← ReflectliteValue.parts v with | none => z | some (t, a, fl) => f t a fl (fl % 32)) := rfl
theorem asparts27 (a : Addr) (w : World) : (ReflectliteValue.parts (.agg #[.pointer (some ⟨17, 102, none⟩), .pointer (some a), .int .u64 150])).run Tryd.prog w = .ok (some (102, a, 150)) w := by kernel_rfl
/-- (Value).IsNil at the Value of a **p.E that is not nil. -/
theorem asisNil27 (a p : Addr) (W : World) (ha : W.cell? a = some (.pointer (some p))) :
    (ReflectliteValue.method (ReflectliteValue.valueError "reflectlite.Value.IsNil" 0) ReflectliteValue.isNil #[.agg #[.pointer (some ⟨17, 102, none⟩), .pointer (some a), .int .u64 150]]).run Tryd.prog W = .ok (.bool false) W := by
  rw [asRlm]
  simp only [Sem.run_bind, asparts27, Result.andThen]
  simp [ReflectliteValue.isNil, loadVar, isAgg, underlying, Tryd.underlying102, ha, Result.andThen]

theorem asmethodElem (h : Value) (w : World) : (Go.method 345 174 (.agg #[h]) "Elem").run Tryd.prog w = .ok (195, .agg #[h]) w := by kernel_rfl
theorem asmethodImplements (h : Value) (w : World) : (Go.method 345 174 (.agg #[h]) "Implements").run Tryd.prog w = .ok (196, .agg #[h]) w := by kernel_rfl
theorem asmethodAssignableTo (h : Value) (w : World) : (Go.method 345 174 (.agg #[h]) "AssignableTo").run Tryd.prog w = .ok (193, .agg #[h]) w := by kernel_rfl
theorem aselem27 (w : World) : (ReflectliteType.method ReflectliteType.elem #[.agg #[.pointer (some ⟨17, 102, none⟩)]]).run Tryd.prog w = .ok (.iface 174 (.agg #[.pointer (some ⟨17, 100, none⟩)])) w := by kernel_rfl
theorem asimplements25 (w : World) : (ReflectliteType.relation "Implements" ReflectliteType.implements_ #[.agg #[.pointer (some ⟨17, 100, none⟩)], .iface 174 (.agg #[.pointer (some ⟨17, 25, none⟩)])]).run Tryd.prog w = .ok (.bool true) w := by kernel_rfl
theorem astypeOf25 (v : Value) (w : World) : (ReflectliteType.typeOf #[.iface 100 v]).run Tryd.prog w = .ok (.iface 174 (.agg #[.pointer (some ⟨17, 100, none⟩)])) w := by kernel_rfl
theorem asassignable25 (w : World) : (ReflectliteType.relation "AssignableTo" ReflectliteType.assignableTo #[.agg #[.pointer (some ⟨17, 100, none⟩)], .iface 174 (.agg #[.pointer (some ⟨17, 100, none⟩)])]).run Tryd.prog w = .ok (.bool true) w := by kernel_rfl
theorem asvalueOf25 (e : Addr) (w : World) : (ReflectliteValue.unpack (.iface 100 (.pointer (some e)))).run Tryd.prog w
    = .ok (.agg #[.pointer (some ⟨17, 100, none⟩), .pointer (some ⟨w.heap.size, 0, none⟩), .int .u64 150]) (w.alloc (.cells #[.pointer (some e)] 100)) := by kernel_rfl

theorem aselemOf27 (w : World) : (Rtype.elem? 102).run Tryd.prog w = .ok (some 100) w := by kernel_rfl
theorem asmk25 (p : Addr) (w : World) : (ReflectliteValue.mk 100 p ReflectliteValue.flagAddr).run Tryd.prog w = .ok (.agg #[.pointer (some ⟨17, 100, none⟩), .pointer (some p), .int .u64 406]) w := by kernel_rfl
/-- (Value).Elem at the Value of a **p.E that is not nil: the Value of the *p.E variable that it points to, addressable. -/
theorem aselemV27 (a p : Addr) (W : World) (ha : W.cell? a = some (.pointer (some p))) :
    (ReflectliteValue.method (ReflectliteValue.valueError "reflectlite.Value.Elem" 0) ReflectliteValue.elem #[.agg #[.pointer (some ⟨17, 102, none⟩), .pointer (some a), .int .u64 150]]).run Tryd.prog W
      = .ok (.agg #[.pointer (some ⟨17, 100, none⟩), .pointer (some p), .int .u64 406]) W := by
  rw [asRlm]
  simp only [Sem.run_bind, asparts27, Result.andThen]
  simp [ReflectliteValue.elem, loadVar, isAgg, underlying, Tryd.underlying102, ha, Result.andThen, aselemOf27, asmk25]
theorem asRls (v x : Value) : ReflectliteValue.set #[v, x] = (do
    let (some (dst, a, fl), some (src, b, _)) := (← ReflectliteValue.parts v, ← ReflectliteValue.parts x)
      | unsupported (.noEntry "extern/(internal/reflectlite.Value).Set.zeroValue")
    if fl / ReflectliteValue.flagAddr % 2 == 0 then unsupported (.noEntry "extern/(internal/reflectlite.Value).Set.unaddressable")
    let val ← loadVar src b
    if ← Rtype.directlyAssignable dst src then storeVar dst a val
    else if ← Rtype.implements dst src then
      if (← Rtype.kind src) == 20 then
        match val with
        | .nilIface => unsupported (.noEntry "extern/reflectlite: a nil value of one interface type handed on as a value of another")
        | _ => storeVar dst a val
      else storeVar dst a (.iface src val)
    else panicString ("reflectlite.Set: value of type " ++ (← Rtype.spelt src) ++ " is not assignable to type " ++ (← Rtype.spelt dst))
    pure (.tuple #[])) := rfl
theorem asparts25a (a : Addr) (w : World) : (ReflectliteValue.parts (.agg #[.pointer (some ⟨17, 100, none⟩), .pointer (some a), .int .u64 406])).run Tryd.prog w = .ok (some (100, a, 406)) w := by kernel_rfl
theorem asparts25 (a : Addr) (w : World) : (ReflectliteValue.parts (.agg #[.pointer (some ⟨17, 100, none⟩), .pointer (some a), .int .u64 150])).run Tryd.prog w = .ok (some (100, a, 150)) w := by kernel_rfl
theorem asdirect25 (w : World) : (Rtype.directlyAssignable 100 100).run Tryd.prog w = .ok true w := by kernel_rfl
theorem assize25 (w : World) : (sizeOf 100).run Tryd.prog w = .ok 1 w := by kernel_rfl
/-- (Value).Set: the *p.E variable at 'ta' gets what the Value's own variable 'b' holds. -/
theorem asset25 (ta b e : Addr) (old : Value) (W : World) (hb : W.cell? b = some (.pointer (some e))) (ht : W.cell? ta = some old) (hf : W.frozen? ta = false) :
    (ReflectliteValue.set #[.agg #[.pointer (some ⟨17, 100, none⟩), .pointer (some ta), .int .u64 406], .agg #[.pointer (some ⟨17, 100, none⟩), .pointer (some b), .int .u64 150]]).run Tryd.prog W
      = .ok (.tuple #[]) (W.setCell ta (.pointer (some e))) := by
  rw [asRls]
  simp only [Sem.run_bind, asparts25a, asparts25, Result.andThen]
  simp [ReflectliteValue.flagAddr, loadVar, isAgg, underlying, Tryd.underlying100, hb, Result.andThen, asdirect25, storeVar, Value.cells, storeCells, Addr.add]
  rw [run_store Tryd.prog W ta _ _ (by rfl)]
  simp [ht, hf]

set_option maxHeartbeats 4000000 in
theorem as_hit (e t : Addr) (old : Value) (w : World) (hg : w.cell? ⟨12, 0, none⟩ = some (.iface 174 (.agg #[.pointer (some ⟨17, 25, none⟩)]))) (ht0 : w.cell? t = some old) (hf0 : w.frozen? t = false) :
    Calls Tryd.prog 72 #[.iface 100 (.pointer (some e)), .iface 102 (.pointer (some t))] w fun ev w' => ev = .returned (.bool true) ∧ w' = ((((w.alloc (.cells #[.pointer (some t)] 102)).alloc (.cells #[.pointer (some ⟨17, 102, none⟩), .pointer (some ⟨w.heap.size, 0, none⟩), .int .u64 150] 149)).alloc (.cells #[.pointer (some ⟨17, 102, none⟩), .pointer (some ⟨w.heap.size, 0, none⟩), .int .u64 150] 149)).alloc (.cells #[.pointer (some e)] 100)).setCell t (.pointer (some e)) := by
  have h6 := @run_callFunc_extern Tryd.prog 121 _ (fun args => ReflectliteValue.unpack (args.getD 0 (.tuple #[]))) Tryd.func121 (by kernel_rfl) (by kernel_rfl) (by kernel_rfl) (by kernel_rfl)
  have h7 := @run_callFunc_extern Tryd.prog 122 _ (ReflectliteValue.methodAny (ReflectliteValue.valueError "reflectlite.Value.Type" 0) (fun t _ _ _ => ReflectliteType.toType t)) Tryd.func122 (by kernel_rfl) (by kernel_rfl) (by kernel_rfl) (by kernel_rfl)
  have h8 := @run_callFunc_extern Tryd.prog 123 _ (ReflectliteValue.method (ReflectliteValue.valueError "reflectlite.Value.IsNil" 0) ReflectliteValue.isNil) Tryd.func123 (by kernel_rfl) (by kernel_rfl) (by kernel_rfl) (by kernel_rfl)
  have h27 := @run_callFunc_extern Tryd.prog 184 _ (ReflectliteType.abiMethod fun t => do pure (.int .u8 (← Rtype.kind t))) Tryd.func184 (by kernel_rfl) (by kernel_rfl) (by kernel_rfl) (by kernel_rfl)
  have h37 := @run_callFunc_extern Tryd.prog 195 _ (ReflectliteType.method ReflectliteType.elem) Tryd.func195 (by kernel_rfl) (by kernel_rfl) (by kernel_rfl) (by kernel_rfl)
  have h38 := @run_callFunc_extern Tryd.prog 196 _ (ReflectliteType.relation "Implements" ReflectliteType.implements_) Tryd.func196 (by kernel_rfl) (by kernel_rfl) (by kernel_rfl) (by kernel_rfl)
  have h10 := @run_callFunc_extern Tryd.prog 119 _ ReflectliteType.typeOf Tryd.func119 (by kernel_rfl) (by kernel_rfl) (by kernel_rfl) (by kernel_rfl)
  have h35 := @run_callFunc_extern Tryd.prog 193 _ (ReflectliteType.relation "AssignableTo" ReflectliteType.assignableTo) Tryd.func193 (by kernel_rfl) (by kernel_rfl) (by kernel_rfl) (by kernel_rfl)
  have h11 := @run_callFunc_extern Tryd.prog 144 _ (ReflectliteValue.method (ReflectliteValue.valueError "reflectlite.Value.Elem" 0) ReflectliteValue.elem) Tryd.func144 (by kernel_rfl) (by kernel_rfl) (by kernel_rfl) (by kernel_rfl)
  have h12 := @run_callFunc_extern Tryd.prog 145 _ ReflectliteValue.set Tryd.func145 (by kernel_rfl) (by kernel_rfl) (by kernel_rfl) (by kernel_rfl)
  have tO := astypeOf25
  have mA := asmethodAssignableTo
  have a25 := asassignable25
  have v25 := asvalueOf25
  have f6 := asvalueOf27
  have f7 := astype27
  have mK := asmethodKind
  have mE := asmethodElem
  have mI := asmethodImplements
  have k27 := askind27
  have k25 := askind25
  have e27 := aselem27
  have i25 := asimplements25
  have n8 := asisNil27 ⟨w.heap.size, 0, none⟩ t ((w.alloc (.cells #[.pointer (some t)] 102)).alloc (.cells #[.pointer (some ⟨17, 102, none⟩), .pointer (some ⟨w.heap.size, 0, none⟩), .int .u64 150] 149)) (by simp)
  have hlt : 12 < w.heap.size := World.block_lt_of_cell? w ⟨12, 0, none⟩ hg
  have hg2 : ((w.alloc (.cells #[.pointer (some t)] 102)).alloc (.cells #[.pointer (some ⟨17, 102, none⟩), .pointer (some ⟨w.heap.size, 0, none⟩), .int .u64 150] 149)).cell? ⟨12, 0, none⟩ = some (.iface 174 (.agg #[.pointer (some ⟨17, 25, none⟩)])) := by
    rw [World.cell?_alloc_lt _ _ ⟨12, 0, none⟩ (by simp; omega), World.cell?_alloc_lt _ _ ⟨12, 0, none⟩ hlt]; exact hg
  have htl : t.block < w.heap.size := by
    rcases Nat.lt_or_ge t.block w.heap.size with h | h
    · exact h
    · simp [World.cell?, Array.getElem?_eq_none h] at ht0
  have el := aselemV27 ⟨w.heap.size, 0, none⟩ t (((w.alloc (.cells #[.pointer (some t)] 102)).alloc (.cells #[.pointer (some ⟨17, 102, none⟩), .pointer (some ⟨w.heap.size, 0, none⟩), .int .u64 150] 149)).alloc (.cells #[.pointer (some ⟨17, 102, none⟩), .pointer (some ⟨w.heap.size, 0, none⟩), .int .u64 150] 149)) (by rw [World.cell?_alloc_lt _ _ ⟨w.heap.size, 0, none⟩ (by simp; omega)]; simp)
  have st := asset25 t ⟨w.heap.size + 1 + 1 + 1, 0, none⟩ e old ((((w.alloc (.cells #[.pointer (some t)] 102)).alloc (.cells #[.pointer (some ⟨17, 102, none⟩), .pointer (some ⟨w.heap.size, 0, none⟩), .int .u64 150] 149)).alloc (.cells #[.pointer (some ⟨17, 102, none⟩), .pointer (some ⟨w.heap.size, 0, none⟩), .int .u64 150] 149)).alloc (.cells #[.pointer (some e)] 100))
    (by rw [World.cell?_alloc_at _ _ _ _ (by simp)]; rfl)
    (by rw [World.cell?_alloc_lt _ _ t (by simp; omega), World.cell?_alloc_lt _ _ t (by simp; omega), World.cell?_alloc_lt _ _ t (by simp; omega), World.cell?_alloc_lt _ _ t htl]; exact ht0)
    (by rw [World.frozen?_alloc_old _ _ t (by simp; omega), World.frozen?_alloc_old _ _ t (by simp; omega), World.frozen?_alloc_old _ _ t (by simp; omega), World.frozen?_alloc_old _ _ t (Nat.ne_of_lt htl)]; exact hf0)
  go_enter Tryd.func72, Tryd.ntmps72
  go_wp2
  refine wp_loop_rounds 1 ?_
  rw [rounds_succ]
  go_wp2
  go_ret
  exact ⟨rfl, rfl⟩
end Go.Proofs.YtmnmmalffpimeaaDoor

/- The errors themselves in memory, and what fault.New, fault.Under, edenraw.New, edenraw.Root make of them. -/
namespace Go.Proofs.YtmnmmalffpimeaaDoor
open Go.RowKit Go.Extern.Stop Go.Stop Go.Extern Go.Proofs.YtmnmmalffpimeaaDoorW.PrintWords Go.Proofs.YtmnmmalffpimeaaDoorW.PrintLast Go.Proofs.YtmnmmalffpimeaaDoorW.PrintMore
set_option linter.unusedVariables false
set_option linter.unusedSimpArgs false

/-- the package-level errors lie where the program's text lays them -/
structure Env (S : Nat → Addr) (w : World) : Prop where
  g1 : w.cell? ⟨0, 0, none⟩ = some (.iface 212 (.pointer (some (S 1))))
  g2 : w.cell? ⟨1, 0, none⟩ = some (.iface 212 (.pointer (some (S 2))))
  g3 : w.cell? ⟨2, 0, none⟩ = some (.iface 212 (.pointer (some (S 3))))
  g4 : w.cell? ⟨3, 0, none⟩ = some (.iface 212 (.pointer (some (S 4))))
  g5 : w.cell? ⟨4, 0, none⟩ = some (.iface 212 (.pointer (some (S 5))))
  g6 : w.cell? ⟨5, 0, none⟩ = some (.iface 212 (.pointer (some (S 6))))
  g7 : w.cell? ⟨6, 0, none⟩ = some (.iface 212 (.pointer (some (S 7))))
  g8 : w.cell? ⟨7, 0, none⟩ = some (.iface 212 (.pointer (some (S 8))))
  g9 : w.cell? ⟨8, 0, none⟩ = some (.iface 212 (.pointer (some (S 9))))
  g10 : w.cell? ⟨9, 0, none⟩ = some (.iface 212 (.pointer (some (S 10))))
  g11 : w.cell? ⟨10, 0, none⟩ = some (.iface 212 (.pointer (some (S 11))))
  g12 : w.cell? ⟨11, 0, none⟩ = some (.iface 212 (.pointer (some (S 12))))
  et : w.cell? ⟨12, 0, none⟩ = some (.iface 174 (.agg #[.pointer (some ⟨17, 25, none⟩)]))
theorem Env.below {S : Nat → Addr} {w w1 : World} (h : Env S w) (hb : Below w.heap.size w w1) : Env S w1 :=
  ⟨pw_cell_below hb h.g1, pw_cell_below hb h.g2, pw_cell_below hb h.g3, pw_cell_below hb h.g4, pw_cell_below hb h.g5, pw_cell_below hb h.g6, pw_cell_below hb h.g7, pw_cell_below hb h.g8, pw_cell_below hb h.g9, pw_cell_below hb h.g10, pw_cell_below hb h.g11, pw_cell_below hb h.g12, pw_cell_below hb h.et⟩

/-- an error's number -/
def Num (n : Int) : Prop := n = 1 ∨ n = 2 ∨ n = 3 ∨ n = 4 ∨ n = 5 ∨ n = 6 ∨ n = 7 ∨ n = 8 ∨ n = 9 ∨ n = 10 ∨ n = 11

set_option maxHeartbeats 4000000 in
theorem root_calls (S : Nat → Addr) (n : Int) (hn : Num n) (w : World) (h : Env S w) :
    Calls Tryd.prog 71 #[.int .i64 n] w fun e w' => e = .returned (.iface 212 (.pointer (some (S n.toNat)))) ∧ w = w' := by
  obtain ⟨g1, g2, g3, g4, g5, g6, g7, g8, g9, g10, g11, g12, _⟩ := h
  rcases hn with rfl | rfl | rfl | rfl | rfl | rfl | rfl | rfl | rfl | rfl | rfl
  all_goals
    go_enter Tryd.func71, Tryd.ntmps71
    go_wp2
    go_ret
    exact ⟨rfl, rfl⟩
set_option maxHeartbeats 4000000 in
theorem froot_calls (S : Nat → Addr) (n : Int) (hn : Num n) (w : World) (h : Env S w) :
    Calls Tryd.prog 141 #[.int .i64 n] w fun e w' => e = .returned (.iface 212 (.pointer (some (S n.toNat)))) ∧ w = w' := by
  obtain ⟨g1, g2, g3, g4, g5, g6, g7, g8, g9, g10, g11, g12, _⟩ := h
  rcases hn with rfl | rfl | rfl | rfl | rfl | rfl | rfl | rfl | rfl | rfl | rfl
  all_goals
    go_enter Tryd.func141, Tryd.ntmps141
    go_wp2
    go_ret
    exact ⟨rfl, rfl⟩

/-- what a call that answers an error leaves -/
def ErrRes (S : Nat → Addr) (w : World) (n : Nat) (l : List (ByteArray × Int)) (e : Ending) (w' : World) : Prop := ∃ v, e = .returned v ∧ ErrAt S w' n l v ∧ Below w.heap.size w w'
set_option maxHeartbeats 1000000 in
theorem fnew_calls (S : Nat → Addr) (op : ByteArray) (pos n : Int) (hn : Num n) (w : World) (h : Env S w) :
    Calls Tryd.prog 104 #[.string op, .int .i64 pos, .int .i64 n] w (ErrRes S w n.toNat [(op, pos)]) := by
  have H := Aside0.mk h
  have HN := Aside0.mk hn
  have hnb : (n == 0) = false := by rw [beq_eq_false_iff_ne]; unfold Num at hn; omega
  clear h hn
  go_enter Tryd.func104, Tryd.ntmps104
  go_wp2_with (go_at_call 141; refine (froot_calls S n HN.out _ H.out).mono ?_; rintro e w' ⟨rfl, rfl⟩)
  go_ret
  exact ⟨_, rfl, ⟨w.heap.size, _, rfl, by simp, by simp, by simp, rfl⟩, below_alloc (Below.refl _ _) _⟩
set_option maxHeartbeats 1000000 in
theorem funder_calls (S : Nat → Addr) (op : ByteArray) (pos : Int) (n : Nat) (l : List (ByteArray × Int)) (v : Value) (w : World) (h : ErrAt S w n l v) :
    Calls Tryd.prog 84 #[.string op, .int .i64 pos, v] w (ErrRes S w n ((op, pos) :: l)) := by
  obtain ⟨t, x, rfl⟩ := h.form
  have H := Aside0.mk (h.below (below_alloc (Below.refl w.heap.size w) (.cells #[.string op, .int .i64 pos, .iface t x] 104)))
  clear h
  go_enter Tryd.func84, Tryd.ntmps84
  go_wp2
  go_ret
  exact ⟨_, rfl, ⟨w.heap.size, _, rfl, by simp, by simp, by simp, H.out⟩, below_alloc (Below.refl _ _) _⟩
set_option maxHeartbeats 1000000 in
theorem funder_nil (op : ByteArray) (pos : Int) (w : World) :
    Calls Tryd.prog 84 #[.string op, .int .i64 pos, .nilIface] w fun e w' => e = .returned .nilIface ∧ w = w' := by
  go_enter Tryd.func84, Tryd.ntmps84
  go_wp2
  go_ret
  exact ⟨rfl, rfl⟩
end Go.Proofs.YtmnmmalffpimeaaDoor

/- edenraw.Is: an error that is the wanted one is told to be. -/
namespace Go.Proofs.YtmnmmalffpimeaaDoor
open Go.RowKit Go.Extern.Stop Go.Stop Go.Extern Go.Proofs.YtmnmmalffpimeaaDoorW.PrintWords Go.Proofs.YtmnmmalffpimeaaDoorW.PrintLast Go.Proofs.YtmnmmalffpimeaaDoorW.PrintMore
set_option linter.unusedVariables false
set_option linter.unusedSimpArgs false

theorem as_calls (e t : Addr) (old : Value) (w : World) (hg : w.cell? ⟨12, 0, none⟩ = some (.iface 174 (.agg #[.pointer (some ⟨17, 25, none⟩)]))) (ht0 : w.cell? t = some old) (hf0 : w.frozen? t = false) :
    Calls Tryd.prog 72 #[.iface 100 (.pointer (some e)), .iface 102 (.pointer (some t))] w fun ev w' => ev = .returned (.bool true) ∧ ∃ w1, Below w.heap.size w w1 ∧ w' = w1.setCell t (.pointer (some e)) := by
  refine (as_hit e t old w hg ht0 hf0).mono fun ev w' ⟨h1, h2⟩ => ⟨h1, _, ?_, h2⟩
  exact below_alloc (below_alloc (below_alloc (below_alloc (Below.refl _ _) _) _) _) _

section
variable {P : Program} {ops : Array Oper} {Q : Exit → Act → World → Prop} {S : World → Prop} {ds : List Nat}
theorem start0_ {id n : Nat} {a : Act} {w : World} (S : World → Prop) (ds : List Nat) (l : Array Bool) (hm : P.follows .mixedOrders = true) (hn : ops.size = n) (hl : Array.replicate n false = l)
    (h : wpAnyLast P .any ops Q S ds n l a w.drew) : (Code.region id ops true).wp P Q a w := by
  subst hn
  subst hl
  exact wp_region_last hm h
end

/-- a reference's error: its number, the packages and the places -/
def WantAt (w : World) (v : Value) (n : Int) (l : List (ByteArray × Int)) : Prop :=
  ∃ Ao co Aa ca, v = .agg #[.int .i64 n, .slice Ao l.length co, .slice Aa l.length ca] ∧ Kd.C Kd.string w Ao l.length (l.map (·.1)) ∧ Kd.C (Kd.int .i64) w Aa l.length (l.map (·.2)) ∧ l.length ≤ co ∧ l.length ≤ ca
theorem WantAt.below {w w1 : World} {v : Value} {n : Int} {l : List (ByteArray × Int)} (h : WantAt w v n l) (hb : Below w.heap.size w w1) : WantAt w1 v n l := by
  obtain ⟨Ao, co, Aa, ca, e, h1, h2, h3⟩ := h
  exact ⟨Ao, co, Aa, ca, e, Kd.C_below h1 hb, Kd.C_below h2 hb, h3⟩
theorem new_calls (op : ByteArray) (pos n : Int) (w : World) :
    Calls Tryd.prog 18 #[.string op, .int .i64 pos, .int .i64 n] w fun e w' => ∃ v, e = .returned v ∧ WantAt w' v n [(op, pos)] ∧ Below w.heap.size w w' := by
  refine (GNat.edenraw_New.calls op pos n n [op] [pos] w rfl).mono ?_
  rintro e w' ⟨v1, v2, rfl, h1, h2, hb⟩
  obtain ⟨A1, c1, rfl, k1, r1⟩ := Kd.R_reads h1
  obtain ⟨A2, c2, rfl, k2, r2⟩ := Kd.R_reads h2
  exact ⟨_, rfl, ⟨A1, c1, A2, c2, rfl, r1, r2, k1, k2⟩, hb⟩

theorem isCompF : (Tryd.prog.info? 100).map (·.comparable) = some true := by kernel_rfl
theorem isSizeF : (Tryd.prog.info? 104).map (·.size) = some 3 := by kernel_rfl
theorem run_neq_iface_ptr_same {P : Program} (w : World) {ti tp te : TypeId} {ms : Array (String × TypeId)} {i j : TypeInfo} (a : Addr)
    (hi : P.underlying ti = some (.interface ms)) (hp : P.underlying tp = some (.pointer te)) (hinfo : P.info? tp = some i) (hcomp : i.comparable = true) (hte : P.info? te = some j) :
    (binOp .neq ti (.iface tp (.pointer (some a))) (.iface tp (.pointer (some a)))).run P w = .ok (.bool false) w := by
  simp only [binOp]
  simp [Op.equal, Op.maxDepth, run_equalIn_iface_ptr_same w 9998 a hi hp hinfo hcomp hte]
theorem neqFault (a : Addr) (w : World) : (binOp .neq 25 (.iface 100 (.pointer (some a))) (.iface 100 (.pointer (some a)))).run Tryd.prog w = .ok (.bool false) w := by
  obtain ⟨i, hi, hcmp⟩ := Option.map_eq_some_iff.1 isCompF
  obtain ⟨j, hj, hjs⟩ := Option.map_eq_some_iff.1 isSizeF
  exact run_neq_iface_ptr_same w a Tryd.underlying25 Tryd.underlying100 hi hcmp hj
theorem eqSent (a : Addr) (w : World) : (binOp .eql 25 (.iface 212 (.pointer (some a))) (.iface 212 (.pointer (some a)))).run Tryd.prog w = .ok (.bool true) w := by
  obtain ⟨i, hi, hcmp⟩ := Option.map_eq_some_iff.1 isComp
  obtain ⟨j, hj, hjs⟩ := Option.map_eq_some_iff.1 isSize
  exact run_eql_iface_ptr_same w a Tryd.underlying25 Tryd.underlying212 hi hcmp hj
theorem setCell_same_ {w : World} {a : Addr} {u v : Value} (h : w.cell? a = some u) : (w.setCell a v).cell? a = some v := by
  first | exact World.cell?_setCell_same h | exact World.cell?_setCell_same _ _ _ h | (rw [World.cell?_setCell_same h])
theorem atString {w : World} {A : Option Addr} {xs : List ByteArray} (h : Kd.C Kd.string w A xs.length xs) (i : Nat) (hi : i < xs.length) : ∃ ad, A = some ad ∧ w.cell? (ad.add i) = some (.string xs[i]) := by
  obtain ⟨ad, e, hc⟩ := Kd.at_string h (i : Int) (by omega) (by omega)
  refine ⟨ad, e, ?_⟩
  rw [Int.toNat_natCast] at hc
  rw [hc]
  simp [rdOf, List.getD_eq_getElem?_getD, List.getElem?_eq_getElem hi]

set_option maxHeartbeats 8000000 in
set_option maxRecDepth 100000 in
theorem isf_calls (S : Nat → Addr) (n : Int) (hn : Num n) (l : List (ByteArray × Int)) (v want : Value) (w : World) (hE : Env S w) (h : ErrAt S w n.toNat l v) (hw : WantAt w want n l) (hl : l.length < 1000000) :
    Calls Tryd.prog 16 #[v, want] w fun e w' => e = .returned (.bool true) ∧ Below w.heap.size w w' := by
  obtain ⟨Ao, co, Aa, ca, rfl, ho, ha, hco, hca⟩ := hw
  obtain ⟨t, x, rfl⟩ := h.form
  have HN := Aside0.mk hn
  have hnb : (n == 0) = false := by rw [beq_eq_false_iff_ne]; unfold Num at hn; omega
  have hB0 := below_alloc (Below.refl w.heap.size w) (.cells #[.int .i64 n, .slice Ao l.length co, .slice Aa l.length ca] 31)
  obtain ⟨w1, hw1⟩ : ∃ w1, w1 = w.alloc (.cells #[.int .i64 n, .slice Ao l.length co, .slice Aa l.length ca] 31) := ⟨_, rfl⟩
  have HB0 : Aside0 (Below w.heap.size w w1) := ⟨hw1 ▸ hB0⟩
  have HE1 := Aside0.mk (hE.below HB0.out)
  have HERR := Aside0.mk (h.below HB0.out)
  have HO := Aside0.mk (Kd.C_below ho HB0.out)
  have HA := Aside0.mk (Kd.C_below ha HB0.out)
  have b0 : w1.cell? ⟨w.heap.size, 0, none⟩ = some (.int .i64 n) := by rw [hw1]; simp
  have b1 : w1.cell? ⟨w.heap.size, 1, none⟩ = some (.slice Ao l.length co) := by rw [hw1]; simp
  have b2 : w1.cell? ⟨w.heap.size, 2, none⟩ = some (.slice Aa l.length ca) := by rw [hw1]; simp
  have HL := Aside0.mk hl
  have HC := Aside0.mk (And.intro hco hca)
  have HW1 := Aside0.mk hw1
  clear hn hE h ho ha hl hco hca hB0
  go_enter Tryd.func16, Tryd.ntmps16
  go_wp2_with fail
  rw [← hw1]
  clear hw1
  refine (root_calls S n HN.out _ HE1.out).mono ?_
  rintro e w' ⟨rfl, rfl⟩
  go_wp2_with fail
  refine (is_calls S n.toNat l _ _ HERR.out).mono ?_
  rintro e w' ⟨rfl, rfl⟩
  go_wp2_with fail
  go_loopg [0, 5] l.length (fun kq v0 v5 w' => ∃ i : Nat, v5 = .int .i64 i ∧ Aside0 (kq + i = l.length) ∧ Aside0 (ErrAt S w' n.toNat (l.drop i) v0) ∧ Aside0 (Below w1.heap.size w1 w'))
  case atStart => exact ⟨0, rfl, ⟨rfl⟩, HERR, ⟨Below.refl _ _⟩⟩
  case round =>
    obtain ⟨i, rfl, HK, HEr, HB⟩ := hrel
    replace b0 := (HB.out.cell (World.block_lt_of_cell? w1 _ b0)).trans b0
    replace b1 := (HB.out.cell (World.block_lt_of_cell? w1 _ b1)).trans b1
    replace b2 := (HB.out.cell (World.block_lt_of_cell? w1 _ b2)).trans b2
    have hib : i < 9223372036854775807 := by have := HK.out; have := HL.out; omega
    by_cases hlt : i < l.length
    · obtain ⟨k1, rfl⟩ : ∃ k1, gk = k1 + 1 := ⟨gk - 1, by have := HK.out; omega⟩
      obtain ⟨p, rest, hpr⟩ : ∃ p rest, l.drop i = p :: rest := ⟨l[i], l.drop (i + 1), List.drop_eq_getElem_cons hlt⟩
      have hp : p = l[i] := by have := List.drop_eq_getElem_cons hlt; rw [hpr] at this; exact (List.cons.inj this).1
      have hrest : rest = l.drop (i + 1) := by have := List.drop_eq_getElem_cons hlt; rw [hpr] at this; exact (List.cons.inj this).2
      rw [hpr] at HEr
      obtain ⟨b, v', rfl, c0, c1, c2, hrec⟩ := HEr.out
      have HREC := Aside0.mk (hrest ▸ hrec)
      obtain ⟨ado, eo, hos⟩ := atString (xs := l.map (·.1)) (by have := HO.out; simpa using this) i (by simpa using hlt)
      obtain ⟨ada, ea, has⟩ := Kd.at_int HA.out (i : Int) (by omega) (by omega)
      cases eo
      cases ea
      simp only [List.getElem_map] at hos
      rw [← hp] at hos
      have hrd : rd (l.map (·.2)) (i : Int) = p.2 := by simp [rd, List.getD_eq_getElem?_getD, List.getElem?_eq_getElem hlt, hp]
      rw [Int.toNat_natCast, hrd] at has
      replace hos := (HB.out.cell (World.block_lt_of_cell? w1 _ hos)).trans hos
      replace has := (HB.out.cell (World.block_lt_of_cell? w1 _ has)).trans has
      have HP := Aside0.mk hp
      clear hp hrest hpr hrec hrd HEr
      go_wp2_with fail
      refine start0_ (n := 38) (fun w' => w'.cell? ⟨wr.heap.size, 0, none⟩ = some (.pointer (some ⟨b, 0, none⟩)) ∧ w'.cell? ⟨b, 0, none⟩ = some (.string p.1) ∧ w'.cell? ⟨b, 1, none⟩ = some (.int .i64 p.2) ∧ w'.cell? ⟨w.heap.size, 1, none⟩ = some (.slice (some ado) l.length co) ∧ w'.cell? ⟨w.heap.size, 2, none⟩ = some (.slice (some ada) l.length ca) ∧ w'.cell? (ado.add i) = some (.string p.1) ∧ w'.cell? (ada.add i) = some (.int .i64 p.2)) [] #[false, false, false, false, false, false, false, false, false, false, false, false, false, false, false, false, false, false, false, false, false, false, false, false, false, false, false, false, false, false, false, false, false, false, false, false, false, false] (by kernel_rfl) rfl rfl ?_
      obtain ⟨w2, hw2⟩ : ∃ w2, w2 = (wr.alloc (.cells #[.pointer none] 100)).drew := ⟨_, rfl⟩
      rw [← hw2]
      have HB2 : Aside0 (Below wr.heap.size wr w2) := ⟨by rw [hw2]; exact below_drew (below_alloc (Below.refl _ _) _)⟩
      have HCF : Aside0 (w2.cell? ⟨wr.heap.size, 0, none⟩ = some (.pointer none)) := ⟨by rw [hw2]; simp⟩
      have HFZ : Aside0 (w2.frozen? ⟨wr.heap.size, 0, none⟩ = false) := ⟨by rw [hw2]; simp⟩
      have HET := Aside0.mk ((HE1.out.below HB.out).below HB2.out).et
      clear hw2
      have HSS : Aside0 (∀ w3 w' : World, Below w2.heap.size w2 w3 → w' = w3.setCell ⟨wr.heap.size, 0, none⟩ (.pointer (some ⟨b, 0, none⟩)) → Below wr.heap.size wr w' ∧ w'.cell? ⟨wr.heap.size, 0, none⟩ = some (.pointer (some ⟨b, 0, none⟩))) := ⟨by
        intro w3 w' h3 hw'
        have hb3 := below_step HB2.out h3
        refine ⟨?_, ?_⟩
        · rw [hw']; exact below_set hb3 (Nat.le_refl _)
        · rw [hw']; exact setCell_same_ ((h3.cell (World.block_lt_of_cell? w2 _ HCF.out)).trans HCF.out)⟩
      have HCELLS := Aside0.mk (And.intro c0 (And.intro c1 (And.intro b1 (And.intro b2 (And.intro hos has)))))
      have nF := neqFault ⟨b, 0, none⟩
      have hne1 : (p.2 != p.2) = false := bne_self_eq_false p.2
      refine pure_ (i := 0) (N := (some 29)) (v := ?_) (a' := ?_) #[true, false, false, false, false, false, false, false, false, false, false, false, false, false, false, false, false, false, false, false, false, false, false, false, false, false, false, false, false, false, false, false, false, false, false, false, false, false] rfl rfl (by kernel_rfl) (fun _ _ _ h => h) (Or.inl ⟨by rfl, ?_⟩) ?_ ?_
      rotate_left
      · intro w'
        go_simp
        with_reducible rfl
      rotate_left
      · simp only [Act.put, List.setIfInBounds_toArray, List.set_cons_zero, List.set_cons_succ, i64_w, i32_w]
        rfl
      refine pure_ (i := 1) (N := (some 30)) (v := ?_) (a' := ?_) #[true, true, false, false, false, false, false, false, false, false, false, false, false, false, false, false, false, false, false, false, false, false, false, false, false, false, false, false, false, false, false, false, false, false, false, false, false, false] rfl rfl (by kernel_rfl) (fun _ _ _ h => h) (Or.inl ⟨by rfl, ?_⟩) ?_ ?_
      rotate_left
      · intro w'
        go_simp
        with_reducible rfl
      rotate_left
      · simp only [Act.put, List.setIfInBounds_toArray, List.set_cons_zero, List.set_cons_succ, i64_w, i32_w]
        rfl
      refine one_ (i := 2) (N := (some 31)) #[true, true, true, false, false, false, false, false, false, false, false, false, false, false, false, false, false, false, false, false, false, false, false, false, false, false, false, false, false, false, false, false, false, false, false, false, false, false] rfl rfl (by kernel_rfl) (by decide) (fun K hK => ?_)
      have hcf : w2.cell? ⟨wr.heap.size, 0, none⟩ = some (.pointer none) := HCF.out
      refine goes_ Tryd.func72 (by kernel_rfl) rfl #[.iface 100 (.pointer (some ⟨b, 0, none⟩)), .iface 102 (.pointer (some ⟨wr.heap.size, 0, none⟩))] (by rfl) rfl rfl (by (try simp only [List.map_toArray, List.map_cons, List.map_nil]); first | done | rfl) ?_
      with_reducible refine (as_calls ⟨b, 0, none⟩ ⟨wr.heap.size, 0, none⟩ (.pointer none) _ HET.out hcf HFZ.out).mono ?_
      rintro e w' ⟨rfl, w3, hb3, hw'⟩
      refine ⟨_, rfl, ?_⟩
      have HW3 := Aside0.mk hw'
      have HB3 := Aside0.mk hb3
      clear hcf hw' hb3
      have HBW := Aside0.mk (HSS.out w3 w' HB3.out HW3.out).1
      have HTC := (HSS.out w3 w' HB3.out HW3.out).2
      refine hK.out _ _ ⟨HTC, pw_cell_below HBW.out HCELLS.out.1, pw_cell_below HBW.out HCELLS.out.2.1, pw_cell_below HBW.out HCELLS.out.2.2.1, pw_cell_below HBW.out HCELLS.out.2.2.2.1, pw_cell_below HBW.out HCELLS.out.2.2.2.2.1, pw_cell_below HBW.out HCELLS.out.2.2.2.2.2⟩ (fun hHeld => ?_)
      clear hK K HTC HSS HCELLS HW3 HB3
      refine norm_ (a' := ?_) ?_ ?_
      rotate_left
      · show Act.put _ (some 31) _ = _
        simp only [Act.put, List.setIfInBounds_toArray, List.set_cons_zero, List.set_cons_succ, i64_w, i32_w]
        rfl
      refine pure_ (i := 3) (N := (some 32)) (v := ?_) (a' := ?_) #[true, true, true, true, false, false, false, false, false, false, false, false, false, false, false, false, false, false, false, false, false, false, false, false, false, false, false, false, false, false, false, false, false, false, false, false, false, false] rfl rfl (by kernel_rfl) (fun _ _ _ h => h) (Or.inl ⟨by rfl, ?_⟩) ?_ ?_
      rotate_left
      · intro w'
        go_simp
        with_reducible rfl
      rotate_left
      · simp only [Act.put, List.setIfInBounds_toArray, List.set_cons_zero, List.set_cons_succ, i64_w, i32_w]
        rfl
      refine pure_ (i := 4) (N := (some 33)) (v := ?_) (a' := ?_) #[true, true, true, true, true, false, false, false, false, false, false, false, false, false, false, false, false, false, false, false, false, false, false, false, false, false, false, false, false, false, false, false, false, false, false, false, false, false] rfl rfl (by kernel_rfl) (fun _ _ _ h => h) (Or.inl ⟨by rfl, ?_⟩) ?_ ?_
      rotate_left
      · intro w'
        go_simp
        with_reducible rfl
      rotate_left
      · simp only [Act.put, List.setIfInBounds_toArray, List.set_cons_zero, List.set_cons_succ, i64_w, i32_w]
        rfl
      refine take_ (i := 5) (N := (some 34)) (v := ?_) (a' := ?_) #[true, true, true, true, true, true, false, false, false, false, false, false, false, false, false, false, false, false, false, false, false, false, false, false, false, false, false, false, false, false, false, false, false, false, false, false, false, false] rfl rfl (by kernel_rfl) (fun _ _ _ h => h) (Or.inl ⟨by rfl, ?_⟩) hHeld ?_ ?_
      rotate_left
      · rintro w' ⟨s0, s1, s2, s3, s4, s5, s6⟩
        go_simp
        with_reducible rfl
      rotate_left
      · simp only [Act.put, List.setIfInBounds_toArray, List.set_cons_zero, List.set_cons_succ, i64_w, i32_w]
        rfl
      refine pure_ (i := 6) (N := (some 35)) (v := ?_) (a' := ?_) #[true, true, true, true, true, true, true, false, false, false, false, false, false, false, false, false, false, false, false, false, false, false, false, false, false, false, false, false, false, false, false, false, false, false, false, false, false, false] rfl rfl (by kernel_rfl) (fun _ _ _ h => h) (Or.inl ⟨by rfl, ?_⟩) ?_ ?_
      rotate_left
      · intro w'
        go_simp
        with_reducible rfl
      rotate_left
      · simp only [Act.put, List.setIfInBounds_toArray, List.set_cons_zero, List.set_cons_succ, i64_w, i32_w]
        rfl
      refine pure_ (i := 7) (N := (some 36)) (v := ?_) (a' := ?_) #[true, true, true, true, true, true, true, true, false, false, false, false, false, false, false, false, false, false, false, false, false, false, false, false, false, false, false, false, false, false, false, false, false, false, false, false, false, false] rfl rfl (by kernel_rfl) (fun _ _ _ h => h) (Or.inl ⟨by rfl, ?_⟩) ?_ ?_
      rotate_left
      · intro w'
        go_simp
        with_reducible rfl
      rotate_left
      · simp only [Act.put, List.setIfInBounds_toArray, List.set_cons_zero, List.set_cons_succ, i64_w, i32_w]
        rfl
      refine pure_ (i := 8) (N := (some 37)) (v := ?_) (a' := ?_) #[true, true, true, true, true, true, true, true, true, false, false, false, false, false, false, false, false, false, false, false, false, false, false, false, false, false, false, false, false, false, false, false, false, false, false, false, false, false] rfl rfl (by kernel_rfl) (fun _ _ _ h => h) (Or.inl ⟨by rfl, ?_⟩) ?_ ?_
      rotate_left
      · intro w'
        go_simp
        with_reducible rfl
      rotate_left
      · simp only [Act.put, List.setIfInBounds_toArray, List.set_cons_zero, List.set_cons_succ, i64_w, i32_w]
        rfl
      refine pure_ (i := 9) (N := (some 38)) (v := ?_) (a' := ?_) #[true, true, true, true, true, true, true, true, true, true, false, false, false, false, false, false, false, false, false, false, false, false, false, false, false, false, false, false, false, false, false, false, false, false, false, false, false, false] rfl rfl (by kernel_rfl) (fun _ _ _ h => h) (Or.inl ⟨by rfl, ?_⟩) ?_ ?_
      rotate_left
      · intro w'
        go_simp
        with_reducible rfl
      rotate_left
      · simp only [Act.put, List.setIfInBounds_toArray, List.set_cons_zero, List.set_cons_succ, i64_w, i32_w]
        rfl
      refine take_ (i := 10) (N := (some 39)) (v := ?_) (a' := ?_) #[true, true, true, true, true, true, true, true, true, true, true, false, false, false, false, false, false, false, false, false, false, false, false, false, false, false, false, false, false, false, false, false, false, false, false, false, false, false] rfl rfl (by kernel_rfl) (fun _ _ _ h => h) (Or.inl ⟨by rfl, ?_⟩) hHeld ?_ ?_
      rotate_left
      · rintro w' ⟨s0, s1, s2, s3, s4, s5, s6⟩
        go_simp
        with_reducible rfl
      rotate_left
      · simp only [Act.put, List.setIfInBounds_toArray, List.set_cons_zero, List.set_cons_succ, i64_w, i32_w]
        rfl
      refine pure_ (i := 11) (N := (some 40)) (v := ?_) (a' := ?_) #[true, true, true, true, true, true, true, true, true, true, true, true, false, false, false, false, false, false, false, false, false, false, false, false, false, false, false, false, false, false, false, false, false, false, false, false, false, false] rfl rfl (by kernel_rfl) (fun _ _ _ h => h) (Or.inl ⟨by rfl, ?_⟩) ?_ ?_
      rotate_left
      · intro w'
        go_simp
        with_reducible rfl
      rotate_left
      · simp only [Act.put, List.setIfInBounds_toArray, List.set_cons_zero, List.set_cons_succ, i64_w, i32_w]
        rfl
      refine pure_ (i := 12) (N := (some 41)) (v := ?_) (a' := ?_) #[true, true, true, true, true, true, true, true, true, true, true, true, true, false, false, false, false, false, false, false, false, false, false, false, false, false, false, false, false, false, false, false, false, false, false, false, false, false] rfl rfl (by kernel_rfl) (fun _ _ _ h => h) (Or.inl ⟨by rfl, ?_⟩) ?_ ?_
      rotate_left
      · intro w'
        go_simp
        with_reducible rfl
      rotate_left
      · simp only [Act.put, List.setIfInBounds_toArray, List.set_cons_zero, List.set_cons_succ, i64_w, i32_w]
        rfl
      refine pure_ (i := 13) (N := (some 42)) (v := ?_) (a' := ?_) #[true, true, true, true, true, true, true, true, true, true, true, true, true, true, false, false, false, false, false, false, false, false, false, false, false, false, false, false, false, false, false, false, false, false, false, false, false, false] rfl rfl (by kernel_rfl) (fun _ _ _ h => h) (Or.inl ⟨by rfl, ?_⟩) ?_ ?_
      rotate_left
      · intro w'
        go_simp
        with_reducible rfl
      rotate_left
      · simp only [Act.put, List.setIfInBounds_toArray, List.set_cons_zero, List.set_cons_succ, i64_w, i32_w]
        rfl
      refine pure_ (i := 14) (N := (some 43)) (v := ?_) (a' := ?_) #[true, true, true, true, true, true, true, true, true, true, true, true, true, true, true, false, false, false, false, false, false, false, false, false, false, false, false, false, false, false, false, false, false, false, false, false, false, false] rfl rfl (by kernel_rfl) (fun _ _ _ h => h) (Or.inl ⟨by rfl, ?_⟩) ?_ ?_
      rotate_left
      · intro w'
        go_simp
        with_reducible rfl
      rotate_left
      · simp only [Act.put, List.setIfInBounds_toArray, List.set_cons_zero, List.set_cons_succ, i64_w, i32_w]
        rfl
      refine take_ (i := 15) (N := (some 44)) (v := ?_) (a' := ?_) #[true, true, true, true, true, true, true, true, true, true, true, true, true, true, true, true, false, false, false, false, false, false, false, false, false, false, false, false, false, false, false, false, false, false, false, false, false, false] rfl rfl (by kernel_rfl) (fun _ _ _ h => h) (Or.inl ⟨by rfl, ?_⟩) hHeld ?_ ?_
      rotate_left
      · rintro w' ⟨s0, s1, s2, s3, s4, s5, s6⟩
        go_simp
        with_reducible rfl
      rotate_left
      · simp only [Act.put, List.setIfInBounds_toArray, List.set_cons_zero, List.set_cons_succ, i64_w, i32_w]
        rfl
      refine pure_ (i := 16) (N := (some 45)) (v := ?_) (a' := ?_) #[true, true, true, true, true, true, true, true, true, true, true, true, true, true, true, true, true, false, false, false, false, false, false, false, false, false, false, false, false, false, false, false, false, false, false, false, false, false] rfl rfl (by kernel_rfl) (fun _ _ _ h => h) (Or.inl ⟨by rfl, ?_⟩) ?_ ?_
      rotate_left
      · intro w'
        go_simp
        with_reducible rfl
      rotate_left
      · simp only [Act.put, List.setIfInBounds_toArray, List.set_cons_zero, List.set_cons_succ, i64_w, i32_w]
        rfl
      refine pure_ (i := 17) (N := (some 46)) (v := ?_) (a' := ?_) #[true, true, true, true, true, true, true, true, true, true, true, true, true, true, true, true, true, true, false, false, false, false, false, false, false, false, false, false, false, false, false, false, false, false, false, false, false, false] rfl rfl (by kernel_rfl) (fun _ _ _ h => h) (Or.inl ⟨by rfl, ?_⟩) ?_ ?_
      rotate_left
      · intro w'
        go_simp
        with_reducible rfl
      rotate_left
      · simp only [Act.put, List.setIfInBounds_toArray, List.set_cons_zero, List.set_cons_succ, i64_w, i32_w]
        rfl
      refine take_ (i := 18) (N := (some 47)) (v := ?_) (a' := ?_) #[true, true, true, true, true, true, true, true, true, true, true, true, true, true, true, true, true, true, true, false, false, false, false, false, false, false, false, false, false, false, false, false, false, false, false, false, false, false] rfl rfl (by kernel_rfl) (fun _ _ _ h => h) (Or.inl ⟨by rfl, ?_⟩) hHeld ?_ ?_
      rotate_left
      · rintro w' ⟨s0, s1, s2, s3, s4, s5, s6⟩
        go_simp
        with_reducible rfl
      rotate_left
      · simp only [Act.put, List.setIfInBounds_toArray, List.set_cons_zero, List.set_cons_succ, i64_w, i32_w]
        rfl
      refine pure_ (i := 19) (N := (some 48)) (v := ?_) (a' := ?_) #[true, true, true, true, true, true, true, true, true, true, true, true, true, true, true, true, true, true, true, true, false, false, false, false, false, false, false, false, false, false, false, false, false, false, false, false, false, false] rfl rfl (by kernel_rfl) (fun _ _ _ h => h) (Or.inl ⟨by rfl, ?_⟩) ?_ ?_
      rotate_left
      · intro w'
        go_simp
        with_reducible rfl
      rotate_left
      · simp only [Act.put, List.setIfInBounds_toArray, List.set_cons_zero, List.set_cons_succ, i64_w, i32_w]
        rfl
      refine take_ (i := 20) (N := (some 49)) (v := ?_) (a' := ?_) #[true, true, true, true, true, true, true, true, true, true, true, true, true, true, true, true, true, true, true, true, true, false, false, false, false, false, false, false, false, false, false, false, false, false, false, false, false, false] rfl rfl (by kernel_rfl) (fun _ _ _ h => h) (Or.inl ⟨by rfl, ?_⟩) hHeld ?_ ?_
      rotate_left
      · rintro w' ⟨s0, s1, s2, s3, s4, s5, s6⟩
        go_simp
        with_reducible rfl
      rotate_left
      · simp only [Act.put, List.setIfInBounds_toArray, List.set_cons_zero, List.set_cons_succ, i64_w, i32_w]
        rfl
      refine pure_ (i := 21) (N := (some 50)) (v := ?_) (a' := ?_) #[true, true, true, true, true, true, true, true, true, true, true, true, true, true, true, true, true, true, true, true, true, true, false, false, false, false, false, false, false, false, false, false, false, false, false, false, false, false] rfl rfl (by kernel_rfl) (fun _ _ _ h => h) (Or.inl ⟨by rfl, ?_⟩) ?_ ?_
      rotate_left
      · intro w'
        go_simp
        with_reducible rfl
      rotate_left
      · simp only [Act.put, List.setIfInBounds_toArray, List.set_cons_zero, List.set_cons_succ, i64_w, i32_w]
        rfl
      refine pure_ (i := 22) (N := (some 51)) (v := ?_) (a' := ?_) #[true, true, true, true, true, true, true, true, true, true, true, true, true, true, true, true, true, true, true, true, true, true, true, false, false, false, false, false, false, false, false, false, false, false, false, false, false, false] rfl rfl (by kernel_rfl) (fun _ _ _ h => h) (Or.inl ⟨by rfl, ?_⟩) ?_ ?_
      rotate_left
      · intro w'
        go_simp
        with_reducible rfl
      rotate_left
      · simp only [Act.put, List.setIfInBounds_toArray, List.set_cons_zero, List.set_cons_succ, i64_w, i32_w]
        rfl
      refine take_ (i := 23) (N := (some 52)) (v := ?_) (a' := ?_) #[true, true, true, true, true, true, true, true, true, true, true, true, true, true, true, true, true, true, true, true, true, true, true, true, false, false, false, false, false, false, false, false, false, false, false, false, false, false] rfl rfl (by kernel_rfl) (fun _ _ _ h => h) (Or.inl ⟨by rfl, ?_⟩) hHeld ?_ ?_
      rotate_left
      · rintro w' ⟨s0, s1, s2, s3, s4, s5, s6⟩
        go_simp
        with_reducible rfl
      rotate_left
      · simp only [Act.put, List.setIfInBounds_toArray, List.set_cons_zero, List.set_cons_succ, i64_w, i32_w]
        rfl
      refine pure_ (i := 24) (N := (some 53)) (v := ?_) (a' := ?_) #[true, true, true, true, true, true, true, true, true, true, true, true, true, true, true, true, true, true, true, true, true, true, true, true, true, false, false, false, false, false, false, false, false, false, false, false, false, false] rfl rfl (by kernel_rfl) (fun _ _ _ h => h) (Or.inl ⟨by rfl, ?_⟩) ?_ ?_
      rotate_left
      · intro w'
        go_simp
        with_reducible rfl
      rotate_left
      · simp only [Act.put, List.setIfInBounds_toArray, List.set_cons_zero, List.set_cons_succ, i64_w, i32_w]
        rfl
      refine pure_ (i := 25) (N := (some 54)) (v := ?_) (a' := ?_) #[true, true, true, true, true, true, true, true, true, true, true, true, true, true, true, true, true, true, true, true, true, true, true, true, true, true, false, false, false, false, false, false, false, false, false, false, false, false] rfl rfl (by kernel_rfl) (fun _ _ _ h => h) (Or.inl ⟨by rfl, ?_⟩) ?_ ?_
      rotate_left
      · intro w'
        go_simp
        with_reducible rfl
      rotate_left
      · simp only [Act.put, List.setIfInBounds_toArray, List.set_cons_zero, List.set_cons_succ, i64_w, i32_w]
        rfl
      refine pure_ (i := 26) (N := (some 55)) (v := ?_) (a' := ?_) #[true, true, true, true, true, true, true, true, true, true, true, true, true, true, true, true, true, true, true, true, true, true, true, true, true, true, true, false, false, false, false, false, false, false, false, false, false, false] rfl rfl (by kernel_rfl) (fun _ _ _ h => h) (Or.inl ⟨by rfl, ?_⟩) ?_ ?_
      rotate_left
      · intro w'
        go_simp
        with_reducible rfl
      rotate_left
      · simp only [Act.put, List.setIfInBounds_toArray, List.set_cons_zero, List.set_cons_succ, i64_w, i32_w]
        rfl
      refine take_ (i := 27) (N := (some 56)) (v := ?_) (a' := ?_) #[true, true, true, true, true, true, true, true, true, true, true, true, true, true, true, true, true, true, true, true, true, true, true, true, true, true, true, true, false, false, false, false, false, false, false, false, false, false] rfl rfl (by kernel_rfl) (fun _ _ _ h => h) (Or.inl ⟨by rfl, ?_⟩) hHeld ?_ ?_
      rotate_left
      · rintro w' ⟨s0, s1, s2, s3, s4, s5, s6⟩
        go_simp
        with_reducible rfl
      rotate_left
      · simp only [Act.put, List.setIfInBounds_toArray, List.set_cons_zero, List.set_cons_succ, i64_w, i32_w]
        rfl
      refine pure_ (i := 28) (N := (some 57)) (v := ?_) (a' := ?_) #[true, true, true, true, true, true, true, true, true, true, true, true, true, true, true, true, true, true, true, true, true, true, true, true, true, true, true, true, true, false, false, false, false, false, false, false, false, false] rfl rfl (by kernel_rfl) (fun _ _ _ h => h) (Or.inl ⟨by rfl, ?_⟩) ?_ ?_
      rotate_left
      · intro w'
        go_simp
        with_reducible rfl
      rotate_left
      · simp only [Act.put, List.setIfInBounds_toArray, List.set_cons_zero, List.set_cons_succ, i64_w, i32_w]
        rfl
      refine pure_ (i := 29) (N := (some 58)) (v := ?_) (a' := ?_) #[true, true, true, true, true, true, true, true, true, true, true, true, true, true, true, true, true, true, true, true, true, true, true, true, true, true, true, true, true, true, false, false, false, false, false, false, false, false] rfl rfl (by kernel_rfl) (fun _ _ _ h => h) (Or.inl ⟨by rfl, ?_⟩) ?_ ?_
      rotate_left
      · intro w'
        go_simp
        with_reducible rfl
      rotate_left
      · simp only [Act.put, List.setIfInBounds_toArray, List.set_cons_zero, List.set_cons_succ, i64_w, i32_w]
        rfl
      refine take_ (i := 30) (N := (some 59)) (v := ?_) (a' := ?_) #[true, true, true, true, true, true, true, true, true, true, true, true, true, true, true, true, true, true, true, true, true, true, true, true, true, true, true, true, true, true, true, false, false, false, false, false, false, false] rfl rfl (by kernel_rfl) (fun _ _ _ h => h) (Or.inl ⟨by rfl, ?_⟩) hHeld ?_ ?_
      rotate_left
      · rintro w' ⟨s0, s1, s2, s3, s4, s5, s6⟩
        go_simp
        with_reducible rfl
      rotate_left
      · simp only [Act.put, List.setIfInBounds_toArray, List.set_cons_zero, List.set_cons_succ, i64_w, i32_w]
        rfl
      refine pure_ (i := 31) (N := (some 60)) (v := ?_) (a' := ?_) #[true, true, true, true, true, true, true, true, true, true, true, true, true, true, true, true, true, true, true, true, true, true, true, true, true, true, true, true, true, true, true, true, false, false, false, false, false, false] rfl rfl (by kernel_rfl) (fun _ _ _ h => h) (Or.inl ⟨by rfl, ?_⟩) ?_ ?_
      rotate_left
      · intro w'
        go_simp
        with_reducible rfl
      rotate_left
      · simp only [Act.put, List.setIfInBounds_toArray, List.set_cons_zero, List.set_cons_succ, i64_w, i32_w]
        rfl
      refine take_ (i := 32) (N := (some 61)) (v := ?_) (a' := ?_) #[true, true, true, true, true, true, true, true, true, true, true, true, true, true, true, true, true, true, true, true, true, true, true, true, true, true, true, true, true, true, true, true, true, false, false, false, false, false] rfl rfl (by kernel_rfl) (fun _ _ _ h => h) (Or.inl ⟨by rfl, ?_⟩) hHeld ?_ ?_
      rotate_left
      · rintro w' ⟨s0, s1, s2, s3, s4, s5, s6⟩
        go_simp
        with_reducible rfl
      rotate_left
      · simp only [Act.put, List.setIfInBounds_toArray, List.set_cons_zero, List.set_cons_succ, i64_w, i32_w]
        rfl
      refine pure_ (i := 33) (N := (some 62)) (v := ?_) (a' := ?_) #[true, true, true, true, true, true, true, true, true, true, true, true, true, true, true, true, true, true, true, true, true, true, true, true, true, true, true, true, true, true, true, true, true, true, false, false, false, false] rfl rfl (by kernel_rfl) (fun _ _ _ h => h) (Or.inl ⟨by rfl, ?_⟩) ?_ ?_
      rotate_left
      · intro w'
        go_simp
        with_reducible rfl
      rotate_left
      · simp only [Act.put, List.setIfInBounds_toArray, List.set_cons_zero, List.set_cons_succ, i64_w, i32_w]
        rfl
      refine pure_ (i := 34) (N := (some 63)) (v := ?_) (a' := ?_) #[true, true, true, true, true, true, true, true, true, true, true, true, true, true, true, true, true, true, true, true, true, true, true, true, true, true, true, true, true, true, true, true, true, true, true, false, false, false] rfl rfl (by kernel_rfl) (fun _ _ _ h => h) (Or.inl ⟨by rfl, ?_⟩) ?_ ?_
      rotate_left
      · intro w'
        go_simp
        with_reducible rfl
      rotate_left
      · simp only [Act.put, List.setIfInBounds_toArray, List.set_cons_zero, List.set_cons_succ, i64_w, i32_w]
        rfl
      refine take_ (i := 35) (N := (some 64)) (v := ?_) (a' := ?_) #[true, true, true, true, true, true, true, true, true, true, true, true, true, true, true, true, true, true, true, true, true, true, true, true, true, true, true, true, true, true, true, true, true, true, true, true, false, false] rfl rfl (by kernel_rfl) (fun _ _ _ h => h) (Or.inl ⟨by rfl, ?_⟩) hHeld ?_ ?_
      rotate_left
      · rintro w' ⟨s0, s1, s2, s3, s4, s5, s6⟩
        go_simp
        with_reducible rfl
      rotate_left
      · simp only [Act.put, List.setIfInBounds_toArray, List.set_cons_zero, List.set_cons_succ, i64_w, i32_w]
        rfl
      refine pure_ (i := 36) (N := (some 65)) (v := ?_) (a' := ?_) #[true, true, true, true, true, true, true, true, true, true, true, true, true, true, true, true, true, true, true, true, true, true, true, true, true, true, true, true, true, true, true, true, true, true, true, true, true, false] rfl rfl (by kernel_rfl) (fun _ _ _ h => h) (Or.inl ⟨by rfl, ?_⟩) ?_ ?_
      rotate_left
      · intro w'
        go_simp
        with_reducible rfl
      rotate_left
      · simp only [Act.put, List.setIfInBounds_toArray, List.set_cons_zero, List.set_cons_succ, i64_w, i32_w]
        rfl
      refine pure_ (i := 37) (N := (some 66)) (v := ?_) (a' := ?_) #[true, true, true, true, true, true, true, true, true, true, true, true, true, true, true, true, true, true, true, true, true, true, true, true, true, true, true, true, true, true, true, true, true, true, true, true, true, true] rfl rfl (by kernel_rfl) (fun _ _ _ h => h) (Or.inl ⟨by rfl, ?_⟩) ?_ ?_
      rotate_left
      · intro w'
        go_simp
        with_reducible rfl
      rotate_left
      · simp only [Act.put, List.setIfInBounds_toArray, List.set_cons_zero, List.set_cons_succ, i64_w, i32_w]
        rfl
      refine done_ (by kernel_rfl) ?_
      obtain ⟨s0, s1, s2, s3, s4, s5, s6⟩ := hHeld
      have c2' := pw_cell_below HBW.out c2
      clear s1 s2 s3 s4 s5 s6 c0 c1 c2 b0 b1 b2 hos has
      go_wp2_with fail
      go_roundg k1
      case measure => omega
      case rel => exact ⟨i + 1, by go_num, ⟨by have := HK.out; omega⟩, ⟨HREC.out.below HBW.out⟩, ⟨below_step HB.out HBW.out⟩⟩
    · obtain rfl : i = l.length := by have := HK.out; omega
      have he := HEr.out
      rw [List.drop_length] at he
      simp only [ErrAt] at he
      subst he
      have eS := eqSent (S n.toNat)
      clear HEr HO HA
      go_wp2_with fail
      refine (root_calls S n HN.out _ (HE1.out.below HB.out)).mono ?_
      rintro e w' ⟨rfl, rfl⟩
      go_wp2_with fail
      go_ret
      exact ⟨rfl, below_then HB0.out HB0.out.size HB.out⟩
end Go.Proofs.YtmnmmalffpimeaaDoor

/- What bits.Div32 and nat.Over compute: quotient and rest. -/
namespace Go.Proofs.YtmnmmalffpimeaaDoor
open Go.RowKit Go.Proofs.YtmnmmalffpimeaaDoorW.PrintWords Go.Proofs.YtmnmmalffpimeaaDoorW.PrintLast Go.Proofs.YtmnmmalffpimeaaDoorW.PrintMore
set_option linter.unusedVariables false
set_option linter.unusedSimpArgs false

set_option maxHeartbeats 2000000 in
set_option maxRecDepth 100000 in
theorem div32_calls (h l d : Int) (w : World) (h0 : 0 ≤ h) (hd : h < d) (hd1 : d < 4294967296) (l0 : 0 ≤ l) (l1 : l < 4294967296) :
    Calls Tryd.prog 105 #[.int .u32 h, .int .u32 l, .int .u32 d] w fun e w' => e = .returned (.tuple #[.int .u32 ((h * 4294967296 + l) / d), .int .u32 ((h * 4294967296 + l) % d)]) ∧ Drawn0 w w' := by
  have hdb : (d != 0) = true := by rw [bne_iff_ne]; omega
  have hle : decide (d ≤ h) = false := decide_eq_false (by omega)
  have q1 : IntKind.u64.wrap h = h := u64_in _ h0 (by omega)
  have q2 : IntKind.u64.wrap l = l := u64_in _ l0 (by omega)
  have q3 : IntKind.u64.wrap d = d := u64_in _ (by omega) (by omega)
  have hor : bits .or .u64 (h * 4294967296) l = h * 4294967296 + l :=
    bits_join .u64 64 (by decide) (fun n a b => u64_in n a (by omega)) 32 (h * 4294967296) l (by omega) (by omega) (by omega) l0 (by omega) (by omega)
  obtain ⟨n, hn⟩ : ∃ n, h * 4294967296 + l = n := ⟨_, rfl⟩
  rw [hn] at hor ⊢
  have hn0 : 0 ≤ n := by omega
  have hq0 : 0 ≤ n / d := Int.ediv_nonneg hn0 (by omega)
  have hq1 : n / d < 4294967296 := by
    rw [Int.ediv_lt_iff_lt_mul (by omega)]
    have : h * 4294967296 + 4294967296 ≤ 4294967296 * d := by omega
    omega
  have hr0 : 0 ≤ n % d := Int.emod_nonneg _ (by omega)
  have hr1 : n % d < d := Int.emod_lt_of_pos _ (by omega)
  have q4 : n / d % 4294967296 = n / d := by omega
  have q5 : n % d % 4294967296 = n % d := by omega
  have hdp : 1 ≤ d := by omega
  have HQ : Aside0 (IntKind.u64.wrap (n.tdiv d) % 4294967296 = n / d) := ⟨by rw [Int.tdiv_eq_ediv_of_nonneg hn0, u64_in _ hq0 (by omega), q4]⟩
  clear hn hq0 hq1 hr0 hr1
  go_enter Tryd.func105, Tryd.ntmps105
  go_wp2_with fail
  go_quiet (fail)
  go_wp2_with fail
  go_ret2
  refine ⟨?_, by repeat (first | exact Drawn0.refl _ | apply Drawn0.step)⟩
  show Ending.returned (.tuple #[.int .u32 (IntKind.u64.wrap (n.tdiv d) % 4294967296), .int .u32 (n % d)]) = _
  rw [HQ.out]

/-- the quotient's upper digits, and the rest so far -/
def OverInv (l : List Int) (d : Int) (k : Nat) (r : Int) (q : List Int) : Prop :=
  q.length + k = l.length ∧ Limbs q ∧ 0 ≤ r ∧ r < d ∧ val (l.drop k) = d * val q + r
theorem OverInv.start (l : List Int) {d : Int} (hd : 0 < d) : OverInv l d l.length 0 [] := ⟨by simp, Limbs.nil, by decide, hd, by simp [val]⟩
theorem OverInv.step {l q : List Int} {d r : Int} {k : Nat} (h : OverInv l d (k + 1) r q) (hl : Limbs l) (hd : d < 4294967296) :
    OverInv l d k ((r * 4294967296 + rd l (k : Int)) % d) ((r * 4294967296 + rd l (k : Int)) / d :: q) := by
  obtain ⟨a1, a2, a3, a4, a5⟩ := h
  have hk : k < l.length := by omega
  have b0 := hl.getD k
  rw [← rd_nat] at b0
  obtain ⟨n, hn⟩ : ∃ n, r * 4294967296 + rd l (k : Int) = n := ⟨_, rfl⟩
  have hn0 : 0 ≤ n := by omega
  have hq0 : 0 ≤ n / d := Int.ediv_nonneg hn0 (by omega)
  have hq1 : n / d < 4294967296 := by
    rw [Int.ediv_lt_iff_lt_mul (by omega)]
    have : r * 4294967296 + 4294967296 ≤ 4294967296 * d := by omega
    omega
  rw [hn]
  refine ⟨by simp only [List.length_cons]; omega, Limbs.cons ⟨hq0, hq1⟩ a2, Int.emod_nonneg _ (by omega), Int.emod_lt_of_pos _ (by omega), ?_⟩
  rw [List.drop_eq_getElem_cons hk]
  have hg : l[k] = rd l (k : Int) := by rw [rd_nat, List.getD_eq_getElem?_getD, List.getElem?_eq_getElem hk]; rfl
  simp only [val, hg, a5]
  have hdm := Int.mul_ediv_add_emod n d
  generalize n / d = qq at *
  generalize n % d = rr at *
  generalize val q = V at *
  generalize rd l (k : Int) = x at *
  subst hn
  grind
theorem OverInv.done {l q : List Int} {d r : Int} (h : OverInv l d 0 r q) : val q = val l / d ∧ r = val l % d ∧ Limbs q := by
  obtain ⟨a1, a2, a3, a4, a5⟩ := h
  rw [List.drop_zero] at a5
  have h1 : (d * val q + r) / d = val q := by
    rw [Int.add_comm, Int.add_mul_ediv_left _ _ (by omega), Int.ediv_eq_zero_of_lt a3 a4]; omega
  have h2 : (d * val q + r) % d = r := by
    rw [Int.add_comm, Int.add_mul_emod_self_left, Int.emod_eq_of_lt a3 a4]
  rw [a5, h1, h2]
  exact ⟨rfl, rfl, a2⟩

/-- what nat.Over leaves -/
def OverRes (w : World) (q r : Int) (e : Ending) (w' : World) : Prop := ∃ v l, e = .returned (.tuple #[v, .int .u32 r, .nilIface]) ∧ FrN w.heap.size w' v l ∧ Nrm l ∧ val l = q ∧ Below w.heap.size w w'
set_option maxHeartbeats 8000000 in
set_option maxRecDepth 100000 in
theorem over_calls (A0 : Option Addr) (c0 : Nat) (l0 : List Int) (d : Int) (w : World) (hr0 : Kd.C (Kd.int .u32) w A0 l0.length l0) (hc0 : l0.length ≤ c0)
    (hL0 : Limbs l0) (hm : l0.length ≤ 70368744177664) (hd0 : 0 < d) (hd1 : d < 4294967296) :
    Calls Tryd.prog 49 #[.slice A0 l0.length c0, .int .u32 d] w (OverRes w (val l0 / d) (val l0 % d)) := by
  have HR0 := Aside0.mk hr0
  have HC0 := Aside0.mk hc0
  have HL0 := Aside0.mk hL0
  have HM := Aside0.mk hm
  have HD := Aside0.mk (And.intro hd0 hd1)
  have hdb : (d == 0) = false := by rw [beq_eq_false_iff_ne]; omega
  have P0 : Aside0 (0 ≤ (l0.length : Int)) := ⟨by omega⟩
  have hlm : l0.length ≤ 9223372036854775807 := by omega
  have HB := Aside0.mk (Below.refl w.heap.size w)
  clear hr0 hc0 hL0 hm hd0 hd1
  go_enter Tryd.func49, Tryd.ntmps49
  go_wp2_with (first | ((with_reducible refine gate_dst (N := 15) rfl ?_); refine Kd.R_make (Kd.int .u32) _ 74 rfl (N := 15) rfl 44 _ _ rfl (l0.length : Int) rfl rfl Tryd.underlying44 (.int .u32 0) 4 info_u32 rfl (by decide) (by omega) 0 (ok := fun _ => True) (okp := fun _ => True) rfl (fun _ hk => hk) trivial P0.out (by have := HM.out; omega) HB.out (Nat.le_refl _) ?_; intro vo w1 ho hb hg_ hnew_; clear hg_ hnew_ HB; have HB := Aside0.mk hb; have HO := Aside0.mk ho; clear hb ho))
  obtain ⟨Ao, co, eo⟩ := Kd.R_slice HO.out
  rw [List.length_replicate, Int.toNat_natCast] at eo
  rw [Int.toNat_natCast] at HO
  subst eo
  go_loopg [8, 9] (l0.length) (fun kq v8 v9 w' => ∃ (r : Int) (q : List Int), v8 = .int .u32 r ∧ v9 = .int .i64 ((kq : Int) - 1) ∧ Aside0 (OverInv l0 d kq r q) ∧ Aside0 (Kd.R (Kd.int .u32) 74 w' w.heap.size (fun _ => True) (.slice Ao l0.length co) (List.replicate kq 0 ++ q)) ∧ Aside0 (Below w.heap.size w w'))
  case atStart => exact ⟨0, [], rfl, rfl, ⟨OverInv.start l0 HD.out.1⟩, ⟨by rw [List.append_nil]; exact HO.out⟩, HB⟩
  case round =>
    clear HO HB
    obtain ⟨r, q, rfl, rfl, HI, HO, HB⟩ := hrel
    cases gk with
    | zero =>
      have hd := HI.out.done
      have HDn := Aside0.mk hd
      rw [List.replicate_zero, List.nil_append] at HO
      have hrr := Kd.R_reads' HO.out
      have HRR := Aside0.mk hrr
      have HLQ : Aside0 (q.length = l0.length) := ⟨by have := HI.out.1; omega⟩
      clear hd hrr
      go_wp2_with (go_at_call 101; (refine calls_of_args ?_ ((norm_calls Ao co q _ HRR.out.2.2 (by have := HRR.out; omega)).mono ?_)); (case refine_1 => rw [HLQ.out]); rintro e w' ⟨rfl, rfl⟩)
      go_ret3
      exact ⟨_, trim q, by rw [HDn.out.2.1]; rfl, (FrN.of_R' HO.out HB.out).trimmed, trim_nrm HDn.out.2.2, by rw [trim_val]; exact HDn.out.1, HB.out⟩
    | succ k =>
      rw [show ((k + 1 : Nat) : Int) - 1 = (k : Int) by omega]
      have hk : k < l0.length := by have := HI.out.1; omega
      obtain ⟨ad0, e0, hx0⟩ := Kd.at_int HR0.out (k : Int) (by omega) (by omega)
      cases e0
      replace hx0 := (HB.out.cell (World.block_lt_of_cell? w _ hx0)).trans hx0
      simp only [Int.toNat_natCast] at hx0
      have HS := Aside0.mk (HI.out.step HL0.out HD.out.2)
      have BX := Aside0.mk (HL0.out.getD k)
      obtain ⟨g, cq, eo, gb, gl, cl, HG⟩ := Kd.R_form HO.out (by simp; omega)
      injection eo with e1 e2 e3
      subst e1
      subst e3
      clear e2
      have GB := Aside0.mk gb
      clear gb gl cl HG
      obtain ⟨hz, hzf⟩ := Kd.R_celln 0 HO.out (k : Int) (by omega) (by omega)
      rw [Int.toNat_natCast] at hz hzf
      have hset : (List.replicate (k + 1) 0 ++ q).set k ((r * 4294967296 + rd l0 (k : Int)) / d) = List.replicate k 0 ++ ((r * 4294967296 + rd l0 (k : Int)) / d :: q) := by
        rw [List.replicate_succ', List.append_assoc, List.set_append_right _ _ (by simp)]
        simp
      have HPP : Aside0 (Kd.R (Kd.int .u32) 74 (wr.setCell ⟨g, k, none⟩ (.int .u32 ((r * 4294967296 + rd l0 (k : Int)) / d))) w.heap.size (fun _ => True) (.slice (some ⟨g, 0, none⟩) l0.length co) (List.replicate k 0 ++ ((r * 4294967296 + rd l0 (k : Int)) / d :: q))) :=
        ⟨by have h := (Kd.R_putg HO.out (k : Int) ((r * 4294967296 + rd l0 (k : Int)) / d)).1; rw [Int.toNat_natCast, hset] at h; exact h⟩
      have HBS := Aside0.mk (fun v => below_set (g := g) (j := k) HB.out GB.out (v := v))
      have HRB := Aside0.mk (And.intro HI.out.2.2.1 HI.out.2.2.2.1)
      clear hset
      go_wp2_with (go_at_call 105; refine (div32_calls _ _ _ _ HRB.out.1 HRB.out.2 HD.out.2 (by have := BX.out; rw [rd_nat]; omega) (by have := BX.out; rw [rd_nat]; omega)).mono ?_; rintro e w' ⟨rfl, ⟨nd, rfl⟩⟩)
      go_roundg k
      case measure => omega
      case rel => exact ⟨_, _, rfl, rfl, HS, ⟨by first | exact HPP.out | exact Kd.R_drewN HPP.out _⟩, ⟨by first | exact HBS.out _ | exact pw_below_drewN (HBS.out _) _⟩⟩

theorem over_zero (S : Nat → Addr) (A0 : Option Addr) (c0 : Nat) (l0 : List Int) (w : World) (hE : Env S w) :
    Calls Tryd.prog 49 #[.slice A0 l0.length c0, .int .u32 0] w fun e w' => ∃ v, e = .returned (.tuple #[.slice none 0 0, .int .u32 0, v]) ∧ ErrAt S w' 3 [(⟨#[110, 97, 116]⟩, 0)] v ∧ Below w.heap.size w w' := by
  have HE := Aside0.mk hE
  clear hE
  go_enter Tryd.func49, Tryd.ntmps49
  go_wp2_with (go_at_call 104; refine (fnew_calls S _ 0 3 (by unfold Num; omega) _ HE.out).mono ?_; rintro e w' ⟨v, rfl, hv, hb⟩; have HV := Aside0.mk hv; have HB := Aside0.mk hb; clear hv hb)
  go_ret3
  exact ⟨_, rfl, HV.out, HB.out⟩
end Go.Proofs.YtmnmmalffpimeaaDoor

/- What nat.Parse computes of a text of digits: the number that it writes. -/
namespace Go.Proofs.YtmnmmalffpimeaaDoor
open Go.RowKit Go.Proofs.YtmnmmalffpimeaaDoorW.PrintWords Go.Proofs.YtmnmmalffpimeaaDoorW.PrintLast Go.Proofs.YtmnmmalffpimeaaDoorW.PrintMore
set_option linter.unusedVariables false
set_option linter.unusedSimpArgs false

theorem C_one {w : World} {ad : Addr} {x : Int} (h : w.cell? ad = some (.int .u32 x)) : Kd.C (Kd.int .u32) w (some ad) [x].length [x] := by
  refine Kd.C_of_reads (d := 0) ⟨rfl, by simp, fun _ => ⟨ad, rfl, fun j hj => ?_⟩⟩
  have : j = 0 := by simpa using hj
  subst this
  simpa [Addr.add] using h
theorem mul_one_calls (A0 : Option Addr) (ad : Addr) (c0 : Nat) (l0 : List Int) (x : Int) (w : World) (hr0 : Kd.C (Kd.int .u32) w A0 l0.length l0) (hc0 : l0.length ≤ c0) (hx : w.cell? ad = some (.int .u32 x))
    (hL0 : Limbs l0) (hx0 : 0 ≤ x ∧ x < 4294967296) (hm : l0.length + 1 ≤ 70368744177664) :
    Calls Tryd.prog 52 #[.slice A0 l0.length c0, .slice (some ad) 1 1] w (NatRes w (val l0 * x)) := by
  have h := mul_calls A0 (some ad) c0 1 l0 [x] w hr0 hc0 (C_one hx) (by simp) hL0 (Limbs.cons hx0 Limbs.nil) (by simpa using hm)
  simpa [val] using h
theorem add_one_calls (A0 : Option Addr) (ad : Addr) (c0 : Nat) (l0 : List Int) (x : Int) (w : World) (hr0 : Kd.C (Kd.int .u32) w A0 l0.length l0) (hc0 : l0.length ≤ c0) (hx : w.cell? ad = some (.int .u32 x))
    (hL0 : Limbs l0) (hx0 : 0 ≤ x ∧ x < 4294967296) (hm : l0.length + 1 ≤ 70368744177664) :
    Calls Tryd.prog 51 #[.slice A0 l0.length c0, .slice (some ad) 1 1] w (NatRes w (val l0 + x)) := by
  have h := add_calls A0 (some ad) c0 1 l0 [x] w hr0 hc0 (C_one hx) (by simp) hL0 (Limbs.cons hx0 Limbs.nil) hm (by simp)
  simpa [val] using h

theorem nat_step {w W w2 : World} {v : Value} {r : List Int} (hB : Below w.heap.size w W) (hf : FrN W.heap.size w2 v r) (hb : Below W.heap.size W w2) : FrN w.heap.size w2 v r ∧ Below w.heap.size w w2 :=
  ⟨hf.lower hB.size, below_step hB hb⟩
/-- the number that digits write -/
def decv (l : List UInt8) : Int := l.foldl (fun a b => 10 * a + ((b.toNat : Int) - 48)) 0
theorem decv_snoc (l : List UInt8) (b : UInt8) : decv (l ++ [b]) = 10 * decv l + ((b.toNat : Int) - 48) := by simp [decv]
def Digits (l : List UInt8) : Prop := ∀ b ∈ l, 48 ≤ b.toNat ∧ b.toNat ≤ 57
theorem decv_lt : ∀ (n : Nat) (l : List UInt8), l.length = n → Digits l → 0 ≤ decv l ∧ decv l < 4294967296 ^ n
  | 0, l, hl, _ => by
    rw [List.length_eq_zero_iff.1 hl]; simp [decv]
  | n + 1, l, hl, h => by
    obtain ⟨m, b, rfl⟩ : ∃ m b, l = m ++ [b] := ⟨l.dropLast, l.getLast (by intro e; subst e; simp at hl), (List.dropLast_concat_getLast _).symm⟩
    have ih := decv_lt n m (by simpa using hl) (fun x hx => h x (by simp [hx]))
    have hb := h b (by simp)
    rw [decv_snoc, Int.pow_succ]
    omega
theorem bytes_get (s : ByteArray) (i : Nat) (h : i < s.size) : s.data.toList[i]'(by simpa using h) = s[i] := rfl
theorem bytes_take_succ (s : ByteArray) (k : Nat) (h : k < s.size) : s.data.toList.take (k + 1) = s.data.toList.take k ++ [s[k]] := by
  rw [List.take_succ_eq_append_getElem (by simpa using h)]; rfl

/-- what nat.Parse leaves when all is well -/
def ParseRes (w : World) (x : Int) (e : Ending) (w' : World) : Prop := ∃ v r, e = .returned (.tuple #[v, .nilIface]) ∧ FrN w.heap.size w' v r ∧ Nrm r ∧ val r = x ∧ Below w.heap.size w w'
set_option maxHeartbeats 8000000 in
set_option maxRecDepth 100000 in
theorem parse_calls (s : ByteArray) (w : World) (h1 : s.size ≤ 1200) (h0 : 0 < s.size) (hd : Digits s.data.toList) (hz : s.size = 1 ∨ (s.data.toList.getD 0 0).toNat ≠ 48) :
    Calls Tryd.prog 102 #[.string s] w (ParseRes w (decv s.data.toList)) := by
  have HDg := Aside0.mk hd
  have HZ := Aside0.mk hz
  have hne : s.toList ≠ [] := by
    rw [ByteArray.toList_eq]
    intro e
    have h2 : s.data.toList.length = 0 := by rw [e]; rfl
    have h3 : s.data.toList.length = s.size := by simp
    omega
  have hem : s.toList.isEmpty = false := by simpa using hne
  have hem2 : (s.toList == []) = false := by simpa using hne
  have hsz : decide (1200 < (s.size : Int)) = false := decide_eq_false (by omega)
  clear hne
  clear hd hz
  go_enter Tryd.func102, Tryd.ntmps102
  go_wp2_with fail
  go_loopg [4, 17] (s.size) (fun kq v4 v17 w' => ∃ (i : Nat) (A : Option Addr) (c : Nat) (l : List Int), v4 = .slice A l.length c ∧ v17 = .int .i64 i ∧ Aside0 (kq + i = s.size) ∧ Aside0 (FrN w.heap.size w' (.slice A l.length c) l) ∧ Aside0 (Nrm l ∧ val l = decv (s.data.toList.take i)) ∧ Aside0 (Below w.heap.size w w'))
  case atStart => exact ⟨0, none, 0, [], rfl, rfl, ⟨rfl⟩, ⟨FrN.nil _ _⟩, ⟨⟨Limbs.nil, trivial⟩, rfl⟩, ⟨Below.refl _ _⟩⟩
  case round =>
    obtain ⟨i, A, c, l, rfl, rfl, HK, HF, HV, HB⟩ := hrel
    by_cases hlt : i < s.size
    · have hb := HDg.out s[i] (by rw [← bytes_get s i hlt]; exact List.getElem_mem _)
      have hlo : 48 ≤ ((s[i]).toNat : Int) := by omega
      have hhi : ((s[i]).toNat : Int) ≤ 57 := by omega
      have hib : i < 9223372036854775807 := by omega
      clear hb
      have HC4 : Aside0 (Kd.C (Kd.int .u32) wr A l.length l ∧ l.length ≤ c) := ⟨(Kd.V_reads' HF.out).2.2, (Kd.V_reads' HF.out).2.1⟩
      have HLEN : Aside0 (l.length ≤ i) := ⟨by
        have h := decv_lt i (s.data.toList.take i) (by simp; omega) (fun b hb => HDg.out b (List.mem_of_mem_take hb))
        exact nrm_length HV.out.1 (by rw [HV.out.2]; exact h.2)⟩
      have hw1 : IntKind.u8.wrap ((s[i].toNat : Int) - 48) = (s[i].toNat : Int) - 48 := by rw [IntKind.wrap_u8]; omega
      have hw2 : IntKind.u32.wrap ((s[i].toNat : Int) - 48) = (s[i].toNat : Int) - 48 := by rw [IntKind.wrap_u32]; omega
      have HSN := Aside0.mk (bytes_take_succ s i hlt)
      have HDB : Aside0 (0 ≤ (s[i].toNat : Int) - 48 ∧ (s[i].toNat : Int) - 48 < 4294967296) := ⟨by omega⟩
      have hi0 : (0 : Int) ≤ (i : Int) := by omega
      have hi1 : (i : Int) < (s.size : Int) := by omega
      have HLL : Aside0 (∀ r2, Nrm r2 → val r2 = val l * 10 → r2.length ≤ i + 1) := ⟨fun r2 h2 hv2 => by
        have h := decv_lt i (s.data.toList.take i) (by simp; omega) (fun b hb => HDg.out b (List.mem_of_mem_take hb))
        refine nrm_length h2 ?_
        rw [hv2, HV.out.2, Int.pow_succ]
        omega⟩
      obtain ⟨k1, rfl⟩ : ∃ k1, gk = k1 + 1 := ⟨gk - 1, by have := HK.out; omega⟩
      go_wp2_with fail
      go_region_held3 (fun _ => True) (trivial) ((first
        | (go_at_call 52; (refine (mul_one_calls A _ c l 10 _ (by exact Kd.C_below HC4.out.1 (by repeat (first | exact Below.refl _ _ | apply below_alloc | apply below_drew | apply pw_below_drewN))) HC4.out.2 (by simp) HV.out.1.1 (by decide) (by have := HLEN.out; omega)).mono ?_); rintro e w2 ⟨v2, r2, rfl, hf2, hn2, hv2, hb2⟩; obtain ⟨A2, c2, rfl⟩ := Kd.V_slice hf2; have HF2 := Aside0.mk (nat_step (by repeat (first | exact HB.out | apply below_alloc | apply below_drew | apply pw_below_drewN)) hf2 hb2); have HN2 := Aside0.mk hn2; have HV2 := Aside0.mk hv2; have HB2 := Aside0.mk hb2; clear hf2 hn2 hv2 hb2)
        | (go_at_call 51; (refine (add_one_calls A2 _ c2 r2 ((s[i].toNat : Int) - 48) _ (by exact Kd.C_below (Kd.V_reads' HF2.out.1).2.2 (by repeat (first | exact Below.refl _ _ | apply below_alloc | apply below_drew | apply pw_below_drewN))) (Kd.V_reads' HF2.out.1).2.1 (by first | (simp; done) | (exact (HB2.out.cell (by simp <;> omega)).trans (by simp))) HN2.out.1 HDB.out (by have := HLL.out r2 HN2.out HV2.out; omega)).mono ?_); rintro e w3 ⟨v3, r3, rfl, hf3, hn3, hv3, hb3⟩; obtain ⟨A3, c3, rfl⟩ := Kd.V_slice hf3; have HF3 := Aside0.mk (nat_step (by repeat (first | exact HF2.out.2 | apply below_alloc | apply below_drew | apply pw_below_drewN)) hf3 hb3); have HN3 := Aside0.mk hn3; have HV3 := Aside0.mk hv3; clear hf3 hn3 hv3 hb3)))
      all_goals
        go_wp2_with fail
        go_roundg k1
        case measure => omega
        case rel => exact ⟨i + 1, A3, c3, r3, rfl, by go_num, ⟨by have := HK.out; omega⟩, ⟨HF3.out.1⟩, ⟨HN3.out, by rw [HV3.out, HV2.out, HV.out.2, HSN.out, decv_snoc]; omega⟩, ⟨HF3.out.2⟩⟩
    · obtain rfl : i = s.size := by have := HK.out; omega
      have HVV : Aside0 (val l = decv s.data.toList) := ⟨by rw [HV.out.2, List.take_of_length_le (by simp)]⟩
      by_cases h1s : s.size = 1
      · have hd1 : decide (1 < (s.size : Int)) = false := decide_eq_false (by omega)
        clear h1s
        go_wp2_with fail
        go_ret2
        exact ⟨_, l, rfl, HF.out, HV.out.1, HVV.out, HB.out⟩
      · have hd1 : decide (1 < (s.size : Int)) = true := decide_eq_true (by omega)
        have hz0 : ((s[0].toNat : Int) == 48) = false := by
          rw [beq_eq_false_iff_ne]
          have h3 := HZ.out.resolve_left h1s
          have h4 : s.data.toList.getD 0 0 = s[0] := by
            rw [List.getD_eq_getElem?_getD, List.getElem?_eq_getElem (by simpa using h0), ← bytes_get s 0 h0]; rfl
          rw [h4] at h3
          omega
        have hzz : (0 : Int) < (s.size : Int) := by omega
        clear h1s
        go_wp2_with fail
        go_ret2
        exact ⟨_, l, rfl, HF.out, HV.out.1, HVV.out, HB.out⟩
end Go.Proofs.YtmnmmalffpimeaaDoor
