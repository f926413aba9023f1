/- edenlaw04.RuleSteps returns true whatever rule and words are handed in. (Part 3 of 3: Add, Mul, Cmp, Over, Bits, From, RParse, Parse, Awake4, StepsProof.) -/
import Derived.Deep.QuietTactic
import Derived.BigQuiet
import Derived.Laws.BitsLemmas
import Derived.Test.YtefhlonipglboaaDoorShelf
import Derived.Lib.ItoaNum
import Derived.Deep.RegionHeld3
import Derived.Test.YtefhlonipglboaaDoorCards
import Derived.Test.YtefhlonipglboaaDoorTie
import Derived.SevenTiedAt
import Derived.Test.YtefhlonipglboaaDoorBRuleSteps2
/- What nat.Add computes: the sum of two numbers, normal. -/
namespace Go.Proofs.YtefhlonipglboaaDoor
open Go.RowKit Go.Proofs.YtefhlonipglboaaDoorW.PrintWords Go.Proofs.YtefhlonipglboaaDoorW.PrintLast Go.Proofs.YtefhlonipglboaaDoorW.PrintMore
set_option linter.unusedVariables false
set_option linter.unusedSimpArgs false

/-- after i rounds: the digits so far, and the carry -/
def AddInv (l0 l1 : List Int) (i : Nat) (c : Int) (s : List Int) : Prop :=
  i ≤ l0.length ∧ s.length = i ∧ Limbs s ∧ 0 ≤ c ∧ c ≤ 1 ∧ val s + 4294967296 ^ i * c = val (l0.take i) + val (l1.take i)
def limb (l : List Int) (i : Nat) : Int := if i < l.length then rd l (i : Int) else 0
theorem rd_nat (l : List Int) (i : Nat) : rd l (i : Int) = l.getD i 0 := by simp [rd]
theorem limb_eq (l : List Int) (i : Nat) : limb l i = l.getD i 0 := by
  unfold limb
  split
  · exact rd_nat l i
  · rename_i h
    rw [List.getD_eq_getElem?_getD, List.getElem?_eq_none (by omega)]; rfl
theorem val_take_limb (l : List Int) (i : Nat) : val (l.take (i + 1)) = val (l.take i) + 4294967296 ^ i * limb l i := by
  by_cases h : i < l.length
  · rw [val_take_succ l i h, limb_eq]
  · rw [List.take_of_length_le (by omega), List.take_of_length_le (by omega)]
    simp [limb, h]
theorem AddInv.step {l0 l1 : List Int} {i : Nat} {c : Int} {s : List Int} (h : AddInv l0 l1 i c s) (hi : i < l0.length) (h0 : Limbs l0) (h1 : Limbs l1) :
    AddInv l0 l1 (i + 1) ((limb l0 i + limb l1 i + c) / 4294967296) (s ++ [(limb l0 i + limb l1 i + c) % 4294967296]) := by
  obtain ⟨a1, a2, a3, a4, a5, a6⟩ := h
  have b0 := h0.getD i
  have b1 := h1.getD i
  rw [← limb_eq] at b0 b1
  refine ⟨by omega, by simp [a2], a3.append (Limbs.cons ⟨by omega, by omega⟩ Limbs.nil), by omega, by omega, ?_⟩
  rw [val_snoc, a2, val_take_limb, val_take_limb, Int.pow_succ]
  have e : limb l0 i + limb l1 i + c = (limb l0 i + limb l1 i + c) % 4294967296 + 4294967296 * ((limb l0 i + limb l1 i + c) / 4294967296) := by omega
  generalize (limb l0 i + limb l1 i + c) / 4294967296 = q at *
  generalize (limb l0 i + limb l1 i + c) % 4294967296 = m at *
  generalize (4294967296 : Int) ^ i = p at *
  grind
theorem AddInv.done {l0 l1 : List Int} {c : Int} {s : List Int} (h : AddInv l0 l1 l0.length c s) (hge : l1.length ≤ l0.length) : val (s ++ [c]) = val l0 + val l1 ∧ Limbs (s ++ [c]) := by
  obtain ⟨a1, a2, a3, a4, a5, a6⟩ := h
  rw [List.take_length, List.take_of_length_le hge] at a6
  exact ⟨by rw [val_snoc, a2, a6], a3.append (Limbs.cons ⟨a4, by omega⟩ Limbs.nil)⟩
theorem set_zeros (s : List Int) (n : Nat) (x : Int) (i : Nat) (hi : s.length = i) (hn : 0 < n) : (s ++ List.replicate n 0).set i x = (s ++ [x]) ++ List.replicate (n - 1) 0 := by
  obtain ⟨m, rfl⟩ : ∃ m, n = m + 1 := ⟨n - 1, by omega⟩
  rw [List.set_append_right _ _ (by omega), List.replicate_succ, hi]
  simp

set_option maxHeartbeats 8000000 in
set_option maxRecDepth 100000 in
theorem add_ge (A0 A1 : Option Addr) (c0 c1 : Nat) (l0 l1 : List Int) (w : World) (hr0 : Kd.C (Kd.int .u32) w A0 l0.length l0) (hc0 : l0.length ≤ c0) (hr1 : Kd.C (Kd.int .u32) w A1 l1.length l1) (hc1 : l1.length ≤ c1)
    (hL0 : Limbs l0) (hL1 : Limbs l1) (hm : l0.length + 1 ≤ 70368744177664) (hge : l1.length ≤ l0.length) :
    Calls Tryd.prog 89 #[.slice A0 l0.length c0, .slice A1 l1.length c1] w (NatRes w (val l0 + val l1)) := by
  have HR0 := Aside0.mk hr0
  have HC0 := Aside0.mk hc0
  have HR1 := Aside0.mk hr1
  have HC1 := Aside0.mk hc1
  have HL0 := Aside0.mk hL0
  have HL1 := Aside0.mk hL1
  have HM := Aside0.mk hm
  have hd : decide (l0.length < l1.length) = false := decide_eq_false (by omega)
  obtain ⟨n1, hn1⟩ : ∃ n1 : Int, IntKind.i64.wrap ((l0.length : Int) + 1) = n1 := ⟨_, rfl⟩
  have hn1' : n1 = (l0.length : Int) + 1 := by rw [← hn1]; exact IntWalk.i64_in _ (by omega)
  have HN1 := Aside0.mk hn1'
  have p0 : 0 ≤ n1 := by omega
  have P0 := Aside0.mk p0
  have HB := Aside0.mk (Below.refl w.heap.size w)
  clear hr0 hc0 hr1 hc1 hL0 hL1 hm hn1' p0
  go_enter Tryd.func89, Tryd.ntmps89
  go_wp2_with (first | ((with_reducible refine gate_dst (N := 20) rfl ?_); refine Kd.R_make (Kd.int .u32) _ 152 rfl (N := 20) rfl 78 _ _ rfl n1 rfl rfl Tryd.underlying78 (.int .u32 0) 4 info_u32 rfl (by decide) (by omega) 0 (ok := fun _ => True) (okp := fun _ => True) rfl (fun _ hk => hk) trivial P0.out (by have := HM.out; have := HN1.out; omega) HB.out (Nat.le_refl _) ?_; intro vo w1 ho hb hg_ hnew_; clear hg_ hnew_ HB; have HB := Aside0.mk hb; have HO := Aside0.mk ho; clear hb ho))
  obtain ⟨n2, hn2⟩ : ∃ n2 : Nat, n2 = n1.toNat := ⟨_, rfl⟩
  have hn2' : n2 = l0.length + 1 := by have := HN1.out; omega
  rw [← hn2] at HO
  clear hn2
  subst hn2'
  clear hd
  obtain ⟨g, co, eo, gb, gl, cl, HG⟩ := Kd.R_form HO.out (by simp)
  rw [List.length_replicate] at eo
  subst eo
  have GB := Aside0.mk gb
  clear gb gl cl HG hn1
  go_loopg [6, 23] (l0.length + 1) (fun kq v6 v23 w' => ∃ (i : Nat) (c : Int) (s : List Int), v6 = .int .u32 c ∧ v23 = .int .i64 i ∧ Aside0 (AddInv l0 l1 i c s) ∧ Aside0 (kq + i = l0.length + 1) ∧ Aside0 (Kd.R (Kd.int .u32) 152 w' w.heap.size (fun _ => True) (.slice (some ⟨g, 0, none⟩) (l0.length + 1) co) (s ++ List.replicate (l0.length + 1 - i) 0)) ∧ Aside0 (Below w.heap.size w w'))
  case atStart => exact ⟨0, 0, [], rfl, rfl, ⟨⟨Nat.zero_le _, rfl, Limbs.nil, by decide, by decide, by simp [val]⟩⟩, ⟨rfl⟩, ⟨by simpa using HO.out⟩, HB⟩
  case round =>
    clear HO HB
    obtain ⟨i, c, s, rfl, rfl, HA, HK, HO, HB⟩ := hrel
    by_cases hlt : i < l0.length
    · obtain ⟨k1, rfl⟩ : ∃ k1, gk = k1 + 1 := ⟨gk - 1, by have := HK.out; omega⟩
      obtain ⟨ad0, e0, hx0⟩ := Kd.at_int HR0.out (i : Int) (by omega) (by omega)
      cases e0
      replace hx0 := (HB.out.cell (World.block_lt_of_cell? w _ hx0)).trans hx0
      simp only [Int.toNat_natCast] at hx0
      have hib : i < 9223372036854775807 := by have := HM.out; omega
      have BX := Aside0.mk (HL0.out.getD i)
      have BY := Aside0.mk (HL1.out.getD i)
      have BC : Aside0 (0 ≤ c ∧ c ≤ 1) := ⟨⟨HA.out.2.2.2.1, HA.out.2.2.2.2.1⟩⟩
      have HS := Aside0.mk (HA.out.step hlt HL0.out HL1.out)
      have hrep := set_zeros s (l0.length + 1 - i) ((limb l0 i + limb l1 i + c) % 4294967296) i HA.out.2.1 (by omega)
      have HX : Aside0 (limb l0 i = rd l0 (i : Int)) := ⟨by rw [limb, if_pos hlt]⟩
      by_cases hl1 : i < l1.length
      · obtain ⟨ad1, e1, hx1⟩ := Kd.at_int HR1.out (i : Int) (by omega) (by omega)
        cases e1
        replace hx1 := (HB.out.cell (World.block_lt_of_cell? w _ hx1)).trans hx1
        simp only [Int.toNat_natCast] at hx1
        have hl1b : decide (i < l1.length) = true := decide_eq_true hl1
        have HY : Aside0 (limb l1 i = rd l1 (i : Int)) := ⟨by rw [limb, if_pos hl1]⟩
        have HE : Aside0 ((limb l0 i + limb l1 i + c) % 4294967296 = ((rd l0 (i : Int) + rd l1 (i : Int) + c) % 4294967296)) := ⟨by rw [HX.out, HY.out]⟩
        have HPP : Aside0 (Kd.R (Kd.int .u32) 152 (wr.setCell ⟨g, i, none⟩ (.int .u32 ((rd l0 (i : Int) + rd l1 (i : Int) + c) % 4294967296))) w.heap.size (fun _ => True) (.slice (some ⟨g, 0, none⟩) (l0.length + 1) co) ((s ++ [(limb l0 i + limb l1 i + c) % 4294967296]) ++ List.replicate (l0.length + 1 - i - 1) 0)) :=
          ⟨by have h := (Kd.R_putg HO.out (i : Int) ((limb l0 i + limb l1 i + c) % 4294967296)).1; rw [Int.toNat_natCast, hrep] at h; rw [← HE.out]; exact h⟩
        obtain ⟨hc, hf⟩ := Kd.R_celln 0 HO.out (i : Int) (by omega) (by omega)
        rw [Int.toNat_natCast] at hc hf
        have HBS := Aside0.mk (fun v => below_set (g := g) (j := i) HB.out GB.out (v := v))
        clear hrep
        go_wp2_with (go_at_call 150; refine (add32_calls _ _ _ _ (by have := BX.out; rw [rd_nat]; omega) (by have := BX.out; rw [rd_nat]; omega) (by have := BY.out; rw [rd_nat]; omega) (by have := BY.out; rw [rd_nat]; omega) BC.out.1 BC.out.2).mono ?_; rintro e w' ⟨rfl, rfl⟩)
        go_roundg k1
        case measure => omega
        case rel => exact ⟨i + 1, _, _, by rw [HX.out, HY.out], by go_num, HS, ⟨by have := HK.out; omega⟩, ⟨by rw [show l0.length + 1 - (i + 1) = l0.length + 1 - i - 1 by omega]; exact HPP.out⟩, ⟨HBS.out _⟩⟩
      · have hl1b : decide (i < l1.length) = false := decide_eq_false hl1
        have HY : Aside0 (limb l1 i = 0) := ⟨by rw [limb, if_neg hl1]⟩
        have HE : Aside0 ((limb l0 i + limb l1 i + c) % 4294967296 = ((rd l0 (i : Int) + c) % 4294967296)) := ⟨by rw [HX.out, HY.out, Int.add_zero]⟩
        have HPP : Aside0 (Kd.R (Kd.int .u32) 152 (wr.setCell ⟨g, i, none⟩ (.int .u32 ((rd l0 (i : Int) + c) % 4294967296))) w.heap.size (fun _ => True) (.slice (some ⟨g, 0, none⟩) (l0.length + 1) co) ((s ++ [(limb l0 i + limb l1 i + c) % 4294967296]) ++ List.replicate (l0.length + 1 - i - 1) 0)) :=
          ⟨by have h := (Kd.R_putg HO.out (i : Int) ((limb l0 i + limb l1 i + c) % 4294967296)).1; rw [Int.toNat_natCast, hrep] at h; rw [← HE.out]; exact h⟩
        obtain ⟨hc, hf⟩ := Kd.R_celln 0 HO.out (i : Int) (by omega) (by omega)
        rw [Int.toNat_natCast] at hc hf
        have HBS := Aside0.mk (fun v => below_set (g := g) (j := i) HB.out GB.out (v := v))
        clear hrep
        go_wp2_with (go_at_call 150; refine (add32_calls _ _ _ _ (by have := BX.out; rw [rd_nat]; omega) (by have := BX.out; rw [rd_nat]; omega) (by have := BY.out; omega) (by have := BY.out; omega) BC.out.1 BC.out.2).mono ?_; rintro e w' ⟨rfl, rfl⟩)
        go_roundg k1
        case measure => omega
        case rel => exact ⟨i + 1, _, _, by rw [HX.out, HY.out, Int.add_zero], by go_num, HS, ⟨by have := HK.out; omega⟩, ⟨by rw [show l0.length + 1 - (i + 1) = l0.length + 1 - i - 1 by omega]; exact HPP.out⟩, ⟨HBS.out _⟩⟩
    · obtain rfl : i = l0.length := by have := HA.out.1; omega
      have hib : l0.length < 9223372036854775807 := by have := HM.out; omega
      have hrep := set_zeros s (l0.length + 1 - l0.length) c l0.length HA.out.2.1 (by omega)
      have hz : l0.length + 1 - l0.length - 1 = 0 := by omega
      rw [hz, List.replicate_zero, List.append_nil] at hrep
      have hd2 := HA.out.done hge
      have hl2 : (s ++ [c]).length = l0.length + 1 := by rw [List.length_append, HA.out.2.1]; rfl
      have HPP : Aside0 (Kd.R (Kd.int .u32) 152 (wr.setCell ⟨g, l0.length, none⟩ (.int .u32 c)) w.heap.size (fun _ => True) (.slice (some ⟨g, 0, none⟩) (l0.length + 1) co) (s ++ [c])) :=
        ⟨by have h := (Kd.R_putg HO.out (l0.length : Int) c).1; rw [Int.toNat_natCast, hrep] at h; exact h⟩
      obtain ⟨hc, hf⟩ := Kd.R_celln 0 HO.out (l0.length : Int) (by omega) (by omega)
      rw [Int.toNat_natCast] at hc hf
      have HBS := Aside0.mk (below_set (g := g) (j := l0.length) HB.out GB.out (v := .int .u32 c))
      have HD2 := Aside0.mk hd2
      obtain ⟨t, ht⟩ : ∃ t, t = s ++ [c] := ⟨_, rfl⟩
      rw [← ht] at HPP HD2 hl2
      have HRR := Aside0.mk (Kd.R_reads' HPP.out)
      have HL2 := Aside0.mk hl2
      clear hrep hz hd2 ht hl2 hge
      go_wp2_with (go_at_call 101; (refine calls_of_args ?_ ((norm_calls (some ⟨g, 0, none⟩) co t _ HRR.out.2.2 (by have := HRR.out; omega)).mono ?_)); (case refine_1 => rw [HL2.out]); rintro e w' ⟨rfl, rfl⟩)
      go_ret
      exact ⟨_, trim t, rfl, (FrN.of_R HPP.out GB.out).trimmed, trim_nrm HD2.out.2, by rw [trim_val]; exact HD2.out.1, HBS.out⟩

set_option maxHeartbeats 8000000 in
set_option maxRecDepth 100000 in
theorem add_lt (A0 A1 : Option Addr) (c0 c1 : Nat) (l0 l1 : List Int) (w : World) (hr0 : Kd.C (Kd.int .u32) w A0 l0.length l0) (hc0 : l0.length ≤ c0) (hr1 : Kd.C (Kd.int .u32) w A1 l1.length l1) (hc1 : l1.length ≤ c1)
    (hL0 : Limbs l0) (hL1 : Limbs l1) (hm : l0.length + 1 ≤ 70368744177664) (hge' : l1.length < l0.length) :
    Calls Tryd.prog 89 #[.slice A1 l1.length c1, .slice A0 l0.length c0] w (NatRes w (val l0 + val l1)) := by
  have HR0 := Aside0.mk hr0
  have HC0 := Aside0.mk hc0
  have HR1 := Aside0.mk hr1
  have HC1 := Aside0.mk hc1
  have HL0 := Aside0.mk hL0
  have HL1 := Aside0.mk hL1
  have HM := Aside0.mk hm
  have hge : l1.length ≤ l0.length := by omega
  have hd : decide (l1.length < l0.length) = true := decide_eq_true hge'
  clear hge'
  obtain ⟨n1, hn1⟩ : ∃ n1 : Int, IntKind.i64.wrap ((l0.length : Int) + 1) = n1 := ⟨_, rfl⟩
  have hn1' : n1 = (l0.length : Int) + 1 := by rw [← hn1]; exact IntWalk.i64_in _ (by omega)
  have HN1 := Aside0.mk hn1'
  have p0 : 0 ≤ n1 := by omega
  have P0 := Aside0.mk p0
  have HB := Aside0.mk (Below.refl w.heap.size w)
  clear hr0 hc0 hr1 hc1 hL0 hL1 hm hn1' p0
  go_enter Tryd.func89, Tryd.ntmps89
  go_wp2_with (first | ((with_reducible refine gate_dst (N := 20) rfl ?_); refine Kd.R_make (Kd.int .u32) _ 152 rfl (N := 20) rfl 78 _ _ rfl n1 rfl rfl Tryd.underlying78 (.int .u32 0) 4 info_u32 rfl (by decide) (by omega) 0 (ok := fun _ => True) (okp := fun _ => True) rfl (fun _ hk => hk) trivial P0.out (by have := HM.out; have := HN1.out; omega) HB.out (Nat.le_refl _) ?_; intro vo w1 ho hb hg_ hnew_; clear hg_ hnew_ HB; have HB := Aside0.mk hb; have HO := Aside0.mk ho; clear hb ho))
  obtain ⟨n2, hn2⟩ : ∃ n2 : Nat, n2 = n1.toNat := ⟨_, rfl⟩
  have hn2' : n2 = l0.length + 1 := by have := HN1.out; omega
  rw [← hn2] at HO
  clear hn2
  subst hn2'
  clear hd
  obtain ⟨g, co, eo, gb, gl, cl, HG⟩ := Kd.R_form HO.out (by simp)
  rw [List.length_replicate] at eo
  subst eo
  have GB := Aside0.mk gb
  clear gb gl cl HG hn1
  go_loopg [6, 23] (l0.length + 1) (fun kq v6 v23 w' => ∃ (i : Nat) (c : Int) (s : List Int), v6 = .int .u32 c ∧ v23 = .int .i64 i ∧ Aside0 (AddInv l0 l1 i c s) ∧ Aside0 (kq + i = l0.length + 1) ∧ Aside0 (Kd.R (Kd.int .u32) 152 w' w.heap.size (fun _ => True) (.slice (some ⟨g, 0, none⟩) (l0.length + 1) co) (s ++ List.replicate (l0.length + 1 - i) 0)) ∧ Aside0 (Below w.heap.size w w'))
  case atStart => exact ⟨0, 0, [], rfl, rfl, ⟨⟨Nat.zero_le _, rfl, Limbs.nil, by decide, by decide, by simp [val]⟩⟩, ⟨rfl⟩, ⟨by simpa using HO.out⟩, HB⟩
  case round =>
    clear HO HB
    obtain ⟨i, c, s, rfl, rfl, HA, HK, HO, HB⟩ := hrel
    by_cases hlt : i < l0.length
    · obtain ⟨k1, rfl⟩ : ∃ k1, gk = k1 + 1 := ⟨gk - 1, by have := HK.out; omega⟩
      obtain ⟨ad0, e0, hx0⟩ := Kd.at_int HR0.out (i : Int) (by omega) (by omega)
      cases e0
      replace hx0 := (HB.out.cell (World.block_lt_of_cell? w _ hx0)).trans hx0
      simp only [Int.toNat_natCast] at hx0
      have hib : i < 9223372036854775807 := by have := HM.out; omega
      have BX := Aside0.mk (HL0.out.getD i)
      have BY := Aside0.mk (HL1.out.getD i)
      have BC : Aside0 (0 ≤ c ∧ c ≤ 1) := ⟨⟨HA.out.2.2.2.1, HA.out.2.2.2.2.1⟩⟩
      have HS := Aside0.mk (HA.out.step hlt HL0.out HL1.out)
      have hrep := set_zeros s (l0.length + 1 - i) ((limb l0 i + limb l1 i + c) % 4294967296) i HA.out.2.1 (by omega)
      have HX : Aside0 (limb l0 i = rd l0 (i : Int)) := ⟨by rw [limb, if_pos hlt]⟩
      by_cases hl1 : i < l1.length
      · obtain ⟨ad1, e1, hx1⟩ := Kd.at_int HR1.out (i : Int) (by omega) (by omega)
        cases e1
        replace hx1 := (HB.out.cell (World.block_lt_of_cell? w _ hx1)).trans hx1
        simp only [Int.toNat_natCast] at hx1
        have hl1b : decide (i < l1.length) = true := decide_eq_true hl1
        have HY : Aside0 (limb l1 i = rd l1 (i : Int)) := ⟨by rw [limb, if_pos hl1]⟩
        have HE : Aside0 ((limb l0 i + limb l1 i + c) % 4294967296 = ((rd l0 (i : Int) + rd l1 (i : Int) + c) % 4294967296)) := ⟨by rw [HX.out, HY.out]⟩
        have HPP : Aside0 (Kd.R (Kd.int .u32) 152 (wr.setCell ⟨g, i, none⟩ (.int .u32 ((rd l0 (i : Int) + rd l1 (i : Int) + c) % 4294967296))) w.heap.size (fun _ => True) (.slice (some ⟨g, 0, none⟩) (l0.length + 1) co) ((s ++ [(limb l0 i + limb l1 i + c) % 4294967296]) ++ List.replicate (l0.length + 1 - i - 1) 0)) :=
          ⟨by have h := (Kd.R_putg HO.out (i : Int) ((limb l0 i + limb l1 i + c) % 4294967296)).1; rw [Int.toNat_natCast, hrep] at h; rw [← HE.out]; exact h⟩
        obtain ⟨hc, hf⟩ := Kd.R_celln 0 HO.out (i : Int) (by omega) (by omega)
        rw [Int.toNat_natCast] at hc hf
        have HBS := Aside0.mk (fun v => below_set (g := g) (j := i) HB.out GB.out (v := v))
        clear hrep
        go_wp2_with (go_at_call 150; refine (add32_calls _ _ _ _ (by have := BX.out; rw [rd_nat]; omega) (by have := BX.out; rw [rd_nat]; omega) (by have := BY.out; rw [rd_nat]; omega) (by have := BY.out; rw [rd_nat]; omega) BC.out.1 BC.out.2).mono ?_; rintro e w' ⟨rfl, rfl⟩)
        go_roundg k1
        case measure => omega
        case rel => exact ⟨i + 1, _, _, by rw [HX.out, HY.out], by go_num, HS, ⟨by have := HK.out; omega⟩, ⟨by rw [show l0.length + 1 - (i + 1) = l0.length + 1 - i - 1 by omega]; exact HPP.out⟩, ⟨HBS.out _⟩⟩
      · have hl1b : decide (i < l1.length) = false := decide_eq_false hl1
        have HY : Aside0 (limb l1 i = 0) := ⟨by rw [limb, if_neg hl1]⟩
        have HE : Aside0 ((limb l0 i + limb l1 i + c) % 4294967296 = ((rd l0 (i : Int) + c) % 4294967296)) := ⟨by rw [HX.out, HY.out, Int.add_zero]⟩
        have HPP : Aside0 (Kd.R (Kd.int .u32) 152 (wr.setCell ⟨g, i, none⟩ (.int .u32 ((rd l0 (i : Int) + c) % 4294967296))) w.heap.size (fun _ => True) (.slice (some ⟨g, 0, none⟩) (l0.length + 1) co) ((s ++ [(limb l0 i + limb l1 i + c) % 4294967296]) ++ List.replicate (l0.length + 1 - i - 1) 0)) :=
          ⟨by have h := (Kd.R_putg HO.out (i : Int) ((limb l0 i + limb l1 i + c) % 4294967296)).1; rw [Int.toNat_natCast, hrep] at h; rw [← HE.out]; exact h⟩
        obtain ⟨hc, hf⟩ := Kd.R_celln 0 HO.out (i : Int) (by omega) (by omega)
        rw [Int.toNat_natCast] at hc hf
        have HBS := Aside0.mk (fun v => below_set (g := g) (j := i) HB.out GB.out (v := v))
        clear hrep
        go_wp2_with (go_at_call 150; refine (add32_calls _ _ _ _ (by have := BX.out; rw [rd_nat]; omega) (by have := BX.out; rw [rd_nat]; omega) (by have := BY.out; omega) (by have := BY.out; omega) BC.out.1 BC.out.2).mono ?_; rintro e w' ⟨rfl, rfl⟩)
        go_roundg k1
        case measure => omega
        case rel => exact ⟨i + 1, _, _, by rw [HX.out, HY.out, Int.add_zero], by go_num, HS, ⟨by have := HK.out; omega⟩, ⟨by rw [show l0.length + 1 - (i + 1) = l0.length + 1 - i - 1 by omega]; exact HPP.out⟩, ⟨HBS.out _⟩⟩
    · obtain rfl : i = l0.length := by have := HA.out.1; omega
      have hib : l0.length < 9223372036854775807 := by have := HM.out; omega
      have hrep := set_zeros s (l0.length + 1 - l0.length) c l0.length HA.out.2.1 (by omega)
      have hz : l0.length + 1 - l0.length - 1 = 0 := by omega
      rw [hz, List.replicate_zero, List.append_nil] at hrep
      have hd2 := HA.out.done hge
      have hl2 : (s ++ [c]).length = l0.length + 1 := by rw [List.length_append, HA.out.2.1]; rfl
      have HPP : Aside0 (Kd.R (Kd.int .u32) 152 (wr.setCell ⟨g, l0.length, none⟩ (.int .u32 c)) w.heap.size (fun _ => True) (.slice (some ⟨g, 0, none⟩) (l0.length + 1) co) (s ++ [c])) :=
        ⟨by have h := (Kd.R_putg HO.out (l0.length : Int) c).1; rw [Int.toNat_natCast, hrep] at h; exact h⟩
      obtain ⟨hc, hf⟩ := Kd.R_celln 0 HO.out (l0.length : Int) (by omega) (by omega)
      rw [Int.toNat_natCast] at hc hf
      have HBS := Aside0.mk (below_set (g := g) (j := l0.length) HB.out GB.out (v := .int .u32 c))
      have HD2 := Aside0.mk hd2
      obtain ⟨t, ht⟩ : ∃ t, t = s ++ [c] := ⟨_, rfl⟩
      rw [← ht] at HPP HD2 hl2
      have HRR := Aside0.mk (Kd.R_reads' HPP.out)
      have HL2 := Aside0.mk hl2
      clear hrep hz hd2 ht hl2 hge
      go_wp2_with (go_at_call 101; (refine calls_of_args ?_ ((norm_calls (some ⟨g, 0, none⟩) co t _ HRR.out.2.2 (by have := HRR.out; omega)).mono ?_)); (case refine_1 => rw [HL2.out]); rintro e w' ⟨rfl, rfl⟩)
      go_ret
      exact ⟨_, trim t, rfl, (FrN.of_R HPP.out GB.out).trimmed, trim_nrm HD2.out.2, by rw [trim_val]; exact HD2.out.1, HBS.out⟩

set_option maxHeartbeats 400000 in
theorem add_calls (A0 A1 : Option Addr) (c0 c1 : Nat) (l0 l1 : List Int) (w : World) (hr0 : Kd.C (Kd.int .u32) w A0 l0.length l0) (hc0 : l0.length ≤ c0) (hr1 : Kd.C (Kd.int .u32) w A1 l1.length l1) (hc1 : l1.length ≤ c1)
    (hL0 : Limbs l0) (hL1 : Limbs l1) (hm0 : l0.length + 1 ≤ 70368744177664) (hm1 : l1.length + 1 ≤ 70368744177664) :
    Calls Tryd.prog 89 #[.slice A0 l0.length c0, .slice A1 l1.length c1] w (NatRes w (val l0 + val l1)) := by
  by_cases h : l1.length ≤ l0.length
  · exact add_ge A0 A1 c0 c1 l0 l1 w hr0 hc0 hr1 hc1 hL0 hL1 hm0 h
  · rw [Int.add_comm]
    exact add_lt A1 A0 c1 c0 l1 l0 w hr1 hc1 hr0 hc0 hL1 hL0 hm1 (by omega)
end Go.Proofs.YtefhlonipglboaaDoor

/- What nat.Mul computes: the product of two numbers, normal. -/
namespace Go.Proofs.YtefhlonipglboaaDoor
open Go.RowKit Go.Proofs.YtefhlonipglboaaDoorW.PrintWords Go.Proofs.YtefhlonipglboaaDoorW.PrintLast Go.Proofs.YtefhlonipglboaaDoorW.PrintMore
set_option linter.unusedVariables false
set_option linter.unusedSimpArgs false

theorem val_set : ∀ (l : List Int) (i : Nat) (v : Int), i < l.length → val (l.set i v) = val l + 4294967296 ^ i * (v - l.getD i 0)
  | x :: xs, 0, v, _ => by simp [val]; omega
  | x :: xs, i + 1, v, h => by
    have ih := val_set xs i v (by simpa using h)
    simp only [List.set_cons_succ, val, ih, List.getD_cons_succ]
    rw [Int.pow_succ]; grind
theorem Limbs.set {l : List Int} (h : Limbs l) (i : Nat) {v : Int} (hv : 0 ≤ v ∧ v < 4294967296) : Limbs (l.set i v) := by
  intro x hx
  rcases List.mem_or_eq_of_mem_set hx with hx | rfl
  · exact h x hx
  · exact hv
theorem getD_set_ne_ (l : List Int) (i m : Nat) (v : Int) (h : i ≠ m) : (l.set i v).getD m 0 = l.getD m 0 := by
  rw [List.getD_eq_getElem?_getD, List.getD_eq_getElem?_getD, List.getElem?_set_ne h]

def MulInv (l0 l1 : List Int) (i : Nat) (o : List Int) : Prop :=
  i ≤ l0.length ∧ o.length = l0.length + l1.length ∧ Limbs o ∧ val o = val (l0.take i) * val l1 ∧ ∀ m, i + l1.length ≤ m → o.getD m 0 = 0
def MulIn (l0 l1 : List Int) (i : Nat) (o : List Int) (j : Nat) (c : Int) (o2 : List Int) : Prop :=
  j ≤ l1.length ∧ o2.length = l0.length + l1.length ∧ Limbs o2 ∧ 0 ≤ c ∧ c < 4294967296 ∧ val o2 + 4294967296 ^ (i + j) * c = val o + 4294967296 ^ i * (rd l0 (i : Int) * val (l1.take j)) ∧ ∀ m, i + l1.length ≤ m → o2.getD m 0 = 0
theorem MulInv.start (l0 l1 : List Int) : MulInv l0 l1 0 (List.replicate (l0.length + l1.length) 0) :=
  ⟨Nat.zero_le _, by simp, Limbs.replicate _, by rw [val_replicate]; simp [val], fun m _ => by
    rw [List.getD_eq_getElem?_getD, List.getElem?_replicate]
    split <;> rfl⟩
theorem MulInv.inner {l0 l1 o : List Int} {i : Nat} (h : MulInv l0 l1 i o) : MulIn l0 l1 i o 0 0 o :=
  ⟨Nat.zero_le _, h.2.1, h.2.2.1, by decide, by decide, by simp [val], h.2.2.2.2⟩
theorem mul_bd {x y : Int} (hx : 0 ≤ x ∧ x < 4294967296) (hy : 0 ≤ y ∧ y < 4294967296) : 0 ≤ x * y ∧ x * y ≤ 18446744065119617025 := by
  refine ⟨Int.mul_nonneg hx.1 hy.1, ?_⟩
  have := Int.mul_le_mul (show x ≤ 4294967295 by omega) (show y ≤ 4294967295 by omega) hy.1 (by omega)
  omega
theorem MulIn.step {l0 l1 o o2 : List Int} {i j : Nat} {c t : Int} (h : MulIn l0 l1 i o j c o2) (hi : i < l0.length) (hj : j < l1.length) (h0 : Limbs l0) (h1 : Limbs l1) (ht : t = rd l0 (i : Int) * rd l1 (j : Int) + rd o2 ((i + j : Nat) : Int) + c) :
    0 ≤ t ∧ t < 18446744073709551616 ∧ MulIn l0 l1 i o (j + 1) (t / 4294967296) (o2.set (i + j) (t % 4294967296)) := by
  obtain ⟨a1, a2, a3, a4, a5, a6, a7⟩ := h
  have b0 := h0.getD i
  have b1 := h1.getD j
  have b2 := a3.getD (i + j)
  rw [← rd_nat] at b0 b1 b2
  have hm := mul_bd b0 b1
  have hb : 0 ≤ t ∧ t < 18446744073709551616 := by omega
  refine ⟨hb.1, hb.2, by omega, by simp [a2], a3.set _ ⟨by omega, by omega⟩, by omega, by omega, ?_, fun m hm => ?_⟩
  · rw [val_set _ _ _ (by omega), val_take_succ l1 j hj, ← rd_nat, ← rd_nat l1 j]
    have e : t = t % 4294967296 + 4294967296 * (t / 4294967296) := by omega
    generalize t / 4294967296 = q at *
    generalize t % 4294967296 = r at *
    rw [show i + (j + 1) = (i + j) + 1 by omega, Int.pow_succ]
    have e2 : (4294967296 : Int) ^ (i + j) = 4294967296 ^ i * 4294967296 ^ j := Int.pow_add _ _ _
    generalize (4294967296 : Int) ^ (i + j) = p at *
    generalize (4294967296 : Int) ^ i = pi at *
    generalize (4294967296 : Int) ^ j = pj at *
    subst ht
    generalize rd l0 (i : Int) = x at *
    generalize rd l1 (j : Int) = y at *
    generalize rd o2 ((i + j : Nat) : Int) = z at *
    grind
  · rw [getD_set_ne_ _ _ _ _ (by omega)]
    exact a7 m hm
theorem MulIn.done {l0 l1 o o2 : List Int} {i : Nat} {c : Int} (h : MulIn l0 l1 i o l1.length c o2) (hI : MulInv l0 l1 i o) (hi : i < l0.length) :
    MulInv l0 l1 (i + 1) (o2.set (i + l1.length) (c % 4294967296)) := by
  obtain ⟨a1, a2, a3, a4, a5, a6, a7⟩ := h
  obtain ⟨b1, b2, b3, b4, b5⟩ := hI
  have hc : c % 4294967296 = c := by omega
  rw [hc]
  refine ⟨hi, by simp [a2], a3.set _ ⟨a4, a5⟩, ?_, fun m hm => ?_⟩
  · rw [val_set _ _ _ (by omega), a7 _ (Nat.le_refl _), val_take_succ l0 i hi, ← rd_nat]
    rw [List.take_length] at a6
    rw [b4] at a6
    generalize (4294967296 : Int) ^ (i + l1.length) = p at *
    generalize (4294967296 : Int) ^ i = pi at *
    generalize rd l0 (i : Int) = x at *
    generalize val (l0.take i) = u at *
    generalize val l1 = y at *
    grind
  · rw [getD_set_ne_ _ _ _ _ (by omega)]
    exact a7 m (by omega)

theorem FrN.of_R' {base : Nat} {w0 w : World} {ok : Nat → Prop} {A : Option Addr} {n c : Nat} {l : List Int} (h : Kd.R (Kd.int .u32) 152 w base ok (.slice A n c) l) (_hb : Below base w0 w) : FrN base w (.slice A n c) l :=
  Kd.V_mono (Kd.R_V (Kd.R_tight rfl h)) (fun k hk => Kd.R_base h k hk.symm)
theorem u64_in (x : Int) (h0 : 0 ≤ x) (h1 : x < 18446744073709551616) : IntKind.u64.wrap x = x := by
  simp [IntKind.wrap, IntKind.bits, IntKind.signed]
  omega
set_option maxHeartbeats 8000000 in
set_option maxRecDepth 100000 in
theorem mul_calls (A0 A1 : Option Addr) (c0 c1 : Nat) (l0 l1 : List Int) (w : World) (hr0 : Kd.C (Kd.int .u32) w A0 l0.length l0) (hc0 : l0.length ≤ c0) (hr1 : Kd.C (Kd.int .u32) w A1 l1.length l1) (hc1 : l1.length ≤ c1)
    (hL0 : Limbs l0) (hL1 : Limbs l1) (hm : l0.length + l1.length ≤ 70368744177664) :
    Calls Tryd.prog 90 #[.slice A0 l0.length c0, .slice A1 l1.length c1] w (NatRes w (val l0 * val l1)) := by
  have HR0 := Aside0.mk hr0
  have HC0 := Aside0.mk hc0
  have HR1 := Aside0.mk hr1
  have HC1 := Aside0.mk hc1
  have HL0 := Aside0.mk hL0
  have HL1 := Aside0.mk hL1
  have HM := Aside0.mk hm
  obtain ⟨n1, hn1⟩ : ∃ n1 : Int, IntKind.i64.wrap ((l0.length : Int) + (l1.length : Int)) = n1 := ⟨_, rfl⟩
  have hn1' : n1 = (l0.length : Int) + (l1.length : Int) := by rw [← hn1]; exact IntWalk.i64_in _ (by omega)
  have HN1 := Aside0.mk hn1'
  have p0 : 0 ≤ n1 := by omega
  have P0 := Aside0.mk p0
  have HB := Aside0.mk (Below.refl w.heap.size w)
  clear hr0 hc0 hr1 hc1 hL0 hL1 hm hn1' p0
  go_enter Tryd.func90, Tryd.ntmps90
  go_wp2_with (first | ((with_reducible refine gate_dst (N := 17) rfl ?_); refine Kd.R_make (Kd.int .u32) _ 152 rfl (N := 17) rfl 78 _ _ rfl n1 rfl rfl Tryd.underlying78 (.int .u32 0) 4 info_u32 rfl (by decide) (by omega) 0 (ok := fun _ => True) (okp := fun _ => True) rfl (fun _ hk => hk) trivial P0.out (by have := HM.out; have := HN1.out; omega) HB.out (Nat.le_refl _) ?_; intro vo w1 ho hb hg_ hnew_; clear hg_ hnew_ HB; have HB := Aside0.mk hb; have HO := Aside0.mk ho; clear hb ho))
  obtain ⟨n2, hn2⟩ : ∃ n2 : Nat, n2 = n1.toNat := ⟨_, rfl⟩
  have hn2' : n2 = l0.length + l1.length := by have := HN1.out; omega
  rw [← hn2] at HO
  clear hn2 hn1
  subst hn2'
  obtain ⟨Ao, co, eo⟩ := Kd.R_slice HO.out
  rw [List.length_replicate] at eo
  subst eo
  go_loopg [20] (l0.length + 1) (fun kq v20 w' => ∃ (i : Nat) (o : List Int), v20 = .int .i64 i ∧ Aside0 (MulInv l0 l1 i o) ∧ Aside0 (kq + i = l0.length + 1) ∧ Aside0 (Kd.R (Kd.int .u32) 152 w' w.heap.size (fun _ => True) (.slice Ao (l0.length + l1.length) co) o) ∧ Aside0 (Below w.heap.size w w'))
  case atStart => exact ⟨0, _, rfl, ⟨MulInv.start l0 l1⟩, ⟨rfl⟩, HO, HB⟩
  case round =>
    clear HO HB
    obtain ⟨i, o, rfl, HI, HK, HO, HB⟩ := hrel
    by_cases hlt : i < l0.length
    · obtain ⟨k1, rfl⟩ : ∃ k1, gk = k1 + 1 := ⟨gk - 1, by have := HK.out; omega⟩
      obtain ⟨ad0, e0, hx0⟩ := Kd.at_int HR0.out (i : Int) (by omega) (by omega)
      cases e0
      replace hx0 := (HB.out.cell (World.block_lt_of_cell? w _ hx0)).trans hx0
      simp only [Int.toNat_natCast] at hx0
      have hib : i + l1.length < 9223372036854775807 := by have := HM.out; omega
      obtain ⟨g, cq, eo, gb, gl, cl, HG⟩ := Kd.R_form HO.out (by have := HI.out.2.1; omega)
      injection eo with e1 e2 e3
      subst e1
      subst e3
      clear e2
      have GB := Aside0.mk gb
      clear gb gl cl HG
      go_wp2
      go_loopg [8, 27] (l1.length + 1) (fun kq v8 v27 w' => ∃ (j : Nat) (c : Int) (o2 : List Int), v8 = .int .u64 c ∧ v27 = .int .i64 j ∧ Aside0 (MulIn l0 l1 i o j c o2) ∧ Aside0 (kq + j = l1.length + 1) ∧ Aside0 (Kd.R (Kd.int .u32) 152 w' w.heap.size (fun _ => True) (.slice (some ⟨g, 0, none⟩) (l0.length + l1.length) co) o2) ∧ Aside0 (Below w.heap.size w w'))
      case atStart => exact ⟨0, 0, o, rfl, rfl, ⟨HI.out.inner⟩, ⟨rfl⟩, HO, HB⟩
      case round =>
        clear HO HB hx0
        obtain ⟨j, c, o2, rfl, rfl, HJ, HKJ, HO, HB⟩ := hrel
        by_cases hjt : j < l1.length
        · obtain ⟨k2, rfl⟩ : ∃ k2, gk = k2 + 1 := ⟨gk - 1, by have := HKJ.out; omega⟩
          obtain ⟨ad1, e1, hx1⟩ := Kd.at_int HR1.out (j : Int) (by omega) (by omega)
          cases e1
          replace hx1 := (HB.out.cell (World.block_lt_of_cell? w _ hx1)).trans hx1
          simp only [Int.toNat_natCast] at hx1
          have hst := HJ.out.step hlt hjt HL0.out HL1.out rfl
          have hbx := HL0.out.getD i
          have hby := HL1.out.getD j
          have hbz := HJ.out.2.2.1.getD (i + j)
          have hbc := And.intro HJ.out.2.2.2.1 HJ.out.2.2.2.2.1
          rw [← rd_nat] at hbx hby hbz
          have hmd := mul_bd hbx hby
          obtain ⟨hz, hzf⟩ := Kd.R_celln 0 HO.out ((i + j : Nat) : Int) (by omega) (by omega)
          rw [Int.toNat_natCast] at hz hzf
          have hz' : wr.cell? ⟨g, i + j, none⟩ = some (.int .u32 (rd o2 ((i + j : Nat) : Int))) := hz
          clear hz
          obtain ⟨y, hy⟩ : ∃ y, rd l1 (j : Int) = y := ⟨_, rfl⟩
          obtain ⟨z, hz⟩ : ∃ z, rd o2 ((i + j : Nat) : Int) = z := ⟨_, rfl⟩
          rw [hy, hz] at hst
          rw [hy] at hby hx1 hmd
          rw [hz] at hbz hz'
          clear hy hz
          have q1 : IntKind.u64.wrap (rd l0 (i : Int)) = rd l0 (i : Int) := u64_in _ hbx.1 (by omega)
          have q2 : IntKind.u64.wrap y = y := u64_in _ hby.1 (by omega)
          have q3 : IntKind.u64.wrap z = z := u64_in _ hbz.1 (by omega)
          have q4 : IntKind.u64.wrap (rd l0 (i : Int) * y) = rd l0 (i : Int) * y := u64_in _ hmd.1 (by omega)
          have q5 : IntKind.u64.wrap (rd l0 (i : Int) * y + z) = rd l0 (i : Int) * y + z := u64_in _ (by omega) (by omega)
          have q6 : IntKind.u64.wrap (rd l0 (i : Int) * y + z + c) = rd l0 (i : Int) * y + z + c := u64_in _ (by omega) (by omega)
          have HPP : Aside0 (Kd.R (Kd.int .u32) 152 (wr.setCell ⟨g, i + j, none⟩ (.int .u32 ((rd l0 (i : Int) * y + z + c) % 4294967296))) w.heap.size (fun _ => True) (.slice (some ⟨g, 0, none⟩) (l0.length + l1.length) co) (o2.set (i + j) ((rd l0 (i : Int) * y + z + c) % 4294967296))) :=
            ⟨by have h := (Kd.R_putg HO.out ((i + j : Nat) : Int) ((rd l0 (i : Int) * y + z + c) % 4294967296)).1; rw [Int.toNat_natCast] at h; exact h⟩
          have HBS := Aside0.mk (fun v => below_set (g := g) (j := i + j) HB.out GB.out (v := v))
          have HST := Aside0.mk hst.2.2
          have hq7 : (rd l0 (i : Int) * y + z + c) / 4294967296 % 4294967296 = (rd l0 (i : Int) * y + z + c) / 4294967296 := by have := hst.1; have := hst.2.1; omega
          have HQ := Aside0.mk hq7
          have hij : i + j < 9223372036854775807 := by omega
          clear hst hbx hby hbz hbc hmd hq7
          go_wp2_with fail
          go_roundg k2
          case measure => omega
          case rel => exact ⟨j + 1, _, _, by first | rfl | rw [HQ.out], by go_num, HST, ⟨by have := HKJ.out; omega⟩, HPP, ⟨HBS.out _⟩⟩
        · obtain rfl : j = l1.length := by have := HJ.out.1; omega
          have hxz := HJ.out.done HI.out hlt
          obtain ⟨hz, hzf⟩ := Kd.R_celln 0 HO.out ((i + l1.length : Nat) : Int) (by omega) (by omega)
          rw [Int.toNat_natCast] at hz hzf
          have HPP : Aside0 (Kd.R (Kd.int .u32) 152 (wr.setCell ⟨g, i + l1.length, none⟩ (.int .u32 (c % 4294967296))) w.heap.size (fun _ => True) (.slice (some ⟨g, 0, none⟩) (l0.length + l1.length) co) (o2.set (i + l1.length) (c % 4294967296))) :=
            ⟨by have h := (Kd.R_putg HO.out ((i + l1.length : Nat) : Int) (c % 4294967296)).1; rw [Int.toNat_natCast] at h; exact h⟩
          have HBS := Aside0.mk (fun v => below_set (g := g) (j := i + l1.length) HB.out GB.out (v := v))
          have HXZ := Aside0.mk hxz
          clear hxz
          go_wp2_with fail
          go_roundg k1
          case measure => omega
          case rel => exact ⟨i + 1, _, by go_num, HXZ, ⟨by have := HK.out; omega⟩, HPP, ⟨HBS.out _⟩⟩
    · obtain rfl : i = l0.length := by have := HI.out.1; omega
      have hrr := Kd.R_reads' HO.out
      have HRR := Aside0.mk hrr
      have hl2 := HI.out.2.1
      have HL2 := Aside0.mk hl2
      have hv := HI.out.2.2.2.1
      rw [List.take_length] at hv
      have HV := Aside0.mk hv
      clear hrr hl2 hv
      go_wp2_with (go_at_call 101; (refine calls_of_args ?_ ((norm_calls Ao co o _ HRR.out.2.2 (by have := HRR.out; omega)).mono ?_)); (case refine_1 => rw [HL2.out]); rintro e w' ⟨rfl, rfl⟩)
      go_ret
      exact ⟨_, trim o, rfl, (FrN.of_R' HO.out HB.out).trimmed, trim_nrm HI.out.2.2.1, by rw [trim_val]; exact HV.out, HB.out⟩
end Go.Proofs.YtefhlonipglboaaDoor

/- What nat.Cmp computes: -1, 0, 1, as the numbers are. -/
namespace Go.Proofs.YtefhlonipglboaaDoor
open Go.RowKit Go.Proofs.YtefhlonipglboaaDoorW.PrintWords Go.Proofs.YtefhlonipglboaaDoorW.PrintLast Go.Proofs.YtefhlonipglboaaDoorW.PrintMore
set_option linter.unusedVariables false
set_option linter.unusedSimpArgs false

/-- -1, 0, 1 -/
def cmpI (x y : Int) : Int := if x < y then -1 else if x = y then 0 else 1
theorem cmpI_lt {x y : Int} (h : x < y) : cmpI x y = -1 := by simp [cmpI, h]
theorem cmpI_gt {x y : Int} (h : y < x) : cmpI x y = 1 := by
  unfold cmpI
  rw [if_neg (by omega), if_neg (by omega)]
theorem cmpI_eq {x y : Int} (h : x = y) : cmpI x y = 0 := by simp [cmpI, h]
theorem Nrm.ge : ∀ {l : List Int}, Nrm l → l ≠ [] → 4294967296 ^ (l.length - 1) ≤ val l
  | [], _, h => absurd rfl h
  | [x], h, _ => by
    have h1 := h.1.head
    have := h.2
    simp only [Tip, val, List.length_cons, List.length_nil] at this ⊢
    simp
    omega
  | x :: y :: ys, h, _ => by
    have ih := Nrm.ge h.tail (by simp)
    have h1 := h.1.head
    simp only [List.length_cons, Nat.add_sub_cancel] at ih ⊢
    rw [Int.pow_succ]
    simp only [val] at ih ⊢
    omega
theorem pow_mono_ {m n : Nat} (h : m ≤ n) : (4294967296 : Int) ^ m ≤ 4294967296 ^ n := by
  obtain ⟨k, rfl⟩ := Nat.le.dest h
  rw [Int.pow_add]
  have h1 : (1 : Int) ≤ 4294967296 ^ k := Int.pow_pos (by decide)
  have h2 : (0 : Int) < 4294967296 ^ m := Int.pow_pos (by decide)
  have := Int.mul_le_mul_of_nonneg_left h1 (Int.le_of_lt h2)
  simpa using this
theorem val_lt_of_length {a b : List Int} (ha : Nrm a) (hb : Nrm b) (h : a.length < b.length) : val a < val b := by
  have h1 := val_lt ha.1
  have h2 := hb.ge (by intro e; subst e; simp at h)
  have h3 := pow_mono_ (show a.length ≤ b.length - 1 by omega)
  omega
theorem val_split (l : List Int) (i : Nat) (h : i < l.length) : val l = val (l.take i) + 4294967296 ^ i * (rd l (i : Int) + 4294967296 * val (l.drop (i + 1))) := by
  have h1 := val_append (l.take (i + 1)) (l.drop (i + 1))
  rw [List.take_append_drop, List.length_take, Nat.min_eq_left (by omega), val_take_succ l i h, ← rd_nat, Int.pow_succ] at h1
  rw [h1]; grind
theorem val_lt_at {a b : List Int} (ha : Limbs a) (hb : Limbs b) (i : Nat) (h1 : i < a.length) (h2 : i < b.length) (he : a.drop (i + 1) = b.drop (i + 1)) (hlt : rd a (i : Int) < rd b (i : Int)) : val a < val b := by
  rw [val_split a i h1, val_split b i h2, he]
  have h3 := val_lt (ha.take i)
  have h4 := val_nonneg (hb.take i)
  rw [List.length_take, Nat.min_eq_left (by omega)] at h3
  have hp : (0 : Int) < 4294967296 ^ i := Int.pow_pos (by decide)
  generalize (4294967296 : Int) ^ i = p at *
  generalize val (b.drop (i + 1)) = D at *
  obtain ⟨d, hd⟩ : ∃ d : Int, rd b (i : Int) = rd a (i : Int) + 1 + d := ⟨rd b (i : Int) - rd a (i : Int) - 1, by omega⟩
  have hd0 : 0 ≤ d := by omega
  rw [hd]
  have hpd := Int.mul_nonneg (Int.le_of_lt hp) hd0
  have e : p * (rd a (i : Int) + 1 + d + 4294967296 * D) = p * (rd a (i : Int) + 4294967296 * D) + p + p * d := by grind
  rw [e]
  omega

set_option maxHeartbeats 4000000 in
set_option maxRecDepth 100000 in
theorem cmp_calls (A0 A1 : Option Addr) (c0 c1 : Nat) (l0 l1 : List Int) (w : World) (hr0 : Kd.C (Kd.int .u32) w A0 l0.length l0) (hc0 : l0.length ≤ c0) (hr1 : Kd.C (Kd.int .u32) w A1 l1.length l1) (hc1 : l1.length ≤ c1)
    (hL0 : Limbs l0) (hL1 : Limbs l1) :
    Calls Tryd.prog 52 #[.slice A0 l0.length c0, .slice A1 l1.length c1] w fun e w' => e = .returned (.int .i64 (cmpI (val l0) (val l1))) ∧ Drawn0 w w' := by
  have HR0 := Aside0.mk hr0
  have HR1 := Aside0.mk hr1
  have HC0 := Aside0.mk hc0
  have HC1 := Aside0.mk hc1
  have ht0 := Kd.C_take (m := (trim l0).length) hr0 (trim_length_le l0)
  have ht1 := Kd.C_take (m := (trim l1).length) hr1 (trim_length_le l1)
  rw [trim_take] at ht0 ht1
  have HN0 := Aside0.mk (trim_nrm hL0)
  have HN1 := Aside0.mk (trim_nrm hL1)
  rw [← trim_val l0, ← trim_val l1]
  have hk0 : (trim l0).length ≤ c0 := Nat.le_trans (trim_length_le l0) hc0
  have hk1 : (trim l1).length ≤ c1 := Nat.le_trans (trim_length_le l1) hc1
  obtain ⟨t0, e0⟩ : ∃ t, trim l0 = t := ⟨_, rfl⟩
  obtain ⟨t1, e1⟩ : ∃ t, trim l1 = t := ⟨_, rfl⟩
  rw [e0] at ht0 hk0 HN0 ⊢
  rw [e1] at ht1 hk1 HN1 ⊢
  have E0 := Aside0.mk e0
  have E1 := Aside0.mk e1
  have HT0 := Aside0.mk ht0
  have HT1 := Aside0.mk ht1
  have hm0 := Kd.C_max ht0
  clear hr0 hr1 hc0 hc1 e0 e1 ht0 ht1 hL0 hL1
  have harm0 : Calls Tryd.prog 101 #[.slice A0 l0.length c0] w fun e w' => e = .returned (.slice A0 t0.length c0) ∧ w = w' := by
    have h := norm_calls A0 c0 l0 w HR0.out HC0.out
    rw [E0.out] at h
    exact h
  have harm1 : Calls Tryd.prog 101 #[.slice A1 l1.length c1] w fun e w' => e = .returned (.slice A1 t1.length c1) ∧ w = w' := by
    have h := norm_calls A1 c1 l1 w HR1.out HC1.out
    rw [E1.out] at h
    exact h
  have HA0 := Aside0.mk harm0
  have HA1 := Aside0.mk harm1
  clear harm0 harm1
  rcases Nat.lt_trichotomy t0.length t1.length with hlt | heq | hgt
  · have hne : ((t0.length : Int) != (t1.length : Int)) = true := by rw [bne_iff_ne]; omega
    have hd : decide (t0.length < t1.length) = true := decide_eq_true hlt
    have HV := Aside0.mk (val_lt_of_length HN0.out HN1.out hlt)
    clear hlt
    go_enter Tryd.func52, Tryd.ntmps52
    go_wp2_with fail
    refine HA0.out.mono ?_
    rintro e w' ⟨rfl, rfl⟩
    go_wp2_with fail
    refine HA1.out.mono ?_
    rintro e w' ⟨rfl, rfl⟩
    go_wp2_with fail
    go_ret
    exact ⟨by rw [cmpI_lt HV.out]; rfl, Drawn0.refl _⟩
  · have hne : ((t0.length : Int) != (t1.length : Int)) = false := by rw [bne_eq_false_iff_eq]; omega
    have HQ := Aside0.mk heq
    have hle : t0.length ≤ t1.length := by omega
    clear heq
    go_enter Tryd.func52, Tryd.ntmps52
    go_wp2_with fail
    refine HA0.out.mono ?_
    rintro e w' ⟨rfl, rfl⟩
    go_wp2_with fail
    refine HA1.out.mono ?_
    rintro e w' ⟨rfl, rfl⟩
    go_wp2_with fail
    go_loopg [5] (t0.length) (fun kq v5 w' => v5 = .int .i64 ((kq : Int) - 1) ∧ kq ≤ t0.length ∧ Aside0 (t0.drop kq = t1.drop kq) ∧ Aside0 (Drawn0 w w'))
    case atStart => exact ⟨rfl, Nat.le_refl _, ⟨by rw [List.drop_length, HQ.out, List.drop_length]⟩, ⟨Drawn0.refl _⟩⟩
    case round =>
      obtain ⟨rfl, hk, HD, HW⟩ := hrel
      cases gk with
      | zero =>
        go_wp2_with fail
        go_ret
        refine ⟨?_, HW.out⟩
        have h0 : t0 = t1 := by simpa using HD.out
        rw [cmpI_eq (by rw [h0])]
        rfl
      | succ k =>
        rw [show ((k + 1 : Nat) : Int) - 1 = (k : Int) by omega]
        have hb := HW.out.below
        obtain ⟨ad0, e0, hx0⟩ := Kd.at_int (Kd.C_below HT0.out hb) (k : Int) (by omega) (by omega)
        obtain ⟨ad1, e1, hx1⟩ := Kd.at_int (Kd.C_below HT1.out hb) (k : Int) (by omega) (by omega)
        subst e0
        subst e1
        simp only [Int.toNat_natCast] at hx0 hx1
        have hk' : k < t0.length := by omega
        have hk1' : k < t1.length := by omega
        rcases Int.lt_trichotomy (rd t0 (k : Int)) (rd t1 (k : Int)) with hlt | heq | hgt
        · have hd : decide (rd t0 (k : Int) < rd t1 (k : Int)) = true := decide_eq_true hlt
          have HV := Aside0.mk (val_lt_at HN0.out.1 HN1.out.1 k hk' hk1' HD.out hlt)
          clear hlt hb
          go_wp2_with fail
          go_quiet (fail)
          go_wp2_with fail
          go_ret
          exact ⟨by rw [cmpI_lt HV.out]; rfl, by repeat (first | exact HW.out | apply Drawn0.step)⟩
        · have hd : decide (rd t0 (k : Int) < rd t1 (k : Int)) = false := decide_eq_false (by omega)
          have hd2 : decide (rd t1 (k : Int) < rd t0 (k : Int)) = false := decide_eq_false (by omega)
          have HE : Aside0 (t0.drop k = t1.drop k) := ⟨by
            rw [List.drop_eq_getElem_cons hk', List.drop_eq_getElem_cons hk1', HD.out]
            rw [rd_nat, rd_nat, List.getD_eq_getElem?_getD, List.getD_eq_getElem?_getD, List.getElem?_eq_getElem hk', List.getElem?_eq_getElem hk1'] at heq
            simp only [Option.getD_some] at heq
            rw [heq]⟩
          clear heq hb
          go_wp2_with fail
          go_quiet (fail)
          go_wp2_with fail
          go_quiet (fail)
          go_wp2_with fail
          go_roundg k
          case measure => omega
          case rel => exact ⟨rfl, by omega, HE, ⟨by repeat (first | exact HW.out | apply Drawn0.step)⟩⟩
        · have hd : decide (rd t0 (k : Int) < rd t1 (k : Int)) = false := decide_eq_false (by omega)
          have hd2 : decide (rd t1 (k : Int) < rd t0 (k : Int)) = true := decide_eq_true hgt
          have HV := Aside0.mk (val_lt_at HN1.out.1 HN0.out.1 k hk1' hk' HD.out.symm hgt)
          clear hgt hb
          go_wp2_with fail
          go_quiet (fail)
          go_wp2_with fail
          go_quiet (fail)
          go_wp2_with fail
          go_ret
          exact ⟨by rw [cmpI_gt HV.out]; rfl, by repeat (first | exact HW.out | apply Drawn0.step)⟩
  · have hne : ((t0.length : Int) != (t1.length : Int)) = true := by rw [bne_iff_ne]; omega
    have hd : decide (t0.length < t1.length) = false := decide_eq_false (by omega)
    have HV := Aside0.mk (val_lt_of_length HN1.out HN0.out hgt)
    clear hgt
    go_enter Tryd.func52, Tryd.ntmps52
    go_wp2_with fail
    refine HA0.out.mono ?_
    rintro e w' ⟨rfl, rfl⟩
    go_wp2_with fail
    refine HA1.out.mono ?_
    rintro e w' ⟨rfl, rfl⟩
    go_wp2_with fail
    go_ret
    exact ⟨by rw [cmpI_gt HV.out]; rfl, Drawn0.refl _⟩
end Go.Proofs.YtefhlonipglboaaDoor

/- What bits.Div32 and nat.Over compute: quotient and rest. -/
namespace Go.Proofs.YtefhlonipglboaaDoor
open Go.RowKit Go.Proofs.YtefhlonipglboaaDoorW.PrintWords Go.Proofs.YtefhlonipglboaaDoorW.PrintLast Go.Proofs.YtefhlonipglboaaDoorW.PrintMore
set_option linter.unusedVariables false
set_option linter.unusedSimpArgs false

set_option maxHeartbeats 2000000 in
set_option maxRecDepth 100000 in
theorem div32_calls (h l d : Int) (w : World) (h0 : 0 ≤ h) (hd : h < d) (hd1 : d < 4294967296) (l0 : 0 ≤ l) (l1 : l < 4294967296) :
    Calls Tryd.prog 153 #[.int .u32 h, .int .u32 l, .int .u32 d] w fun e w' => e = .returned (.tuple #[.int .u32 ((h * 4294967296 + l) / d), .int .u32 ((h * 4294967296 + l) % d)]) ∧ Drawn0 w w' := by
  have hdb : (d != 0) = true := by rw [bne_iff_ne]; omega
  have hle : decide (d ≤ h) = false := decide_eq_false (by omega)
  have q1 : IntKind.u64.wrap h = h := u64_in _ h0 (by omega)
  have q2 : IntKind.u64.wrap l = l := u64_in _ l0 (by omega)
  have q3 : IntKind.u64.wrap d = d := u64_in _ (by omega) (by omega)
  have hor : bits .or .u64 (h * 4294967296) l = h * 4294967296 + l :=
    bits_join .u64 64 (by decide) (fun n a b => u64_in n a (by omega)) 32 (h * 4294967296) l (by omega) (by omega) (by omega) l0 (by omega) (by omega)
  obtain ⟨n, hn⟩ : ∃ n, h * 4294967296 + l = n := ⟨_, rfl⟩
  rw [hn] at hor ⊢
  have hn0 : 0 ≤ n := by omega
  have hq0 : 0 ≤ n / d := Int.ediv_nonneg hn0 (by omega)
  have hq1 : n / d < 4294967296 := by
    rw [Int.ediv_lt_iff_lt_mul (by omega)]
    have : h * 4294967296 + 4294967296 ≤ 4294967296 * d := by omega
    omega
  have hr0 : 0 ≤ n % d := Int.emod_nonneg _ (by omega)
  have hr1 : n % d < d := Int.emod_lt_of_pos _ (by omega)
  have q4 : n / d % 4294967296 = n / d := by omega
  have q5 : n % d % 4294967296 = n % d := by omega
  have hdp : 1 ≤ d := by omega
  have HQ : Aside0 (IntKind.u64.wrap (n.tdiv d) % 4294967296 = n / d) := ⟨by rw [Int.tdiv_eq_ediv_of_nonneg hn0, u64_in _ hq0 (by omega), q4]⟩
  clear hn hq0 hq1 hr0 hr1
  go_enter Tryd.func153, Tryd.ntmps153
  go_wp2_with fail
  go_quiet (fail)
  go_wp2_with fail
  go_ret2
  refine ⟨?_, by repeat (first | exact Drawn0.refl _ | apply Drawn0.step)⟩
  show Ending.returned (.tuple #[.int .u32 (IntKind.u64.wrap (n.tdiv d) % 4294967296), .int .u32 (n % d)]) = _
  rw [HQ.out]

/-- the quotient's upper digits, and the rest so far -/
def OverInv (l : List Int) (d : Int) (k : Nat) (r : Int) (q : List Int) : Prop :=
  q.length + k = l.length ∧ Limbs q ∧ 0 ≤ r ∧ r < d ∧ val (l.drop k) = d * val q + r
theorem OverInv.start (l : List Int) {d : Int} (hd : 0 < d) : OverInv l d l.length 0 [] := ⟨by simp, Limbs.nil, by decide, hd, by simp [val]⟩
theorem OverInv.step {l q : List Int} {d r : Int} {k : Nat} (h : OverInv l d (k + 1) r q) (hl : Limbs l) (hd : d < 4294967296) :
    OverInv l d k ((r * 4294967296 + rd l (k : Int)) % d) ((r * 4294967296 + rd l (k : Int)) / d :: q) := by
  obtain ⟨a1, a2, a3, a4, a5⟩ := h
  have hk : k < l.length := by omega
  have b0 := hl.getD k
  rw [← rd_nat] at b0
  obtain ⟨n, hn⟩ : ∃ n, r * 4294967296 + rd l (k : Int) = n := ⟨_, rfl⟩
  have hn0 : 0 ≤ n := by omega
  have hq0 : 0 ≤ n / d := Int.ediv_nonneg hn0 (by omega)
  have hq1 : n / d < 4294967296 := by
    rw [Int.ediv_lt_iff_lt_mul (by omega)]
    have : r * 4294967296 + 4294967296 ≤ 4294967296 * d := by omega
    omega
  rw [hn]
  refine ⟨by simp only [List.length_cons]; omega, Limbs.cons ⟨hq0, hq1⟩ a2, Int.emod_nonneg _ (by omega), Int.emod_lt_of_pos _ (by omega), ?_⟩
  rw [List.drop_eq_getElem_cons hk]
  have hg : l[k] = rd l (k : Int) := by rw [rd_nat, List.getD_eq_getElem?_getD, List.getElem?_eq_getElem hk]; rfl
  simp only [val, hg, a5]
  have hdm := Int.mul_ediv_add_emod n d
  generalize n / d = qq at *
  generalize n % d = rr at *
  generalize val q = V at *
  generalize rd l (k : Int) = x at *
  subst hn
  grind
theorem OverInv.done {l q : List Int} {d r : Int} (h : OverInv l d 0 r q) : val q = val l / d ∧ r = val l % d ∧ Limbs q := by
  obtain ⟨a1, a2, a3, a4, a5⟩ := h
  rw [List.drop_zero] at a5
  have h1 : (d * val q + r) / d = val q := by
    rw [Int.add_comm, Int.add_mul_ediv_left _ _ (by omega), Int.ediv_eq_zero_of_lt a3 a4]; omega
  have h2 : (d * val q + r) % d = r := by
    rw [Int.add_comm, Int.add_mul_emod_self_left, Int.emod_eq_of_lt a3 a4]
  rw [a5, h1, h2]
  exact ⟨rfl, rfl, a2⟩

/-- what nat.Over leaves -/
def OverRes (w : World) (q r : Int) (e : Ending) (w' : World) : Prop := ∃ v l, e = .returned (.tuple #[v, .int .u32 r, .nilIface]) ∧ FrN w.heap.size w' v l ∧ Nrm l ∧ val l = q ∧ Below w.heap.size w w'
set_option maxHeartbeats 8000000 in
set_option maxRecDepth 100000 in
theorem over_calls (A0 : Option Addr) (c0 : Nat) (l0 : List Int) (d : Int) (w : World) (hr0 : Kd.C (Kd.int .u32) w A0 l0.length l0) (hc0 : l0.length ≤ c0)
    (hL0 : Limbs l0) (hm : l0.length ≤ 70368744177664) (hd0 : 0 < d) (hd1 : d < 4294967296) :
    Calls Tryd.prog 95 #[.slice A0 l0.length c0, .int .u32 d] w (OverRes w (val l0 / d) (val l0 % d)) := by
  have HR0 := Aside0.mk hr0
  have HC0 := Aside0.mk hc0
  have HL0 := Aside0.mk hL0
  have HM := Aside0.mk hm
  have HD := Aside0.mk (And.intro hd0 hd1)
  have hdb : (d == 0) = false := by rw [beq_eq_false_iff_ne]; omega
  have P0 : Aside0 (0 ≤ (l0.length : Int)) := ⟨by omega⟩
  have hlm : l0.length ≤ 9223372036854775807 := by omega
  have HB := Aside0.mk (Below.refl w.heap.size w)
  clear hr0 hc0 hL0 hm hd0 hd1
  go_enter Tryd.func95, Tryd.ntmps95
  go_wp2_with (first | ((with_reducible refine gate_dst (N := 15) rfl ?_); refine Kd.R_make (Kd.int .u32) _ 152 rfl (N := 15) rfl 78 _ _ rfl (l0.length : Int) rfl rfl Tryd.underlying78 (.int .u32 0) 4 info_u32 rfl (by decide) (by omega) 0 (ok := fun _ => True) (okp := fun _ => True) rfl (fun _ hk => hk) trivial P0.out (by have := HM.out; omega) HB.out (Nat.le_refl _) ?_; intro vo w1 ho hb hg_ hnew_; clear hg_ hnew_ HB; have HB := Aside0.mk hb; have HO := Aside0.mk ho; clear hb ho))
  obtain ⟨Ao, co, eo⟩ := Kd.R_slice HO.out
  rw [List.length_replicate, Int.toNat_natCast] at eo
  rw [Int.toNat_natCast] at HO
  subst eo
  go_loopg [8, 9] (l0.length) (fun kq v8 v9 w' => ∃ (r : Int) (q : List Int), v8 = .int .u32 r ∧ v9 = .int .i64 ((kq : Int) - 1) ∧ Aside0 (OverInv l0 d kq r q) ∧ Aside0 (Kd.R (Kd.int .u32) 152 w' w.heap.size (fun _ => True) (.slice Ao l0.length co) (List.replicate kq 0 ++ q)) ∧ Aside0 (Below w.heap.size w w'))
  case atStart => exact ⟨0, [], rfl, rfl, ⟨OverInv.start l0 HD.out.1⟩, ⟨by rw [List.append_nil]; exact HO.out⟩, HB⟩
  case round =>
    clear HO HB
    obtain ⟨r, q, rfl, rfl, HI, HO, HB⟩ := hrel
    cases gk with
    | zero =>
      have hd := HI.out.done
      have HDn := Aside0.mk hd
      rw [List.replicate_zero, List.nil_append] at HO
      have hrr := Kd.R_reads' HO.out
      have HRR := Aside0.mk hrr
      have HLQ : Aside0 (q.length = l0.length) := ⟨by have := HI.out.1; omega⟩
      clear hd hrr
      go_wp2_with (go_at_call 101; (refine calls_of_args ?_ ((norm_calls Ao co q _ HRR.out.2.2 (by have := HRR.out; omega)).mono ?_)); (case refine_1 => rw [HLQ.out]); rintro e w' ⟨rfl, rfl⟩)
      go_ret3
      exact ⟨_, trim q, by rw [HDn.out.2.1]; rfl, (FrN.of_R' HO.out HB.out).trimmed, trim_nrm HDn.out.2.2, by rw [trim_val]; exact HDn.out.1, HB.out⟩
    | succ k =>
      rw [show ((k + 1 : Nat) : Int) - 1 = (k : Int) by omega]
      have hk : k < l0.length := by have := HI.out.1; omega
      obtain ⟨ad0, e0, hx0⟩ := Kd.at_int HR0.out (k : Int) (by omega) (by omega)
      cases e0
      replace hx0 := (HB.out.cell (World.block_lt_of_cell? w _ hx0)).trans hx0
      simp only [Int.toNat_natCast] at hx0
      have HS := Aside0.mk (HI.out.step HL0.out HD.out.2)
      have BX := Aside0.mk (HL0.out.getD k)
      obtain ⟨g, cq, eo, gb, gl, cl, HG⟩ := Kd.R_form HO.out (by simp; omega)
      injection eo with e1 e2 e3
      subst e1
      subst e3
      clear e2
      have GB := Aside0.mk gb
      clear gb gl cl HG
      obtain ⟨hz, hzf⟩ := Kd.R_celln 0 HO.out (k : Int) (by omega) (by omega)
      rw [Int.toNat_natCast] at hz hzf
      have hset : (List.replicate (k + 1) 0 ++ q).set k ((r * 4294967296 + rd l0 (k : Int)) / d) = List.replicate k 0 ++ ((r * 4294967296 + rd l0 (k : Int)) / d :: q) := by
        rw [List.replicate_succ', List.append_assoc, List.set_append_right _ _ (by simp)]
        simp
      have HPP : Aside0 (Kd.R (Kd.int .u32) 152 (wr.setCell ⟨g, k, none⟩ (.int .u32 ((r * 4294967296 + rd l0 (k : Int)) / d))) w.heap.size (fun _ => True) (.slice (some ⟨g, 0, none⟩) l0.length co) (List.replicate k 0 ++ ((r * 4294967296 + rd l0 (k : Int)) / d :: q))) :=
        ⟨by have h := (Kd.R_putg HO.out (k : Int) ((r * 4294967296 + rd l0 (k : Int)) / d)).1; rw [Int.toNat_natCast, hset] at h; exact h⟩
      have HBS := Aside0.mk (fun v => below_set (g := g) (j := k) HB.out GB.out (v := v))
      have HRB := Aside0.mk (And.intro HI.out.2.2.1 HI.out.2.2.2.1)
      clear hset
      go_wp2_with (go_at_call 153; refine (div32_calls _ _ _ _ HRB.out.1 HRB.out.2 HD.out.2 (by have := BX.out; rw [rd_nat]; omega) (by have := BX.out; rw [rd_nat]; omega)).mono ?_; rintro e w' ⟨rfl, ⟨nd, rfl⟩⟩)
      go_roundg k
      case measure => omega
      case rel => exact ⟨_, _, rfl, rfl, HS, ⟨by first | exact HPP.out | exact Kd.R_drewN HPP.out _⟩, ⟨by first | exact HBS.out _ | exact pw_below_drewN (HBS.out _) _⟩⟩

theorem over_zero (S : Nat → Addr) (A0 : Option Addr) (c0 : Nat) (l0 : List Int) (w : World) (hE : Env S w) :
    Calls Tryd.prog 95 #[.slice A0 l0.length c0, .int .u32 0] w fun e w' => ∃ v, e = .returned (.tuple #[.slice none 0 0, .int .u32 0, v]) ∧ ErrAt S w' 3 [(⟨#[110, 97, 116]⟩, 0)] v ∧ Below w.heap.size w w' := by
  have HE := Aside0.mk hE
  clear hE
  go_enter Tryd.func95, Tryd.ntmps95
  go_wp2_with (go_at_call 126; refine (fnew_calls S _ 0 3 (by unfold Num; omega) _ HE.out).mono ?_; rintro e w' ⟨v, rfl, hv, hb⟩; have HV := Aside0.mk hv; have HB := Aside0.mk hb; clear hv hb)
  go_ret3
  exact ⟨_, rfl, HV.out, HB.out⟩
end Go.Proofs.YtefhlonipglboaaDoor

/- What nat.Bits computes: the count of binary digits. -/
namespace Go.Proofs.YtefhlonipglboaaDoor
open Go.RowKit Go.Proofs.YtefhlonipglboaaDoorW.PrintWords Go.Proofs.YtefhlonipglboaaDoorW.PrintLast Go.Proofs.YtefhlonipglboaaDoorW.PrintMore
set_option linter.unusedVariables false
set_option linter.unusedSimpArgs false

/-- how many binary digits a normal list has -/
def nbits (l : List Int) : Int := if l = [] then 0 else 32 * ((l.length : Int) - 1) + (Lib.bitLen (l.getD (l.length - 1) 0).toNat : Int)
theorem pow32 (n : Nat) : (4294967296 : Int) ^ n = 2 ^ (32 * n) := by
  rw [Int.pow_mul]; rfl
theorem val_last {l : List Int} (h : l ≠ []) : val l = val (l.take (l.length - 1)) + 4294967296 ^ (l.length - 1) * l.getD (l.length - 1) 0 := by
  have hp : 0 < l.length := List.length_pos_iff.2 h
  have h1 := val_take_succ l (l.length - 1) (by omega)
  rw [show l.length - 1 + 1 = l.length by omega, List.take_length] at h1
  exact h1
theorem nbits_spec {l : List Int} (h : Nrm l) (h0 : l ≠ []) : ∃ b : Nat, nbits l = (b : Int) + 1 ∧ (2 : Int) ^ b ≤ val l ∧ val l < 2 ^ (b + 1) := by
  have hp : 0 < l.length := List.length_pos_iff.2 h0
  have hl := tip_last h.2 h0
  have hb := h.1.getD (l.length - 1)
  obtain ⟨x, hx⟩ : ∃ x : Nat, l.getD (l.length - 1) 0 = (x : Int) := ⟨(l.getD (l.length - 1) 0).toNat, by omega⟩
  rw [hx] at hl hb
  have hx0 : x ≠ 0 := by omega
  obtain ⟨b1, b2, b3⟩ := Lib.bitLenAux_bounds 64 x (by omega) hx0
  have hbl : Lib.bitLen x = Lib.bitLenAux 64 x := rfl
  obtain ⟨k, hk⟩ : ∃ k, Lib.bitLen x = k + 1 := ⟨Lib.bitLen x - 1, by omega⟩
  rw [← hbl, hk] at b2 b3
  rw [Nat.add_sub_cancel] at b2
  refine ⟨32 * (l.length - 1) + k, ?_, ?_, ?_⟩
  · unfold nbits
    rw [if_neg h0, hx, Int.toNat_natCast, hk]
    omega
  · rw [val_last h0, hx, pow32, Int.pow_add]
    have h2 := val_nonneg (h.1.take (l.length - 1))
    have h3 : ((2 : Int) ^ k) ≤ (x : Int) := by exact_mod_cast b2
    have h4 : (0 : Int) ≤ 2 ^ (32 * (l.length - 1)) := Int.le_of_lt (Int.pow_pos (by decide))
    have h5 := Int.mul_le_mul_of_nonneg_left h3 h4
    omega
  · rw [val_last h0, hx, pow32, show 32 * (l.length - 1) + k + 1 = 32 * (l.length - 1) + (k + 1) by omega, Int.pow_add]
    have h2 := val_lt (h.1.take (l.length - 1))
    rw [List.length_take, Nat.min_eq_left (by omega), pow32] at h2
    have h3 : (x : Int) + 1 ≤ (2 : Int) ^ (k + 1) := by exact_mod_cast b3
    have h4 : (0 : Int) ≤ 2 ^ (32 * (l.length - 1)) := Int.le_of_lt (Int.pow_pos (by decide))
    have h5 := Int.mul_le_mul_of_nonneg_left h3 h4
    rw [Int.mul_add] at h5
    omega
theorem two_pow_lt {a b : Nat} (h : (2 : Int) ^ a < 2 ^ b) : a < b := by
  rcases Nat.lt_or_ge a b with h1 | h1
  · exact h1
  · exfalso
    have : (2 : Nat) ^ b ≤ 2 ^ a := Nat.pow_le_pow_right (by decide) h1
    have h2 : ((2 : Int) ^ b) ≤ 2 ^ a := by exact_mod_cast this
    omega
theorem nbits_pow {l : List Int} (h : Nrm l) (m : Nat) (hv : val l = 2 ^ m) : nbits l = (m : Int) + 1 := by
  have h0 : l ≠ [] := by
    intro e
    subst e
    have : (0 : Int) < 2 ^ m := Int.pow_pos (by decide)
    simp only [val] at hv
    omega
  obtain ⟨b, h1, h2, h3⟩ := nbits_spec h h0
  rw [hv] at h2 h3
  have h4 := two_pow_lt h3
  have h5 : b < m + 1 := two_pow_lt (by rw [Int.pow_succ]; have : (0 : Int) < 2 ^ m := Int.pow_pos (by decide); omega)
  omega

set_option maxHeartbeats 2000000 in
set_option maxRecDepth 100000 in
theorem bits_calls (A : Option Addr) (c : Nat) (l : List Int) (w : World) (hr : Kd.C (Kd.int .u32) w A l.length l) (hc : l.length ≤ c) (hL : Limbs l) (hm : l.length ≤ 70368744177664) :
    Calls Tryd.prog 96 #[.slice A l.length c] w fun e w' => e = .returned (.int .i64 (nbits (trim l))) ∧ w = w' := by
  have ht := Kd.C_take (m := (trim l).length) hr (trim_length_le l)
  rw [trim_take] at ht
  have hm' : (trim l).length ≤ 70368744177664 := Nat.le_trans (trim_length_le l) hm
  have hcalls := norm_calls A c l w hr hc
  have hN := trim_nrm hL
  have hcc : (trim l).length ≤ c := Nat.le_trans (trim_length_le l) hc
  obtain ⟨t, e0⟩ : ∃ t, trim l = t := ⟨_, rfl⟩
  rw [e0] at ht hm' hcalls hN hcc ⊢
  have HC := Aside0.mk hcalls
  have HN := Aside0.mk hN
  clear hcalls hN hr hc hL hm e0
  by_cases h0 : t = []
  · subst h0
    clear ht hm'
    go_enter Tryd.func96, Tryd.ntmps96
    go_wp2_with fail
    refine HC.out.mono ?_
    rintro e w' ⟨rfl, rfl⟩
    go_wp2_with fail
    go_ret
    exact ⟨rfl, rfl⟩
  · have hp : 0 < t.length := List.length_pos_iff.2 h0
    obtain ⟨n, hn⟩ : ∃ n, t.length = n + 1 := ⟨t.length - 1, by omega⟩
    obtain ⟨ad, e, hx⟩ := Kd.at_int ht (n : Int) (by omega) (by omega)
    subst e
    rw [Int.toNat_natCast] at hx
    have hg : nbits t = 32 * (n : Int) + (Lib.bitLen (rd t (n : Int)).toNat : Int) := by
      unfold nbits
      rw [if_neg h0, hn, Nat.add_sub_cancel, rd_nat]
      omega
    have hb := HN.out.1.getD n
    rw [← rd_nat] at hb
    have HB := Aside0.mk hb
    have hble := Any.bitLen_le32 (rd t (n : Int)) hb.1 (by omega)
    have hLen : (t.length == 0) = false := by rw [beq_eq_false_iff_ne]; omega
    have HG := Aside0.mk hg
    rw [hn] at HC hcc hm' hLen
    obtain ⟨q, hq⟩ : ∃ q, Lib.bitLen (rd t (n : Int)).toNat = q := ⟨_, rfl⟩
    rw [hq] at hble HG
    have w1 : IntKind.i64.wrap ((n : Int) + 1 - 1) = (n : Int) := by rw [IntWalk.i64_in _ (by omega)]; omega
    have w2 : IntKind.i64.wrap (32 * (n : Int)) = 32 * (n : Int) := IntWalk.i64_in _ (by omega)
    have w3 : IntKind.i64.wrap (32 * (n : Int) + (q : Int)) = 32 * (n : Int) + (q : Int) := IntWalk.i64_in _ (by omega)
    have HQ := Aside0.mk hq
    clear hq hg hb ht h0 hp hn
    go_enter Tryd.func96, Tryd.ntmps96
    go_wp2_with fail
    refine HC.out.mono ?_
    rintro e w' ⟨rfl, rfl⟩
    go_wp2_with fail
    refine (Tryd.bits_Len32 _ _ HB.out.1 (by have := HB.out.2; omega)).mono ?_
    rintro e w' ⟨rfl, rfl⟩
    rw [HQ.out]
    go_wp2_with fail
    go_ret
    refine ⟨?_, rfl⟩
    first | rw [HG.out]; rfl | (rw [HG.out]; simp [w1, w2, w3])

end Go.Proofs.YtefhlonipglboaaDoor

/- rule.From: the small rule of a number. -/
namespace Go.Proofs.YtefhlonipglboaaDoor
open Go.RowKit Go.Extern.Stop Go.Stop Go.Extern Go.Proofs.YtefhlonipglboaaDoorW.PrintWords Go.Proofs.YtefhlonipglboaaDoorW.PrintLast Go.Proofs.YtefhlonipglboaaDoorW.PrintMore
set_option linter.unusedVariables false
set_option linter.unusedSimpArgs false

/-- the i lowest digits in base k, the lowest first -/
def dgs (k x : Int) : Nat → List Int
  | 0 => []
  | i + 1 => dgs k x i ++ [x / k ^ i % k]
theorem dgs_len (k x : Int) : ∀ i, (dgs k x i).length = i
  | 0 => rfl
  | i + 1 => by rw [dgs, List.length_append, dgs_len k x i]; rfl
/-- what rule.From says of a number -/
def fromO (k r x : Int) : Fr := if KR k r then (if 256 < nwin k r then some (4, [(ruleS, 0)]) else if 0 < x / k ^ (nwin k r).toNat then some (3, [(ruleS, 1)]) else none) else some (3, [(ruleS, 0)])
def fromV (k r x : Int) : Int × Int × List Int := match fromO k r x with
  | some _ => (0, 0, [])
  | none => (k, r, dgs k x (nwin k r).toNat)
/-- an answer that is a rule, and an error -/
def AnsR (S : Nat → Addr) (w : World) (o : Fr) (q : Int × Int × List Int) (e : Ending) (w' : World) : Prop :=
  ∃ A c u, e = .returned (.tuple #[.agg #[.int .i64 q.1, .int .i64 q.2.1, .slice A q.2.2.length c], u]) ∧ q.2.2.length ≤ c ∧ Kd.F (Kd.int .i64) w' (fun k => w.heap.size ≤ k) A q.2.2.length q.2.2 ∧ ErrV S w' u o ∧ Below w.heap.size w w'
theorem resR2 {fn : Func} {p q : Tmp} {tmps : Array Value} {w : World} {b : Nat} {k r : Int} {s : Value} (hB : BoxR w b k r s) (h : fn.results = #[.cell p tRule, .tmp q]) (hp : tmps.getD p undef = .pointer (some ⟨b, 0, none⟩)) :
    (results fn tmps).run Tryd.prog w = .ok (.tuple #[.agg #[.int .i64 k, .int .i64 r, s], tmps.getD q undef]) w := by
  have hp' : tmps[p]?.getD undef = .pointer (some ⟨b, 0, none⟩) := by simpa using hp
  simp [results, h, hp', asAddr, run_loadVar_row w b tRule tRule #[.int .i64 k, .int .i64 r, s] (0, 0) _ hB Tryd.underlying24 rfl info_rule]
theorem BoxR.far {w : World} {b : Nat} {k r : Int} {s : Value} (h : BoxR w b k r s) {p : Addr} (hp : p.block ≠ b) (u : Value) : BoxR (w.setCell p u) b k r s := (Below.heap_setCell w p u b (Ne.symm hp)).trans h
theorem cell_put3 {w : World} {b c i : Nat} (h : c ≠ b) (x y z : Value) : (put3 w b x y z).cell? ⟨c, i, none⟩ = w.cell? ⟨c, i, none⟩ := by
  have hne : ∀ j, (⟨b, j, none⟩ : Addr) ≠ ⟨c, i, none⟩ := fun j e => h (by injection e with e1; exact e1.symm)
  show (((w.setCell ⟨b, 0, none⟩ x).setCell ⟨b, 1, none⟩ y).setCell ⟨b, 2, none⟩ z).cell? ⟨c, i, none⟩ = _
  rw [sc_other (hne 2), sc_other (hne 1), sc_other (hne 0)]
/-- an error isn't touched by a store into a box that holds a number in its first cell -/
theorem ErrAt.put3 {S : Nat → Addr} {w : World} {n b : Nat} {q : Int} (hc : w.cell? ⟨b, 0, none⟩ = some (.int .i64 q)) (x y z : Value) : ∀ {l : List (ByteArray × Int)} {v : Value}, ErrAt S w n l v → ErrAt S (Go.Proofs.YtefhlonipglboaaDoor.put3 w b x y z) n l v
  | [], _, h => h
  | p :: rest, v, ⟨g, v', h1, h2, h3, h4, h5⟩ => by
    have hne : g ≠ b := by
      intro e
      subst e
      rw [hc] at h2
      cases h2
    exact ⟨g, v', h1, by rw [cell_put3 hne]; exact h2, by rw [cell_put3 hne]; exact h3, by rw [cell_put3 hne]; exact h4, ErrAt.put3 hc x y z h5⟩
theorem ErrV.put3 {S : Nat → Addr} {w : World} {b : Nat} {q : Int} {v : Value} {o : Fr} (h : ErrV S w v o) (hc : w.cell? ⟨b, 0, none⟩ = some (.int .i64 q)) (x y z : Value) : ErrV S (Go.Proofs.YtefhlonipglboaaDoor.put3 w b x y z) v o := by
  cases o with
  | none => exact h
  | some p => exact ⟨h.1, h.2.1, h.2.2.put3 hc x y z⟩
theorem F_put3 {α : Type} {d : Kd α} {w : World} {b n : Nat} {A : Option Addr} {xs : List α} {ok : Nat → Prop} (h : Kd.F d w ok A n xs) (hk : ∀ k, ok k → k ≠ b) (x y z : Value) : Kd.F d (put3 w b x y z) ok A n xs :=
  Kd.F_far (Kd.F_far (Kd.F_far h (p := ⟨b, 0, none⟩) hk x) (p := ⟨b, 1, none⟩) hk y) (p := ⟨b, 2, none⟩) hk z
theorem div_pow_succ (x k : Int) (i : Nat) (hk : 0 < k) : x / k ^ i / k = x / k ^ (i + 1) := by
  rw [Int.pow_succ, Int.ediv_ediv_of_nonneg (Int.le_of_lt (Int.pow_pos hk))]
theorem div_le_self' (x k : Int) (i : Nat) (hx : 0 ≤ x) (hk : 0 < k) : 0 ≤ x / k ^ i ∧ x / k ^ i ≤ x := by
  have hp : 0 < k ^ i := Int.pow_pos hk
  exact ⟨Int.ediv_nonneg hx (Int.le_of_lt hp), Int.ediv_le_self _ hx⟩
theorem set_dgs (k x : Int) (n i : Nat) (hi : i < n) : (dgs k x i ++ List.replicate (n - i) 0).set i (x / k ^ i % k) = dgs k x (i + 1) ++ List.replicate (n - (i + 1)) 0 := by
  have h := dgs_len k x i
  rw [List.set_append_right _ _ (by omega), h, Nat.sub_self, show n - i = (n - (i + 1)) + 1 by omega, List.replicate_succ, List.set_cons_zero, dgs, List.append_assoc]
  rfl
theorem nbits_iff {l : List Int} (h : Nrm l) : (0 < nbits l) ↔ 0 < val l := by
  by_cases h0 : l = []
  · subst h0; simp [nbits, val]
  · obtain ⟨b, h1, h2, _⟩ := nbits_spec h h0
    have : (0 : Int) < 2 ^ b := Int.pow_pos (by decide)
    omega

set_option maxHeartbeats 8000000 in
set_option maxRecDepth 100000 in
theorem from_bad (S : Nat → Addr) (k r : Int) (A : Option Addr) (c : Nat) (l : List Int) (w : World) (hE : Env S w) (h : ¬ KR k r) :
    Calls Tryd.prog 47 #[.int .i64 k, .int .i64 r, .slice A l.length c] w (AnsR S w (some (3, [(ruleS, 0)])) (0, 0, [])) := by
  have HK := Aside0.mk h
  have HE := Aside0.mk hE
  clear hE
  clear h
  obtain ⟨w0, hw0⟩ : ∃ w0, w.alloc (.cells #[.int .i64 0, .int .i64 0, .slice none 0 0] tRule) = w0 := ⟨_, rfl⟩
  obtain ⟨b, hb0⟩ : ∃ b, w.heap.size = b := ⟨_, rfl⟩
  have HB0 := Aside0.mk (show Below w.heap.size w w0 by rw [← hw0]; exact below_alloc (Below.refl _ _) _)
  have HBX := Aside0.mk (show BoxR w0 b 0 0 (.slice none 0 0) by rw [← hw0, ← hb0]; exact BoxR.new _ _ _ _)
  have HLE := Aside0.mk (show w.heap.size ≤ b by omega)
  go_enter Tryd.func47, Tryd.ntmps47
  go_wp2_with fail
  clear hw0 hb0
  refine (size_calls S k r w0 ((HE.out).below (HB0.out))).mono ?_
  rintro e w1 ⟨n, u, rfl, hu, hn, hb⟩
  have HB1 := Aside0.mk (hb)
  clear hb
  rw [if_neg HK.out] at hu hn
  subst hn
  obtain ⟨ut, ux, rfl⟩ := hu.2.2.form
  have HU := Aside0.mk hu
  clear hu
  obtain ⟨k0, k1, k2⟩ := (((HBX.out).below (HB1.out))).cells
  obtain ⟨z0, z1, z2⟩ := (((HBX.out).below (HB1.out))).fr
  have HX2 := Aside0.mk ((((HBX.out).below (HB1.out))).put 0 0 (.slice none 0 0))
  go_wp2_with fail
  (try simp only [Exit.inBlock, Exit.then]); refine bodyPost_ret (resR2 HX2.out rfl rfl) rfl ?_
  exact ⟨none, 0, _, rfl, Nat.le_refl _, Kd.F_nil _ _ _, ErrV.put3 (HU.out) k0 _ _ _, below_put3 (below_step (HB0.out) HB1.out) HLE.out _ _ _⟩
set_option maxHeartbeats 8000000 in
set_option maxRecDepth 100000 in
theorem from_big (S : Nat → Addr) (k r : Int) (A : Option Addr) (c : Nat) (l : List Int) (w : World) (hE : Env S w) (h : KR k r) (hbig : 256 < nwin k r) :
    Calls Tryd.prog 47 #[.int .i64 k, .int .i64 r, .slice A l.length c] w (AnsR S w (some (4, [(ruleS, 0)])) (0, 0, [])) := by
  have hwin := h.win
  obtain ⟨nw, hnw⟩ : ∃ nw, nwin k r = nw := ⟨_, rfl⟩
  rw [hnw] at hbig hwin
  have d1 : decide (256 < nw) = true := decide_eq_true hbig
  have HK := Aside0.mk h
  have HNW := Aside0.mk hnw
  have HE := Aside0.mk hE
  clear hE
  clear h hnw
  obtain ⟨w0, hw0⟩ : ∃ w0, w.alloc (.cells #[.int .i64 0, .int .i64 0, .slice none 0 0] tRule) = w0 := ⟨_, rfl⟩
  obtain ⟨b, hb0⟩ : ∃ b, w.heap.size = b := ⟨_, rfl⟩
  have HB0 := Aside0.mk (show Below w.heap.size w w0 by rw [← hw0]; exact below_alloc (Below.refl _ _) _)
  have HBX := Aside0.mk (show BoxR w0 b 0 0 (.slice none 0 0) by rw [← hw0, ← hb0]; exact BoxR.new _ _ _ _)
  have HLE := Aside0.mk (show w.heap.size ≤ b by omega)
  go_enter Tryd.func47, Tryd.ntmps47
  go_wp2_with fail
  clear hw0 hb0
  refine (size_calls S k r w0 ((HE.out).below (HB0.out))).mono ?_
  rintro e w1 ⟨n, u, rfl, hu, hn, hb⟩
  have HB1 := Aside0.mk (hb)
  clear hb
  rw [if_pos HK.out] at hu hn
  rw [HNW.out] at hn
  subst hn
  have hu' : u = .nilIface := hu
  subst hu'
  clear hu
  go_wp2_with fail
  refine (wrongRule_calls S 0 4 (by unfold Num; omega) w1 (((HE.out).below (HB0.out)).below (HB1.out))).mono ?_
  rintro e w2 ⟨v, rfl, hv, hb⟩
  have HB2 := Aside0.mk (hb)
  have HV := Aside0.mk hv
  clear hb hv
  obtain ⟨k0, k1, k2⟩ := ((((HBX.out).below (HB1.out)).below (HB2.out))).cells
  obtain ⟨z0, z1, z2⟩ := ((((HBX.out).below (HB1.out)).below (HB2.out))).fr
  have HX2 := Aside0.mk (((((HBX.out).below (HB1.out)).below (HB2.out))).put 0 0 (.slice none 0 0))
  go_wp2_with fail
  (try simp only [Exit.inBlock, Exit.then]); refine bodyPost_ret (resR2 HX2.out rfl rfl) rfl ?_
  exact ⟨none, 0, _, rfl, Nat.le_refl _, Kd.F_nil _ _ _, ErrV.put3 (HV.out) k0 _ _ _, below_put3 (below_step (below_step (HB0.out) HB1.out) HB2.out) HLE.out _ _ _⟩

set_option maxHeartbeats 8000000 in
set_option maxRecDepth 100000 in
theorem from_ok (S : Nat → Addr) (k r : Int) (A : Option Addr) (c : Nat) (l : List Int) (w : World) (hE : Env S w) (hr : Kd.C (Kd.int .u32) w A l.length l) (hc : l.length ≤ c) (hL : Limbs l) (hml : l.length ≤ 1000000) (h : KR k r) (hsm : nwin k r ≤ 256) :
    Calls Tryd.prog 47 #[.int .i64 k, .int .i64 r, .slice A l.length c] w (AnsR S w (fromO k r (val l)) (fromV k r (val l))) := by
  have hwin := h.win
  have hfo : fromO k r (val l) = if 0 < val l / k ^ (nwin k r).toNat then some (3, [(ruleS, 1)]) else none := by unfold fromO; rw [if_pos h, if_neg (by omega)]
  obtain ⟨n, hn⟩ : ∃ n : Nat, (nwin k r).toNat = n := ⟨_, rfl⟩
  have hnw : nwin k r = (n : Int) := by omega
  have hfv : fromV k r (val l) = match fromO k r (val l) with | some _ => (0, 0, []) | none => (k, r, dgs k (val l) n) := by unfold fromV; rw [hn]
  rw [hn] at hfo
  have d1 : decide ((256 : Int) < n) = false := decide_eq_false (by omega)
  have hn1 : 1 ≤ n := by omega
  have hn2 : n ≤ 256 := by omega
  have hk := h
  obtain ⟨k1, k2, r1, r2⟩ := hk
  have hx0 := val_nonneg hL
  have HK := Aside0.mk h
  have HNW := Aside0.mk hnw
  have HFO := Aside0.mk hfo
  have HFV := Aside0.mk hfv
  have HE := Aside0.mk hE
  have HR := Aside0.mk hr
  have HC0 := Aside0.mk hc
  have HL0 := Aside0.mk hL
  have HML := Aside0.mk hml
  clear hE hr hc hL hml
  clear h hnw hfo hfv hn hwin hsm
  obtain ⟨w0, hw0⟩ : ∃ w0, w.alloc (.cells #[.int .i64 0, .int .i64 0, .slice none 0 0] tRule) = w0 := ⟨_, rfl⟩
  obtain ⟨b, hb0⟩ : ∃ b, w.heap.size = b := ⟨_, rfl⟩
  have HB0 := Aside0.mk (show Below w.heap.size w w0 by rw [← hw0]; exact below_alloc (Below.refl _ _) _)
  have HBX := Aside0.mk (show BoxR w0 b 0 0 (.slice none 0 0) by rw [← hw0, ← hb0]; exact BoxR.new _ _ _ _)
  have HLE := Aside0.mk (show w.heap.size ≤ b by omega)
  go_enter Tryd.func47, Tryd.ntmps47
  go_wp2_with fail
  clear hw0 hb0
  refine (size_calls S k r w0 ((HE.out).below (HB0.out))).mono ?_
  rintro e w1 ⟨nn, u, rfl, hu, hn, hb⟩
  have HB1 := Aside0.mk (hb)
  clear hb
  rw [if_pos HK.out] at hu hn
  rw [HNW.out] at hn
  subst hn
  have hu' : u = .nilIface := hu
  subst hu'
  clear hu
  have HBM := Aside0.mk (below_step (HB0.out) HB1.out)
  go_wp2_with ((with_reducible refine gate_dst (N := 32) rfl ?_); refine print_hold ?_)
  unfold Hold
  refine Kd.R_make (Kd.int .i64) _ 3 rfl (N := 32) rfl 22 _ _ rfl (n : Int) rfl rfl Tryd.underlying22 (.int .i64 0) 8 info_i64 rfl (by decide) (by omega) 0 (ok := fun _ => True) (okp := fun _ => False) rfl (fun _ hk => hk.elim) trivial (by omega) (by rw [Int.toNat_natCast]; omega) HBM.out HBM.out.size ?_
  intro vo w2 ho hb hg_ hnew_
  rw [Int.toNat_natCast] at ho
  obtain ⟨g, co, eo, gb, gl, cl, HG⟩ := Kd.R_form ho (by simp; omega)
  rw [List.length_replicate] at eo
  subst eo
  have hb2 := (Below.refl _ _).grown hg_ (Nat.le_refl _) (fun k hk => by cases hk)
  have HO := Aside0.mk ho
  have HBO := Aside0.mk hb2
  have GB := Aside0.mk gb
  have GL := Aside0.mk gl
  have HGB := Aside0.mk HG
  clear ho hb hb2 hg_ hnew_ gb gl HG
  obtain ⟨wx1, hwx⟩ : ∃ wx, (w2).alloc (.cells #[.int .i64 k, .int .i64 r, .slice (some ⟨g, 0, none⟩) n co] tRule) = wx := ⟨_, rfl⟩
  obtain ⟨bx1, hbx⟩ : ∃ bx, (w2).heap.size = bx := ⟨_, rfl⟩
  have HBW1 := Aside0.mk (show Below (w2).heap.size w2 wx1 by rw [← hwx]; exact below_alloc (Below.refl _ _) _)
  have HBR1 := Aside0.mk (show BoxR wx1 bx1 k r (.slice (some ⟨g, 0, none⟩) n co) by rw [← hwx, ← hbx]; exact BoxR.new _ _ _ _)
  obtain ⟨q0, q1, q2⟩ := HBR1.out.cells
  go_wp2_with fail
  clear hwx hbx
  have hgx : g ≠ bx1 := by
    have h1 : wx1.heap[bx1]? = _ := HBR1.out
    have h2 := HGB.out
    exact blk_ne ((HBW1.out.block g GL.out).trans h2) h1 (by decide)
  have hgb : g ≠ b := by
    have h2 := HGB.out
    have h1 := (((((HBX.out).below (HB1.out)).below (HBO.out)).below (HBW1.out)))
    exact blk_ne ((HBW1.out.block g GL.out).trans h2) h1 (by decide)
  have HGX := Aside0.mk hgx
  have GB0 := Aside0.mk (show w.heap.size ≤ g from GB.out)
  have HCO : Aside0 (n ≤ co) := ⟨by have := (Kd.R_reads' HO.out).2.1; simpa using this⟩
  have HGBN := Aside0.mk hgb
  have HO2 := Aside0.mk (Kd.R_below HO.out HBW1.out)
  have HBX2 := Aside0.mk (((((HBX.out).below (HB1.out)).below (HBO.out)).below (HBW1.out)))
  have HB2 := Aside0.mk (below_step (below_step (below_step (HB0.out) HB1.out) HBO.out) HBW1.out)
  clear hgx hgb q0 q1 q2
  go_loopg [37, 2] n (fun kq v37 v2 w' => ∃ (i : Nat) (Ac : Option Addr) (cc : Nat) (lc : List Int), v37 = .int .i64 i ∧ v2 = .slice Ac lc.length cc ∧ i + kq = n ∧ Aside0 (lc.length ≤ cc ∧ Kd.C (Kd.int .u32) w' Ac lc.length lc) ∧ Aside0 (Limbs lc ∧ val lc = val l / k ^ i ∧ lc.length ≤ 1000000)
    ∧ Aside0 (Kd.R (Kd.int .i64) 3 w' w.heap.size (fun _ => True) (.slice (some ⟨g, 0, none⟩) n co) (dgs k (val l) i ++ List.replicate (n - i) 0)) ∧ Aside0 (BoxR w' bx1 k r (.slice (some ⟨g, 0, none⟩) n co)) ∧ Aside0 (BoxR w' b 0 0 (.slice none 0 0)) ∧ Aside0 (Below w.heap.size w w' ∧ g < w'.heap.size))
  case atStart => exact ⟨0, A, c, l, rfl, rfl, by omega, ⟨HC0.out, Kd.C_below HR.out HB2.out⟩, ⟨HL0.out, by simp, HML.out⟩, ⟨by simpa [dgs] using HO2.out⟩, HBR1, HBX2, ⟨HB2.out, by have := GL.out; have := HBW1.out.size; omega⟩⟩
  case round =>
    obtain ⟨i, Ac, cc, lc, rfl, rfl, hk, HLC, HLV, HOO, HRR, HXX, HBG⟩ := hrel
    have HBB := Aside0.mk HBG.out.1
    have GLW := Aside0.mk HBG.out.2
    by_cases hlt : i < n
    · obtain ⟨kq, rfl⟩ : ∃ kq, gk = kq + 1 := ⟨gk - 1, by omega⟩
      go_wp2_with fail
      refine (over_calls Ac cc lc k wr HLC.out.2 HLC.out.1 HLV.out.1 (by have := HLV.out.2.2; omega) (by omega) (by omega)).mono ?_
      rintro e w4 ⟨v, lq, rfl, hf, hnq, hvq, hb⟩
      obtain ⟨Aq, cq, rfl⟩ := Kd.V_slice hf
      have HQ := Aside0.mk (Kd.V_reads' hf)
      have HQFF := Aside0.mk (Kd.F_below (Kd.V_at hf).2.2 (below_drew (Below.refl _ _)))
      have HQN := Aside0.mk hnq
      have HQV := Aside0.mk hvq
      have hq0 : 0 ≤ val lc % k := Int.emod_nonneg _ (by omega)
      have hq1 : val lc % k < k := Int.emod_lt_of_pos _ (by omega)
      have HD : Aside0 (val lc % k = val l / k ^ i % k) := ⟨by rw [HLV.out.2.1]⟩
      obtain ⟨d, hd⟩ : ∃ d, val lc % k = d := ⟨_, rfl⟩
      rw [hd] at hq0 hq1 HD ⊢
      have HOO4 := Aside0.mk (Kd.R_below HOO.out hb)
      have HRR4 := Aside0.mk (HRR.out.below hb)
      have HXX4 := Aside0.mk (HXX.out.below hb)
      have HBB4 := Aside0.mk (below_step HBB.out hb)
      have HBW4 := Aside0.mk hb
      clear hf hnq hvq hb hd
      go_wp2_with fail
      have hbq : Below w4.heap.size w4 w4.drew := below_drew (Below.refl _ _)
      have HOO5 := Aside0.mk (Kd.R_below HOO4.out hbq)
      have HRR5 := Aside0.mk (HRR4.out.below hbq)
      have HXX5 := Aside0.mk (HXX4.out.below hbq)
      have HBB5 := Aside0.mk (below_step HBB4.out hbq)
      have HQ5 := Aside0.mk (Kd.C_below HQ.out.2.2 hbq)
      obtain ⟨hc, hf⟩ := Kd.R_celln 0 HOO5.out (i : Int) (by omega) (by omega)
      rw [Int.toNat_natCast] at hc hf
      have HS1 := Aside0.mk HRR5.out.cells.2.2
      have HS2 : Aside0 (∀ v, (w4.drew.setCell ⟨g, i, none⟩ v).cell? ⟨bx1, 2, none⟩ = some (.slice (some ⟨g, 0, none⟩) n co)) := ⟨fun v => (HRR5.out.far HGX.out v).cells.2.2⟩
      have hbs : ∀ v, Below w.heap.size w (w4.drew.setCell ⟨g, i, none⟩ v) := fun v => HBB5.out.setCell (p := ⟨g, i, none⟩) (by exact GB0.out) v
      have HBS := Aside0.mk hbs
      have GL5 : Aside0 (∀ v, g < (w4.drew.setCell ⟨g, i, none⟩ v).heap.size) := ⟨fun v => by have h1 := GLW.out; have h2 := HBW4.out.size; have h3 : (w4.drew.setCell ⟨g, i, none⟩ v).heap.size = w4.heap.size := (by simp [World.setCell]); omega⟩
      have hpt := (Kd.R_putg HOO5.out (i : Int) (val l / k ^ i % k)).1
      rw [Int.toNat_natCast, set_dgs k (val l) n i hlt, ← HD.out] at hpt
      have HPT := Aside0.mk hpt
      have hlen : lq.length ≤ lc.length := nrm_length HQN.out (by rw [HQV.out]; exact Int.lt_of_le_of_lt (Int.ediv_le_self _ (val_nonneg HLV.out.1)) (val_lt HLV.out.1))
      have HLQ : Aside0 (Limbs lq ∧ val lq = val l / k ^ (i + 1) ∧ lq.length ≤ 1000000) := ⟨⟨HQN.out.1, by rw [HQV.out, HLV.out.2.1, div_pow_succ _ _ _ (by omega)], by have := HLV.out.2.2; omega⟩⟩
      have HQF : Aside0 (∀ v, Kd.C (Kd.int .u32) (w4.drew.setCell ⟨g, i, none⟩ v) Aq lq.length lq) := ⟨fun v => Kd.F_now (Kd.F_far HQFF.out (p := ⟨g, i, none⟩) (fun q hq => by have h1 : wr.heap.size ≤ q := hq; have := GLW.out; show q ≠ g; omega) v)⟩
      clear hbq hbs hpt hlen
      go_region_held3 (fun w' => w'.cell? ⟨bx1, 2, none⟩ = some (.slice (some ⟨g, 0, none⟩) n co)) (first | exact HS1.out | exact HS2.out _) (fail)
      go_wp2_with fail
      go_roundg kq
      case measure => omega
      case rel => exact ⟨i + 1, Aq, cq, lq, by go_num, rfl, by omega, ⟨HQ.out.2.1, HQF.out _⟩, HLQ, HPT, ⟨HRR5.out.far HGX.out _⟩, ⟨HXX5.out.far HGBN.out _⟩, ⟨HBS.out _, GL5.out _⟩⟩
    · obtain rfl : i = n := by omega
      have hv0 := val_nonneg HLV.out.1
      have hnb := nbits_iff (trim_nrm HLV.out.1)
      rw [trim_val] at hnb
      obtain ⟨nb, hnbe⟩ : ∃ nb, nbits (trim lc) = nb := ⟨_, rfl⟩
      rw [hnbe, HLV.out.2.1] at hnb
      have HNBE := Aside0.mk hnbe
      obtain ⟨k0, k1', k2'⟩ := HXX.out.cells
      obtain ⟨z0, z1, z2⟩ := HXX.out.fr
      by_cases hpos : 0 < val l / k ^ i
      · have hnp := hnb.2 hpos
        have d3 : decide (0 < nb) = true := decide_eq_true hnp
        have hfo : fromO k r (val l) = some (3, [(ruleS, 1)]) := by rw [HFO.out, if_pos hpos]
        have hfv : fromV k r (val l) = (0, 0, []) := by rw [HFV.out, hfo]
        have HF1 := Aside0.mk hfo
        have HF2 := Aside0.mk hfv
        clear hnb hnp hpos hfo hfv hnbe hv0
        go_wp2_with fail
        refine (bits_calls Ac cc lc wr HLC.out.2 HLC.out.1 HLV.out.1 (by have := HLV.out.2.2; omega)).mono ?_
        rintro e w4 ⟨rfl, rfl⟩
        rw [HNBE.out]
        go_wp2_with fail
        refine (wrongRule_calls S 1 3 (by unfold Num; omega) wr (HE.out.below HBB.out)).mono ?_
        rintro e w4 ⟨v, rfl, hv, hb⟩
        have HV := Aside0.mk hv
        have HX4 := Aside0.mk (HXX.out.below hb)
        have HX2 := Aside0.mk ((HXX.out.below hb).put 0 0 (.slice none 0 0))
        have HB4 := Aside0.mk (below_step HBB.out hb)
        obtain ⟨k0, k1', k2'⟩ := HX4.out.cells
        obtain ⟨z0, z1, z2⟩ := HX4.out.fr
        clear hv hb
        go_wp2_with fail
        (try simp only [Exit.inBlock, Exit.then]); refine bodyPost_ret (resR2 HX2.out rfl rfl) rfl ?_
        rw [HF2.out, HF1.out]
        exact ⟨none, 0, _, rfl, Nat.le_refl _, Kd.F_nil _ _ _, ErrV.put3 HV.out k0 _ _ _, below_put3 HB4.out HLE.out _ _ _⟩
      · have hnp : ¬ 0 < nb := fun h => hpos (hnb.1 h)
        have d3 : decide (0 < nb) = false := decide_eq_false hnp
        have hfo : fromO k r (val l) = none := by rw [HFO.out, if_neg hpos]
        have hfv : fromV k r (val l) = (k, r, dgs k (val l) i) := by rw [HFV.out, hfo]
        have HF1 := Aside0.mk hfo
        have HF2 := Aside0.mk hfv
        obtain ⟨q0, q1, q2⟩ := HRR.out.cells
        have HX2 := Aside0.mk (HXX.out.put k r (.slice (some ⟨g, 0, none⟩) i co))
        clear hnb hnp hpos hfo hfv hnbe hv0
        go_wp2_with fail
        refine (bits_calls Ac cc lc wr HLC.out.2 HLC.out.1 HLV.out.1 (by have := HLV.out.2.2; omega)).mono ?_
        rintro e w4 ⟨rfl, rfl⟩
        rw [HNBE.out]
        go_wp2_with fail
        (try simp only [Exit.inBlock, Exit.then]); refine bodyPost_ret (resR2 HX2.out rfl rfl) rfl ?_
        rw [HF2.out, HF1.out]
        refine ⟨some ⟨g, 0, none⟩, co, _, ?_, ?_, ?_, rfl, below_put3 HBB.out HLE.out _ _ _⟩
        · show _ = Ending.returned (.tuple #[.agg #[.int .i64 k, .int .i64 r, .slice (some ⟨g, 0, none⟩) (dgs k (val l) i).length co], .nilIface])
          rw [dgs_len]; rfl
        · show (dgs k (val l) i).length ≤ co
          rw [dgs_len]; exact HCO.out
        · show Kd.F (Kd.int .i64) _ _ (some ⟨g, 0, none⟩) (dgs k (val l) i).length (dgs k (val l) i)
          rw [dgs_len]
          have hho := HOO.out
          rw [Nat.sub_self, List.replicate_zero, List.append_nil] at hho
          have htg := Kd.R_F (Kd.R_tight rfl hho)
          have hkg : ∀ q, some q = (Value.slice (some ⟨g, 0, none⟩) i co).ownBlock → q = g := fun q hq => by simpa [Value.ownBlock] using hq
          exact Kd.F_mono (F_put3 htg (fun q hq => by have h1 := hkg q hq; have h2 := HGBN.out; omega) _ _ _) (fun q hq => by have h1 := hkg q hq; have h2 := GB0.out; omega)
theorem from_calls (S : Nat → Addr) (k r : Int) (A : Option Addr) (c : Nat) (l : List Int) (w : World) (hE : Env S w) (hr : Kd.C (Kd.int .u32) w A l.length l) (hc : l.length ≤ c) (hL : Limbs l) (hml : l.length ≤ 1000000) :
    Calls Tryd.prog 47 #[.int .i64 k, .int .i64 r, .slice A l.length c] w (AnsR S w (fromO k r (val l)) (fromV k r (val l))) := by
  by_cases h : KR k r
  · by_cases hb : 256 < nwin k r
    · have h1 : fromO k r (val l) = some (4, [(ruleS, 0)]) := by unfold fromO; rw [if_pos h, if_pos hb]
      have h2 : fromV k r (val l) = (0, 0, []) := by unfold fromV; rw [h1]
      rw [h2, h1]
      exact from_big S k r A c l w hE h hb
    · exact from_ok S k r A c l w hE hr hc hL hml h (by omega)
  · have h1 : fromO k r (val l) = some (3, [(ruleS, 0)]) := by unfold fromO; rw [if_neg h]
    have h2 : fromV k r (val l) = (0, 0, []) := by unfold fromV; rw [h1]
    rw [h2, h1]
    exact from_bad S k r A c l w hE h
end Go.Proofs.YtefhlonipglboaaDoor

/- rule.Parse: the small rule that a text writes. -/
namespace Go.Proofs.YtefhlonipglboaaDoor
open Go.RowKit Go.Extern.Stop Go.Stop Go.Extern Go.Proofs.YtefhlonipglboaaDoorW.PrintWords Go.Proofs.YtefhlonipglboaaDoorW.PrintLast Go.Proofs.YtefhlonipglboaaDoorW.PrintMore
set_option linter.unusedVariables false
set_option linter.unusedSimpArgs false

/-- an answer that is a number, and an error -/
def AnsN (S : Nat → Addr) (w : World) (o : Fr) (x : Int) (e : Ending) (w' : World) : Prop :=
  ∃ v u l, e = .returned (.tuple #[v, u]) ∧ FrN w.heap.size w' v l ∧ Nrm l ∧ val l = x ∧ l.length ≤ 1000000 ∧ ErrV S w' u o ∧ Below w.heap.size w w'
/-- what rule.Parse says: p is what nat.Parse says of the rest, x its number -/
def parseRO (s : ByteArray) (p : Fr) (x : Int) : Fr :=
  if 8192 < s.size then some (4, [(ruleS, 0)]) else
  if headV s < 4 then some (6, [(ruleS, headV s)]) else
  if 256 < nwin (bt s 0 - 48) (bt s 2 - 48) then some (4, [(ruleS, 0)]) else
  match p with
  | some _ => undF ruleS 4 p
  | none => match fromO (bt s 0 - 48) (bt s 2 - 48) x with
    | some _ => some (3, [(ruleS, 4)])
    | none => none
def parseRV (s : ByteArray) (p : Fr) (x : Int) : Int × Int × List Int := match parseRO s p x with
  | some _ => (0, 0, [])
  | none => fromV (bt s 0 - 48) (bt s 2 - 48) x
theorem headV_four {s : ByteArray} (h : ¬ headV s < 4) : inB s 0 = true ∧ inB s 1 = true ∧ inB s 2 = true ∧ inB s 3 = true := by
  unfold headV at h
  cases h0 : inB s 0 with
  | false => rw [h0] at h; simp at h
  | true =>
    rw [h0] at h
    cases h1 : inB s 1 with
    | false => rw [h1] at h; simp at h
    | true =>
      rw [h1] at h
      cases h2 : inB s 2 with
      | false => rw [h2] at h; simp at h
      | true =>
        rw [h2] at h
        cases h3 : inB s 3 with
        | false => rw [h3] at h; simp at h
        | true => exact ⟨rfl, rfl, rfl, rfl⟩
theorem rngB_true {s : ByteArray} {i : Nat} {lo hi : Int} (h : rngB s i lo hi = true) : i < s.size ∧ lo ≤ bt s (i : Int) ∧ bt s (i : Int) ≤ hi := by
  unfold rngB at h
  simp only [Bool.and_eq_true, decide_eq_true_eq] at h
  exact ⟨h.1.1, h.1.2, h.2⟩
theorem headV_nonneg (s : ByteArray) : 0 ≤ headV s ∧ headV s ≤ 4 := by
  unfold headV
  repeat' split
  all_goals omega

set_option maxHeartbeats 1000000 in
set_option maxRecDepth 100000 in
theorem parseR_calls (S : Nat → Addr) (s : ByteArray) (p : Fr) (hp : Few 999 p) (x : Int) (w : World) (hE : Env S w) (hs : s.size ≤ 9223372036854775807)
    (hP : ¬ 8192 < s.size → ¬ headV s < 4 → ∀ W, Env S W → Calls Tryd.prog 140 #[.string (s.extract 4 s.size)] W (AnsN S W p x)) :
    Calls Tryd.prog 82 #[.string s] w (AnsR S w (parseRO s p x) (parseRV s p x)) := by
  have HPP := Aside0.mk hp
  have HE := Aside0.mk hE
  have HP := Aside0.mk hP
  clear hE hP
  obtain ⟨w0, hw0⟩ : ∃ w0, w.alloc (.cells #[.int .i64 0, .int .i64 0, .slice none 0 0] tRule) = w0 := ⟨_, rfl⟩
  obtain ⟨b, hb0⟩ : ∃ b, w.heap.size = b := ⟨_, rfl⟩
  have HB0 := Aside0.mk (show Below w.heap.size w w0 by rw [← hw0]; exact below_alloc (Below.refl _ _) _)
  have HBX := Aside0.mk (show BoxR w0 b 0 0 (.slice none 0 0) by rw [← hw0, ← hb0]; exact BoxR.new _ _ _ _)
  have HLE := Aside0.mk (show w.heap.size ≤ b by omega)
  by_cases h1 : 8192 < s.size
  · have ho : parseRO s p x = some (4, [(ruleS, 0)]) := by unfold parseRO; rw [if_pos h1]
    have hv : parseRV s p x = (0, 0, []) := by unfold parseRV; rw [ho]
    rw [hv, ho]
    have d1 : decide ((8192 : Int) < s.size) = true := decide_eq_true (by omega)
    clear ho hv hp
    go_enter Tryd.func82, Tryd.ntmps82
    go_wp2_with fail
    clear hw0 hb0
    refine (wrongRule_calls S 0 4 (by unfold Num; omega) w0 ((HE.out).below (HB0.out))).mono ?_
    rintro e w1 ⟨v, rfl, hv, hb⟩
    have HB1 := Aside0.mk (hb)
    have HV := Aside0.mk hv
    clear hb hv
    obtain ⟨k0, k1, k2⟩ := (((HBX.out).below (HB1.out))).cells
    obtain ⟨z0, z1, z2⟩ := (((HBX.out).below (HB1.out))).fr
    have HX2 := Aside0.mk ((((HBX.out).below (HB1.out))).put 0 0 (.slice none 0 0))
    go_wp2_with fail
    (try simp only [Exit.inBlock, Exit.then]); refine bodyPost_ret (resR2 HX2.out rfl rfl) rfl ?_
    exact ⟨none, 0, _, rfl, Nat.le_refl _, Kd.F_nil _ _ _, ErrV.put3 (HV.out) k0 _ _ _, below_put3 (below_step (HB0.out) HB1.out) HLE.out _ _ _⟩
  have d1 : decide ((8192 : Int) < s.size) = false := decide_eq_false (by omega)
  by_cases h2 : headV s < 4
  · have ho : parseRO s p x = some (6, [(ruleS, headV s)]) := by unfold parseRO; rw [if_neg h1, if_pos h2]
    have hv : parseRV s p x = (0, 0, []) := by unfold parseRV; rw [ho]
    rw [hv, ho]
    have h0 := (headV_nonneg s).1
    obtain ⟨q, hq⟩ : ∃ q, headV s = q := ⟨_, rfl⟩
    have HQ := Aside0.mk hq
    rw [hq] at h2 h0 ⊢
    clear ho hv hp hq
    go_enter Tryd.func82, Tryd.ntmps82
    go_wp2_with fail
    clear hw0 hb0
    refine (head_calls s w0).mono ?_
    rintro e w1 ⟨rfl, hb⟩
    have HB1 := Aside0.mk (hb)
    clear hb
    rw [HQ.out]
    go_wp2_with fail
    refine (wrongRule_calls S q 6 (by unfold Num; omega) w1 (((HE.out).below (HB0.out)).below (HB1.out))).mono ?_
    rintro e w2 ⟨v, rfl, hv, hb⟩
    have HB2 := Aside0.mk (hb)
    have HV := Aside0.mk hv
    clear hb hv
    obtain ⟨k0, k1, k2⟩ := ((((HBX.out).below (HB1.out)).below (HB2.out))).cells
    obtain ⟨z0, z1, z2⟩ := ((((HBX.out).below (HB1.out)).below (HB2.out))).fr
    have HX2 := Aside0.mk (((((HBX.out).below (HB1.out)).below (HB2.out))).put 0 0 (.slice none 0 0))
    go_wp2_with fail
    (try simp only [Exit.inBlock, Exit.then]); refine bodyPost_ret (resR2 HX2.out rfl rfl) rfl ?_
    exact ⟨none, 0, _, rfl, Nat.le_refl _, Kd.F_nil _ _ _, ErrV.put3 (HV.out) k0 _ _ _, below_put3 (below_step (below_step (HB0.out) HB1.out) HB2.out) HLE.out _ _ _⟩
  have h2' : headV s = 4 := by have := headV_nonneg s; omega
  obtain ⟨i0, i1, i2, i3⟩ := headV_four h2
  obtain ⟨a0, a1, a2⟩ := rngB_true (i := 0) i0
  obtain ⟨b0, b1, b2⟩ := rngB_true (i := 2) i2
  obtain ⟨e0, _, _⟩ := rngB_true (i := 3) i3
  obtain ⟨c0, hc0⟩ : ∃ c0, bt s 0 = c0 := ⟨_, rfl⟩
  obtain ⟨c2, hc2⟩ : ∃ c2, bt s 2 = c2 := ⟨_, rfl⟩
  have a1' : 49 ≤ c0 := by rw [← hc0]; exact a1
  have a2' : c0 ≤ 52 := by rw [← hc0]; exact a2
  have b1' : 48 ≤ c2 := by rw [← hc2]; exact b1
  have b2' : c2 ≤ 51 := by rw [← hc2]; exact b2
  have hx0 : ∀ h : 0 < s.size, ((s[0]'h).toNat : Int) = c0 := fun h => by rw [← hc0]; exact bt_at s 0 h
  have hx2 : ∀ h : 2 < s.size, ((s[2]'h).toNat : Int) = c2 := fun h => by rw [← hc2]; exact bt_at s 2 h
  have hP2 := HP.out h1 h2
  have HP2 := Aside0.mk hP2
  have HH := Aside0.mk h2'
  have hK : KR (c0 - 48) (c2 - 48) := by unfold KR; omega
  have HK := Aside0.mk hK
  have hwin := hK.win
  have HRO : Aside0 (parseRO s p x = if 256 < nwin (c0 - 48) (c2 - 48) then some (4, [(ruleS, 0)]) else match p with | some _ => undF ruleS 4 p | none => match fromO (c0 - 48) (c2 - 48) x with | some _ => some (3, [(ruleS, 4)]) | none => none) := ⟨by unfold parseRO; rw [if_neg h1, if_neg h2, hc0, hc2]⟩
  have HRV : Aside0 (parseRV s p x = match parseRO s p x with | some _ => (0, 0, []) | none => fromV (c0 - 48) (c2 - 48) x) := ⟨by unfold parseRV; rw [hc0, hc2]⟩
  have s4 : (4 : Int) ≤ s.size := by omega
  obtain ⟨nw, hnw⟩ : ∃ nw, nwin (c0 - 48) (c2 - 48) = nw := ⟨_, rfl⟩
  rw [hnw] at hwin HRO
  have HNW := Aside0.mk hnw
  clear hp h2 h2' i0 i1 i2 i3 a0 a1 a2 b0 b1 b2 e0 hc0 hc2 hP2 hK HP hnw
  go_enter Tryd.func82, Tryd.ntmps82
  go_wp2_with fail
  clear hw0 hb0
  refine (head_calls s w0).mono ?_
  rintro e w1 ⟨rfl, hb⟩
  have HB1 := Aside0.mk (hb)
  clear hb
  rw [HH.out]
  go_wp2_with fail
  go_quiet (fail)
  go_wp2_with fail
  refine (size_calls S (c0 - 48) (c2 - 48) (w1.drewN nq) ((((HE.out).below (HB0.out)).below (HB1.out)).below (pw_below_drewN (Below.refl _ _) nq))).mono ?_
  rintro e w2 ⟨n, u, rfl, hu, hn, hb⟩
  have HB2 := Aside0.mk (below_step (pw_below_drewN (Below.refl _ _) nq) hb)
  clear hb
  rw [if_pos HK.out] at hu hn
  rw [HNW.out] at hn
  subst hn
  have hu' : u = .nilIface := hu
  subst hu'
  clear hu
  by_cases hbig : 256 < n
  · have ho : parseRO s p x = some (4, [(ruleS, 0)]) := by rw [HRO.out, if_pos hbig]
    have hv : parseRV s p x = (0, 0, []) := by rw [HRV.out, ho]
    have HF1 := Aside0.mk ho
    have HF2 := Aside0.mk hv
    have d3 : decide (256 < n) = true := decide_eq_true hbig
    clear ho hv
    go_wp2_with fail
    refine (wrongRule_calls S 0 4 (by unfold Num; omega) w2 ((((HE.out).below (HB0.out)).below (HB1.out)).below (HB2.out))).mono ?_
    rintro e w3 ⟨v, rfl, hv, hb⟩
    have HB3 := Aside0.mk (hb)
    have HV := Aside0.mk hv
    clear hb hv
    obtain ⟨k0, k1, k2⟩ := (((((HBX.out).below (HB1.out)).below (HB2.out)).below (HB3.out))).cells
    obtain ⟨z0, z1, z2⟩ := (((((HBX.out).below (HB1.out)).below (HB2.out)).below (HB3.out))).fr
    have HX2 := Aside0.mk ((((((HBX.out).below (HB1.out)).below (HB2.out)).below (HB3.out))).put 0 0 (.slice none 0 0))
    go_wp2_with fail
    (try simp only [Exit.inBlock, Exit.then]); refine bodyPost_ret (resR2 HX2.out rfl rfl) rfl ?_
    rw [HF2.out, HF1.out]
    exact ⟨none, 0, _, rfl, Nat.le_refl _, Kd.F_nil _ _ _, ErrV.put3 (HV.out) k0 _ _ _, below_put3 (below_step (below_step (below_step (HB0.out) HB1.out) HB2.out) HB3.out) HLE.out _ _ _⟩
  have d3 : decide (256 < n) = false := decide_eq_false hbig
  go_wp2_with fail
  with_reducible refine (HP2.out w2 ((((HE.out).below (HB0.out)).below (HB1.out)).below (HB2.out))).mono ?_
  rintro e w3 ⟨v, u, l, rfl, hf, hnl, hvl, hll, hu, hb⟩
  have HB3 := Aside0.mk (hb)
  clear hb
  obtain ⟨Av, cv, rfl⟩ := Kd.V_slice hf
  have hfr := Kd.V_reads' hf
  have HC := Aside0.mk hfr.2.2
  have HCC := Aside0.mk hfr.2.1
  have HLM := Aside0.mk hnl.1
  have HVL := Aside0.mk hvl
  have HLL := Aside0.mk hll
  clear hf hfr hnl hvl hll
  cases p with
  | some pp =>
    have ho : parseRO s (some pp) x = undF ruleS 4 (some pp) := by rw [HRO.out, if_neg (by omega)]
    have hv : parseRV s (some pp) x = (0, 0, []) := by rw [HRV.out, ho]; rfl
    have HF1 := Aside0.mk ho
    have HF2 := Aside0.mk hv
    obtain ⟨ut, ux, rfl⟩ := hu.2.2.form
    have HU := Aside0.mk hu
    clear ho hv hu
    go_wp2_with fail
    refine (under_calls S ruleS 4 (some pp) (HPP.out.mono (by decide)) _ w3 (HU.out)).mono ?_
    rintro e w4 ⟨v, rfl, hv, hb⟩
    have HB4 := Aside0.mk (hb)
    have HV := Aside0.mk hv
    clear hb hv
    obtain ⟨k0, k1, k2⟩ := ((((((HBX.out).below (HB1.out)).below (HB2.out)).below (HB3.out)).below (HB4.out))).cells
    obtain ⟨z0, z1, z2⟩ := ((((((HBX.out).below (HB1.out)).below (HB2.out)).below (HB3.out)).below (HB4.out))).fr
    have HX2 := Aside0.mk (((((((HBX.out).below (HB1.out)).below (HB2.out)).below (HB3.out)).below (HB4.out))).put 0 0 (.slice none 0 0))
    go_wp2_with fail
    (try simp only [Exit.inBlock, Exit.then]); refine bodyPost_ret (resR2 HX2.out rfl rfl) rfl ?_
    rw [HF2.out, HF1.out]
    exact ⟨none, 0, _, rfl, Nat.le_refl _, Kd.F_nil _ _ _, ErrV.put3 (HV.out) k0 _ _ _, below_put3 (below_step (below_step (below_step (below_step (HB0.out) HB1.out) HB2.out) HB3.out) HB4.out) HLE.out _ _ _⟩
  | none =>
    have hu' : u = .nilIface := hu
    subst hu'
    clear hu
    go_wp2_with fail
    have HLT := Aside0.mk (((((HBX.out).below (HB1.out)).below (HB2.out)).below (HB3.out))).lt
    with_reducible refine (from_calls S (c0 - 48) (c2 - 48) Av cv l w3 (((((HE.out).below (HB0.out)).below (HB1.out)).below (HB2.out)).below (HB3.out)) (HC.out) HCC.out HLM.out HLL.out).mono ?_
    rintro e w4 ⟨Af, cf, uf, rfl, hlf, hCf, huf, hb⟩
    have HB4 := Aside0.mk (hb)
    clear hb
    rw [HVL.out] at hlf hCf huf ⊢
    obtain ⟨ka, ra, ta, hq⟩ : ∃ ka ra ta, fromV (c0 - 48) (c2 - 48) x = (ka, ra, ta) := ⟨_, _, _, rfl⟩
    rw [hq] at hlf hCf ⊢
    have HQ := Aside0.mk hq
    have HCF := Aside0.mk hCf
    have HLF := Aside0.mk hlf
    clear hq hCf hlf
    obtain ⟨wx, hwx⟩ : ∃ wx, (w4).alloc (.cells #[.int .i64 ka, .int .i64 ra, .slice Af ta.length cf] tRule) = wx := ⟨_, rfl⟩
    obtain ⟨bx, hbx⟩ : ∃ bx, (w4).heap.size = bx := ⟨_, rfl⟩
    have HBW := Aside0.mk (show Below (w4).heap.size w4 wx by rw [← hwx]; exact below_alloc (Below.refl _ _) _)
    have HBR := Aside0.mk (show BoxR wx bx ka ra (.slice Af ta.length cf) by rw [← hwx, ← hbx]; exact BoxR.new _ _ _ _)
    cases hfo : fromO (c0 - 48) (c2 - 48) x with
    | some pp =>
      rw [hfo] at huf
      obtain ⟨ut, ux, rfl⟩ := huf.2.2.form
      have ho : parseRO s none x = some (3, [(ruleS, 4)]) := by rw [HRO.out, if_neg (by omega)]; simp only [hfo]
      have hv : parseRV s none x = (0, 0, []) := by rw [HRV.out, ho]
      have HF1 := Aside0.mk ho
      have HF2 := Aside0.mk hv
      clear ho hv huf hfo
      go_wp2_with fail
      clear hwx hbx
      refine (wrongRule_calls S 4 3 (by unfold Num; omega) wx (((((((HE.out).below (HB0.out)).below (HB1.out)).below (HB2.out)).below (HB3.out)).below (HB4.out)).below (HBW.out))).mono ?_
      rintro e w5 ⟨v, rfl, hv, hb⟩
      have HB5 := Aside0.mk (hb)
      have HV := Aside0.mk hv
      clear hb hv
      obtain ⟨k0, k1, k2⟩ := ((((((((HBX.out).below (HB1.out)).below (HB2.out)).below (HB3.out)).below (HB4.out)).below (HBW.out)).below (HB5.out))).cells
      obtain ⟨z0, z1, z2⟩ := ((((((((HBX.out).below (HB1.out)).below (HB2.out)).below (HB3.out)).below (HB4.out)).below (HBW.out)).below (HB5.out))).fr
      have HX2 := Aside0.mk (((((((((HBX.out).below (HB1.out)).below (HB2.out)).below (HB3.out)).below (HB4.out)).below (HBW.out)).below (HB5.out))).put 0 0 (.slice none 0 0))
      go_wp2_with fail
      (try simp only [Exit.inBlock, Exit.then]); refine bodyPost_ret (resR2 HX2.out rfl rfl) rfl ?_
      rw [HF2.out, HF1.out]
      exact ⟨none, 0, _, rfl, Nat.le_refl _, Kd.F_nil _ _ _, ErrV.put3 (HV.out) k0 _ _ _, below_put3 (below_step (below_step (below_step (below_step (below_step (below_step (HB0.out) HB1.out) HB2.out) HB3.out) HB4.out) HBW.out) HB5.out) HLE.out _ _ _⟩
    | none =>
      rw [hfo] at huf
      have hu' : uf = .nilIface := huf
      subst hu'
      have ho : parseRO s none x = none := by rw [HRO.out, if_neg (by omega)]; simp only [hfo]
      have hv : parseRV s none x = (ka, ra, ta) := by rw [HRV.out, ho, ← HQ.out]
      have HF1 := Aside0.mk ho
      have HF2 := Aside0.mk hv
      clear ho hv huf hfo
      obtain ⟨k0, k1, k2⟩ := (((((((HBX.out).below (HB1.out)).below (HB2.out)).below (HB3.out)).below (HB4.out)).below (HBW.out))).cells
      obtain ⟨z0, z1, z2⟩ := (((((((HBX.out).below (HB1.out)).below (HB2.out)).below (HB3.out)).below (HB4.out)).below (HBW.out))).fr
      obtain ⟨y0, y1, y2⟩ := HBR.out.cells
      have HX2 := Aside0.mk ((((((((HBX.out).below (HB1.out)).below (HB2.out)).below (HB3.out)).below (HB4.out)).below (HBW.out))).put ka ra (.slice Af ta.length cf))
      have hbl := (((((((HBX.out).below (HB1.out)).below (HB2.out)).below (HB3.out)).below (HB4.out)).below (HBW.out)))
      go_wp2_with fail
      clear hwx hbx
      (try simp only [Exit.inBlock, Exit.then]); refine bodyPost_ret (resR2 HX2.out rfl rfl) rfl ?_
      rw [HF2.out, HF1.out]
      exact ⟨Af, cf, _, rfl, HLF.out, Kd.F_mono (F_put3 (Kd.F_below (HCF.out) (HBW.out)) (fun q hq => by have h1 := HLT.out; omega) _ _ _) (fun q hq => by have h1 := HLT.out; have h2 := HLE.out; omega), rfl, below_put3 (below_step (below_step (below_step (below_step (below_step (HB0.out) HB1.out) HB2.out) HB3.out) HB4.out) HBW.out) HLE.out _ _ _⟩
end Go.Proofs.YtefhlonipglboaaDoor

/- What nat.Parse computes of a text of digits: the number that it writes. -/
namespace Go.Proofs.YtefhlonipglboaaDoor
open Go.RowKit Go.Proofs.YtefhlonipglboaaDoorW.PrintWords Go.Proofs.YtefhlonipglboaaDoorW.PrintLast Go.Proofs.YtefhlonipglboaaDoorW.PrintMore
set_option linter.unusedVariables false
set_option linter.unusedSimpArgs false

theorem C_one {w : World} {ad : Addr} {x : Int} (h : w.cell? ad = some (.int .u32 x)) : Kd.C (Kd.int .u32) w (some ad) [x].length [x] := by
  refine Kd.C_of_reads (d := 0) ⟨rfl, by simp, fun _ => ⟨ad, rfl, fun j hj => ?_⟩⟩
  have : j = 0 := by simpa using hj
  subst this
  simpa [Addr.add] using h
theorem mul_one_calls (A0 : Option Addr) (ad : Addr) (c0 : Nat) (l0 : List Int) (x : Int) (w : World) (hr0 : Kd.C (Kd.int .u32) w A0 l0.length l0) (hc0 : l0.length ≤ c0) (hx : w.cell? ad = some (.int .u32 x))
    (hL0 : Limbs l0) (hx0 : 0 ≤ x ∧ x < 4294967296) (hm : l0.length + 1 ≤ 70368744177664) :
    Calls Tryd.prog 90 #[.slice A0 l0.length c0, .slice (some ad) 1 1] w (NatRes w (val l0 * x)) := by
  have h := mul_calls A0 (some ad) c0 1 l0 [x] w hr0 hc0 (C_one hx) (by simp) hL0 (Limbs.cons hx0 Limbs.nil) (by simpa using hm)
  simpa [val] using h
theorem add_one_calls (A0 : Option Addr) (ad : Addr) (c0 : Nat) (l0 : List Int) (x : Int) (w : World) (hr0 : Kd.C (Kd.int .u32) w A0 l0.length l0) (hc0 : l0.length ≤ c0) (hx : w.cell? ad = some (.int .u32 x))
    (hL0 : Limbs l0) (hx0 : 0 ≤ x ∧ x < 4294967296) (hm : l0.length + 1 ≤ 70368744177664) :
    Calls Tryd.prog 89 #[.slice A0 l0.length c0, .slice (some ad) 1 1] w (NatRes w (val l0 + x)) := by
  have h := add_calls A0 (some ad) c0 1 l0 [x] w hr0 hc0 (C_one hx) (by simp) hL0 (Limbs.cons hx0 Limbs.nil) hm (by simp)
  simpa [val] using h

theorem nat_step {w W w2 : World} {v : Value} {r : List Int} (hB : Below w.heap.size w W) (hf : FrN W.heap.size w2 v r) (hb : Below W.heap.size W w2) : FrN w.heap.size w2 v r ∧ Below w.heap.size w w2 :=
  ⟨hf.lower hB.size, below_step hB hb⟩
/-- the number that digits write -/
def decv (l : List UInt8) : Int := l.foldl (fun a b => 10 * a + ((b.toNat : Int) - 48)) 0
theorem decv_snoc (l : List UInt8) (b : UInt8) : decv (l ++ [b]) = 10 * decv l + ((b.toNat : Int) - 48) := by simp [decv]
def Digits (l : List UInt8) : Prop := ∀ b ∈ l, 48 ≤ b.toNat ∧ b.toNat ≤ 57
theorem decv_lt : ∀ (n : Nat) (l : List UInt8), l.length = n → Digits l → 0 ≤ decv l ∧ decv l < 4294967296 ^ n
  | 0, l, hl, _ => by
    rw [List.length_eq_zero_iff.1 hl]; simp [decv]
  | n + 1, l, hl, h => by
    obtain ⟨m, b, rfl⟩ : ∃ m b, l = m ++ [b] := ⟨l.dropLast, l.getLast (by intro e; subst e; simp at hl), (List.dropLast_concat_getLast _).symm⟩
    have ih := decv_lt n m (by simpa using hl) (fun x hx => h x (by simp [hx]))
    have hb := h b (by simp)
    rw [decv_snoc, Int.pow_succ]
    omega
theorem bytes_get (s : ByteArray) (i : Nat) (h : i < s.size) : s.data.toList[i]'(by simpa using h) = s[i] := rfl
theorem bytes_take_succ (s : ByteArray) (k : Nat) (h : k < s.size) : s.data.toList.take (k + 1) = s.data.toList.take k ++ [s[k]] := by
  rw [List.take_succ_eq_append_getElem (by simpa using h)]; rfl

/-- what nat.Parse leaves when all is well -/
def ParseRes (w : World) (x : Int) (e : Ending) (w' : World) : Prop := ∃ v r, e = .returned (.tuple #[v, .nilIface]) ∧ FrN w.heap.size w' v r ∧ Nrm r ∧ val r = x ∧ Below w.heap.size w w'
set_option maxHeartbeats 8000000 in
set_option maxRecDepth 100000 in
theorem parse_calls (s : ByteArray) (w : World) (h1 : s.size ≤ 1200) (h0 : 0 < s.size) (hd : Digits s.data.toList) (hz : s.size = 1 ∨ (s.data.toList.getD 0 0).toNat ≠ 48) :
    Calls Tryd.prog 140 #[.string s] w (ParseRes w (decv s.data.toList)) := by
  have HDg := Aside0.mk hd
  have HZ := Aside0.mk hz
  have hne : s.toList ≠ [] := by
    rw [ByteArray.toList_eq]
    intro e
    have h2 : s.data.toList.length = 0 := by rw [e]; rfl
    have h3 : s.data.toList.length = s.size := by simp
    omega
  have hem : s.toList.isEmpty = false := by simpa using hne
  have hem2 : (s.toList == []) = false := by simpa using hne
  have hsz : decide (1200 < (s.size : Int)) = false := decide_eq_false (by omega)
  clear hne
  clear hd hz
  go_enter Tryd.func140, Tryd.ntmps140
  go_wp2_with fail
  go_loopg [4, 17] (s.size) (fun kq v4 v17 w' => ∃ (i : Nat) (A : Option Addr) (c : Nat) (l : List Int), v4 = .slice A l.length c ∧ v17 = .int .i64 i ∧ Aside0 (kq + i = s.size) ∧ Aside0 (FrN w.heap.size w' (.slice A l.length c) l) ∧ Aside0 (Nrm l ∧ val l = decv (s.data.toList.take i)) ∧ Aside0 (Below w.heap.size w w'))
  case atStart => exact ⟨0, none, 0, [], rfl, rfl, ⟨rfl⟩, ⟨FrN.nil _ _⟩, ⟨⟨Limbs.nil, trivial⟩, rfl⟩, ⟨Below.refl _ _⟩⟩
  case round =>
    obtain ⟨i, A, c, l, rfl, rfl, HK, HF, HV, HB⟩ := hrel
    by_cases hlt : i < s.size
    · have hb := HDg.out s[i] (by rw [← bytes_get s i hlt]; exact List.getElem_mem _)
      have hlo : 48 ≤ ((s[i]).toNat : Int) := by omega
      have hhi : ((s[i]).toNat : Int) ≤ 57 := by omega
      have hib : i < 9223372036854775807 := by omega
      clear hb
      have HC4 : Aside0 (Kd.C (Kd.int .u32) wr A l.length l ∧ l.length ≤ c) := ⟨(Kd.V_reads' HF.out).2.2, (Kd.V_reads' HF.out).2.1⟩
      have HLEN : Aside0 (l.length ≤ i) := ⟨by
        have h := decv_lt i (s.data.toList.take i) (by simp; omega) (fun b hb => HDg.out b (List.mem_of_mem_take hb))
        exact nrm_length HV.out.1 (by rw [HV.out.2]; exact h.2)⟩
      have hw1 : IntKind.u8.wrap ((s[i].toNat : Int) - 48) = (s[i].toNat : Int) - 48 := by rw [IntKind.wrap_u8]; omega
      have hw2 : IntKind.u32.wrap ((s[i].toNat : Int) - 48) = (s[i].toNat : Int) - 48 := by rw [IntKind.wrap_u32]; omega
      have HSN := Aside0.mk (bytes_take_succ s i hlt)
      have HDB : Aside0 (0 ≤ (s[i].toNat : Int) - 48 ∧ (s[i].toNat : Int) - 48 < 4294967296) := ⟨by omega⟩
      have hi0 : (0 : Int) ≤ (i : Int) := by omega
      have hi1 : (i : Int) < (s.size : Int) := by omega
      have HLL : Aside0 (∀ r2, Nrm r2 → val r2 = val l * 10 → r2.length ≤ i + 1) := ⟨fun r2 h2 hv2 => by
        have h := decv_lt i (s.data.toList.take i) (by simp; omega) (fun b hb => HDg.out b (List.mem_of_mem_take hb))
        refine nrm_length h2 ?_
        rw [hv2, HV.out.2, Int.pow_succ]
        omega⟩
      obtain ⟨k1, rfl⟩ : ∃ k1, gk = k1 + 1 := ⟨gk - 1, by have := HK.out; omega⟩
      go_wp2_with fail
      go_region_held3 (fun _ => True) (trivial) ((first
        | (go_at_call 90; (refine (mul_one_calls A _ c l 10 _ (by exact Kd.C_below HC4.out.1 (by repeat (first | exact Below.refl _ _ | apply below_alloc | apply below_drew | apply pw_below_drewN))) HC4.out.2 (by simp) HV.out.1.1 (by decide) (by have := HLEN.out; omega)).mono ?_); rintro e w2 ⟨v2, r2, rfl, hf2, hn2, hv2, hb2⟩; obtain ⟨A2, c2, rfl⟩ := Kd.V_slice hf2; have HF2 := Aside0.mk (nat_step (by repeat (first | exact HB.out | apply below_alloc | apply below_drew | apply pw_below_drewN)) hf2 hb2); have HN2 := Aside0.mk hn2; have HV2 := Aside0.mk hv2; have HB2 := Aside0.mk hb2; clear hf2 hn2 hv2 hb2)
        | (go_at_call 89; (refine (add_one_calls A2 _ c2 r2 ((s[i].toNat : Int) - 48) _ (by exact Kd.C_below (Kd.V_reads' HF2.out.1).2.2 (by repeat (first | exact Below.refl _ _ | apply below_alloc | apply below_drew | apply pw_below_drewN))) (Kd.V_reads' HF2.out.1).2.1 (by first | (simp; done) | (exact (HB2.out.cell (by simp <;> omega)).trans (by simp))) HN2.out.1 HDB.out (by have := HLL.out r2 HN2.out HV2.out; omega)).mono ?_); rintro e w3 ⟨v3, r3, rfl, hf3, hn3, hv3, hb3⟩; obtain ⟨A3, c3, rfl⟩ := Kd.V_slice hf3; have HF3 := Aside0.mk (nat_step (by repeat (first | exact HF2.out.2 | apply below_alloc | apply below_drew | apply pw_below_drewN)) hf3 hb3); have HN3 := Aside0.mk hn3; have HV3 := Aside0.mk hv3; clear hf3 hn3 hv3 hb3)))
      all_goals
        go_wp2_with fail
        go_roundg k1
        case measure => omega
        case rel => exact ⟨i + 1, A3, c3, r3, rfl, by go_num, ⟨by have := HK.out; omega⟩, ⟨HF3.out.1⟩, ⟨HN3.out, by rw [HV3.out, HV2.out, HV.out.2, HSN.out, decv_snoc]; omega⟩, ⟨HF3.out.2⟩⟩
    · obtain rfl : i = s.size := by have := HK.out; omega
      have HVV : Aside0 (val l = decv s.data.toList) := ⟨by rw [HV.out.2, List.take_of_length_le (by simp)]⟩
      by_cases h1s : s.size = 1
      · have hd1 : decide (1 < (s.size : Int)) = false := decide_eq_false (by omega)
        clear h1s
        go_wp2_with fail
        go_ret2
        exact ⟨_, l, rfl, HF.out, HV.out.1, HVV.out, HB.out⟩
      · have hd1 : decide (1 < (s.size : Int)) = true := decide_eq_true (by omega)
        have hz0 : ((s[0].toNat : Int) == 48) = false := by
          rw [beq_eq_false_iff_ne]
          have h3 := HZ.out.resolve_left h1s
          have h4 : s.data.toList.getD 0 0 = s[0] := by
            rw [List.getD_eq_getElem?_getD, List.getElem?_eq_getElem (by simpa using h0), ← bytes_get s 0 h0]; rfl
          rw [h4] at h3
          omega
        have hzz : (0 : Int) < (s.size : Int) := by omega
        clear h1s
        go_wp2_with fail
        go_ret2
        exact ⟨_, l, rfl, HF.out, HV.out.1, HVV.out, HB.out⟩
end Go.Proofs.YtefhlonipglboaaDoor

/- edenlaw04's awake. -/
namespace Go.Proofs.YtefhlonipglboaaDoor
open Go.RowKit Go.Extern.Stop Go.Stop Go.Extern Go.Proofs.YtefhlonipglboaaDoorW.PrintWords Go.Proofs.YtefhlonipglboaaDoorW.PrintLast Go.Proofs.YtefhlonipglboaaDoorW.PrintMore
set_option linter.unusedVariables false
set_option linter.unusedSimpArgs false

abbrev s110 : ByteArray := ⟨#[50, 46, 49, 46, 49, 49, 48]⟩
abbrev t110 : List Int := [0, 1, 1, 1, 0, 1, 1, 0]
theorem parse110 (S : Nat → Addr) (W : World) : Calls Tryd.prog 140 #[.string (s110.extract 4 s110.size)] W (AnsN S W none 110) := by
  have hs : s110.extract 4 s110.size = ⟨#[49, 49, 48]⟩ := by decide
  rw [hs]
  have hd : decv [49, 49, 48] = 110 := by decide
  refine (parse_calls ⟨#[49, 49, 48]⟩ W (by decide) (by decide) (by unfold Digits; decide) (Or.inr (by decide))).mono ?_
  rintro e w' ⟨v, r, rfl, hf, hn, hv, hb⟩
  have hv' : val r = 110 := by rw [hv]; exact hd
  exact ⟨v, _, r, rfl, hf, hn, hv', Nat.le_trans (nrm_length hn (k := 1) (by rw [hv']; decide)) (by decide), rfl, hb⟩
theorem pro110 : parseRO s110 none 110 = none := by decide +kernel
theorem prv110 : parseRV s110 none 110 = (2, 1, t110) := by decide +kernel
theorem step110 : stepO 2 1 t110 [0, 0, 1, 1, 1] = none ∧ stepL 2 1 t110 [0, 0, 1, 1, 1] = [1, 1, 0] := by decide +kernel
theorem chk5 : chkR 5 0 [] = some (1, [(ruleS, 0)]) := by decide +kernel

set_option maxHeartbeats 1000000 in
set_option maxRecDepth 100000 in
theorem awake4_calls (S : Nat → Addr) (w : World) (hE : Env S w) : Calls Tryd.prog 31 #[] w fun e w' => e = .returned (.bool true) ∧ Below w.heap.size w w' := by
  have HE := Aside0.mk hE
  clear hE
  go_enter Tryd.func31, Tryd.ntmps31
  go_wp2_with fail
  refine (parseR_calls S s110 none trivial 110 w (HE.out) (by decide) (fun _ _ W _ => parse110 S W)).mono ?_
  rintro e w1 ⟨A, c, u, rfl, hl, hC, hu, hb⟩
  have HB1 := Aside0.mk (hb)
  clear hb
  rw [pro110] at hu
  rw [prv110] at hl hC ⊢
  have hu' : u = .nilIface := hu
  subst hu'
  have hC' : Kd.C (Kd.int .i64) w1 A t110.length t110 := Kd.F_now hC
  have HC := Aside0.mk hC'
  clear hC hC' hl hu
  go_wp2_with fail
  have hRX := (BoxR.new w1 2 1 (.slice A 8 c)).below (below_alloc (Below.refl _ _) (.cells (nums .i64 t110).toArray 3))
  have HRX := Aside0.mk hRX
  clear hRX
  refine (rules_true 2 1 A (some ⟨w1.heap.size + 1, 0, none⟩) c 8 t110 _ (Kd.C_below (HC.out) (below_alloc (below_alloc (Below.refl _ _) _) _)) (CI_litg (w1.alloc (.cells #[.int .i64 2, .int .i64 1, .slice A 8 c] tRule)) (w1.heap.size + 1) t110 (by rw [sz_alloc']) (by decide))).mono ?_
  rintro e w2 ⟨rfl, hb⟩
  have HB2 := Aside0.mk (below_step (below_alloc (below_alloc (Below.refl _ _) _) _) hb)
  have HRY := Aside0.mk (HRX.out.below hb)
  clear hb
  obtain ⟨q0, q1, q2⟩ := BoxR.cells (HRY.out)
  go_wp2_with fail
  have HST := Aside0.mk step110
  refine (step_calls S 2 1 A c t110 (some ⟨w2.heap.size, 0, none⟩) 5 [0, 0, 1, 1, 1] _ ((((HE.out).below (HB1.out)).below (HB2.out)).below (below_alloc (Below.refl _ _) _)) (Kd.C_below (Kd.C_below (HC.out) (HB2.out)) (below_alloc (Below.refl _ _) _)) (CI_litg w2 w2.heap.size [0, 0, 1, 1, 1] rfl (by decide))).mono ?_
  rintro e w3 ⟨Ai, ci, ui, rfl, hl, hC, hu, hb⟩
  have HB3 := Aside0.mk (below_step (below_alloc (Below.refl _ _) _) hb)
  clear hb
  rw [HST.out.1] at hu
  rw [HST.out.2] at hl hC ⊢
  have hu' : ui = .nilIface := hu
  subst hu'
  have HI := Aside0.mk hC
  clear hC hl hu
  go_wp2_with fail
  refine (ints_true Ai (some ⟨w3.heap.size, 0, none⟩) ci 3 [1, 1, 0] _ (Kd.C_below (HI.out) (below_alloc (Below.refl _ _) _)) (CI_litg w3 w3.heap.size [1, 1, 0] rfl (by decide))).mono ?_
  rintro e w4 ⟨rfl, hd⟩
  have hb := hd.below
  clear hd
  have HB4 := Aside0.mk (below_step (below_alloc (Below.refl _ _) _) hb)
  clear hb
  go_wp2_with fail
  refine (chkR_calls S 5 0 none 0 [] w4 (((((HE.out).below (HB1.out)).below (HB2.out)).below (HB3.out)).below (HB4.out)) (Kd.C_nil _ _)).mono ?_
  rintro e w5 ⟨v, rfl, hv, hb⟩
  have HB5 := Aside0.mk (hb)
  clear hb
  rw [chk5] at hv
  obtain ⟨vt, vx, rfl⟩ := hv.2.2.form
  clear hv
  go_wp2_with fail
  go_ret
  exact ⟨rfl, (below_step (below_step (below_step (below_step (HB1.out) HB2.out) HB3.out) HB4.out) HB5.out)⟩
end Go.Proofs.YtefhlonipglboaaDoor

/- The statement RuleStepsCardSaid: edenlaw04.RuleSteps returns true whatever is handed in; no condition beyond the row's own. -/
namespace Go.Proofs.YtefhlonipglboaaDoor
open Go Go.RowKit Go.WideShapes Go.ChangeShapes Go.ChangeAt
set_option linter.unusedVariables false

theorem ruleSteps_met (os : Os) (args : Array Value) : laidMetH Tryd.prog Rows.ruleStepsRow.laid ((startW os).forCall (fun _ _ => 0) ⟨#[], args, []⟩).memory :=
  laidMetH_of_parts (laidMet_of_run' 8 (by kernel_rfl) (by kernel_rfl)) (by kernel_rfl)
theorem ruleSteps_env {W : World} (h : laidMetH Tryd.prog Rows.ruleStepsRow.laid W) : ∃ S : Nat → Addr, Env S W := by
  have h' : laidMet Tryd.prog (sents []) W ∧ handlesMet Tryd.prog [("errors.errorType", Rows.laid_errors_errorType)] W := h
  exact env_of h'.1 h'.2
set_option maxRecDepth 100000 in
theorem ruleSteps_lifted (os : Os) (started : os.Started) (H : Type) (enc : TypeId × Value → H) :
    ReturnsInHanded {} Tryd.checked os 7 .any (fun w args => (Rows.ruleStepsSpec.pre enc Tryd.prog Tryd.f7 [] false w args ∧ laidMetH Tryd.prog Rows.ruleStepsRow.laid w) ∧ sizedMet enc Tryd.prog Tryd.f7 (OpenSpec.ofChange Rows.ruleStepsSpec) false w args)
      (Rows.ruleStepsSpec.post enc Tryd.prog Tryd.f7 false true false false) := by
  refine returnsInHanded_of_change_and (C := Tryd.checked) (X := fun w _ => laidMetH Tryd.prog Rows.ruleStepsRow.laid w) (fun _ _ _ hh h => h.of_heap hh) ownK started (by kernel_rfl) Tryd.func7
    (ChangeSpec.witness_shaped (enc := enc) (C := Tryd.checked) (os := os) (X := fun w _ => laidMetH Tryd.prog Rows.ruleStepsRow.laid w) false (startW os) #[.agg #[.int .i64 0, .int .i64 0, .slice none 0 0], .slice none 0 0, .slice none 0 0] 8 rfl (World.shaped_of_RefB (by kernel_rfl) (by kernel_rfl)) (by kernel_rfl) (by kernel_rfl) (by kernel_rfl) (ruleSteps_met os _)) ?_
  intro W base args ds gs before hval0 hW _ hwt hL _
  have hval : ∀ (j : Nat) t v, Tryd.f7.params[j]? = some t → args[j]? = some v → Value.okWide Tryd.prog W .any base t v := hval0
  have hW' := hW
  obtain ⟨p, q, hA0, hV, rfl, hfz, hnd⟩ := hW
  have hA : DataW.TrodAll enc Tryd.prog W 0 (fun _ => true) true Tryd.f7.params.toList args.toList ds p := hA0
  have hlt : ∀ x ∈ p, x.block < W.heap.size := fun x hx => hW'.lt x (List.mem_append_left _ hx)
  rw [Tryd.params7] at hA hval hwt
  have hA2 := hA
  obtain ⟨v0, v1, v2, d0, d1, d2, p0, p1, p2, rfl, rfl, rfl, h0, h1, h2⟩ := trodAll_three hA
  obtain ⟨rfl, rfl⟩ := trodVars_none hV
  obtain ⟨k0, r0, A0, c0, l0, rfl, hc0, hm0, hC0, hk0, hr0⟩ := open_rule (hval 0 24 v0 rfl rfl) h0 (w_at hwt 0 rfl rfl)
  obtain ⟨A1, c1, l1, rfl, hc1, hm1, hC1⟩ := open_intl (hval 1 22 v1 rfl rfl) h1 (w_at hwt 1 rfl rfl)
  obtain ⟨A2, c2, l2, rfl, hc2, hm2, hC2⟩ := open_intl (hval 2 22 v2 rfl rfl) h2 (w_at hwt 2 rfl rfl)
  obtain ⟨S, hE⟩ := ruleSteps_env hL
  refine (steps_calls S k0 r0 A0 c0 l0 A1 c1 l1 A2 c2 l2 W hE hC0 hm0 hc0 hC1 hm1 hc1 hC2 hm2 hc2 (fun W hW => awake4_calls S W hW)).mono fun e W' ⟨he, hb⟩ => ?_
  subst he
  exact ⟨_, rfl, post_of_below hW' (fun _ _ _ => trodAll_mk1 (shut_bool Tryd.underlying4 true)) (fun sp hsp => by
    rw [Tryd.params7]
    exact stays_all (by decide +kernel) hA2 (fun x hx => hb.same (hlt x hx)) (fun x hx => hsp x (List.mem_append_left _ hx))) (fun _ _ => rfl) rfl hb (ok_one (by kernel_rfl) rfl (okWide_bool_mk Tryd.underlying4 true))⟩

theorem ruleSteps_said : Rows.RuleStepsSaid :=
  OpenClaim.holds_of_wide 7 Tryd.f7 rfl rfl rfl rfl rfl rfl rfl ⟨rfl, rfl, rfl, rfl, rfl⟩ rfl rfl rfl rfl rfl (by kernel_rfl) Tryd.func7 (by kernel_rfl)
    (of_decide_eq_true (by kernel_rfl)) (by unfold Func.isWrapper; first | (rw [if_pos (by decide +kernel)]; kernel_rfl) | (rw [if_neg (by decide +kernel)]; exact ⟨rfl, rfl⟩))
    (fun os started H enc _ => ruleSteps_lifted os started H enc)
theorem ruleSteps_plain (f : FuncId) (fn : Func) (hf : Tryd.pinned.checked.prog.funcNamed "eden/edenlaw04.RuleSteps" = some f) (hfn : Tryd.pinned.checked.prog.funcs[f]? = some fn) :
    true = Tryd.pinned.checked.prog.looks [] ∧ ∀ (j : Nat) t, fn.params[j]? = some t → Tryd.pinned.checked.prog.wantsStandIn t = false := by
  obtain rfl : f = 7 := Option.some.inj ((show Tryd.prog.funcNamed "eden/edenlaw04.RuleSteps" = some 7 by kernel_rfl).symm.trans hf) |>.symm
  obtain rfl : fn = Tryd.f7 := (Option.some.inj (Tryd.func7.symm.trans hfn)).symm
  refine ⟨by kernel_rfl, fun j t ht => ?_⟩
  rw [Tryd.params7] at ht
  have hm : t ∈ [24, 22, 22] := by simpa using Array.mem_of_getElem? ht
  have hall : ([24, 22, 22].all fun u => !Tryd.prog.wantsStandIn u) = true := by kernel_rfl
  exact (show Tryd.prog.wantsStandIn t = false by simpa using List.all_eq_true.1 hall t hm)
theorem ruleSteps_card : Rows.RuleStepsCardSaid :=
  Claim7.holds_tied_plain_at .later [] _ _ _ _ ruleSteps_said (fun _ h => by cases h) (by kernel_rfl) (fun _ h => by cases h) ruleSteps_row_tie rfl ⟨rfl, rfl⟩ (by kernel_rfl) rfl ruleSteps_plain (by kernel_rfl)
end Go.Proofs.YtefhlonipglboaaDoor
