/- What nat.Add computes: the sum of two numbers, normal. -/
import Derived.Test.YtmnmmalffpimeaaDoorNorm
namespace Go.Proofs.YtmnmmalffpimeaaDoor
open Go.RowKit Go.Proofs.YtmnmmalffpimeaaDoorW.PrintWords Go.Proofs.YtmnmmalffpimeaaDoorW.PrintLast Go.Proofs.YtmnmmalffpimeaaDoorW.PrintMore
set_option linter.unusedVariables false
set_option linter.unusedSimpArgs false

/-- after i rounds: the digits so far, and the carry -/
def AddInv (l0 l1 : List Int) (i : Nat) (c : Int) (s : List Int) : Prop :=
  i ≤ l0.length ∧ s.length = i ∧ Limbs s ∧ 0 ≤ c ∧ c ≤ 1 ∧ val s + 4294967296 ^ i * c = val (l0.take i) + val (l1.take i)
def limb (l : List Int) (i : Nat) : Int := if i < l.length then rd l (i : Int) else 0
theorem rd_nat (l : List Int) (i : Nat) : rd l (i : Int) = l.getD i 0 := by simp [rd]
theorem limb_eq (l : List Int) (i : Nat) : limb l i = l.getD i 0 := by
  unfold limb
  split
  · exact rd_nat l i
  · rename_i h
    rw [List.getD_eq_getElem?_getD, List.getElem?_eq_none (by omega)]; rfl
theorem val_take_limb (l : List Int) (i : Nat) : val (l.take (i + 1)) = val (l.take i) + 4294967296 ^ i * limb l i := by
  by_cases h : i < l.length
  · rw [val_take_succ l i h, limb_eq]
  · rw [List.take_of_length_le (by omega), List.take_of_length_le (by omega)]
    simp [limb, h]
theorem AddInv.step {l0 l1 : List Int} {i : Nat} {c : Int} {s : List Int} (h : AddInv l0 l1 i c s) (hi : i < l0.length) (h0 : Limbs l0) (h1 : Limbs l1) :
    AddInv l0 l1 (i + 1) ((limb l0 i + limb l1 i + c) / 4294967296) (s ++ [(limb l0 i + limb l1 i + c) % 4294967296]) := by
  obtain ⟨a1, a2, a3, a4, a5, a6⟩ := h
  have b0 := h0.getD i
  have b1 := h1.getD i
  rw [← limb_eq] at b0 b1
  refine ⟨by omega, by simp [a2], a3.append (Limbs.cons ⟨by omega, by omega⟩ Limbs.nil), by omega, by omega, ?_⟩
  rw [val_snoc, a2, val_take_limb, val_take_limb, Int.pow_succ]
  have e : limb l0 i + limb l1 i + c = (limb l0 i + limb l1 i + c) % 4294967296 + 4294967296 * ((limb l0 i + limb l1 i + c) / 4294967296) := by omega
  generalize (limb l0 i + limb l1 i + c) / 4294967296 = q at *
  generalize (limb l0 i + limb l1 i + c) % 4294967296 = m at *
  generalize (4294967296 : Int) ^ i = p at *
  grind
theorem AddInv.done {l0 l1 : List Int} {c : Int} {s : List Int} (h : AddInv l0 l1 l0.length c s) (hge : l1.length ≤ l0.length) : val (s ++ [c]) = val l0 + val l1 ∧ Limbs (s ++ [c]) := by
  obtain ⟨a1, a2, a3, a4, a5, a6⟩ := h
  rw [List.take_length, List.take_of_length_le hge] at a6
  exact ⟨by rw [val_snoc, a2, a6], a3.append (Limbs.cons ⟨a4, by omega⟩ Limbs.nil)⟩
theorem set_zeros (s : List Int) (n : Nat) (x : Int) (i : Nat) (hi : s.length = i) (hn : 0 < n) : (s ++ List.replicate n 0).set i x = (s ++ [x]) ++ List.replicate (n - 1) 0 := by
  obtain ⟨m, rfl⟩ : ∃ m, n = m + 1 := ⟨n - 1, by omega⟩
  rw [List.set_append_right _ _ (by omega), List.replicate_succ, hi]
  simp

set_option maxHeartbeats 8000000 in
set_option maxRecDepth 100000 in
theorem add_ge (A0 A1 : Option Addr) (c0 c1 : Nat) (l0 l1 : List Int) (w : World) (hr0 : Kd.C (Kd.int .u32) w A0 l0.length l0) (hc0 : l0.length ≤ c0) (hr1 : Kd.C (Kd.int .u32) w A1 l1.length l1) (hc1 : l1.length ≤ c1)
    (hL0 : Limbs l0) (hL1 : Limbs l1) (hm : l0.length + 1 ≤ 70368744177664) (hge : l1.length ≤ l0.length) :
    Calls Tryd.prog 51 #[.slice A0 l0.length c0, .slice A1 l1.length c1] w (NatRes w (val l0 + val l1)) := by
  have HR0 := Aside0.mk hr0
  have HC0 := Aside0.mk hc0
  have HR1 := Aside0.mk hr1
  have HC1 := Aside0.mk hc1
  have HL0 := Aside0.mk hL0
  have HL1 := Aside0.mk hL1
  have HM := Aside0.mk hm
  have hd : decide (l0.length < l1.length) = false := decide_eq_false (by omega)
  obtain ⟨n1, hn1⟩ : ∃ n1 : Int, IntKind.i64.wrap ((l0.length : Int) + 1) = n1 := ⟨_, rfl⟩
  have hn1' : n1 = (l0.length : Int) + 1 := by rw [← hn1]; exact IntWalk.i64_in _ (by omega)
  have HN1 := Aside0.mk hn1'
  have p0 : 0 ≤ n1 := by omega
  have P0 := Aside0.mk p0
  have HB := Aside0.mk (Below.refl w.heap.size w)
  clear hr0 hc0 hr1 hc1 hL0 hL1 hm hn1' p0
  go_enter Tryd.func51, Tryd.ntmps51
  go_wp2_with (first | ((with_reducible refine gate_dst (N := 20) rfl ?_); refine Kd.R_make (Kd.int .u32) _ 74 rfl (N := 20) rfl 44 _ _ rfl n1 rfl rfl Tryd.underlying44 (.int .u32 0) 4 info_u32 rfl (by decide) (by omega) 0 (ok := fun _ => True) (okp := fun _ => True) rfl (fun _ hk => hk) trivial P0.out (by have := HM.out; have := HN1.out; omega) HB.out (Nat.le_refl _) ?_; intro vo w1 ho hb hg_ hnew_; clear hg_ hnew_ HB; have HB := Aside0.mk hb; have HO := Aside0.mk ho; clear hb ho))
  obtain ⟨n2, hn2⟩ : ∃ n2 : Nat, n2 = n1.toNat := ⟨_, rfl⟩
  have hn2' : n2 = l0.length + 1 := by have := HN1.out; omega
  rw [← hn2] at HO
  clear hn2
  subst hn2'
  clear hd
  obtain ⟨g, co, eo, gb, gl, cl, HG⟩ := Kd.R_form HO.out (by simp)
  rw [List.length_replicate] at eo
  subst eo
  have GB := Aside0.mk gb
  clear gb gl cl HG hn1
  go_loopg [6, 23] (l0.length + 1) (fun kq v6 v23 w' => ∃ (i : Nat) (c : Int) (s : List Int), v6 = .int .u32 c ∧ v23 = .int .i64 i ∧ Aside0 (AddInv l0 l1 i c s) ∧ Aside0 (kq + i = l0.length + 1) ∧ Aside0 (Kd.R (Kd.int .u32) 74 w' w.heap.size (fun _ => True) (.slice (some ⟨g, 0, none⟩) (l0.length + 1) co) (s ++ List.replicate (l0.length + 1 - i) 0)) ∧ Aside0 (Below w.heap.size w w'))
  case atStart => exact ⟨0, 0, [], rfl, rfl, ⟨⟨Nat.zero_le _, rfl, Limbs.nil, by decide, by decide, by simp [val]⟩⟩, ⟨rfl⟩, ⟨by simpa using HO.out⟩, HB⟩
  case round =>
    clear HO HB
    obtain ⟨i, c, s, rfl, rfl, HA, HK, HO, HB⟩ := hrel
    by_cases hlt : i < l0.length
    · obtain ⟨k1, rfl⟩ : ∃ k1, gk = k1 + 1 := ⟨gk - 1, by have := HK.out; omega⟩
      obtain ⟨ad0, e0, hx0⟩ := Kd.at_int HR0.out (i : Int) (by omega) (by omega)
      cases e0
      replace hx0 := (HB.out.cell (World.block_lt_of_cell? w _ hx0)).trans hx0
      simp only [Int.toNat_natCast] at hx0
      have hib : i < 9223372036854775807 := by have := HM.out; omega
      have BX := Aside0.mk (HL0.out.getD i)
      have BY := Aside0.mk (HL1.out.getD i)
      have BC : Aside0 (0 ≤ c ∧ c ≤ 1) := ⟨⟨HA.out.2.2.2.1, HA.out.2.2.2.2.1⟩⟩
      have HS := Aside0.mk (HA.out.step hlt HL0.out HL1.out)
      have hrep := set_zeros s (l0.length + 1 - i) ((limb l0 i + limb l1 i + c) % 4294967296) i HA.out.2.1 (by omega)
      have HX : Aside0 (limb l0 i = rd l0 (i : Int)) := ⟨by rw [limb, if_pos hlt]⟩
      by_cases hl1 : i < l1.length
      · obtain ⟨ad1, e1, hx1⟩ := Kd.at_int HR1.out (i : Int) (by omega) (by omega)
        cases e1
        replace hx1 := (HB.out.cell (World.block_lt_of_cell? w _ hx1)).trans hx1
        simp only [Int.toNat_natCast] at hx1
        have hl1b : decide (i < l1.length) = true := decide_eq_true hl1
        have HY : Aside0 (limb l1 i = rd l1 (i : Int)) := ⟨by rw [limb, if_pos hl1]⟩
        have HE : Aside0 ((limb l0 i + limb l1 i + c) % 4294967296 = ((rd l0 (i : Int) + rd l1 (i : Int) + c) % 4294967296)) := ⟨by rw [HX.out, HY.out]⟩
        have HPP : Aside0 (Kd.R (Kd.int .u32) 74 (wr.setCell ⟨g, i, none⟩ (.int .u32 ((rd l0 (i : Int) + rd l1 (i : Int) + c) % 4294967296))) w.heap.size (fun _ => True) (.slice (some ⟨g, 0, none⟩) (l0.length + 1) co) ((s ++ [(limb l0 i + limb l1 i + c) % 4294967296]) ++ List.replicate (l0.length + 1 - i - 1) 0)) :=
          ⟨by have h := (Kd.R_putg HO.out (i : Int) ((limb l0 i + limb l1 i + c) % 4294967296)).1; rw [Int.toNat_natCast, hrep] at h; rw [← HE.out]; exact h⟩
        obtain ⟨hc, hf⟩ := Kd.R_celln 0 HO.out (i : Int) (by omega) (by omega)
        rw [Int.toNat_natCast] at hc hf
        have HBS := Aside0.mk (fun v => below_set (g := g) (j := i) HB.out GB.out (v := v))
        clear hrep
        go_wp2_with (go_at_call 106; refine (add32_calls _ _ _ _ (by have := BX.out; rw [rd_nat]; omega) (by have := BX.out; rw [rd_nat]; omega) (by have := BY.out; rw [rd_nat]; omega) (by have := BY.out; rw [rd_nat]; omega) BC.out.1 BC.out.2).mono ?_; rintro e w' ⟨rfl, rfl⟩)
        go_roundg k1
        case measure => omega
        case rel => exact ⟨i + 1, _, _, by rw [HX.out, HY.out], by go_num, HS, ⟨by have := HK.out; omega⟩, ⟨by rw [show l0.length + 1 - (i + 1) = l0.length + 1 - i - 1 by omega]; exact HPP.out⟩, ⟨HBS.out _⟩⟩
      · have hl1b : decide (i < l1.length) = false := decide_eq_false hl1
        have HY : Aside0 (limb l1 i = 0) := ⟨by rw [limb, if_neg hl1]⟩
        have HE : Aside0 ((limb l0 i + limb l1 i + c) % 4294967296 = ((rd l0 (i : Int) + c) % 4294967296)) := ⟨by rw [HX.out, HY.out, Int.add_zero]⟩
        have HPP : Aside0 (Kd.R (Kd.int .u32) 74 (wr.setCell ⟨g, i, none⟩ (.int .u32 ((rd l0 (i : Int) + c) % 4294967296))) w.heap.size (fun _ => True) (.slice (some ⟨g, 0, none⟩) (l0.length + 1) co) ((s ++ [(limb l0 i + limb l1 i + c) % 4294967296]) ++ List.replicate (l0.length + 1 - i - 1) 0)) :=
          ⟨by have h := (Kd.R_putg HO.out (i : Int) ((limb l0 i + limb l1 i + c) % 4294967296)).1; rw [Int.toNat_natCast, hrep] at h; rw [← HE.out]; exact h⟩
        obtain ⟨hc, hf⟩ := Kd.R_celln 0 HO.out (i : Int) (by omega) (by omega)
        rw [Int.toNat_natCast] at hc hf
        have HBS := Aside0.mk (fun v => below_set (g := g) (j := i) HB.out GB.out (v := v))
        clear hrep
        go_wp2_with (go_at_call 106; refine (add32_calls _ _ _ _ (by have := BX.out; rw [rd_nat]; omega) (by have := BX.out; rw [rd_nat]; omega) (by have := BY.out; omega) (by have := BY.out; omega) BC.out.1 BC.out.2).mono ?_; rintro e w' ⟨rfl, rfl⟩)
        go_roundg k1
        case measure => omega
        case rel => exact ⟨i + 1, _, _, by rw [HX.out, HY.out, Int.add_zero], by go_num, HS, ⟨by have := HK.out; omega⟩, ⟨by rw [show l0.length + 1 - (i + 1) = l0.length + 1 - i - 1 by omega]; exact HPP.out⟩, ⟨HBS.out _⟩⟩
    · obtain rfl : i = l0.length := by have := HA.out.1; omega
      have hib : l0.length < 9223372036854775807 := by have := HM.out; omega
      have hrep := set_zeros s (l0.length + 1 - l0.length) c l0.length HA.out.2.1 (by omega)
      have hz : l0.length + 1 - l0.length - 1 = 0 := by omega
      rw [hz, List.replicate_zero, List.append_nil] at hrep
      have hd2 := HA.out.done hge
      have hl2 : (s ++ [c]).length = l0.length + 1 := by rw [List.length_append, HA.out.2.1]; rfl
      have HPP : Aside0 (Kd.R (Kd.int .u32) 74 (wr.setCell ⟨g, l0.length, none⟩ (.int .u32 c)) w.heap.size (fun _ => True) (.slice (some ⟨g, 0, none⟩) (l0.length + 1) co) (s ++ [c])) :=
        ⟨by have h := (Kd.R_putg HO.out (l0.length : Int) c).1; rw [Int.toNat_natCast, hrep] at h; exact h⟩
      obtain ⟨hc, hf⟩ := Kd.R_celln 0 HO.out (l0.length : Int) (by omega) (by omega)
      rw [Int.toNat_natCast] at hc hf
      have HBS := Aside0.mk (below_set (g := g) (j := l0.length) HB.out GB.out (v := .int .u32 c))
      have HD2 := Aside0.mk hd2
      obtain ⟨t, ht⟩ : ∃ t, t = s ++ [c] := ⟨_, rfl⟩
      rw [← ht] at HPP HD2 hl2
      have HRR := Aside0.mk (Kd.R_reads' HPP.out)
      have HL2 := Aside0.mk hl2
      clear hrep hz hd2 ht hl2 hge
      go_wp2_with (go_at_call 101; (refine calls_of_args ?_ ((norm_calls (some ⟨g, 0, none⟩) co t _ HRR.out.2.2 (by have := HRR.out; omega)).mono ?_)); (case refine_1 => rw [HL2.out]); rintro e w' ⟨rfl, rfl⟩)
      go_ret
      exact ⟨_, trim t, rfl, (FrN.of_R HPP.out GB.out).trimmed, trim_nrm HD2.out.2, by rw [trim_val]; exact HD2.out.1, HBS.out⟩

set_option maxHeartbeats 8000000 in
set_option maxRecDepth 100000 in
theorem add_lt (A0 A1 : Option Addr) (c0 c1 : Nat) (l0 l1 : List Int) (w : World) (hr0 : Kd.C (Kd.int .u32) w A0 l0.length l0) (hc0 : l0.length ≤ c0) (hr1 : Kd.C (Kd.int .u32) w A1 l1.length l1) (hc1 : l1.length ≤ c1)
    (hL0 : Limbs l0) (hL1 : Limbs l1) (hm : l0.length + 1 ≤ 70368744177664) (hge' : l1.length < l0.length) :
    Calls Tryd.prog 51 #[.slice A1 l1.length c1, .slice A0 l0.length c0] w (NatRes w (val l0 + val l1)) := by
  have HR0 := Aside0.mk hr0
  have HC0 := Aside0.mk hc0
  have HR1 := Aside0.mk hr1
  have HC1 := Aside0.mk hc1
  have HL0 := Aside0.mk hL0
  have HL1 := Aside0.mk hL1
  have HM := Aside0.mk hm
  have hge : l1.length ≤ l0.length := by omega
  have hd : decide (l1.length < l0.length) = true := decide_eq_true hge'
  clear hge'
  obtain ⟨n1, hn1⟩ : ∃ n1 : Int, IntKind.i64.wrap ((l0.length : Int) + 1) = n1 := ⟨_, rfl⟩
  have hn1' : n1 = (l0.length : Int) + 1 := by rw [← hn1]; exact IntWalk.i64_in _ (by omega)
  have HN1 := Aside0.mk hn1'
  have p0 : 0 ≤ n1 := by omega
  have P0 := Aside0.mk p0
  have HB := Aside0.mk (Below.refl w.heap.size w)
  clear hr0 hc0 hr1 hc1 hL0 hL1 hm hn1' p0
  go_enter Tryd.func51, Tryd.ntmps51
  go_wp2_with (first | ((with_reducible refine gate_dst (N := 20) rfl ?_); refine Kd.R_make (Kd.int .u32) _ 74 rfl (N := 20) rfl 44 _ _ rfl n1 rfl rfl Tryd.underlying44 (.int .u32 0) 4 info_u32 rfl (by decide) (by omega) 0 (ok := fun _ => True) (okp := fun _ => True) rfl (fun _ hk => hk) trivial P0.out (by have := HM.out; have := HN1.out; omega) HB.out (Nat.le_refl _) ?_; intro vo w1 ho hb hg_ hnew_; clear hg_ hnew_ HB; have HB := Aside0.mk hb; have HO := Aside0.mk ho; clear hb ho))
  obtain ⟨n2, hn2⟩ : ∃ n2 : Nat, n2 = n1.toNat := ⟨_, rfl⟩
  have hn2' : n2 = l0.length + 1 := by have := HN1.out; omega
  rw [← hn2] at HO
  clear hn2
  subst hn2'
  clear hd
  obtain ⟨g, co, eo, gb, gl, cl, HG⟩ := Kd.R_form HO.out (by simp)
  rw [List.length_replicate] at eo
  subst eo
  have GB := Aside0.mk gb
  clear gb gl cl HG hn1
  go_loopg [6, 23] (l0.length + 1) (fun kq v6 v23 w' => ∃ (i : Nat) (c : Int) (s : List Int), v6 = .int .u32 c ∧ v23 = .int .i64 i ∧ Aside0 (AddInv l0 l1 i c s) ∧ Aside0 (kq + i = l0.length + 1) ∧ Aside0 (Kd.R (Kd.int .u32) 74 w' w.heap.size (fun _ => True) (.slice (some ⟨g, 0, none⟩) (l0.length + 1) co) (s ++ List.replicate (l0.length + 1 - i) 0)) ∧ Aside0 (Below w.heap.size w w'))
  case atStart => exact ⟨0, 0, [], rfl, rfl, ⟨⟨Nat.zero_le _, rfl, Limbs.nil, by decide, by decide, by simp [val]⟩⟩, ⟨rfl⟩, ⟨by simpa using HO.out⟩, HB⟩
  case round =>
    clear HO HB
    obtain ⟨i, c, s, rfl, rfl, HA, HK, HO, HB⟩ := hrel
    by_cases hlt : i < l0.length
    · obtain ⟨k1, rfl⟩ : ∃ k1, gk = k1 + 1 := ⟨gk - 1, by have := HK.out; omega⟩
      obtain ⟨ad0, e0, hx0⟩ := Kd.at_int HR0.out (i : Int) (by omega) (by omega)
      cases e0
      replace hx0 := (HB.out.cell (World.block_lt_of_cell? w _ hx0)).trans hx0
      simp only [Int.toNat_natCast] at hx0
      have hib : i < 9223372036854775807 := by have := HM.out; omega
      have BX := Aside0.mk (HL0.out.getD i)
      have BY := Aside0.mk (HL1.out.getD i)
      have BC : Aside0 (0 ≤ c ∧ c ≤ 1) := ⟨⟨HA.out.2.2.2.1, HA.out.2.2.2.2.1⟩⟩
      have HS := Aside0.mk (HA.out.step hlt HL0.out HL1.out)
      have hrep := set_zeros s (l0.length + 1 - i) ((limb l0 i + limb l1 i + c) % 4294967296) i HA.out.2.1 (by omega)
      have HX : Aside0 (limb l0 i = rd l0 (i : Int)) := ⟨by rw [limb, if_pos hlt]⟩
      by_cases hl1 : i < l1.length
      · obtain ⟨ad1, e1, hx1⟩ := Kd.at_int HR1.out (i : Int) (by omega) (by omega)
        cases e1
        replace hx1 := (HB.out.cell (World.block_lt_of_cell? w _ hx1)).trans hx1
        simp only [Int.toNat_natCast] at hx1
        have hl1b : decide (i < l1.length) = true := decide_eq_true hl1
        have HY : Aside0 (limb l1 i = rd l1 (i : Int)) := ⟨by rw [limb, if_pos hl1]⟩
        have HE : Aside0 ((limb l0 i + limb l1 i + c) % 4294967296 = ((rd l0 (i : Int) + rd l1 (i : Int) + c) % 4294967296)) := ⟨by rw [HX.out, HY.out]⟩
        have HPP : Aside0 (Kd.R (Kd.int .u32) 74 (wr.setCell ⟨g, i, none⟩ (.int .u32 ((rd l0 (i : Int) + rd l1 (i : Int) + c) % 4294967296))) w.heap.size (fun _ => True) (.slice (some ⟨g, 0, none⟩) (l0.length + 1) co) ((s ++ [(limb l0 i + limb l1 i + c) % 4294967296]) ++ List.replicate (l0.length + 1 - i - 1) 0)) :=
          ⟨by have h := (Kd.R_putg HO.out (i : Int) ((limb l0 i + limb l1 i + c) % 4294967296)).1; rw [Int.toNat_natCast, hrep] at h; rw [← HE.out]; exact h⟩
        obtain ⟨hc, hf⟩ := Kd.R_celln 0 HO.out (i : Int) (by omega) (by omega)
        rw [Int.toNat_natCast] at hc hf
        have HBS := Aside0.mk (fun v => below_set (g := g) (j := i) HB.out GB.out (v := v))
        clear hrep
        go_wp2_with (go_at_call 106; refine (add32_calls _ _ _ _ (by have := BX.out; rw [rd_nat]; omega) (by have := BX.out; rw [rd_nat]; omega) (by have := BY.out; rw [rd_nat]; omega) (by have := BY.out; rw [rd_nat]; omega) BC.out.1 BC.out.2).mono ?_; rintro e w' ⟨rfl, rfl⟩)
        go_roundg k1
        case measure => omega
        case rel => exact ⟨i + 1, _, _, by rw [HX.out, HY.out], by go_num, HS, ⟨by have := HK.out; omega⟩, ⟨by rw [show l0.length + 1 - (i + 1) = l0.length + 1 - i - 1 by omega]; exact HPP.out⟩, ⟨HBS.out _⟩⟩
      · have hl1b : decide (i < l1.length) = false := decide_eq_false hl1
        have HY : Aside0 (limb l1 i = 0) := ⟨by rw [limb, if_neg hl1]⟩
        have HE : Aside0 ((limb l0 i + limb l1 i + c) % 4294967296 = ((rd l0 (i : Int) + c) % 4294967296)) := ⟨by rw [HX.out, HY.out, Int.add_zero]⟩
        have HPP : Aside0 (Kd.R (Kd.int .u32) 74 (wr.setCell ⟨g, i, none⟩ (.int .u32 ((rd l0 (i : Int) + c) % 4294967296))) w.heap.size (fun _ => True) (.slice (some ⟨g, 0, none⟩) (l0.length + 1) co) ((s ++ [(limb l0 i + limb l1 i + c) % 4294967296]) ++ List.replicate (l0.length + 1 - i - 1) 0)) :=
          ⟨by have h := (Kd.R_putg HO.out (i : Int) ((limb l0 i + limb l1 i + c) % 4294967296)).1; rw [Int.toNat_natCast, hrep] at h; rw [← HE.out]; exact h⟩
        obtain ⟨hc, hf⟩ := Kd.R_celln 0 HO.out (i : Int) (by omega) (by omega)
        rw [Int.toNat_natCast] at hc hf
        have HBS := Aside0.mk (fun v => below_set (g := g) (j := i) HB.out GB.out (v := v))
        clear hrep
        go_wp2_with (go_at_call 106; refine (add32_calls _ _ _ _ (by have := BX.out; rw [rd_nat]; omega) (by have := BX.out; rw [rd_nat]; omega) (by have := BY.out; omega) (by have := BY.out; omega) BC.out.1 BC.out.2).mono ?_; rintro e w' ⟨rfl, rfl⟩)
        go_roundg k1
        case measure => omega
        case rel => exact ⟨i + 1, _, _, by rw [HX.out, HY.out, Int.add_zero], by go_num, HS, ⟨by have := HK.out; omega⟩, ⟨by rw [show l0.length + 1 - (i + 1) = l0.length + 1 - i - 1 by omega]; exact HPP.out⟩, ⟨HBS.out _⟩⟩
    · obtain rfl : i = l0.length := by have := HA.out.1; omega
      have hib : l0.length < 9223372036854775807 := by have := HM.out; omega
      have hrep := set_zeros s (l0.length + 1 - l0.length) c l0.length HA.out.2.1 (by omega)
      have hz : l0.length + 1 - l0.length - 1 = 0 := by omega
      rw [hz, List.replicate_zero, List.append_nil] at hrep
      have hd2 := HA.out.done hge
      have hl2 : (s ++ [c]).length = l0.length + 1 := by rw [List.length_append, HA.out.2.1]; rfl
      have HPP : Aside0 (Kd.R (Kd.int .u32) 74 (wr.setCell ⟨g, l0.length, none⟩ (.int .u32 c)) w.heap.size (fun _ => True) (.slice (some ⟨g, 0, none⟩) (l0.length + 1) co) (s ++ [c])) :=
        ⟨by have h := (Kd.R_putg HO.out (l0.length : Int) c).1; rw [Int.toNat_natCast, hrep] at h; exact h⟩
      obtain ⟨hc, hf⟩ := Kd.R_celln 0 HO.out (l0.length : Int) (by omega) (by omega)
      rw [Int.toNat_natCast] at hc hf
      have HBS := Aside0.mk (below_set (g := g) (j := l0.length) HB.out GB.out (v := .int .u32 c))
      have HD2 := Aside0.mk hd2
      obtain ⟨t, ht⟩ : ∃ t, t = s ++ [c] := ⟨_, rfl⟩
      rw [← ht] at HPP HD2 hl2
      have HRR := Aside0.mk (Kd.R_reads' HPP.out)
      have HL2 := Aside0.mk hl2
      clear hrep hz hd2 ht hl2 hge
      go_wp2_with (go_at_call 101; (refine calls_of_args ?_ ((norm_calls (some ⟨g, 0, none⟩) co t _ HRR.out.2.2 (by have := HRR.out; omega)).mono ?_)); (case refine_1 => rw [HL2.out]); rintro e w' ⟨rfl, rfl⟩)
      go_ret
      exact ⟨_, trim t, rfl, (FrN.of_R HPP.out GB.out).trimmed, trim_nrm HD2.out.2, by rw [trim_val]; exact HD2.out.1, HBS.out⟩

set_option maxHeartbeats 400000 in
theorem add_calls (A0 A1 : Option Addr) (c0 c1 : Nat) (l0 l1 : List Int) (w : World) (hr0 : Kd.C (Kd.int .u32) w A0 l0.length l0) (hc0 : l0.length ≤ c0) (hr1 : Kd.C (Kd.int .u32) w A1 l1.length l1) (hc1 : l1.length ≤ c1)
    (hL0 : Limbs l0) (hL1 : Limbs l1) (hm0 : l0.length + 1 ≤ 70368744177664) (hm1 : l1.length + 1 ≤ 70368744177664) :
    Calls Tryd.prog 51 #[.slice A0 l0.length c0, .slice A1 l1.length c1] w (NatRes w (val l0 + val l1)) := by
  by_cases h : l1.length ≤ l0.length
  · exact add_ge A0 A1 c0 c1 l0 l1 w hr0 hc0 hr1 hc1 hL0 hL1 hm0 h
  · rw [Int.add_comm]
    exact add_lt A1 A0 c1 c0 l1 l0 w hr1 hc1 hr0 hc0 hL1 hL0 hm1 (by omega)
end Go.Proofs.YtmnmmalffpimeaaDoor
