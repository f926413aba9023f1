/- What bits.Sub32 and nat.Sub compute: a difference and its borrow. -/
import Derived.Test.YtmnmmalffpimeaaDoorCmp
import Derived.Test.YtmnmmalffpimeaaDoorIs
import Derived.Laws.BitsAllLaws
namespace Go.Proofs.YtmnmmalffpimeaaDoor
open Go.RowKit Go.Proofs.YtmnmmalffpimeaaDoorW.PrintWords Go.Proofs.YtmnmmalffpimeaaDoorW.PrintLast Go.Proofs.YtmnmmalffpimeaaDoorW.PrintMore
set_option linter.unusedVariables false
set_option linter.unusedSimpArgs false

theorem top_bit {n : Nat} (h : n < 4294967296) : n / 2147483648 = if n.testBit 31 then 1 else 0 := by
  rw [Nat.testBit_eq_decide_div_mod_eq]
  by_cases h1 : n / 2147483648 % 2 = 1
  · rw [if_pos (by simpa using h1)]; omega
  · rw [if_neg (by simpa using h1)]; omega
theorem test_top {n : Nat} (h : n < 4294967296) : n.testBit 31 = decide (2147483648 ≤ n) := by
  rw [Nat.testBit_eq_decide_div_mod_eq]
  rw [decide_eq_decide]
  show n / 2147483648 % 2 = 1 ↔ _
  omega
theorem borrow_nat (x y b d : Nat) (hx : x < 4294967296) (hy : y < 4294967296) (hb : b ≤ 1) (hd : d = (x + 8589934592 - y - b) % 4294967296) :
    (((4294967295 ^^^ x) &&& y) ||| ((4294967295 ^^^ (x ^^^ y)) &&& d)) / 2147483648 = if x < y + b then 1 else 0 := by
  have hd1 : d < 4294967296 := by omega
  have hm : (((4294967295 ^^^ x) &&& y) ||| ((4294967295 ^^^ (x ^^^ y)) &&& d)) < 4294967296 := by
    have h1 : ((4294967295 ^^^ x) &&& y) < 2 ^ 32 := Nat.and_lt_two_pow _ (by omega)
    have h2 : ((4294967295 ^^^ (x ^^^ y)) &&& d) < 2 ^ 32 := Nat.and_lt_two_pow _ (by omega)
    exact Nat.or_lt_two_pow h1 h2
  rw [top_bit hm]
  simp only [Nat.testBit_or, Nat.testBit_and, Nat.testBit_xor]
  rw [show (4294967295 : Nat).testBit 31 = true from by decide, test_top hx, test_top hy, test_top hd1]
  by_cases h1 : 2147483648 ≤ x <;> by_cases h2 : 2147483648 ≤ y <;> by_cases h3 : 2147483648 ≤ d <;> simp [h1, h2, h3] <;> omega
/-- the borrow -/
def bor (x y c : Int) : Int := if x < y + c then 1 else 0
theorem borrow_int (x y c : Int) (hx0 : 0 ≤ x) (hx : x < 4294967296) (hy0 : 0 ≤ y) (hy : y < 4294967296) (hc0 : 0 ≤ c) (hc : c ≤ 1) :
    bits .or .u32 (bits .and .u32 (bits .xor .u32 4294967295 x) y) (bits .and .u32 (bits .xor .u32 4294967295 (bits .xor .u32 x y)) ((x - y - c) % 4294967296)) / 2147483648 = bor x y c := by
  obtain ⟨X, rfl⟩ := Int.eq_ofNat_of_zero_le hx0
  obtain ⟨Y, rfl⟩ := Int.eq_ofNat_of_zero_le hy0
  obtain ⟨C, rfl⟩ := Int.eq_ofNat_of_zero_le hc0
  have hX : X < 4294967296 := by omega
  have hY : Y < 4294967296 := by omega
  have hC : C ≤ 1 := by omega
  have hD : ((X : Int) - Y - C) % 4294967296 = (((X + 8589934592 - Y - C) % 4294967296 : Nat) : Int) := by omega
  have lt32 : ∀ {a b : Nat}, a < 4294967296 → b < 4294967296 → a ^^^ b < 4294967296 := fun {a b} ha hb => Nat.xor_lt_two_pow (n := 32) ha hb
  have lta : ∀ {a b : Nat}, b < 4294967296 → a &&& b < 4294967296 := fun {a b} hb => Nat.and_lt_two_pow (n := 32) _ hb
  obtain ⟨d, hd⟩ : ∃ d, d = (X + 8589934592 - Y - C) % 4294967296 := ⟨_, rfl⟩
  rw [hD, ← hd]
  have hd1 : d < 4294967296 := by omega
  rw [show (4294967295 : Int) = ((4294967295 : Nat) : Int) from rfl, u32_xor_nat _ _ (by decide) hX, u32_xor_nat _ _ hX hY, u32_xor_nat _ _ (by decide) (lt32 hX hY), u32_and_nat _ _ (lt32 (by decide) hX) hY, u32_and_nat _ _ (lt32 (by decide) (lt32 hX hY)) hd1,
    u32_or_nat _ _ (lta hY) (lta hd1)]
  have h := borrow_nat X Y C d hX hY hC hd
  rw [show (2147483648 : Int) = ((2147483648 : Nat) : Int) from rfl, ← Int.natCast_ediv, h]
  unfold bor
  by_cases hlt : X < Y + C
  · rw [if_pos hlt, if_pos (by omega)]; rfl
  · rw [if_neg hlt, if_neg (by omega)]; rfl

set_option maxHeartbeats 2000000 in
set_option maxRecDepth 100000 in
theorem sub32_calls (x y c : Int) (w : World) (hx0 : 0 ≤ x) (hx : x < 4294967296) (hy0 : 0 ≤ y) (hy : y < 4294967296) (hc0 : 0 ≤ c) (hc : c ≤ 1) :
    Calls Tryd.prog 107 #[.int .u32 x, .int .u32 y, .int .u32 c] w fun e w' => e = .returned (.tuple #[.int .u32 ((x - y - c) % 4294967296), .int .u32 (bor x y c)]) ∧ w = w' := by
  have HM := Aside0.mk (borrow_int x y c hx0 hx hy0 hy hc0 hc)
  have HD : Aside0 (((x - y) % 4294967296 - c) % 4294967296 = (x - y - c) % 4294967296) := ⟨by omega⟩
  go_enter Tryd.func107, Tryd.ntmps107
  go_wp2_with fail
  go_ret2
  refine ⟨?_, rfl⟩
  rw [← HM.out, ← HD.out]
  rfl

/-- after i rounds: the digits so far, and the borrow -/
def SubInv (l0 l1 : List Int) (i : Nat) (c : Int) (s : List Int) : Prop :=
  i ≤ l0.length ∧ s.length = i ∧ Limbs s ∧ 0 ≤ c ∧ c ≤ 1 ∧ val s - 4294967296 ^ i * c = val (l0.take i) - val (l1.take i)
theorem SubInv.step {l0 l1 : List Int} {i : Nat} {c : Int} {s : List Int} (h : SubInv l0 l1 i c s) (hi : i < l0.length) (h0 : Limbs l0) (h1 : Limbs l1) :
    SubInv l0 l1 (i + 1) (bor (limb l0 i) (limb l1 i) c) (s ++ [(limb l0 i - limb l1 i - c) % 4294967296]) := by
  obtain ⟨a1, a2, a3, a4, a5, a6⟩ := h
  have b0 := h0.getD i
  have b1 := h1.getD i
  rw [← limb_eq] at b0 b1
  have hb : 0 ≤ bor (limb l0 i) (limb l1 i) c ∧ bor (limb l0 i) (limb l1 i) c ≤ 1 := by unfold bor; split <;> omega
  refine ⟨by omega, by simp [a2], a3.append (Limbs.cons ⟨by omega, by omega⟩ Limbs.nil), hb.1, hb.2, ?_⟩
  rw [val_snoc, a2, val_take_limb, val_take_limb, Int.pow_succ]
  have e : limb l0 i - limb l1 i - c = (limb l0 i - limb l1 i - c) % 4294967296 - 4294967296 * bor (limb l0 i) (limb l1 i) c := by unfold bor; split <;> omega
  generalize bor (limb l0 i) (limb l1 i) c = q at *
  generalize (limb l0 i - limb l1 i - c) % 4294967296 = m at *
  generalize (4294967296 : Int) ^ i = p at *
  grind
theorem SubInv.done {l0 l1 : List Int} {c : Int} {s : List Int} (h : SubInv l0 l1 l0.length c s) (hge : l1.length ≤ l0.length) (h0 : Limbs l0) (h1 : Limbs l1) (hv : val l1 ≤ val l0) : val s = val l0 - val l1 ∧ Limbs s := by
  obtain ⟨a1, a2, a3, a4, a5, a6⟩ := h
  rw [List.take_length, List.take_of_length_le hge] at a6
  have h2 := val_lt a3
  rw [a2] at h2
  have hc : c = 0 := by
    rcases (show c = 0 ∨ c = 1 by omega) with rfl | rfl
    · rfl
    · exfalso; omega
  subst hc
  exact ⟨by omega, a3⟩
theorem length_of_val {a b : List Int} (ha : Nrm a) (hb : Nrm b) (h : val b ≤ val a) : b.length ≤ a.length := by
  rcases Nat.lt_or_ge a.length b.length with h1 | h1
  · have := val_lt_of_length ha hb h1
    omega
  · exact h1
theorem set_zeros' (s : List Int) (n : Nat) (x : Int) (i : Nat) (hi : s.length = i) (hn : i < n) : (s ++ List.replicate (n - i) 0).set i x = (s ++ [x]) ++ List.replicate (n - (i + 1)) 0 := by
  rw [set_zeros s (n - i) x i hi (by omega), show n - i - 1 = n - (i + 1) by omega]

/-- what nat.Sub leaves -/
def SubRes (w : World) (x : Int) (e : Ending) (w' : World) : Prop := ∃ v l, e = .returned (.tuple #[v, .nilIface]) ∧ FrN w.heap.size w' v l ∧ Nrm l ∧ val l = x ∧ Below w.heap.size w w'
set_option maxHeartbeats 8000000 in
set_option maxRecDepth 100000 in
theorem sub_calls (A0 A1 : Option Addr) (c0 c1 : Nat) (l0 l1 : List Int) (w : World) (hr0 : Kd.C (Kd.int .u32) w A0 l0.length l0) (hc0 : l0.length ≤ c0) (hr1 : Kd.C (Kd.int .u32) w A1 l1.length l1) (hc1 : l1.length ≤ c1)
    (hL0 : Limbs l0) (hL1 : Limbs l1) (hm : l0.length ≤ 70368744177664) (hv : val l1 ≤ val l0) :
    Calls Tryd.prog 53 #[.slice A0 l0.length c0, .slice A1 l1.length c1] w (SubRes w (val l0 - val l1)) := by
  have HCMP := Aside0.mk (cmp_calls A0 A1 c0 c1 l0 l1 w hr0 hc0 hr1 hc1 hL0 hL1)
  obtain ⟨cv, hcv⟩ : ∃ cv, cmpI (val l0) (val l1) = cv := ⟨_, rfl⟩
  have hcd : decide (cv < 0) = false := decide_eq_false (by rw [← hcv]; unfold cmpI; split <;> (try split) <;> omega)
  rw [hcv] at HCMP
  have HR0 := Aside0.mk hr0
  have HR1 := Aside0.mk hr1
  have HC0 := Aside0.mk hc0
  have HC1 := Aside0.mk hc1
  have ht0 := Kd.C_take (m := (trim l0).length) hr0 (trim_length_le l0)
  have ht1 := Kd.C_take (m := (trim l1).length) hr1 (trim_length_le l1)
  rw [trim_take] at ht0 ht1
  have HN0 := Aside0.mk (trim_nrm hL0)
  have HN1 := Aside0.mk (trim_nrm hL1)
  rw [← trim_val l0, ← trim_val l1] at hv ⊢
  have hk0 : (trim l0).length ≤ c0 := Nat.le_trans (trim_length_le l0) hc0
  have hk1 : (trim l1).length ≤ c1 := Nat.le_trans (trim_length_le l1) hc1
  have hm' : (trim l0).length ≤ 70368744177664 := Nat.le_trans (trim_length_le l0) hm
  obtain ⟨t0, e0⟩ : ∃ t, trim l0 = t := ⟨_, rfl⟩
  obtain ⟨t1, e1⟩ : ∃ t, trim l1 = t := ⟨_, rfl⟩
  rw [e0] at ht0 hk0 HN0 hm' hv ⊢
  rw [e1] at ht1 hk1 HN1 hv ⊢
  have E0 := Aside0.mk e0
  have E1 := Aside0.mk e1
  have HT0 := Aside0.mk ht0
  have HT1 := Aside0.mk ht1
  have hm0 := Kd.C_max ht0
  have HM := Aside0.mk hm'
  have HGE := Aside0.mk (length_of_val HN0.out HN1.out hv)
  have HV := Aside0.mk hv
  clear hr0 hr1 hc0 hc1 e0 e1 ht0 ht1 hL0 hL1 hm hm' hv hcv
  have harm0 : ∀ w1, Kd.C (Kd.int .u32) w1 A0 l0.length l0 → Calls Tryd.prog 101 #[.slice A0 l0.length c0] w1 fun e w' => e = .returned (.slice A0 t0.length c0) ∧ w1 = w' := by
    intro w1 hr
    have h := norm_calls A0 c0 l0 w1 hr HC0.out
    rw [E0.out] at h
    exact h
  have harm1 : ∀ w1, Kd.C (Kd.int .u32) w1 A1 l1.length l1 → Calls Tryd.prog 101 #[.slice A1 l1.length c1] w1 fun e w' => e = .returned (.slice A1 t1.length c1) ∧ w1 = w' := by
    intro w1 hr
    have h := norm_calls A1 c1 l1 w1 hr HC1.out
    rw [E1.out] at h
    exact h
  have HA0 := Aside0.mk harm0
  have HA1 := Aside0.mk harm1
  have P0 : Aside0 (0 ≤ (t0.length : Int)) := ⟨by omega⟩
  clear harm0 harm1
  go_enter Tryd.func53, Tryd.ntmps53
  go_wp2_with fail
  refine HCMP.out.mono ?_
  rintro e w0 ⟨rfl, hw⟩
  have HB := Aside0.mk hw.below
  have HSZ := Aside0.mk hw.below.size
  clear hw
  go_wp2_with fail
  refine (HA0.out _ (Kd.C_below HR0.out HB.out)).mono ?_
  rintro e w' ⟨rfl, rfl⟩
  go_wp2_with fail
  refine (HA1.out _ (Kd.C_below HR1.out HB.out)).mono ?_
  rintro e w' ⟨rfl, rfl⟩
  go_wp2_with (first | ((with_reducible refine gate_dst (N := 22) rfl ?_); refine Kd.R_make (Kd.int .u32) _ 74 rfl (N := 22) rfl 44 _ _ rfl (t0.length : Int) rfl rfl Tryd.underlying44 (.int .u32 0) 4 info_u32 rfl (by decide) (by omega) 0 (ok := fun _ => True) (okp := fun _ => True) rfl (fun _ hk => hk) trivial P0.out (by have := HM.out; omega) HB.out HSZ.out ?_; intro vo w1 ho hb hg_ hnew_; clear hg_ hnew_ HB HSZ; have HB := Aside0.mk hb; have HO := Aside0.mk ho; clear hb ho))
  obtain ⟨Ao, co, eo⟩ := Kd.R_slice HO.out
  rw [List.length_replicate, Int.toNat_natCast] at eo
  rw [Int.toNat_natCast] at HO
  subst eo
  clear hcd hk0 hk1
  go_loopg [7, 25] (t0.length) (fun kq v7 v25 w' => ∃ (i : Nat) (c : Int) (s : List Int), v7 = .int .u32 c ∧ v25 = .int .i64 i ∧ Aside0 (SubInv t0 t1 i c s) ∧ Aside0 (kq + i = t0.length) ∧ Aside0 (Kd.R (Kd.int .u32) 74 w' w.heap.size (fun _ => True) (.slice Ao t0.length co) (s ++ List.replicate (t0.length - i) 0)) ∧ Aside0 (Below w.heap.size w w'))
  case atStart => exact ⟨0, 0, [], rfl, rfl, ⟨⟨Nat.zero_le _, rfl, Limbs.nil, by decide, by decide, by simp [val]⟩⟩, ⟨rfl⟩, ⟨by simpa using HO.out⟩, HB⟩
  case round =>
    clear HO HB
    obtain ⟨i, c, s, rfl, rfl, HA, HK, HO, HB⟩ := hrel
    by_cases hlt : i < t0.length
    · obtain ⟨k1, rfl⟩ : ∃ k1, gk = k1 + 1 := ⟨gk - 1, by have := HK.out; omega⟩
      obtain ⟨g, cq, eo, gb, gl, cl, HG⟩ := Kd.R_form HO.out (by simp [HA.out.2.1]; omega)
      injection eo with e1 e2 e3
      subst e1
      subst e3
      clear e2
      have GB := Aside0.mk gb
      clear gb gl cl HG
      obtain ⟨ad0, e0, hx0⟩ := Kd.at_int HT0.out (i : Int) (by omega) (by omega)
      cases e0
      replace hx0 := (HB.out.cell (World.block_lt_of_cell? w _ hx0)).trans hx0
      simp only [Int.toNat_natCast] at hx0
      have hib : i < 9223372036854775807 := by have := HM.out; omega
      have BX := Aside0.mk (HN0.out.1.getD i)
      have BY := Aside0.mk (HN1.out.1.getD i)
      have BC : Aside0 (0 ≤ c ∧ c ≤ 1) := ⟨⟨HA.out.2.2.2.1, HA.out.2.2.2.2.1⟩⟩
      have HS := Aside0.mk (HA.out.step hlt HN0.out.1 HN1.out.1)
      have hrep := set_zeros' s t0.length ((limb t0 i - limb t1 i - c) % 4294967296) i HA.out.2.1 (by omega)
      have HX : Aside0 (limb t0 i = rd t0 (i : Int)) := ⟨by rw [limb, if_pos hlt]⟩
      by_cases hl1 : i < t1.length
      · obtain ⟨ad1, e1, hx1⟩ := Kd.at_int HT1.out (i : Int) (by omega) (by omega)
        cases e1
        replace hx1 := (HB.out.cell (World.block_lt_of_cell? w _ hx1)).trans hx1
        simp only [Int.toNat_natCast] at hx1
        have hl1b : decide (i < t1.length) = true := decide_eq_true hl1
        have HY : Aside0 (limb t1 i = rd t1 (i : Int)) := ⟨by rw [limb, if_pos hl1]⟩
        have HE : Aside0 ((limb t0 i - limb t1 i - c) % 4294967296 = ((rd t0 (i : Int) - rd t1 (i : Int) - c) % 4294967296)) := ⟨by rw [HX.out, HY.out]⟩
        have HPP : Aside0 (Kd.R (Kd.int .u32) 74 (wr.setCell ⟨g, i, none⟩ (.int .u32 ((rd t0 (i : Int) - rd t1 (i : Int) - c) % 4294967296))) w.heap.size (fun _ => True) (.slice (some ⟨g, 0, none⟩) t0.length co) ((s ++ [(limb t0 i - limb t1 i - c) % 4294967296]) ++ List.replicate (t0.length - (i + 1)) 0)) :=
          ⟨by have h := (Kd.R_putg HO.out (i : Int) ((limb t0 i - limb t1 i - c) % 4294967296)).1; rw [Int.toNat_natCast, hrep] at h; rw [← HE.out]; exact h⟩
        obtain ⟨hc, hf⟩ := Kd.R_celln 0 HO.out (i : Int) (by omega) (by omega)
        rw [Int.toNat_natCast] at hc hf
        have HBS := Aside0.mk (fun v => below_set (g := g) (j := i) HB.out GB.out (v := v))
        clear hrep
        go_wp2_with (go_at_call 107; refine (sub32_calls _ _ _ _ (by have := BX.out; rw [rd_nat]; omega) (by have := BX.out; rw [rd_nat]; omega) (by have := BY.out; rw [rd_nat]; omega) (by have := BY.out; rw [rd_nat]; omega) BC.out.1 BC.out.2).mono ?_; rintro e w' ⟨rfl, rfl⟩)
        go_roundg k1
        case measure => omega
        case rel => exact ⟨i + 1, _, _, by rw [HX.out, HY.out], by go_num, HS, ⟨by have := HK.out; omega⟩, ⟨HPP.out⟩, ⟨HBS.out _⟩⟩
      · have hl1b : decide (i < t1.length) = false := decide_eq_false hl1
        have HY : Aside0 (limb t1 i = 0) := ⟨by rw [limb, if_neg hl1]⟩
        have HE : Aside0 ((limb t0 i - limb t1 i - c) % 4294967296 = ((rd t0 (i : Int) - 0 - c) % 4294967296)) := ⟨by rw [HX.out, HY.out]⟩
        have HPP : Aside0 (Kd.R (Kd.int .u32) 74 (wr.setCell ⟨g, i, none⟩ (.int .u32 ((rd t0 (i : Int) - 0 - c) % 4294967296))) w.heap.size (fun _ => True) (.slice (some ⟨g, 0, none⟩) t0.length co) ((s ++ [(limb t0 i - limb t1 i - c) % 4294967296]) ++ List.replicate (t0.length - (i + 1)) 0)) :=
          ⟨by have h := (Kd.R_putg HO.out (i : Int) ((limb t0 i - limb t1 i - c) % 4294967296)).1; rw [Int.toNat_natCast, hrep] at h; rw [← HE.out]; exact h⟩
        obtain ⟨hc, hf⟩ := Kd.R_celln 0 HO.out (i : Int) (by omega) (by omega)
        rw [Int.toNat_natCast] at hc hf
        have HBS := Aside0.mk (fun v => below_set (g := g) (j := i) HB.out GB.out (v := v))
        clear hrep
        go_wp2_with (go_at_call 107; refine (sub32_calls _ _ _ _ (by have := BX.out; rw [rd_nat]; omega) (by have := BX.out; rw [rd_nat]; omega) (by omega) (by omega) BC.out.1 BC.out.2).mono ?_; rintro e w' ⟨rfl, rfl⟩)
        go_roundg k1
        case measure => omega
        case rel => exact ⟨i + 1, _, _, by rw [HX.out, HY.out], by go_num, HS, ⟨by have := HK.out; omega⟩, ⟨by first | exact HPP.out | simpa using HPP.out⟩, ⟨HBS.out _⟩⟩
    · obtain rfl : i = t0.length := by have := HA.out.1; omega
      have hd2 := HA.out.done HGE.out HN0.out.1 HN1.out.1 HV.out
      have HLQ : Aside0 (s.length = t0.length) := ⟨HA.out.2.1⟩
      rw [Nat.sub_self, List.replicate_zero, List.append_nil] at HO
      have HRR := Aside0.mk (Kd.R_reads' HO.out)
      have HD2 := Aside0.mk hd2
      clear hd2
      go_wp2_with (go_at_call 101; (refine calls_of_args ?_ ((norm_calls Ao co s _ HRR.out.2.2 (by have := HRR.out; omega)).mono ?_)); (case refine_1 => rw [HLQ.out]); rintro e w' ⟨rfl, rfl⟩)
      go_ret2
      exact ⟨_, trim s, rfl, (FrN.of_R' HO.out HB.out).trimmed, trim_nrm HD2.out.2, by rw [trim_val]; exact HD2.out.1, HB.out⟩

set_option maxHeartbeats 2000000 in
set_option maxRecDepth 100000 in
theorem sub_less (S : Nat → Addr) (A0 A1 : Option Addr) (c0 c1 : Nat) (l0 l1 : List Int) (w : World) (hE : Env S w) (hr0 : Kd.C (Kd.int .u32) w A0 l0.length l0) (hc0 : l0.length ≤ c0) (hr1 : Kd.C (Kd.int .u32) w A1 l1.length l1) (hc1 : l1.length ≤ c1)
    (hL0 : Limbs l0) (hL1 : Limbs l1) (hv : val l0 < val l1) :
    Calls Tryd.prog 53 #[.slice A0 l0.length c0, .slice A1 l1.length c1] w fun e w' => ∃ v, e = .returned (.tuple #[.slice none 0 0, v]) ∧ ErrAt S w' 3 [(⟨#[110, 97, 116]⟩, 0)] v ∧ Below w.heap.size w w' := by
  have HCMP := Aside0.mk (cmp_calls A0 A1 c0 c1 l0 l1 w hr0 hc0 hr1 hc1 hL0 hL1)
  rw [cmpI_lt hv] at HCMP
  have HE := Aside0.mk hE
  clear hE hr0 hc0 hr1 hc1 hL0 hL1 hv
  go_enter Tryd.func53, Tryd.ntmps53
  go_wp2_with fail
  refine HCMP.out.mono ?_
  rintro e w0 ⟨rfl, hw⟩
  have HB := Aside0.mk hw.below
  clear hw
  go_wp2_with fail
  refine (fnew_calls S _ 0 3 (by unfold Num; omega) _ (HE.out.below HB.out)).mono ?_
  rintro e w1 ⟨v, rfl, hv, hb⟩
  have HV := Aside0.mk hv
  have HB1 := Aside0.mk (below_step HB.out hb)
  clear hv hb
  go_wp2_with fail
  go_ret2
  exact ⟨_, rfl, HV.out, HB1.out⟩
end Go.Proofs.YtmnmmalffpimeaaDoor
