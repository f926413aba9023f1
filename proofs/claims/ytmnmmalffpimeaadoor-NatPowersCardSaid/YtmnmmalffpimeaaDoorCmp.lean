/- What nat.Cmp computes: -1, 0, 1, as the numbers are. -/
import Derived.Test.YtmnmmalffpimeaaDoorMul
import Derived.Deep.QuietTactic
import Derived.BigQuiet
namespace Go.Proofs.YtmnmmalffpimeaaDoor
open Go.RowKit Go.Proofs.YtmnmmalffpimeaaDoorW.PrintWords Go.Proofs.YtmnmmalffpimeaaDoorW.PrintLast Go.Proofs.YtmnmmalffpimeaaDoorW.PrintMore
set_option linter.unusedVariables false
set_option linter.unusedSimpArgs false

/-- -1, 0, 1 -/
def cmpI (x y : Int) : Int := if x < y then -1 else if x = y then 0 else 1
theorem cmpI_lt {x y : Int} (h : x < y) : cmpI x y = -1 := by simp [cmpI, h]
theorem cmpI_gt {x y : Int} (h : y < x) : cmpI x y = 1 := by
  unfold cmpI
  rw [if_neg (by omega), if_neg (by omega)]
theorem cmpI_eq {x y : Int} (h : x = y) : cmpI x y = 0 := by simp [cmpI, h]
theorem Nrm.ge : ∀ {l : List Int}, Nrm l → l ≠ [] → 4294967296 ^ (l.length - 1) ≤ val l
  | [], _, h => absurd rfl h
  | [x], h, _ => by
    have h1 := h.1.head
    have := h.2
    simp only [Tip, val, List.length_cons, List.length_nil] at this ⊢
    simp
    omega
  | x :: y :: ys, h, _ => by
    have ih := Nrm.ge h.tail (by simp)
    have h1 := h.1.head
    simp only [List.length_cons, Nat.add_sub_cancel] at ih ⊢
    rw [Int.pow_succ]
    simp only [val] at ih ⊢
    omega
theorem pow_mono_ {m n : Nat} (h : m ≤ n) : (4294967296 : Int) ^ m ≤ 4294967296 ^ n := by
  obtain ⟨k, rfl⟩ := Nat.le.dest h
  rw [Int.pow_add]
  have h1 : (1 : Int) ≤ 4294967296 ^ k := Int.pow_pos (by decide)
  have h2 : (0 : Int) < 4294967296 ^ m := Int.pow_pos (by decide)
  have := Int.mul_le_mul_of_nonneg_left h1 (Int.le_of_lt h2)
  simpa using this
theorem val_lt_of_length {a b : List Int} (ha : Nrm a) (hb : Nrm b) (h : a.length < b.length) : val a < val b := by
  have h1 := val_lt ha.1
  have h2 := hb.ge (by intro e; subst e; simp at h)
  have h3 := pow_mono_ (show a.length ≤ b.length - 1 by omega)
  omega
theorem val_split (l : List Int) (i : Nat) (h : i < l.length) : val l = val (l.take i) + 4294967296 ^ i * (rd l (i : Int) + 4294967296 * val (l.drop (i + 1))) := by
  have h1 := val_append (l.take (i + 1)) (l.drop (i + 1))
  rw [List.take_append_drop, List.length_take, Nat.min_eq_left (by omega), val_take_succ l i h, ← rd_nat, Int.pow_succ] at h1
  rw [h1]; grind
theorem val_lt_at {a b : List Int} (ha : Limbs a) (hb : Limbs b) (i : Nat) (h1 : i < a.length) (h2 : i < b.length) (he : a.drop (i + 1) = b.drop (i + 1)) (hlt : rd a (i : Int) < rd b (i : Int)) : val a < val b := by
  rw [val_split a i h1, val_split b i h2, he]
  have h3 := val_lt (ha.take i)
  have h4 := val_nonneg (hb.take i)
  rw [List.length_take, Nat.min_eq_left (by omega)] at h3
  have hp : (0 : Int) < 4294967296 ^ i := Int.pow_pos (by decide)
  generalize (4294967296 : Int) ^ i = p at *
  generalize val (b.drop (i + 1)) = D at *
  obtain ⟨d, hd⟩ : ∃ d : Int, rd b (i : Int) = rd a (i : Int) + 1 + d := ⟨rd b (i : Int) - rd a (i : Int) - 1, by omega⟩
  have hd0 : 0 ≤ d := by omega
  rw [hd]
  have hpd := Int.mul_nonneg (Int.le_of_lt hp) hd0
  have e : p * (rd a (i : Int) + 1 + d + 4294967296 * D) = p * (rd a (i : Int) + 4294967296 * D) + p + p * d := by grind
  rw [e]
  omega

set_option maxHeartbeats 4000000 in
set_option maxRecDepth 100000 in
theorem cmp_calls (A0 A1 : Option Addr) (c0 c1 : Nat) (l0 l1 : List Int) (w : World) (hr0 : Kd.C (Kd.int .u32) w A0 l0.length l0) (hc0 : l0.length ≤ c0) (hr1 : Kd.C (Kd.int .u32) w A1 l1.length l1) (hc1 : l1.length ≤ c1)
    (hL0 : Limbs l0) (hL1 : Limbs l1) :
    Calls Tryd.prog 45 #[.slice A0 l0.length c0, .slice A1 l1.length c1] w fun e w' => e = .returned (.int .i64 (cmpI (val l0) (val l1))) ∧ Drawn0 w w' := by
  have HR0 := Aside0.mk hr0
  have HR1 := Aside0.mk hr1
  have HC0 := Aside0.mk hc0
  have HC1 := Aside0.mk hc1
  have ht0 := Kd.C_take (m := (trim l0).length) hr0 (trim_length_le l0)
  have ht1 := Kd.C_take (m := (trim l1).length) hr1 (trim_length_le l1)
  rw [trim_take] at ht0 ht1
  have HN0 := Aside0.mk (trim_nrm hL0)
  have HN1 := Aside0.mk (trim_nrm hL1)
  rw [← trim_val l0, ← trim_val l1]
  have hk0 : (trim l0).length ≤ c0 := Nat.le_trans (trim_length_le l0) hc0
  have hk1 : (trim l1).length ≤ c1 := Nat.le_trans (trim_length_le l1) hc1
  obtain ⟨t0, e0⟩ : ∃ t, trim l0 = t := ⟨_, rfl⟩
  obtain ⟨t1, e1⟩ : ∃ t, trim l1 = t := ⟨_, rfl⟩
  rw [e0] at ht0 hk0 HN0 ⊢
  rw [e1] at ht1 hk1 HN1 ⊢
  have E0 := Aside0.mk e0
  have E1 := Aside0.mk e1
  have HT0 := Aside0.mk ht0
  have HT1 := Aside0.mk ht1
  have hm0 := Kd.C_max ht0
  clear hr0 hr1 hc0 hc1 e0 e1 ht0 ht1 hL0 hL1
  have harm0 : Calls Tryd.prog 101 #[.slice A0 l0.length c0] w fun e w' => e = .returned (.slice A0 t0.length c0) ∧ w = w' := by
    have h := norm_calls A0 c0 l0 w HR0.out HC0.out
    rw [E0.out] at h
    exact h
  have harm1 : Calls Tryd.prog 101 #[.slice A1 l1.length c1] w fun e w' => e = .returned (.slice A1 t1.length c1) ∧ w = w' := by
    have h := norm_calls A1 c1 l1 w HR1.out HC1.out
    rw [E1.out] at h
    exact h
  have HA0 := Aside0.mk harm0
  have HA1 := Aside0.mk harm1
  clear harm0 harm1
  rcases Nat.lt_trichotomy t0.length t1.length with hlt | heq | hgt
  · have hne : ((t0.length : Int) != (t1.length : Int)) = true := by rw [bne_iff_ne]; omega
    have hd : decide (t0.length < t1.length) = true := decide_eq_true hlt
    have HV := Aside0.mk (val_lt_of_length HN0.out HN1.out hlt)
    clear hlt
    go_enter Tryd.func45, Tryd.ntmps45
    go_wp2_with fail
    refine HA0.out.mono ?_
    rintro e w' ⟨rfl, rfl⟩
    go_wp2_with fail
    refine HA1.out.mono ?_
    rintro e w' ⟨rfl, rfl⟩
    go_wp2_with fail
    go_ret
    exact ⟨by rw [cmpI_lt HV.out]; rfl, Drawn0.refl _⟩
  · have hne : ((t0.length : Int) != (t1.length : Int)) = false := by rw [bne_eq_false_iff_eq]; omega
    have HQ := Aside0.mk heq
    have hle : t0.length ≤ t1.length := by omega
    clear heq
    go_enter Tryd.func45, Tryd.ntmps45
    go_wp2_with fail
    refine HA0.out.mono ?_
    rintro e w' ⟨rfl, rfl⟩
    go_wp2_with fail
    refine HA1.out.mono ?_
    rintro e w' ⟨rfl, rfl⟩
    go_wp2_with fail
    go_loopg [5] (t0.length) (fun kq v5 w' => v5 = .int .i64 ((kq : Int) - 1) ∧ kq ≤ t0.length ∧ Aside0 (t0.drop kq = t1.drop kq) ∧ Aside0 (Drawn0 w w'))
    case atStart => exact ⟨rfl, Nat.le_refl _, ⟨by rw [List.drop_length, HQ.out, List.drop_length]⟩, ⟨Drawn0.refl _⟩⟩
    case round =>
      obtain ⟨rfl, hk, HD, HW⟩ := hrel
      cases gk with
      | zero =>
        go_wp2_with fail
        go_ret
        refine ⟨?_, HW.out⟩
        have h0 : t0 = t1 := by simpa using HD.out
        rw [cmpI_eq (by rw [h0])]
        rfl
      | succ k =>
        rw [show ((k + 1 : Nat) : Int) - 1 = (k : Int) by omega]
        have hb := HW.out.below
        obtain ⟨ad0, e0, hx0⟩ := Kd.at_int (Kd.C_below HT0.out hb) (k : Int) (by omega) (by omega)
        obtain ⟨ad1, e1, hx1⟩ := Kd.at_int (Kd.C_below HT1.out hb) (k : Int) (by omega) (by omega)
        subst e0
        subst e1
        simp only [Int.toNat_natCast] at hx0 hx1
        have hk' : k < t0.length := by omega
        have hk1' : k < t1.length := by omega
        rcases Int.lt_trichotomy (rd t0 (k : Int)) (rd t1 (k : Int)) with hlt | heq | hgt
        · have hd : decide (rd t0 (k : Int) < rd t1 (k : Int)) = true := decide_eq_true hlt
          have HV := Aside0.mk (val_lt_at HN0.out.1 HN1.out.1 k hk' hk1' HD.out hlt)
          clear hlt hb
          go_wp2_with fail
          go_quiet (fail)
          go_wp2_with fail
          go_ret
          exact ⟨by rw [cmpI_lt HV.out]; rfl, by repeat (first | exact HW.out | apply Drawn0.step)⟩
        · have hd : decide (rd t0 (k : Int) < rd t1 (k : Int)) = false := decide_eq_false (by omega)
          have hd2 : decide (rd t1 (k : Int) < rd t0 (k : Int)) = false := decide_eq_false (by omega)
          have HE : Aside0 (t0.drop k = t1.drop k) := ⟨by
            rw [List.drop_eq_getElem_cons hk', List.drop_eq_getElem_cons hk1', HD.out]
            rw [rd_nat, rd_nat, List.getD_eq_getElem?_getD, List.getD_eq_getElem?_getD, List.getElem?_eq_getElem hk', List.getElem?_eq_getElem hk1'] at heq
            simp only [Option.getD_some] at heq
            rw [heq]⟩
          clear heq hb
          go_wp2_with fail
          go_quiet (fail)
          go_wp2_with fail
          go_quiet (fail)
          go_wp2_with fail
          go_roundg k
          case measure => omega
          case rel => exact ⟨rfl, by omega, HE, ⟨by repeat (first | exact HW.out | apply Drawn0.step)⟩⟩
        · have hd : decide (rd t0 (k : Int) < rd t1 (k : Int)) = false := decide_eq_false (by omega)
          have hd2 : decide (rd t1 (k : Int) < rd t0 (k : Int)) = true := decide_eq_true hgt
          have HV := Aside0.mk (val_lt_at HN1.out.1 HN0.out.1 k hk1' hk' HD.out.symm hgt)
          clear hgt hb
          go_wp2_with fail
          go_quiet (fail)
          go_wp2_with fail
          go_quiet (fail)
          go_wp2_with fail
          go_ret
          exact ⟨by rw [cmpI_gt HV.out]; rfl, by repeat (first | exact HW.out | apply Drawn0.step)⟩
  · have hne : ((t0.length : Int) != (t1.length : Int)) = true := by rw [bne_iff_ne]; omega
    have hd : decide (t0.length < t1.length) = false := decide_eq_false (by omega)
    have HV := Aside0.mk (val_lt_of_length HN1.out HN0.out hgt)
    clear hgt
    go_enter Tryd.func45, Tryd.ntmps45
    go_wp2_with fail
    refine HA0.out.mono ?_
    rintro e w' ⟨rfl, rfl⟩
    go_wp2_with fail
    refine HA1.out.mono ?_
    rintro e w' ⟨rfl, rfl⟩
    go_wp2_with fail
    go_ret
    exact ⟨by rw [cmpI_gt HV.out]; rfl, Drawn0.refl _⟩
end Go.Proofs.YtmnmmalffpimeaaDoor
