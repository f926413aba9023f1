/- What nat.Bits and nat.Pow compute: the count of binary digits, and a power. -/
import Derived.Test.YtmnmmalffpimeaaDoorSub
import Derived.Test.YtmnmmalffpimeaaDoorShelf
import Derived.Test.YtmnmmalffpimeaaDoorLong
import Derived.Test.YtmnmmalffpimeaaDoorAwake2
import Derived.Lib.ItoaNum
namespace Go.Proofs.YtmnmmalffpimeaaDoor
open Go.RowKit Go.Proofs.YtmnmmalffpimeaaDoorW.PrintWords Go.Proofs.YtmnmmalffpimeaaDoorW.PrintLast Go.Proofs.YtmnmmalffpimeaaDoorW.PrintMore
set_option linter.unusedVariables false
set_option linter.unusedSimpArgs false

/-- how many binary digits a normal list has -/
def nbits (l : List Int) : Int := if l = [] then 0 else 32 * ((l.length : Int) - 1) + (Lib.bitLen (l.getD (l.length - 1) 0).toNat : Int)
theorem pow32 (n : Nat) : (4294967296 : Int) ^ n = 2 ^ (32 * n) := by
  rw [Int.pow_mul]; rfl
theorem val_last {l : List Int} (h : l ≠ []) : val l = val (l.take (l.length - 1)) + 4294967296 ^ (l.length - 1) * l.getD (l.length - 1) 0 := by
  have hp : 0 < l.length := List.length_pos_iff.2 h
  have h1 := val_take_succ l (l.length - 1) (by omega)
  rw [show l.length - 1 + 1 = l.length by omega, List.take_length] at h1
  exact h1
theorem nbits_spec {l : List Int} (h : Nrm l) (h0 : l ≠ []) : ∃ b : Nat, nbits l = (b : Int) + 1 ∧ (2 : Int) ^ b ≤ val l ∧ val l < 2 ^ (b + 1) := by
  have hp : 0 < l.length := List.length_pos_iff.2 h0
  have hl := tip_last h.2 h0
  have hb := h.1.getD (l.length - 1)
  obtain ⟨x, hx⟩ : ∃ x : Nat, l.getD (l.length - 1) 0 = (x : Int) := ⟨(l.getD (l.length - 1) 0).toNat, by omega⟩
  rw [hx] at hl hb
  have hx0 : x ≠ 0 := by omega
  obtain ⟨b1, b2, b3⟩ := Lib.bitLenAux_bounds 64 x (by omega) hx0
  have hbl : Lib.bitLen x = Lib.bitLenAux 64 x := rfl
  obtain ⟨k, hk⟩ : ∃ k, Lib.bitLen x = k + 1 := ⟨Lib.bitLen x - 1, by omega⟩
  rw [← hbl, hk] at b2 b3
  rw [Nat.add_sub_cancel] at b2
  refine ⟨32 * (l.length - 1) + k, ?_, ?_, ?_⟩
  · unfold nbits
    rw [if_neg h0, hx, Int.toNat_natCast, hk]
    omega
  · rw [val_last h0, hx, pow32, Int.pow_add]
    have h2 := val_nonneg (h.1.take (l.length - 1))
    have h3 : ((2 : Int) ^ k) ≤ (x : Int) := by exact_mod_cast b2
    have h4 : (0 : Int) ≤ 2 ^ (32 * (l.length - 1)) := Int.le_of_lt (Int.pow_pos (by decide))
    have h5 := Int.mul_le_mul_of_nonneg_left h3 h4
    omega
  · rw [val_last h0, hx, pow32, show 32 * (l.length - 1) + k + 1 = 32 * (l.length - 1) + (k + 1) by omega, Int.pow_add]
    have h2 := val_lt (h.1.take (l.length - 1))
    rw [List.length_take, Nat.min_eq_left (by omega), pow32] at h2
    have h3 : (x : Int) + 1 ≤ (2 : Int) ^ (k + 1) := by exact_mod_cast b3
    have h4 : (0 : Int) ≤ 2 ^ (32 * (l.length - 1)) := Int.le_of_lt (Int.pow_pos (by decide))
    have h5 := Int.mul_le_mul_of_nonneg_left h3 h4
    rw [Int.mul_add] at h5
    omega
theorem two_pow_lt {a b : Nat} (h : (2 : Int) ^ a < 2 ^ b) : a < b := by
  rcases Nat.lt_or_ge a b with h1 | h1
  · exact h1
  · exfalso
    have : (2 : Nat) ^ b ≤ 2 ^ a := Nat.pow_le_pow_right (by decide) h1
    have h2 : ((2 : Int) ^ b) ≤ 2 ^ a := by exact_mod_cast this
    omega
theorem nbits_pow {l : List Int} (h : Nrm l) (m : Nat) (hv : val l = 2 ^ m) : nbits l = (m : Int) + 1 := by
  have h0 : l ≠ [] := by
    intro e
    subst e
    have : (0 : Int) < 2 ^ m := Int.pow_pos (by decide)
    simp only [val] at hv
    omega
  obtain ⟨b, h1, h2, h3⟩ := nbits_spec h h0
  rw [hv] at h2 h3
  have h4 := two_pow_lt h3
  have h5 : b < m + 1 := two_pow_lt (by rw [Int.pow_succ]; have : (0 : Int) < 2 ^ m := Int.pow_pos (by decide); omega)
  omega

set_option maxHeartbeats 2000000 in
set_option maxRecDepth 100000 in
theorem bits_calls (A : Option Addr) (c : Nat) (l : List Int) (w : World) (hr : Kd.C (Kd.int .u32) w A l.length l) (hc : l.length ≤ c) (hL : Limbs l) (hm : l.length ≤ 70368744177664) :
    Calls Tryd.prog 55 #[.slice A l.length c] w fun e w' => e = .returned (.int .i64 (nbits (trim l))) ∧ w = w' := by
  have ht := Kd.C_take (m := (trim l).length) hr (trim_length_le l)
  rw [trim_take] at ht
  have hm' : (trim l).length ≤ 70368744177664 := Nat.le_trans (trim_length_le l) hm
  have hcalls := norm_calls A c l w hr hc
  have hN := trim_nrm hL
  have hcc : (trim l).length ≤ c := Nat.le_trans (trim_length_le l) hc
  obtain ⟨t, e0⟩ : ∃ t, trim l = t := ⟨_, rfl⟩
  rw [e0] at ht hm' hcalls hN hcc ⊢
  have HC := Aside0.mk hcalls
  have HN := Aside0.mk hN
  clear hcalls hN hr hc hL hm e0
  by_cases h0 : t = []
  · subst h0
    clear ht hm'
    go_enter Tryd.func55, Tryd.ntmps55
    go_wp2_with fail
    refine HC.out.mono ?_
    rintro e w' ⟨rfl, rfl⟩
    go_wp2_with fail
    go_ret
    exact ⟨rfl, rfl⟩
  · have hp : 0 < t.length := List.length_pos_iff.2 h0
    obtain ⟨n, hn⟩ : ∃ n, t.length = n + 1 := ⟨t.length - 1, by omega⟩
    obtain ⟨ad, e, hx⟩ := Kd.at_int ht (n : Int) (by omega) (by omega)
    subst e
    rw [Int.toNat_natCast] at hx
    have hg : nbits t = 32 * (n : Int) + (Lib.bitLen (rd t (n : Int)).toNat : Int) := by
      unfold nbits
      rw [if_neg h0, hn, Nat.add_sub_cancel, rd_nat]
      omega
    have hb := HN.out.1.getD n
    rw [← rd_nat] at hb
    have HB := Aside0.mk hb
    have hble := Any.bitLen_le32 (rd t (n : Int)) hb.1 (by omega)
    have hLen : (t.length == 0) = false := by rw [beq_eq_false_iff_ne]; omega
    have HG := Aside0.mk hg
    rw [hn] at HC hcc hm' hLen
    obtain ⟨q, hq⟩ : ∃ q, Lib.bitLen (rd t (n : Int)).toNat = q := ⟨_, rfl⟩
    rw [hq] at hble HG
    have w1 : IntKind.i64.wrap ((n : Int) + 1 - 1) = (n : Int) := by rw [IntWalk.i64_in _ (by omega)]; omega
    have w2 : IntKind.i64.wrap (32 * (n : Int)) = 32 * (n : Int) := IntWalk.i64_in _ (by omega)
    have w3 : IntKind.i64.wrap (32 * (n : Int) + (q : Int)) = 32 * (n : Int) + (q : Int) := IntWalk.i64_in _ (by omega)
    have HQ := Aside0.mk hq
    clear hq hg hb ht h0 hp hn
    go_enter Tryd.func55, Tryd.ntmps55
    go_wp2_with fail
    refine HC.out.mono ?_
    rintro e w' ⟨rfl, rfl⟩
    go_wp2_with fail
    refine (Tryd.bits_Len32 _ _ HB.out.1 (by have := HB.out.2; omega)).mono ?_
    rintro e w' ⟨rfl, rfl⟩
    rw [HQ.out]
    go_wp2_with fail
    go_ret
    refine ⟨?_, rfl⟩
    first | rw [HG.out]; rfl | (rw [HG.out]; simp [w1, w2, w3])

/-- what nat.Pow leaves -/
def PowRes (w : World) (x : Int) (e : Ending) (w' : World) : Prop :=
  ∃ A c l, e = .returned (.tuple #[.slice A l.length c, .nilIface]) ∧ l.length ≤ c ∧ Kd.C (Kd.int .u32) w' A l.length l ∧ Nrm l ∧ val l = x ∧ l.length ≤ 1025 ∧ Below w.heap.size w w'
def PowInv (x : Int) (m : Nat) (o b : List Int) : Prop := Nrm o ∧ Limbs b ∧ val o * val b ^ m = x ∧ o.length + b.length * m ≤ 1025
theorem mul_len {a b s : List Int} (ha : Limbs a) (hb : Limbs b) (hs : Nrm s) (hv : val s = val a * val b) : s.length ≤ a.length + b.length := by
  refine nrm_length hs ?_
  have h3 := val_lt ha
  have h4 := val_lt hb
  have h5 := val_nonneg ha
  have h6 := val_nonneg hb
  rw [hv, Int.pow_add]
  have h7 : (0 : Int) < 4294967296 ^ b.length := Int.pow_pos (by decide)
  have h8 := Int.mul_le_mul_of_nonneg_left (Int.le_of_lt h4) h5
  have h9 := Int.mul_lt_mul_of_pos_right h3 h7
  omega
theorem PowInv.odd {x : Int} {m : Nat} {o b o' b' : List Int} (h : PowInv x m o b) (hm : m % 2 = 1) (ho : Nrm o') (hvo : val o' = val o * val b) (hb : Nrm b') (hvb : val b' = val b * val b) : PowInv x (m / 2) o' b' := by
  obtain ⟨h1, h2, h3, h4⟩ := h
  have l1 := mul_len h1.1 h2 ho hvo
  have l2 := mul_len h2 h2 hb hvb
  obtain ⟨q, rfl⟩ : ∃ q, m = 2 * q + 1 := ⟨m / 2, by omega⟩
  rw [show (2 * q + 1) / 2 = q by omega]
  refine ⟨ho, hb.1, ?_, ?_⟩
  · rw [hvo, hvb, ← h3, Int.pow_succ, Int.pow_mul, show (2 : Nat) = 1 + 1 from rfl, Int.pow_succ, Int.pow_succ, Int.pow_zero, Int.one_mul]
    rw [Int.mul_assoc, Int.mul_comm (val b)]
  · have : b'.length * q ≤ (b.length + b.length) * q := Nat.mul_le_mul_right _ l2
    rw [Nat.add_mul] at this
    have e : b.length * (2 * q + 1) = b.length * q + b.length * q + b.length := by rw [Nat.mul_add, Nat.mul_one, Nat.two_mul, Nat.mul_add]
    omega
theorem PowInv.even {x : Int} {m : Nat} {o b b' : List Int} (h : PowInv x m o b) (hm : m % 2 ≠ 1) (hb : Nrm b') (hvb : val b' = val b * val b) : PowInv x (m / 2) o b' := by
  obtain ⟨h1, h2, h3, h4⟩ := h
  have l2 := mul_len h2 h2 hb hvb
  obtain ⟨q, rfl⟩ : ∃ q, m = 2 * q := ⟨m / 2, by omega⟩
  rw [show (2 * q) / 2 = q by omega]
  refine ⟨h1, hb.1, ?_, ?_⟩
  · rw [hvb, ← h3, Int.pow_mul, show (2 : Nat) = 1 + 1 from rfl, Int.pow_succ, Int.pow_succ, Int.pow_zero, Int.one_mul]
  · have : b'.length * q ≤ (b.length + b.length) * q := Nat.mul_le_mul_right _ l2
    rw [Nat.add_mul] at this
    have e : b.length * (2 * q) = b.length * q + b.length * q := by rw [Nat.two_mul, Nat.mul_add]
    omega

set_option maxHeartbeats 8000000 in
set_option maxRecDepth 100000 in
theorem pow_calls (k : Int) (n : Nat) (w : World) (hk : 0 ≤ k ∧ k < 4294967296) (hn : n ≤ 1024) :
    Calls Tryd.prog 54 #[.int .u32 k, .int .i64 n] w (PowRes w (k ^ n)) := by
  have HK := Aside0.mk hk
  have hd1 : decide ((n : Int) < 0) = false := decide_eq_false (by omega)
  have hd2 : decide (1024 < (n : Int)) = false := decide_eq_false (by omega)
  clear hk
  go_enter Tryd.func54, Tryd.ntmps54
  go_wp2_with fail
  have hb0 := below_alloc (below_alloc (Below.refl w.heap.size w) (.cells #[.int .u32 1] 74)) (.cells #[.int .u32 k] 74)
  have hO := Kd.C_alloc (C_lit w [1] (by simp)) (.cells #[.int .u32 k] 74)
  have hB := C_litg (w.alloc (.cells #[.int .u32 1] 74)) (w.heap.size + 1) [k] (by simp) (by simp)
  obtain ⟨w2, hw2⟩ : ∃ w2, (w.alloc (.cells #[.int .u32 1] 74)).alloc (.cells #[.int .u32 k] 74) = w2 := ⟨_, rfl⟩
  change Kd.C (Kd.int .u32) ((w.alloc (.cells #[.int .u32 1] 74)).alloc (.cells #[.int .u32 k] 74)) _ _ _ at hO
  change Kd.C (Kd.int .u32) ((w.alloc (.cells #[.int .u32 1] 74)).alloc (.cells #[.int .u32 k] 74)) _ _ _ at hB
  rw [hw2] at hb0 hO hB ⊢
  have HB0 := Aside0.mk hb0
  have HO := Aside0.mk hO
  have HBB := Aside0.mk hB
  have HNN := Aside0.mk hn
  clear hb0 hO hB hw2 hd1 hd2 hn
  go_loopg [1, 6, 7] n (fun kq v1 v6 v7 w' => ∃ (m : Nat) (o b : List Int) (A6 A7 : Option Addr) (c6 c7 : Nat), v1 = .int .i64 m ∧ v6 = .slice A6 o.length c6 ∧ v7 = .slice A7 b.length c7 ∧ m ≤ kq ∧ m ≤ 1024 ∧ Aside0 (PowInv (k ^ n) m o b) ∧
    Aside0 (o.length ≤ c6 ∧ Kd.C (Kd.int .u32) w' A6 o.length o) ∧ Aside0 (b.length ≤ c7 ∧ Kd.C (Kd.int .u32) w' A7 b.length b) ∧ Aside0 (Below w.heap.size w w'))
  case atStart =>
    exact ⟨n, [1], [k], _, _, 1, 1, rfl, rfl, rfl, Nat.le_refl _, HNN.out, ⟨⟨Limbs.cons ⟨by decide, by decide⟩ Limbs.nil, by simp [Tip]⟩, Limbs.cons HK.out Limbs.nil, by simp [val], by simp; have := HNN.out; omega⟩, ⟨by simp, HO.out⟩, ⟨by simp, HBB.out⟩, HB0⟩
  case round =>
    clear HO HBB HB0
    obtain ⟨m, o, b, A6, A7, c6, c7, rfl, rfl, rfl, hmk, hm1, HI, HO, HBB, HB⟩ := hrel
    by_cases hz : m = 0
    · subst hz
      go_wp2_with fail
      go_ret2
      exact ⟨_, _, o, rfl, HO.out.1, HO.out.2, HI.out.1, by have := HI.out.2.2.1; simpa using this, by have := HI.out.2.2.2; omega, HB.out⟩
    · obtain ⟨k1, rfl⟩ : ∃ k1, gk = k1 + 1 := ⟨gk - 1, by omega⟩
      have hmp : decide (0 < m) = true := decide_eq_true (by omega)
      have hq : IntKind.i64.wrap ((m : Int).tdiv 2) = ((m / 2 : Nat) : Int) := by rw [Int.tdiv_eq_ediv_of_nonneg (by omega), IntWalk.i64_in _ (by omega)]; omega
      by_cases hodd : m % 2 = 1
      · have hr : (m : Int).tmod 2 = 1 := by rw [Int.tmod_eq_emod_of_nonneg (by omega)]; omega
        have HOD := Aside0.mk hodd
        have HZ : Aside0 (m / 2 ≤ k1 ∧ m / 2 ≤ 1024) := ⟨by omega⟩
        have HLB : Aside0 (o.length + b.length ≤ 1025 ∧ b.length + b.length ≤ 2050) := ⟨by
          have h := HI.out.2.2.2
          have h2 : b.length * 1 ≤ b.length * m := Nat.mul_le_mul_left _ (by omega)
          omega⟩
        clear hodd hz hmk
        go_wp2_with fail
        refine (mul_calls A6 A7 c6 c7 o b _ HO.out.2 HO.out.1 HBB.out.2 HBB.out.1 HI.out.1.1 HI.out.2.1 (by have := HLB.out; omega)).mono ?_
        rintro e w3 ⟨v, o', rfl, hf, hno, hvo, hb⟩
        obtain ⟨Ao, co, rfl⟩ := Kd.V_slice hf
        have HF := Aside0.mk hf
        have HNO := Aside0.mk hno
        have HVO := Aside0.mk hvo
        have HB3 := Aside0.mk hb
        clear hf hno hvo hb
        go_wp2_with fail
        have hr7 := Kd.C_below HBB.out.2 HB3.out
        refine (mul_calls A7 A7 c7 c7 b b _ hr7 HBB.out.1 hr7 HBB.out.1 HI.out.2.1 HI.out.2.1 (by have := HLB.out; omega)).mono ?_
        rintro e w4 ⟨v, b', rfl, hf, hnb, hvb, hb⟩
        obtain ⟨Ab, cb, rfl⟩ := Kd.V_slice hf
        have HR6 := Aside0.mk (And.intro (Kd.V_reads' HF.out).2.1 (Kd.C_below (Kd.V_reads' HF.out).2.2 hb))
        have HR7 := Aside0.mk (And.intro (Kd.V_reads' hf).2.1 (Kd.V_reads' hf).2.2)
        have HB4 := Aside0.mk (below_step (below_step HB.out HB3.out) hb)
        have HP := Aside0.mk (HI.out.odd HOD.out HNO.out HVO.out hnb hvb)
        clear hf hnb hvb hb hr7
        go_wp2_with fail
        go_roundg k1
        case measure => omega
        case rel => exact ⟨m / 2, o', b', _, _, _, _, congrArg _ (by omega), rfl, rfl, HZ.out.1, HZ.out.2, HP, HR6, HR7, HB4⟩
      · have hr : (m : Int).tmod 2 = 0 := by rw [Int.tmod_eq_emod_of_nonneg (by omega)]; omega
        have HOD := Aside0.mk hodd
        have HZ : Aside0 (m / 2 ≤ k1 ∧ m / 2 ≤ 1024) := ⟨by omega⟩
        have HLB : Aside0 (o.length + b.length ≤ 1025 ∧ b.length + b.length ≤ 2050) := ⟨by
          have h := HI.out.2.2.2
          have h2 : b.length * 1 ≤ b.length * m := Nat.mul_le_mul_left _ (by omega)
          omega⟩
        clear hodd hz hmk
        go_wp2_with fail
        refine (mul_calls A7 A7 c7 c7 b b _ HBB.out.2 HBB.out.1 HBB.out.2 HBB.out.1 HI.out.2.1 HI.out.2.1 (by have := HLB.out; omega)).mono ?_
        rintro e w4 ⟨v, b', rfl, hf, hnb, hvb, hb⟩
        obtain ⟨Ab, cb, rfl⟩ := Kd.V_slice hf
        have HR6 := Aside0.mk (And.intro HO.out.1 (Kd.C_below HO.out.2 hb))
        have HR7 := Aside0.mk (And.intro (Kd.V_reads' hf).2.1 (Kd.V_reads' hf).2.2)
        have HB4 := Aside0.mk (below_step HB.out hb)
        have HP := Aside0.mk (HI.out.even HOD.out hnb hvb)
        clear hf hnb hvb hb
        go_wp2_with fail
        go_roundg k1
        case measure => omega
        case rel => exact ⟨m / 2, o, b', _, _, _, _, congrArg _ (by omega), rfl, rfl, HZ.out.1, HZ.out.2, HP, HR6, HR7, HB4⟩

set_option maxHeartbeats 2000000 in
set_option maxRecDepth 100000 in
theorem pow_neg (S : Nat → Addr) (k n : Int) (w : World) (hE : Env S w) (hn : n < 0) :
    Calls Tryd.prog 54 #[.int .u32 k, .int .i64 n] w fun e w' => ∃ v, e = .returned (.tuple #[.slice none 0 0, v]) ∧ ErrAt S w' 3 [(⟨#[110, 97, 116]⟩, 0)] v ∧ Below w.heap.size w w' := by
  have HE := Aside0.mk hE
  have hd1 : decide (n < 0) = true := decide_eq_true hn
  clear hE hn
  go_enter Tryd.func54, Tryd.ntmps54
  go_wp2_with fail
  refine (fnew_calls S _ 0 3 (by unfold Num; omega) _ HE.out).mono ?_
  rintro e w1 ⟨v, rfl, hv, hb⟩
  have HV := Aside0.mk hv
  have HB := Aside0.mk hb
  clear hv hb
  go_wp2_with fail
  go_ret2
  exact ⟨_, rfl, HV.out, HB.out⟩
set_option maxHeartbeats 2000000 in
set_option maxRecDepth 100000 in
theorem pow_big (S : Nat → Addr) (k n : Int) (w : World) (hE : Env S w) (hn : 1024 < n) :
    Calls Tryd.prog 54 #[.int .u32 k, .int .i64 n] w fun e w' => ∃ v, e = .returned (.tuple #[.slice none 0 0, v]) ∧ ErrAt S w' 4 [(⟨#[110, 97, 116]⟩, 0)] v ∧ Below w.heap.size w w' := by
  have HE := Aside0.mk hE
  have hd1 : decide (n < 0) = false := decide_eq_false (by omega)
  have hd2 : decide (1024 < n) = true := decide_eq_true hn
  clear hE hn
  go_enter Tryd.func54, Tryd.ntmps54
  go_wp2_with fail
  refine (fnew_calls S _ 0 4 (by unfold Num; omega) _ HE.out).mono ?_
  rintro e w1 ⟨v, rfl, hv, hb⟩
  have HV := Aside0.mk hv
  have HB := Aside0.mk hb
  clear hv hb
  go_wp2_with fail
  go_ret2
  exact ⟨_, rfl, HV.out, HB.out⟩
end Go.Proofs.YtmnmmalffpimeaaDoor
