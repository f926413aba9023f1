/- What nat.Mul computes: the product of two numbers, normal. -/
import Derived.Test.YtmnmmalffpimeaaDoorAdd
namespace Go.Proofs.YtmnmmalffpimeaaDoor
open Go.RowKit Go.Proofs.YtmnmmalffpimeaaDoorW.PrintWords Go.Proofs.YtmnmmalffpimeaaDoorW.PrintLast Go.Proofs.YtmnmmalffpimeaaDoorW.PrintMore
set_option linter.unusedVariables false
set_option linter.unusedSimpArgs false

theorem val_set : ∀ (l : List Int) (i : Nat) (v : Int), i < l.length → val (l.set i v) = val l + 4294967296 ^ i * (v - l.getD i 0)
  | x :: xs, 0, v, _ => by simp [val]; omega
  | x :: xs, i + 1, v, h => by
    have ih := val_set xs i v (by simpa using h)
    simp only [List.set_cons_succ, val, ih, List.getD_cons_succ]
    rw [Int.pow_succ]; grind
theorem Limbs.set {l : List Int} (h : Limbs l) (i : Nat) {v : Int} (hv : 0 ≤ v ∧ v < 4294967296) : Limbs (l.set i v) := by
  intro x hx
  rcases List.mem_or_eq_of_mem_set hx with hx | rfl
  · exact h x hx
  · exact hv
theorem getD_set_ne_ (l : List Int) (i m : Nat) (v : Int) (h : i ≠ m) : (l.set i v).getD m 0 = l.getD m 0 := by
  rw [List.getD_eq_getElem?_getD, List.getD_eq_getElem?_getD, List.getElem?_set_ne h]

def MulInv (l0 l1 : List Int) (i : Nat) (o : List Int) : Prop :=
  i ≤ l0.length ∧ o.length = l0.length + l1.length ∧ Limbs o ∧ val o = val (l0.take i) * val l1 ∧ ∀ m, i + l1.length ≤ m → o.getD m 0 = 0
def MulIn (l0 l1 : List Int) (i : Nat) (o : List Int) (j : Nat) (c : Int) (o2 : List Int) : Prop :=
  j ≤ l1.length ∧ o2.length = l0.length + l1.length ∧ Limbs o2 ∧ 0 ≤ c ∧ c < 4294967296 ∧ val o2 + 4294967296 ^ (i + j) * c = val o + 4294967296 ^ i * (rd l0 (i : Int) * val (l1.take j)) ∧ ∀ m, i + l1.length ≤ m → o2.getD m 0 = 0
theorem MulInv.start (l0 l1 : List Int) : MulInv l0 l1 0 (List.replicate (l0.length + l1.length) 0) :=
  ⟨Nat.zero_le _, by simp, Limbs.replicate _, by rw [val_replicate]; simp [val], fun m _ => by
    rw [List.getD_eq_getElem?_getD, List.getElem?_replicate]
    split <;> rfl⟩
theorem MulInv.inner {l0 l1 o : List Int} {i : Nat} (h : MulInv l0 l1 i o) : MulIn l0 l1 i o 0 0 o :=
  ⟨Nat.zero_le _, h.2.1, h.2.2.1, by decide, by decide, by simp [val], h.2.2.2.2⟩
theorem mul_bd {x y : Int} (hx : 0 ≤ x ∧ x < 4294967296) (hy : 0 ≤ y ∧ y < 4294967296) : 0 ≤ x * y ∧ x * y ≤ 18446744065119617025 := by
  refine ⟨Int.mul_nonneg hx.1 hy.1, ?_⟩
  have := Int.mul_le_mul (show x ≤ 4294967295 by omega) (show y ≤ 4294967295 by omega) hy.1 (by omega)
  omega
theorem MulIn.step {l0 l1 o o2 : List Int} {i j : Nat} {c t : Int} (h : MulIn l0 l1 i o j c o2) (hi : i < l0.length) (hj : j < l1.length) (h0 : Limbs l0) (h1 : Limbs l1) (ht : t = rd l0 (i : Int) * rd l1 (j : Int) + rd o2 ((i + j : Nat) : Int) + c) :
    0 ≤ t ∧ t < 18446744073709551616 ∧ MulIn l0 l1 i o (j + 1) (t / 4294967296) (o2.set (i + j) (t % 4294967296)) := by
  obtain ⟨a1, a2, a3, a4, a5, a6, a7⟩ := h
  have b0 := h0.getD i
  have b1 := h1.getD j
  have b2 := a3.getD (i + j)
  rw [← rd_nat] at b0 b1 b2
  have hm := mul_bd b0 b1
  have hb : 0 ≤ t ∧ t < 18446744073709551616 := by omega
  refine ⟨hb.1, hb.2, by omega, by simp [a2], a3.set _ ⟨by omega, by omega⟩, by omega, by omega, ?_, fun m hm => ?_⟩
  · rw [val_set _ _ _ (by omega), val_take_succ l1 j hj, ← rd_nat, ← rd_nat l1 j]
    have e : t = t % 4294967296 + 4294967296 * (t / 4294967296) := by omega
    generalize t / 4294967296 = q at *
    generalize t % 4294967296 = r at *
    rw [show i + (j + 1) = (i + j) + 1 by omega, Int.pow_succ]
    have e2 : (4294967296 : Int) ^ (i + j) = 4294967296 ^ i * 4294967296 ^ j := Int.pow_add _ _ _
    generalize (4294967296 : Int) ^ (i + j) = p at *
    generalize (4294967296 : Int) ^ i = pi at *
    generalize (4294967296 : Int) ^ j = pj at *
    subst ht
    generalize rd l0 (i : Int) = x at *
    generalize rd l1 (j : Int) = y at *
    generalize rd o2 ((i + j : Nat) : Int) = z at *
    grind
  · rw [getD_set_ne_ _ _ _ _ (by omega)]
    exact a7 m hm
theorem MulIn.done {l0 l1 o o2 : List Int} {i : Nat} {c : Int} (h : MulIn l0 l1 i o l1.length c o2) (hI : MulInv l0 l1 i o) (hi : i < l0.length) :
    MulInv l0 l1 (i + 1) (o2.set (i + l1.length) (c % 4294967296)) := by
  obtain ⟨a1, a2, a3, a4, a5, a6, a7⟩ := h
  obtain ⟨b1, b2, b3, b4, b5⟩ := hI
  have hc : c % 4294967296 = c := by omega
  rw [hc]
  refine ⟨hi, by simp [a2], a3.set _ ⟨a4, a5⟩, ?_, fun m hm => ?_⟩
  · rw [val_set _ _ _ (by omega), a7 _ (Nat.le_refl _), val_take_succ l0 i hi, ← rd_nat]
    rw [List.take_length] at a6
    rw [b4] at a6
    generalize (4294967296 : Int) ^ (i + l1.length) = p at *
    generalize (4294967296 : Int) ^ i = pi at *
    generalize rd l0 (i : Int) = x at *
    generalize val (l0.take i) = u at *
    generalize val l1 = y at *
    grind
  · rw [getD_set_ne_ _ _ _ _ (by omega)]
    exact a7 m (by omega)

theorem FrN.of_R' {base : Nat} {w0 w : World} {ok : Nat → Prop} {A : Option Addr} {n c : Nat} {l : List Int} (h : Kd.R (Kd.int .u32) 74 w base ok (.slice A n c) l) (_hb : Below base w0 w) : FrN base w (.slice A n c) l :=
  Kd.V_mono (Kd.R_V (Kd.R_tight rfl h)) (fun k hk => Kd.R_base h k hk.symm)
theorem u64_in (x : Int) (h0 : 0 ≤ x) (h1 : x < 18446744073709551616) : IntKind.u64.wrap x = x := by
  simp [IntKind.wrap, IntKind.bits, IntKind.signed]
  omega
set_option maxHeartbeats 8000000 in
set_option maxRecDepth 100000 in
theorem mul_calls (A0 A1 : Option Addr) (c0 c1 : Nat) (l0 l1 : List Int) (w : World) (hr0 : Kd.C (Kd.int .u32) w A0 l0.length l0) (hc0 : l0.length ≤ c0) (hr1 : Kd.C (Kd.int .u32) w A1 l1.length l1) (hc1 : l1.length ≤ c1)
    (hL0 : Limbs l0) (hL1 : Limbs l1) (hm : l0.length + l1.length ≤ 70368744177664) :
    Calls Tryd.prog 52 #[.slice A0 l0.length c0, .slice A1 l1.length c1] w (NatRes w (val l0 * val l1)) := by
  have HR0 := Aside0.mk hr0
  have HC0 := Aside0.mk hc0
  have HR1 := Aside0.mk hr1
  have HC1 := Aside0.mk hc1
  have HL0 := Aside0.mk hL0
  have HL1 := Aside0.mk hL1
  have HM := Aside0.mk hm
  obtain ⟨n1, hn1⟩ : ∃ n1 : Int, IntKind.i64.wrap ((l0.length : Int) + (l1.length : Int)) = n1 := ⟨_, rfl⟩
  have hn1' : n1 = (l0.length : Int) + (l1.length : Int) := by rw [← hn1]; exact IntWalk.i64_in _ (by omega)
  have HN1 := Aside0.mk hn1'
  have p0 : 0 ≤ n1 := by omega
  have P0 := Aside0.mk p0
  have HB := Aside0.mk (Below.refl w.heap.size w)
  clear hr0 hc0 hr1 hc1 hL0 hL1 hm hn1' p0
  go_enter Tryd.func52, Tryd.ntmps52
  go_wp2_with (first | ((with_reducible refine gate_dst (N := 17) rfl ?_); refine Kd.R_make (Kd.int .u32) _ 74 rfl (N := 17) rfl 44 _ _ rfl n1 rfl rfl Tryd.underlying44 (.int .u32 0) 4 info_u32 rfl (by decide) (by omega) 0 (ok := fun _ => True) (okp := fun _ => True) rfl (fun _ hk => hk) trivial P0.out (by have := HM.out; have := HN1.out; omega) HB.out (Nat.le_refl _) ?_; intro vo w1 ho hb hg_ hnew_; clear hg_ hnew_ HB; have HB := Aside0.mk hb; have HO := Aside0.mk ho; clear hb ho))
  obtain ⟨n2, hn2⟩ : ∃ n2 : Nat, n2 = n1.toNat := ⟨_, rfl⟩
  have hn2' : n2 = l0.length + l1.length := by have := HN1.out; omega
  rw [← hn2] at HO
  clear hn2 hn1
  subst hn2'
  obtain ⟨Ao, co, eo⟩ := Kd.R_slice HO.out
  rw [List.length_replicate] at eo
  subst eo
  go_loopg [20] (l0.length + 1) (fun kq v20 w' => ∃ (i : Nat) (o : List Int), v20 = .int .i64 i ∧ Aside0 (MulInv l0 l1 i o) ∧ Aside0 (kq + i = l0.length + 1) ∧ Aside0 (Kd.R (Kd.int .u32) 74 w' w.heap.size (fun _ => True) (.slice Ao (l0.length + l1.length) co) o) ∧ Aside0 (Below w.heap.size w w'))
  case atStart => exact ⟨0, _, rfl, ⟨MulInv.start l0 l1⟩, ⟨rfl⟩, HO, HB⟩
  case round =>
    clear HO HB
    obtain ⟨i, o, rfl, HI, HK, HO, HB⟩ := hrel
    by_cases hlt : i < l0.length
    · obtain ⟨k1, rfl⟩ : ∃ k1, gk = k1 + 1 := ⟨gk - 1, by have := HK.out; omega⟩
      obtain ⟨ad0, e0, hx0⟩ := Kd.at_int HR0.out (i : Int) (by omega) (by omega)
      cases e0
      replace hx0 := (HB.out.cell (World.block_lt_of_cell? w _ hx0)).trans hx0
      simp only [Int.toNat_natCast] at hx0
      have hib : i + l1.length < 9223372036854775807 := by have := HM.out; omega
      obtain ⟨g, cq, eo, gb, gl, cl, HG⟩ := Kd.R_form HO.out (by have := HI.out.2.1; omega)
      injection eo with e1 e2 e3
      subst e1
      subst e3
      clear e2
      have GB := Aside0.mk gb
      clear gb gl cl HG
      go_wp2
      go_loopg [8, 27] (l1.length + 1) (fun kq v8 v27 w' => ∃ (j : Nat) (c : Int) (o2 : List Int), v8 = .int .u64 c ∧ v27 = .int .i64 j ∧ Aside0 (MulIn l0 l1 i o j c o2) ∧ Aside0 (kq + j = l1.length + 1) ∧ Aside0 (Kd.R (Kd.int .u32) 74 w' w.heap.size (fun _ => True) (.slice (some ⟨g, 0, none⟩) (l0.length + l1.length) co) o2) ∧ Aside0 (Below w.heap.size w w'))
      case atStart => exact ⟨0, 0, o, rfl, rfl, ⟨HI.out.inner⟩, ⟨rfl⟩, HO, HB⟩
      case round =>
        clear HO HB hx0
        obtain ⟨j, c, o2, rfl, rfl, HJ, HKJ, HO, HB⟩ := hrel
        by_cases hjt : j < l1.length
        · obtain ⟨k2, rfl⟩ : ∃ k2, gk = k2 + 1 := ⟨gk - 1, by have := HKJ.out; omega⟩
          obtain ⟨ad1, e1, hx1⟩ := Kd.at_int HR1.out (j : Int) (by omega) (by omega)
          cases e1
          replace hx1 := (HB.out.cell (World.block_lt_of_cell? w _ hx1)).trans hx1
          simp only [Int.toNat_natCast] at hx1
          have hst := HJ.out.step hlt hjt HL0.out HL1.out rfl
          have hbx := HL0.out.getD i
          have hby := HL1.out.getD j
          have hbz := HJ.out.2.2.1.getD (i + j)
          have hbc := And.intro HJ.out.2.2.2.1 HJ.out.2.2.2.2.1
          rw [← rd_nat] at hbx hby hbz
          have hmd := mul_bd hbx hby
          obtain ⟨hz, hzf⟩ := Kd.R_celln 0 HO.out ((i + j : Nat) : Int) (by omega) (by omega)
          rw [Int.toNat_natCast] at hz hzf
          have hz' : wr.cell? ⟨g, i + j, none⟩ = some (.int .u32 (rd o2 ((i + j : Nat) : Int))) := hz
          clear hz
          obtain ⟨y, hy⟩ : ∃ y, rd l1 (j : Int) = y := ⟨_, rfl⟩
          obtain ⟨z, hz⟩ : ∃ z, rd o2 ((i + j : Nat) : Int) = z := ⟨_, rfl⟩
          rw [hy, hz] at hst
          rw [hy] at hby hx1 hmd
          rw [hz] at hbz hz'
          clear hy hz
          have q1 : IntKind.u64.wrap (rd l0 (i : Int)) = rd l0 (i : Int) := u64_in _ hbx.1 (by omega)
          have q2 : IntKind.u64.wrap y = y := u64_in _ hby.1 (by omega)
          have q3 : IntKind.u64.wrap z = z := u64_in _ hbz.1 (by omega)
          have q4 : IntKind.u64.wrap (rd l0 (i : Int) * y) = rd l0 (i : Int) * y := u64_in _ hmd.1 (by omega)
          have q5 : IntKind.u64.wrap (rd l0 (i : Int) * y + z) = rd l0 (i : Int) * y + z := u64_in _ (by omega) (by omega)
          have q6 : IntKind.u64.wrap (rd l0 (i : Int) * y + z + c) = rd l0 (i : Int) * y + z + c := u64_in _ (by omega) (by omega)
          have HPP : Aside0 (Kd.R (Kd.int .u32) 74 (wr.setCell ⟨g, i + j, none⟩ (.int .u32 ((rd l0 (i : Int) * y + z + c) % 4294967296))) w.heap.size (fun _ => True) (.slice (some ⟨g, 0, none⟩) (l0.length + l1.length) co) (o2.set (i + j) ((rd l0 (i : Int) * y + z + c) % 4294967296))) :=
            ⟨by have h := (Kd.R_putg HO.out ((i + j : Nat) : Int) ((rd l0 (i : Int) * y + z + c) % 4294967296)).1; rw [Int.toNat_natCast] at h; exact h⟩
          have HBS := Aside0.mk (fun v => below_set (g := g) (j := i + j) HB.out GB.out (v := v))
          have HST := Aside0.mk hst.2.2
          have hq7 : (rd l0 (i : Int) * y + z + c) / 4294967296 % 4294967296 = (rd l0 (i : Int) * y + z + c) / 4294967296 := by have := hst.1; have := hst.2.1; omega
          have HQ := Aside0.mk hq7
          have hij : i + j < 9223372036854775807 := by omega
          clear hst hbx hby hbz hbc hmd hq7
          go_wp2_with fail
          go_roundg k2
          case measure => omega
          case rel => exact ⟨j + 1, _, _, by first | rfl | rw [HQ.out], by go_num, HST, ⟨by have := HKJ.out; omega⟩, HPP, ⟨HBS.out _⟩⟩
        · obtain rfl : j = l1.length := by have := HJ.out.1; omega
          have hxz := HJ.out.done HI.out hlt
          obtain ⟨hz, hzf⟩ := Kd.R_celln 0 HO.out ((i + l1.length : Nat) : Int) (by omega) (by omega)
          rw [Int.toNat_natCast] at hz hzf
          have HPP : Aside0 (Kd.R (Kd.int .u32) 74 (wr.setCell ⟨g, i + l1.length, none⟩ (.int .u32 (c % 4294967296))) w.heap.size (fun _ => True) (.slice (some ⟨g, 0, none⟩) (l0.length + l1.length) co) (o2.set (i + l1.length) (c % 4294967296))) :=
            ⟨by have h := (Kd.R_putg HO.out ((i + l1.length : Nat) : Int) (c % 4294967296)).1; rw [Int.toNat_natCast] at h; exact h⟩
          have HBS := Aside0.mk (fun v => below_set (g := g) (j := i + l1.length) HB.out GB.out (v := v))
          have HXZ := Aside0.mk hxz
          clear hxz
          go_wp2_with fail
          go_roundg k1
          case measure => omega
          case rel => exact ⟨i + 1, _, by go_num, HXZ, ⟨by have := HK.out; omega⟩, HPP, ⟨HBS.out _⟩⟩
    · obtain rfl : i = l0.length := by have := HI.out.1; omega
      have hrr := Kd.R_reads' HO.out
      have HRR := Aside0.mk hrr
      have hl2 := HI.out.2.1
      have HL2 := Aside0.mk hl2
      have hv := HI.out.2.2.2.1
      rw [List.take_length] at hv
      have HV := Aside0.mk hv
      clear hrr hl2 hv
      go_wp2_with (go_at_call 101; (refine calls_of_args ?_ ((norm_calls Ao co o _ HRR.out.2.2 (by have := HRR.out; omega)).mono ?_)); (case refine_1 => rw [HL2.out]); rintro e w' ⟨rfl, rfl⟩)
      go_ret
      exact ⟨_, trim o, rfl, (FrN.of_R' HO.out HB.out).trimmed, trim_nrm HI.out.2.2.1, by rw [trim_val]; exact HV.out, HB.out⟩
end Go.Proofs.YtmnmmalffpimeaaDoor
