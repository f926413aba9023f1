/- The law NatPowers returns true, whatever the numbers. -/
import Derived.Test.YtmnmmalffpimeaaDoorPow
namespace Go.Proofs.YtmnmmalffpimeaaDoor
open Go.RowKit Go.Proofs.YtmnmmalffpimeaaDoorW.PrintWords Go.Proofs.YtmnmmalffpimeaaDoorW.PrintLast Go.Proofs.YtmnmmalffpimeaaDoorW.PrintMore
set_option linter.unusedVariables false
set_option linter.unusedSimpArgs false

theorem mod64 (n : Int) : ∃ j : Nat, IntKind.i64.wrap (n.tmod 64 + 64) = n.tmod 64 + 64 ∧ (n.tmod 64 + 64).tmod 64 = (j : Int) ∧ j < 64 := by
  have hb : -64 < n.tmod 64 ∧ n.tmod 64 < 64 := by
    by_cases h : 0 ≤ n
    · rw [Int.tmod_eq_emod_of_nonneg h]; omega
    · obtain ⟨a, rfl⟩ : ∃ a, n = -a := ⟨-n, by omega⟩
      rw [Int.neg_tmod, Int.tmod_eq_emod_of_nonneg (by omega)]; omega
  have h3 : (n.tmod 64 + 64).tmod 64 = (n.tmod 64 + 64) % 64 := Int.tmod_eq_emod_of_nonneg (by omega)
  exact ⟨((n.tmod 64 + 64) % 64).toNat, IntWalk.i64_in _ (by omega), by rw [h3]; omega, by omega⟩

theorem new_far (op : ByteArray) (pos n : Int) (w : World) :
    Calls Tryd.prog 18 #[.string op, .int .i64 pos, .int .i64 n] w fun e w' => ∃ v, e = .returned v ∧ (∃ Ao co Aa ca, v = .agg #[.int .i64 n, .slice Ao 1 co, .slice Aa 1 ca]) ∧ (∀ b W', b < w.heap.size → KeepBut w' W' b none → WantAt W' v n [(op, pos)]) ∧ Below w.heap.size w w' := by
  refine (GNat.edenraw_New.calls op pos n n [op] [pos] w rfl).mono ?_
  rintro e w' ⟨v1, v2, rfl, h1, h2, hb⟩
  obtain ⟨A1, c1, rfl, k1, r1⟩ := Kd.R_reads h1
  obtain ⟨A2, c2, rfl, k2, r2⟩ := Kd.R_reads h2
  refine ⟨_, rfl, ⟨A1, c1, A2, c2, rfl⟩, fun b W' hlt hk => ?_, hb⟩
  have r1' := Kd.R_reads' (Kd.R_keep (Kd.R_mono (Kd.R_bound h1) (fun k hk => (show k ≠ b by have := hk.2.1; omega))) hk (fun k hk => hk))
  have r2' := Kd.R_reads' (Kd.R_keep (Kd.R_mono (Kd.R_bound h2) (fun k hk => (show k ≠ b by have := hk.2.1; omega))) hk (fun k hk => hk))
  exact ⟨A1, c1, A2, c2, rfl, r1'.2.2, r2'.2.2, k1, k2⟩

set_option maxHeartbeats 8000000 in
set_option maxRecDepth 100000 in
theorem powers_calls (S : Nat → Addr) (k m n : Int) (w : World) (hE : Env S w) (hk : 0 ≤ k ∧ k < 4294967296) (hm : -9223372036854775808 ≤ m ∧ m ≤ 9223372036854775807) :
    Calls Tryd.prog 10 #[.int .u32 k, .int .i64 m, .int .i64 n] w fun e w' => e = .returned (.bool true) ∧ Below w.heap.size w w' := by
  have HE := Aside0.mk hE
  have HK := Aside0.mk hk
  clear hE hk
  by_cases hm0 : m < 0
  · have HM := Aside0.mk hm0
    have hd1 : decide (m < 0) = true := decide_eq_true hm0
    clear hm0 hm
    go_enter Tryd.func10, Tryd.ntmps10
    go_wp2_with fail
    refine (awake2_calls w).mono ?_
    rintro e w1 ⟨rfl, hb⟩
    have HB := Aside0.mk hb
    clear hb
    go_wp2_with fail
    refine (pow_neg S k m _ (HE.out.below HB.out) HM.out).mono ?_
    rintro e w2 ⟨v, rfl, hv, hb⟩
    obtain ⟨t, x, rfl⟩ := hv.form
    have HV := Aside0.mk hv
    have HB2 := Aside0.mk (below_step HB.out hb)
    clear hv hb
    go_wp2_with fail
    refine (new_calls _ 0 4 _).mono ?_
    rintro e w3 ⟨u, rfl, hu, hb⟩
    obtain ⟨Ao, co, Aa, ca, rfl, hu2⟩ := hu
    have HV3 := Aside0.mk (HV.out.below hb)
    have HB3 := Aside0.mk (below_step HB2.out hb)
    clear hu2 hb
    go_wp2_with fail
    refine (new_far _ 0 3 _).mono ?_
    rintro e w4 ⟨u, rfl, ⟨Bo, do_, Ba, da, rfl⟩, hu2, hb⟩
    have hs4 := hb.size
    obtain ⟨b, hbb⟩ : ∃ b, w3.heap.size = b := ⟨_, rfl⟩
    have hc : ∀ (i : Nat) v, (#[.int .i64 4, .slice Ao 1 co, .slice Aa 1 ca] : Array Value)[i]? = some v → w4.cell? ⟨b, i, none⟩ = some v ∧ w4.frozen? ⟨b, i, none⟩ = false := by
      intro i v hv
      have hlt : b < (w3.alloc (.cells #[.int .i64 4, .slice Ao 1 co, .slice Aa 1 ca] 31)).heap.size := by simp [← hbb]
      have h1 := hb.cell (p := ⟨b, i, none⟩) hlt
      have h2 := hb.frozen (p := ⟨b, i, none⟩) hlt
      rw [World.cell?_alloc_at _ _ _ _ hbb.symm, hv] at h1
      rw [World.frozen?_alloc_at _ _ _ _ hbb.symm] at h2
      exact ⟨h1, h2⟩
    obtain ⟨hc0, hf0⟩ := hc 0 _ rfl
    obtain ⟨hc1, hf1⟩ := hc 1 _ rfl
    obtain ⟨hc2, hf2⟩ := hc 2 _ rfl
    have HK5 : Aside0 (KeepBut w4 (((w4.setCell ⟨b, 0, none⟩ (.int .i64 3)).setCell ⟨b, 1, none⟩ (.slice Bo 1 do_)).setCell ⟨b, 2, none⟩ (.slice Ba 1 da)) b none) :=
      ⟨(((KeepBut.refl w4 b none).set_ 0 _).set_ 1 _).set_ 2 _⟩
    have HW5 := Aside0.mk (hu2 b _ (by simp [← hbb]) HK5.out)
    have hb3 : Below w3.heap.size w3 w4 := (below_alloc (Below.refl w3.heap.size w3) _).trans (hb.mono (by simp))
    have HB5 : Aside0 (Below w3.heap.size w3 (((w4.setCell ⟨b, 0, none⟩ (.int .i64 3)).setCell ⟨b, 1, none⟩ (.slice Bo 1 do_)).setCell ⟨b, 2, none⟩ (.slice Ba 1 da))) :=
      ⟨(((hb3.setCell (p := ⟨b, 0, none⟩) (Nat.le_of_eq hbb) _).setCell (p := ⟨b, 1, none⟩) (Nat.le_of_eq hbb) _).setCell (p := ⟨b, 2, none⟩) (Nat.le_of_eq hbb) _)⟩
    rw [hbb]
    clear hb hs4 hc hb3 hu2
    go_wp2_with fail
    refine (isf_calls S 3 (by unfold Num; omega) _ _ _ _ (HE.out.below (below_step HB3.out HB5.out)) (HV3.out.below HB5.out) HW5.out (by simp)).mono ?_
    rintro e w6 ⟨rfl, hb⟩
    have HB6 := Aside0.mk (below_step (below_step HB3.out HB5.out) hb)
    clear hb
    go_wp2_with fail
    go_ret
    exact ⟨rfl, HB6.out⟩
  · by_cases hm1 : 1024 < m
    · have HM := Aside0.mk hm1
      have hd1 : decide (m < 0) = false := decide_eq_false hm0
      have hd2 : decide (1024 < m) = true := decide_eq_true hm1
      clear hm0 hm hm1
      go_enter Tryd.func10, Tryd.ntmps10
      go_wp2_with fail
      refine (awake2_calls w).mono ?_
      rintro e w1 ⟨rfl, hb⟩
      have HB := Aside0.mk hb
      clear hb
      go_wp2_with fail
      refine (pow_big S k m _ (HE.out.below HB.out) HM.out).mono ?_
      rintro e w2 ⟨v, rfl, hv, hb⟩
      obtain ⟨t, x, rfl⟩ := hv.form
      have HV := Aside0.mk hv
      have HB2 := Aside0.mk (below_step HB.out hb)
      clear hv hb
      go_wp2_with fail
      refine (new_calls _ 0 4 _).mono ?_
      rintro e w3 ⟨u, rfl, hu, hb⟩
      have hu3 := hu
      obtain ⟨Ao, co, Aa, ca, rfl, hu2⟩ := hu
      have HV3 := Aside0.mk (HV.out.below hb)
      have HB3 := Aside0.mk (below_step HB2.out hb)
      have HU3 := Aside0.mk hu3
      clear hu2 hb hu3
      have HBA := Aside0.mk (below_alloc (Below.refl w3.heap.size w3) (.cells #[.int .i64 4, .slice Ao 1 co, .slice Aa 1 ca] 31))
      go_wp2_with fail
      refine (isf_calls S 4 (by unfold Num; omega) _ _ _ _ (HE.out.below (below_step HB3.out HBA.out)) (HV3.out.below HBA.out) (HU3.out.below HBA.out) (by simp)).mono ?_
      rintro e w6 ⟨rfl, hb⟩
      have HB6 := Aside0.mk (below_step (below_step HB3.out HBA.out) hb)
      clear hb
      go_wp2_with fail
      go_ret
      exact ⟨rfl, HB6.out⟩
    · obtain ⟨i, rfl⟩ : ∃ i : Nat, m = (i : Int) := ⟨m.toNat, by omega⟩
      have hi : i ≤ 1024 := by omega
      obtain ⟨j, hj1, hj2, hj3⟩ := mod64 n
      have hd1 : decide ((i : Int) < 0) = false := decide_eq_false hm0
      have hd2 : decide (1024 < (i : Int)) = false := decide_eq_false hm1
      have HI := Aside0.mk hi
      have HJ := Aside0.mk hj3
      clear hm0 hm hm1 hi hj3
      go_enter Tryd.func10, Tryd.ntmps10
      go_wp2_with fail
      refine (awake2_calls w).mono ?_
      rintro e w1 ⟨rfl, hb⟩
      have HB := Aside0.mk hb
      clear hb
      go_wp2_with fail
      refine (pow_calls k i _ HK.out HI.out).mono ?_
      rintro e w2 ⟨Aa, ca, a, rfl, hac, haC, haN, haV, haL, hb⟩
      have HA := Aside0.mk haC
      have HA2 := Aside0.mk (And.intro hac (And.intro haN (And.intro haV haL)))
      have HB2 := Aside0.mk (below_step HB.out hb)
      clear hac haC haN haV haL hb
      go_wp2_with fail
      refine (pow_calls k j _ HK.out (by have := HJ.out; omega)).mono ?_
      rintro e w3 ⟨Ab, cb, b, rfl, hbc, hbC, hbN, hbV, hbL, hb⟩
      have HA3 := Aside0.mk (Kd.C_below HA.out hb)
      have HBC := Aside0.mk hbC
      have HBP := Aside0.mk (And.intro hbc (And.intro hbN (And.intro hbV hbL)))
      have HB3 := Aside0.mk (below_step HB2.out hb)
      clear hbc hbC hbN hbV hbL hb HA
      go_wp2_with fail
      refine (pow_calls 2 i _ ⟨by decide, by decide⟩ HI.out).mono ?_
      rintro e w4 ⟨At, ct, t, rfl, htc, htC, htN, htV, htL, hb⟩
      have HA4 := Aside0.mk (Kd.C_below HA3.out hb)
      have HB4 := Aside0.mk (Kd.C_below HBC.out hb)
      have HTC := Aside0.mk htC
      have HTP := Aside0.mk (And.intro htc (And.intro htN (And.intro htV htL)))
      have HBB4 := Aside0.mk (below_step HB3.out hb)
      clear htc htC htN htV htL hb HA3 HBC
      have hw1 : IntKind.i64.wrap ((i : Int) + 1) = (i : Int) + 1 := IntWalk.i64_in _ (by have := HI.out; omega)
      have hw2 : IntKind.i64.wrap ((i : Int) + (j : Int)) = (i : Int) + (j : Int) := IntWalk.i64_in _ (by have := HI.out; have := HJ.out; omega)
      go_wp2_with fail
      refine (bits_calls At ct t _ HTC.out HTP.out.1 HTP.out.2.1.1 (by have := HTP.out.2.2.2; omega)).mono ?_
      rintro e w5 ⟨rfl, rfl⟩
      rw [trim_of_tip HTP.out.2.1.2, nbits_pow HTP.out.2.1 i HTP.out.2.2.1]
      by_cases hij : 1024 < i + j
      · have hd3 : decide (1024 < i + j) = true := decide_eq_true hij
        have hd4 : decide (1024 < (i : Int) + (j : Int)) = true := decide_eq_true (by omega)
        clear hij
        go_wp2_with fail
        go_ret
        exact ⟨rfl, HBB4.out⟩
      · have hd3 : decide (1024 < i + j) = false := decide_eq_false hij
        have hd4 : decide (1024 < (i : Int) + (j : Int)) = false := decide_eq_false (by omega)
        have HIJ := Aside0.mk hij
        clear hij
        go_wp2_with fail
        have hpc := pow_calls k (i + j) w4 HK.out (by have := HIJ.out; omega)
        rw [Int.natCast_add] at hpc
        refine hpc.mono ?_
        rintro e w6 ⟨Ac, cc, c, rfl, hcc, hcC, hcN, hcV, hcL, hb⟩
        have HA5 := Aside0.mk (Kd.C_below HA4.out hb)
        have HB5 := Aside0.mk (Kd.C_below HB4.out hb)
        have HCC := Aside0.mk hcC
        have HCP := Aside0.mk (And.intro hcc (And.intro hcN (And.intro hcV hcL)))
        have HBB5 := Aside0.mk (below_step HBB4.out hb)
        clear hcc hcC hcN hcV hcL hb HA4 HB4
        go_wp2_with fail
        refine (mul_calls Aa Ab ca cb a b _ HA5.out HA2.out.1 HB5.out HBP.out.1 HA2.out.2.1.1 HBP.out.2.1.1 (by have := HA2.out.2.2.2; have := HBP.out.2.2.2; omega)).mono ?_
        rintro e w7 ⟨v, p, rfl, hf, hn, hv, hb⟩
        obtain ⟨Ap, cp, rfl⟩ := Kd.V_slice hf
        have HP := Aside0.mk hf
        have HPN := Aside0.mk hn
        have HPV : Aside0 (val c = val p) := ⟨by rw [hv, HCP.out.2.2.1, HA2.out.2.2.1, HBP.out.2.2.1, Int.pow_add]⟩
        have HC7 := Aside0.mk (Kd.C_below HCC.out hb)
        have HBB7 := Aside0.mk (below_step HBB5.out hb)
        clear hf hn hv hb
        go_wp2_with fail
        refine (cmp_calls Ac Ap cc cp c p _ HC7.out HCP.out.1 (Kd.V_reads' HP.out).2.2 (Kd.V_reads' HP.out).2.1 HCP.out.2.1.1 HPN.out.1).mono ?_
        rintro e w8 ⟨rfl, hw⟩
        have HB8 := Aside0.mk (below_step HBB7.out hw.below)
        rw [cmpI_eq HPV.out]
        clear hw
        go_wp2_with fail
        go_ret
        exact ⟨rfl, HB8.out⟩
end Go.Proofs.YtmnmmalffpimeaaDoor
