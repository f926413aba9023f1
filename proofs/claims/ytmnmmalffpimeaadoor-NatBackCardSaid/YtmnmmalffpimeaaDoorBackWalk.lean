/- The law NatBack returns true, whatever the numbers. -/
import Derived.Test.YtmnmmalffpimeaaDoorSub
import Derived.Test.YtmnmmalffpimeaaDoorLong
namespace Go.Proofs.YtmnmmalffpimeaaDoor
open Go.RowKit Go.Proofs.YtmnmmalffpimeaaDoorW.PrintWords Go.Proofs.YtmnmmalffpimeaaDoorW.PrintLast Go.Proofs.YtmnmmalffpimeaaDoorW.PrintMore
set_option linter.unusedVariables false
set_option linter.unusedSimpArgs false

theorem C_rows2 {α : Type} {d : Kd α} {e : Nat} {w : World} (ad : Addr) (xs : List (List α)) (hm : xs.length ≤ 9223372036854775807)
    (h : ∀ j (hj : j < xs.length), ∃ A c, w.cell? (ad.add j) = some (.slice A xs[j].length c) ∧ xs[j].length ≤ c ∧ Kd.C d w A xs[j].length xs[j]) : Kd.C (Kd.slice e d) w (some ad) xs.length xs := by
  refine ⟨rfl, hm, fun _ => ⟨ad, rfl, fun j p hj => ?_⟩⟩
  obtain ⟨hj1, hj2⟩ := List.getElem?_eq_some_iff.1 hj
  subst hj2
  obtain ⟨A, c, hc, hl, hC⟩ := h j hj1
  refine ⟨[.slice A xs[j].length c], rfl, ⟨A, c, rfl, hl, hC⟩, fun i u hu => ?_⟩
  cases i with
  | zero =>
    have : u = .slice A xs[j].length c := by simpa using hu.symm
    subst this
    rw [show j * (Kd.slice e d).sz + 0 = j from by show j * 1 + 0 = j; omega]
    exact hc
  | succ i => simp at hu
theorem C_rows_two (W : World) (A A' : Option Addr) (c c' : Nat) (l l' : List Int) (h : Kd.C (Kd.int .u32) W A l.length l) (hc : l.length ≤ c) (h' : Kd.C (Kd.int .u32) W A' l'.length l') (hc' : l'.length ≤ c') (t : Nat) :
    Kd.C KN (W.alloc (.cells #[.slice A l.length c, .slice A' l'.length c'] t)) (some ⟨W.heap.size, 0, none⟩) [l, l'].length [l, l'] := by
  refine C_rows2 _ _ (by simp) fun j hj => ?_
  have : j = 0 ∨ j = 1 := by simp at hj; omega
  rcases this with rfl | rfl
  · exact ⟨A, c, by simp [Addr.add], hc, Kd.C_alloc h _⟩
  · exact ⟨A', c', by simp [Addr.add], hc', Kd.C_alloc h' _⟩
theorem nrm_len_sum {a b s : List Int} (ha : Limbs a) (hb : Limbs b) (hs : Nrm s) (hv : val s = val a + val b) {n : Nat} (h1 : a.length ≤ n) (h2 : b.length ≤ n) : s.length ≤ n + 1 := by
  refine nrm_length hs ?_
  have h3 := val_lt ha
  have h4 := val_lt hb
  have h5 := pow_mono_ h1
  have h6 := pow_mono_ h2
  have h7 : (0 : Int) < 4294967296 ^ n := Int.pow_pos (by decide)
  rw [hv, Int.pow_succ]
  omega
theorem nrm_len_le {a s : List Int} (ha : Limbs a) (hs : Nrm s) (hv : val s ≤ val a) : s.length ≤ a.length := by
  refine nrm_length hs ?_
  have h3 := val_lt ha
  omega

set_option maxHeartbeats 8000000 in
set_option maxRecDepth 100000 in
theorem back_calls (S : Nat → Addr) (A0 A1 : Option Addr) (c0 c1 : Nat) (l0 l1 : List Int) (w : World) (hE : Env S w) (hr0 : Kd.C (Kd.int .u32) w A0 l0.length l0) (hc0 : l0.length ≤ c0) (hr1 : Kd.C (Kd.int .u32) w A1 l1.length l1) (hc1 : l1.length ≤ c1)
    (hL0 : Limbs l0) (hL1 : Limbs l1) :
    Calls Tryd.prog 9 #[.slice A0 l0.length c0, .slice A1 l1.length c1] w fun e w' => e = .returned (.bool true) ∧ Below w.heap.size w w' := by
  have HE := Aside0.mk hE
  have HR0 := Aside0.mk hr0
  have HC0 := Aside0.mk hc0
  have HL0 := Aside0.mk hL0
  have HR1 := Aside0.mk hr1
  have HC1 := Aside0.mk hc1
  have HL1 := Aside0.mk hL1
  clear hE hr0 hc0 hL0 hr1 hc1 hL1
  go_enter Tryd.func9, Tryd.ntmps9
  go_wp2_with fail
  refine (awake2_calls w).mono ?_
  rintro e w1 ⟨rfl, hb⟩
  have HB := Aside0.mk hb
  clear hb
  go_wp2_with fail
  refine (long_calls _ 2 [l0, l1] _ (C_rows_two w1 A0 A1 c0 c1 l0 l1 (Kd.C_below HR0.out HB.out) HC0.out (Kd.C_below HR1.out HB.out) HC1.out _)).mono ?_
  rintro e w2 ⟨rfl, rfl⟩
  by_cases hlen : 400 < l0.length ∨ 400 < l1.length
  · have hlb : ([l0, l1].any fun l => decide (400 < l.length)) = true := by simp [hlen]
    rw [hlb]
    clear hlb
    go_wp2_with fail
    go_ret
    exact ⟨rfl, below_alloc HB.out _⟩
  · have hlb : ([l0, l1].any fun l => decide (400 < l.length)) = false := by simp; omega
    rw [hlb]
    have HLN : Aside0 (l0.length ≤ 400 ∧ l1.length ≤ 400) := ⟨by omega⟩
    have HB2 := Aside0.mk (below_alloc HB.out (.cells #[.slice A0 l0.length c0, .slice A1 l1.length c1] 44))
    clear hlb hlen HB
    go_wp2_with fail
    refine (add_calls A0 A1 c0 c1 l0 l1 _ (Kd.C_below HR0.out HB2.out) HC0.out (Kd.C_below HR1.out HB2.out) HC1.out HL0.out HL1.out (by have := HLN.out; omega) (by have := HLN.out; omega)).mono ?_
    rintro e w3 ⟨v, s, rfl, hf, hn, hv, hb⟩
    obtain ⟨As, cs, rfl⟩ := Kd.V_slice hf
    have HF := Aside0.mk hf
    have HN := Aside0.mk hn
    have HV := Aside0.mk hv
    have HB3 := Aside0.mk (below_step HB2.out hb)
    have HSL := Aside0.mk (nrm_len_sum HL0.out HL1.out hn hv HLN.out.1 HLN.out.2)
    have HV0 := Aside0.mk (val_nonneg HL0.out)
    have HV1 := Aside0.mk (val_nonneg HL1.out)
    clear hf hn hv hb HB2
    go_wp2_with fail
    refine (sub_calls As A1 cs c1 s l1 _ (Kd.V_reads' HF.out).2.2 (Kd.V_reads' HF.out).2.1 (Kd.C_below HR1.out HB3.out) HC1.out HN.out.1 HL1.out (by have := HSL.out; omega) (by have := HV.out; have := HV0.out; omega)).mono ?_
    rintro e w4 ⟨v, d, rfl, hf, hn, hv, hb⟩
    obtain ⟨Ad, cd, rfl⟩ := Kd.V_slice hf
    have HF4 := Aside0.mk hf
    have HN4 := Aside0.mk hn
    have HV4 : Aside0 (val d = val l0) := ⟨by rw [hv, HV.out]; omega⟩
    have HB4 := Aside0.mk (below_step HB3.out hb)
    have HS4 := Aside0.mk (Kd.C_below (Kd.V_reads' HF.out).2.2 hb)
    have HSC := Aside0.mk (Kd.V_reads' HF.out).2.1
    clear hf hn hv hb HB3 HF
    go_wp2_with fail
    refine (cmp_calls Ad A0 cd c0 d l0 _ (Kd.V_reads' HF4.out).2.2 (Kd.V_reads' HF4.out).2.1 (Kd.C_below HR0.out HB4.out) HC0.out HN4.out.1 HL0.out).mono ?_
    rintro e w5 ⟨rfl, hw⟩
    have HB5 := Aside0.mk (below_step HB4.out hw.below)
    have HD5 := Aside0.mk (Kd.C_below (Kd.V_reads' HF4.out).2.2 hw.below)
    have HS5 := Aside0.mk (Kd.C_below HS4.out hw.below)
    rw [cmpI_eq HV4.out]
    clear hw HB4 HF4 HS4
    go_wp2_with fail
    refine (normal_calls Ad cd d _ HD5.out HN4.out.2).mono ?_
    rintro e w6 ⟨rfl, rfl⟩
    go_wp2_with fail
    refine (cmp_calls As A0 cs c0 s l0 _ HS5.out HSC.out (Kd.C_below HR0.out HB5.out) HC0.out HN.out.1 HL0.out).mono ?_
    rintro e w6 ⟨rfl, hw⟩
    have HB6 := Aside0.mk (below_step HB5.out hw.below)
    obtain ⟨p0, hp0⟩ : ∃ p, cmpI (val s) (val l0) = p := ⟨_, rfl⟩
    rw [hp0]
    have hp1 : decide (p0 < 0) = false := decide_eq_false (by rw [← hp0]; have := HV.out; have := HV1.out; unfold cmpI; split <;> (try split) <;> omega)
    clear hw HB5 hp0 HS5 HD5
    go_wp2_with fail
    refine (cmp_calls A0 A1 c0 c1 l0 l1 _ (Kd.C_below HR0.out HB6.out) HC0.out (Kd.C_below HR1.out HB6.out) HC1.out HL0.out HL1.out).mono ?_
    rintro e w7 ⟨rfl, hw⟩
    have HB7 := Aside0.mk (below_step HB6.out hw.below)
    clear hw HB6 hp1
    obtain ⟨p, hp⟩ : ∃ p, cmpI (val l0) (val l1) = p := ⟨_, rfl⟩
    obtain ⟨q, hq⟩ : ∃ q, cmpI (val l1) (val l0) = q := ⟨_, rfl⟩
    have hpq : IntKind.i64.wrap (-q) = p := by
      rw [← hp, ← hq]
      rcases Int.lt_trichotomy (val l0) (val l1) with h | h | h
      · rw [cmpI_lt h, cmpI_gt h]; decide
      · rw [cmpI_eq h, cmpI_eq h.symm]; decide
      · rw [cmpI_gt h, cmpI_lt h]; decide
    have HP := Aside0.mk hp
    have HQ := Aside0.mk hq
    rw [hp]
    clear hp hq
    go_wp2_with fail
    refine (cmp_calls A1 A0 c1 c0 l1 l0 _ (Kd.C_below HR1.out HB7.out) HC1.out (Kd.C_below HR0.out HB7.out) HC0.out HL1.out HL0.out).mono ?_
    rintro e w8 ⟨rfl, hw⟩
    have HB8 := Aside0.mk (below_step HB7.out hw.below)
    rw [HQ.out]
    clear hw HB7
    go_wp2_with fail
    refine (cmp_calls A0 A0 c0 c0 l0 l0 _ (Kd.C_below HR0.out HB8.out) HC0.out (Kd.C_below HR0.out HB8.out) HC0.out HL0.out HL0.out).mono ?_
    rintro e w9 ⟨rfl, hw⟩
    have HB9 := Aside0.mk (below_step HB8.out hw.below)
    rw [cmpI_eq rfl]
    clear hw HB8 hpq
    by_cases hlt : val l0 < val l1
    · have hp1 : p = -1 := by rw [← HP.out, cmpI_lt hlt]
      subst hp1
      go_wp2_with fail
      refine (sub_less S A0 A1 c0 c1 l0 l1 _ (HE.out.below HB9.out) (Kd.C_below HR0.out HB9.out) HC0.out (Kd.C_below HR1.out HB9.out) HC1.out HL0.out HL1.out hlt).mono ?_
      rintro e w10 ⟨v, rfl, hv, hb⟩
      obtain ⟨t, x, rfl⟩ := hv.form
      have HV10 := Aside0.mk hv
      have HB10 := Aside0.mk (below_step HB9.out hb)
      clear hv hb
      go_wp2_with fail
      refine (cmp_calls A0 A1 c0 c1 l0 l1 _ (Kd.C_below HR0.out HB10.out) HC0.out (Kd.C_below HR1.out HB10.out) HC1.out HL0.out HL1.out).mono ?_
      rintro e w11 ⟨rfl, hw⟩
      rw [HP.out]
      have HB11 := Aside0.mk (below_step HB10.out hw.below)
      have HV11 := Aside0.mk (HV10.out.below hw.below)
      clear hw HV10
      go_wp2_with fail
      refine (new_calls _ 0 3 _).mono ?_
      rintro e w12 ⟨u, rfl, hu, hb⟩
      have HU := Aside0.mk hu
      have HB12 := Aside0.mk (below_step HB11.out hb)
      have HV12 := Aside0.mk (HV11.out.below hb)
      clear hu hb
      go_wp2_with fail
      refine (isf_calls S 3 (by unfold Num; omega) _ _ _ _ (HE.out.below HB12.out) HV12.out HU.out (by simp)).mono ?_
      rintro e w13 ⟨rfl, hb⟩
      have HB13 := Aside0.mk (below_step HB12.out hb)
      clear hb
      go_wp2_with fail
      go_ret
      exact ⟨rfl, HB13.out⟩
    · have hle : val l1 ≤ val l0 := by omega
      have hpd : decide (p < 0) = false := decide_eq_false (by rw [← HP.out]; unfold cmpI; split <;> (try split) <;> omega)
      have HLE := Aside0.mk hle
      clear hlt hle
      go_wp2_with fail
      refine (sub_calls A0 A1 c0 c1 l0 l1 _ (Kd.C_below HR0.out HB9.out) HC0.out (Kd.C_below HR1.out HB9.out) HC1.out HL0.out HL1.out (by have := HLN.out; omega) HLE.out).mono ?_
      rintro e w10 ⟨v, x, rfl, hf, hn, hv, hb⟩
      obtain ⟨Ax, cx, rfl⟩ := Kd.V_slice hf
      have HF10 := Aside0.mk hf
      have HN10 := Aside0.mk hn
      have HV10 := Aside0.mk hv
      have HB10 := Aside0.mk (below_step HB9.out hb)
      have HXL : Aside0 (x.length ≤ 400) := ⟨by
        have := nrm_len_le HL0.out hn (by rw [hv]; have := HV1.out; omega)
        have := HLN.out
        omega⟩
      have hpx : (p == 0) = ((x.length : Int) == 0) := by
        rw [← HP.out]
        rcases Int.lt_trichotomy (val l0) (val l1) with h | h | h
        · have := HLE.out; omega
        · rw [cmpI_eq h]
          have : x = [] := Nrm.zero hn (by rw [hv]; omega)
          subst this
          rfl
        · rw [cmpI_gt h]
          have : x ≠ [] := by
            intro e; subst e
            simp only [val] at hv; omega
          have : x.length ≠ 0 := fun e => this (List.length_eq_zero_iff.1 e)
          symm
          show ((x.length : Int) == 0) = false
          rw [beq_eq_false_iff_ne]; omega
      have HPX := Aside0.mk hpx
      clear hf hn hv hb hpx
      go_wp2_with fail
      refine (cmp_calls A0 A1 c0 c1 l0 l1 _ (Kd.C_below HR0.out HB10.out) HC0.out (Kd.C_below HR1.out HB10.out) HC1.out HL0.out HL1.out).mono ?_
      rintro e w11 ⟨rfl, hw⟩
      rw [HP.out]
      have HB11 := Aside0.mk (below_step HB10.out hw.below)
      have HX11 := Aside0.mk (Kd.C_below (Kd.V_reads' HF10.out).2.2 hw.below)
      have HXC := Aside0.mk (Kd.V_reads' HF10.out).2.1
      clear hw HF10
      go_wp2_with fail
      refine (add_calls Ax A1 cx c1 x l1 _ HX11.out HXC.out (Kd.C_below HR1.out HB11.out) HC1.out HN10.out.1 HL1.out (by have := HXL.out; omega) (by have := HLN.out; omega)).mono ?_
      rintro e w12 ⟨v, y, rfl, hf, hn, hv, hb⟩
      obtain ⟨Ay, cy, rfl⟩ := Kd.V_slice hf
      have HF12 := Aside0.mk hf
      have HN12 := Aside0.mk hn
      have HV12 : Aside0 (val y = val l0) := ⟨by rw [hv, HV10.out]; omega⟩
      have HB12 := Aside0.mk (below_step HB11.out hb)
      clear hf hn hv hb
      go_wp2_with fail
      refine (cmp_calls Ay A0 cy c0 y l0 _ (Kd.V_reads' HF12.out).2.2 (Kd.V_reads' HF12.out).2.1 (Kd.C_below HR0.out HB12.out) HC0.out HN12.out.1 HL0.out).mono ?_
      rintro e w13 ⟨rfl, hw⟩
      have HB13 := Aside0.mk (below_step HB12.out hw.below)
      rw [cmpI_eq HV12.out]
      clear hw HF12
      go_wp2_with fail
      refine (cmp_calls A0 A1 c0 c1 l0 l1 _ (Kd.C_below HR0.out HB13.out) HC0.out (Kd.C_below HR1.out HB13.out) HC1.out HL0.out HL1.out).mono ?_
      rintro e w14 ⟨rfl, hw⟩
      rw [HP.out]
      have HB14 := Aside0.mk (below_step HB13.out hw.below)
      clear hw hpd
      obtain ⟨xb, hxb⟩ : ∃ b, ((x.length : Int) == 0) = b := ⟨_, rfl⟩
      have hpb : (p == 0) = xb := by rw [HPX.out, hxb]
      go_wp2_with fail
      go_ret
      exact ⟨by simp, HB14.out⟩
end Go.Proofs.YtmnmmalffpimeaaDoor
