/- The law NatDivides returns true, whatever the numbers. -/
import Derived.Test.YtmnmmalffpimeaaDoorLong
namespace Go.Proofs.YtmnmmalffpimeaaDoor
open Go.RowKit Go.Proofs.YtmnmmalffpimeaaDoorW.PrintWords Go.Proofs.YtmnmmalffpimeaaDoorW.PrintLast Go.Proofs.YtmnmmalffpimeaaDoorW.PrintMore
set_option linter.unusedVariables false
set_option linter.unusedSimpArgs false

theorem C_rows {α : Type} {d : Kd α} {e : Nat} {w : World} (ad : Addr) (xs : List (List α)) (hm : xs.length ≤ 9223372036854775807)
    (h : ∀ j (hj : j < xs.length), ∃ A c, w.cell? (ad.add j) = some (.slice A xs[j].length c) ∧ xs[j].length ≤ c ∧ Kd.C d w A xs[j].length xs[j]) : Kd.C (Kd.slice e d) w (some ad) xs.length xs := by
  refine ⟨rfl, hm, fun _ => ⟨ad, rfl, fun j p hj => ?_⟩⟩
  obtain ⟨hj1, hj2⟩ := List.getElem?_eq_some_iff.1 hj
  subst hj2
  obtain ⟨A, c, hc, hl, hC⟩ := h j hj1
  refine ⟨[.slice A xs[j].length c], rfl, ⟨A, c, rfl, hl, hC⟩, fun i u hu => ?_⟩
  cases i with
  | zero =>
    have : u = .slice A xs[j].length c := by simpa using hu.symm
    subst this
    rw [show j * (Kd.slice e d).sz + 0 = j from by show j * 1 + 0 = j; omega]
    exact hc
  | succ i => simp at hu
theorem C_rows_one (W : World) (A : Option Addr) (c : Nat) (l : List Int) (h : Kd.C (Kd.int .u32) W A l.length l) (hc : l.length ≤ c) (t : Nat) :
    Kd.C KN (W.alloc (.cells #[.slice A l.length c] t)) (some ⟨W.heap.size, 0, none⟩) [l].length [l] := by
  refine C_rows _ _ (by simp) fun j hj => ?_
  have : j = 0 := by simpa using hj
  subst this
  exact ⟨A, c, by simp [Addr.add], hc, Kd.C_alloc h _⟩

set_option maxHeartbeats 8000000 in
set_option maxRecDepth 100000 in
theorem divides_calls (S : Nat → Addr) (A0 : Option Addr) (c0 : Nat) (l0 : List Int) (d : Int) (w : World) (hE : Env S w) (hr0 : Kd.C (Kd.int .u32) w A0 l0.length l0) (hc0 : l0.length ≤ c0) (hL0 : Limbs l0) (hd0 : 0 ≤ d) (hd1 : d < 4294967296) :
    Calls Tryd.prog 8 #[.slice A0 l0.length c0, .int .u32 d] w fun e w' => e = .returned (.bool true) ∧ Below w.heap.size w w' := by
  have HE := Aside0.mk hE
  have HR := Aside0.mk hr0
  have HC := Aside0.mk hc0
  have HL := Aside0.mk hL0
  have HD := Aside0.mk (And.intro hd0 hd1)
  clear hE hr0 hc0 hL0 hd0 hd1
  go_enter Tryd.func8, Tryd.ntmps8
  go_wp2_with fail
  refine (awake2_calls w).mono ?_
  rintro e w1 ⟨rfl, hb⟩
  have HB := Aside0.mk hb
  clear hb
  go_wp2_with fail
  refine (long_calls _ 1 [l0] _ (C_rows_one w1 A0 c0 l0 (Kd.C_below HR.out HB.out) HC.out _)).mono ?_
  rintro e w2 ⟨rfl, rfl⟩
  by_cases hlen : 400 < l0.length
  · have hlb : ([l0].any fun l => decide (400 < l.length)) = true := by simp [hlen]
    rw [hlb]
    clear hlb
    go_wp2_with fail
    go_ret
    exact ⟨rfl, below_alloc HB.out _⟩
  · have hlb : ([l0].any fun l => decide (400 < l.length)) = false := by simp; omega
    rw [hlb]
    have HLN := Aside0.mk hlen
    clear hlb hlen
    by_cases hz : d = 0
    · subst hz
      have HE2 := Aside0.mk ((HE.out.below HB.out).below (below_alloc (Below.refl _ _) (.cells #[.slice A0 l0.length c0] 44)))
      go_wp2_with fail
      refine (over_zero S A0 c0 l0 _ HE2.out).mono ?_
      rintro e w3 ⟨v, rfl, hv, hb⟩
      obtain ⟨t, x, rfl⟩ := hv.form
      have HV := Aside0.mk hv
      have HB3 := Aside0.mk (below_step (below_alloc HB.out _) hb)
      have HE3 := Aside0.mk (HE2.out.below hb)
      clear hv hb
      go_wp2_with fail
      refine (new_calls _ 0 3 _).mono ?_
      rintro e w4 ⟨u, rfl, hu, hb⟩
      have HU := Aside0.mk hu
      have HB4 := Aside0.mk hb
      clear hu hb
      go_wp2_with fail
      refine (isf_calls S 3 (by unfold Num; omega) _ _ _ _ (HE3.out.below HB4.out) (HV.out.below HB4.out) HU.out (by simp)).mono ?_
      rintro e w5 ⟨rfl, hb⟩
      have HB5 := Aside0.mk (below_step (below_step HB3.out HB4.out) hb)
      clear hb
      go_wp2_with fail
      go_ret
      exact ⟨rfl, HB5.out⟩
    · have hdb : (d == 0) = false := by rw [beq_eq_false_iff_ne]; exact hz
      have HDP : Aside0 (0 < d) := ⟨by have := HD.out.1; omega⟩
      clear hz
      go_wp2_with fail
      refine (over_calls A0 c0 l0 d _ (Kd.C_alloc (Kd.C_below HR.out HB.out) _) HC.out HL.out (by have := HLN.out; omega) HDP.out HD.out.2).mono ?_
      rintro e w3 ⟨v, q, rfl, hf, hn, hv, hb⟩
      obtain ⟨Aq, cq, rfl⟩ := Kd.V_slice hf
      have HF := Aside0.mk hf
      have HN := Aside0.mk hn
      have HV := Aside0.mk hv
      have HB3 := Aside0.mk (below_step (below_alloc HB.out (.cells #[.slice A0 l0.length c0] 44)) hb)
      have HVn := val_nonneg HL.out
      have hr0 : 0 ≤ val l0 % d := Int.emod_nonneg _ (by have := HDP.out; omega)
      have hr1 : val l0 % d < d := Int.emod_lt_of_pos _ HDP.out
      obtain ⟨r, hr⟩ : ∃ r, val l0 % d = r := ⟨_, rfl⟩
      rw [hr] at hr0 hr1 ⊢
      have HRr := Aside0.mk hr
      have HR0 := Aside0.mk (And.intro hr0 hr1)
      have hrb : decide (r < d) = true := decide_eq_true hr1
      clear hf hn hv hb HVn hr hr0 hr1
      go_wp2_with fail
      refine (normal_calls Aq cq q _ (Kd.V_reads' HF.out).2.2 HN.out.2).mono ?_
      rintro e w4 ⟨rfl, rfl⟩
      go_wp2_with fail
      have HVQ : Aside0 (val q * d + r = val l0) := ⟨by
        rw [HV.out, ← HRr.out, Int.mul_comm]; exact Int.mul_ediv_add_emod _ _⟩
      have HQ0 := Aside0.mk (val_nonneg HN.out.1)
      have HQL : Aside0 (q.length ≤ 400) := ⟨by
        have h1 := nrm_length (k := l0.length) HN.out (by
          have h2 := val_lt HL.out
          have h3 := val_nonneg HL.out
          have h4 : val l0 / d ≤ val l0 := Int.ediv_le_self _ h3
          rw [HV.out]
          omega)
        have := HLN.out
        omega⟩
      refine (mul_one_calls Aq _ cq q d _ (Kd.C_alloc (Kd.V_reads' HF.out).2.2 _) (Kd.V_reads' HF.out).2.1 (by simp) HN.out.1 ⟨HD.out.1, HD.out.2⟩ (by have := HQL.out; omega)).mono ?_
      rintro e w5 ⟨v, m, rfl, hf, hn, hv, hb⟩
      obtain ⟨Am, cm, rfl⟩ := Kd.V_slice hf
      have HF5 := Aside0.mk hf
      have HN5 := Aside0.mk hn
      have HV5 := Aside0.mk hv
      have HB5 := Aside0.mk (below_step (below_alloc HB3.out (.cells #[.int .u32 d] 74)) hb)
      have HML : Aside0 (m.length ≤ 401) := ⟨by
        refine nrm_length hn ?_
        have h1 := val_lt HN.out.1
        have h2 := pow_mono_ HQL.out
        have h3 := HD.out.2
        have h4 := HQ0.out
        rw [hv, show (401 : Nat) = 400 + 1 from rfl, Int.pow_succ]
        have h5 : val q < 4294967296 ^ 400 := by omega
        generalize (4294967296 : Int) ^ 400 = p at *
        have h6 : val q * d ≤ val q * 4294967296 := Int.mul_le_mul_of_nonneg_left (by omega) h4
        omega⟩
      clear hf hn hv hb
      go_wp2_with fail
      refine (add_one_calls Am _ cm m r _ (Kd.C_alloc (Kd.V_reads' HF5.out).2.2 _) (Kd.V_reads' HF5.out).2.1 (by simp) HN5.out.1 ⟨HR0.out.1, by have := HR0.out.2; have := HD.out.2; omega⟩ (by have := HML.out; omega)).mono ?_
      rintro e w6 ⟨v, s, rfl, hf, hn, hv, hb⟩
      obtain ⟨As, cs, rfl⟩ := Kd.V_slice hf
      have HF6 := Aside0.mk hf
      have HN6 := Aside0.mk hn
      have HV6 : Aside0 (val s = val l0) := ⟨by rw [hv, HV5.out]; exact HVQ.out⟩
      have HB6 := Aside0.mk (below_step (below_alloc HB5.out (.cells #[.int .u32 r] 74)) hb)
      clear hf hn hv hb
      go_wp2_with fail
      refine (cmp_calls As A0 cs c0 s l0 _ (Kd.V_reads' HF6.out).2.2 (Kd.V_reads' HF6.out).2.1 (Kd.C_below HR.out HB6.out) HC.out HN6.out.1 HL.out).mono ?_
      rintro e w7 ⟨rfl, hw⟩
      have HB7 := Aside0.mk (below_step HB6.out hw.below)
      have hcz : cmpI (val s) (val l0) = 0 := cmpI_eq HV6.out
      rw [hcz]
      clear hw hcz
      go_wp2_with fail
      go_ret
      exact ⟨rfl, HB7.out⟩
end Go.Proofs.YtmnmmalffpimeaaDoor
