/- edenlaw04.RuleChecks returns true whatever rule and numbers are handed in; no condition beyond the row's own. (Part 3 of 3: RParse, Step, Parse, Awake4, ChecksProof.) -/
import Derived.Deep.RegionHeld3
import Derived.Test.YtefhlonipglboaaDoorCards
import Derived.Test.YtefhlonipglboaaDoorTie
import Derived.SevenTiedAt
import Derived.Test.YtefhlonipglboaaDoorBRuleChecks2
/- rule.Parse: the small rule that a text writes. -/
namespace Go.Proofs.YtefhlonipglboaaDoor
open Go.RowKit Go.Extern.Stop Go.Stop Go.Extern Go.Proofs.YtefhlonipglboaaDoorW.PrintWords Go.Proofs.YtefhlonipglboaaDoorW.PrintLast Go.Proofs.YtefhlonipglboaaDoorW.PrintMore
set_option linter.unusedVariables false
set_option linter.unusedSimpArgs false

/-- an answer that is a number, and an error -/
def AnsN (S : Nat → Addr) (w : World) (o : Fr) (x : Int) (e : Ending) (w' : World) : Prop :=
  ∃ v u l, e = .returned (.tuple #[v, u]) ∧ FrN w.heap.size w' v l ∧ Nrm l ∧ val l = x ∧ l.length ≤ 1000000 ∧ ErrV S w' u o ∧ Below w.heap.size w w'
/-- what rule.Parse says: p is what nat.Parse says of the rest, x its number -/
def parseRO (s : ByteArray) (p : Fr) (x : Int) : Fr :=
  if 8192 < s.size then some (4, [(ruleS, 0)]) else
  if headV s < 4 then some (6, [(ruleS, headV s)]) else
  if 256 < nwin (bt s 0 - 48) (bt s 2 - 48) then some (4, [(ruleS, 0)]) else
  match p with
  | some _ => undF ruleS 4 p
  | none => match fromO (bt s 0 - 48) (bt s 2 - 48) x with
    | some _ => some (3, [(ruleS, 4)])
    | none => none
def parseRV (s : ByteArray) (p : Fr) (x : Int) : Int × Int × List Int := match parseRO s p x with
  | some _ => (0, 0, [])
  | none => fromV (bt s 0 - 48) (bt s 2 - 48) x
theorem headV_four {s : ByteArray} (h : ¬ headV s < 4) : inB s 0 = true ∧ inB s 1 = true ∧ inB s 2 = true ∧ inB s 3 = true := by
  unfold headV at h
  cases h0 : inB s 0 with
  | false => rw [h0] at h; simp at h
  | true =>
    rw [h0] at h
    cases h1 : inB s 1 with
    | false => rw [h1] at h; simp at h
    | true =>
      rw [h1] at h
      cases h2 : inB s 2 with
      | false => rw [h2] at h; simp at h
      | true =>
        rw [h2] at h
        cases h3 : inB s 3 with
        | false => rw [h3] at h; simp at h
        | true => exact ⟨rfl, rfl, rfl, rfl⟩
theorem rngB_true {s : ByteArray} {i : Nat} {lo hi : Int} (h : rngB s i lo hi = true) : i < s.size ∧ lo ≤ bt s (i : Int) ∧ bt s (i : Int) ≤ hi := by
  unfold rngB at h
  simp only [Bool.and_eq_true, decide_eq_true_eq] at h
  exact ⟨h.1.1, h.1.2, h.2⟩
theorem headV_nonneg (s : ByteArray) : 0 ≤ headV s ∧ headV s ≤ 4 := by
  unfold headV
  repeat' split
  all_goals omega

set_option maxHeartbeats 1000000 in
set_option maxRecDepth 100000 in
theorem parseR_calls (S : Nat → Addr) (s : ByteArray) (p : Fr) (hp : Few 999 p) (x : Int) (w : World) (hE : Env S w) (hs : s.size ≤ 9223372036854775807)
    (hP : ¬ 8192 < s.size → ¬ headV s < 4 → ∀ W, Env S W → Calls Tryd.prog 140 #[.string (s.extract 4 s.size)] W (AnsN S W p x)) :
    Calls Tryd.prog 82 #[.string s] w (AnsR S w (parseRO s p x) (parseRV s p x)) := by
  have HPP := Aside0.mk hp
  have HE := Aside0.mk hE
  have HP := Aside0.mk hP
  clear hE hP
  obtain ⟨w0, hw0⟩ : ∃ w0, w.alloc (.cells #[.int .i64 0, .int .i64 0, .slice none 0 0] tRule) = w0 := ⟨_, rfl⟩
  obtain ⟨b, hb0⟩ : ∃ b, w.heap.size = b := ⟨_, rfl⟩
  have HB0 := Aside0.mk (show Below w.heap.size w w0 by rw [← hw0]; exact below_alloc (Below.refl _ _) _)
  have HBX := Aside0.mk (show BoxR w0 b 0 0 (.slice none 0 0) by rw [← hw0, ← hb0]; exact BoxR.new _ _ _ _)
  have HLE := Aside0.mk (show w.heap.size ≤ b by omega)
  by_cases h1 : 8192 < s.size
  · have ho : parseRO s p x = some (4, [(ruleS, 0)]) := by unfold parseRO; rw [if_pos h1]
    have hv : parseRV s p x = (0, 0, []) := by unfold parseRV; rw [ho]
    rw [hv, ho]
    have d1 : decide ((8192 : Int) < s.size) = true := decide_eq_true (by omega)
    clear ho hv hp
    go_enter Tryd.func82, Tryd.ntmps82
    go_wp2_with fail
    clear hw0 hb0
    refine (wrongRule_calls S 0 4 (by unfold Num; omega) w0 ((HE.out).below (HB0.out))).mono ?_
    rintro e w1 ⟨v, rfl, hv, hb⟩
    have HB1 := Aside0.mk (hb)
    have HV := Aside0.mk hv
    clear hb hv
    obtain ⟨k0, k1, k2⟩ := (((HBX.out).below (HB1.out))).cells
    obtain ⟨z0, z1, z2⟩ := (((HBX.out).below (HB1.out))).fr
    have HX2 := Aside0.mk ((((HBX.out).below (HB1.out))).put 0 0 (.slice none 0 0))
    go_wp2_with fail
    (try simp only [Exit.inBlock, Exit.then]); refine bodyPost_ret (resR2 HX2.out rfl rfl) rfl ?_
    exact ⟨none, 0, _, rfl, Nat.le_refl _, Kd.F_nil _ _ _, ErrV.put3 (HV.out) k0 _ _ _, below_put3 (below_step (HB0.out) HB1.out) HLE.out _ _ _⟩
  have d1 : decide ((8192 : Int) < s.size) = false := decide_eq_false (by omega)
  by_cases h2 : headV s < 4
  · have ho : parseRO s p x = some (6, [(ruleS, headV s)]) := by unfold parseRO; rw [if_neg h1, if_pos h2]
    have hv : parseRV s p x = (0, 0, []) := by unfold parseRV; rw [ho]
    rw [hv, ho]
    have h0 := (headV_nonneg s).1
    obtain ⟨q, hq⟩ : ∃ q, headV s = q := ⟨_, rfl⟩
    have HQ := Aside0.mk hq
    rw [hq] at h2 h0 ⊢
    clear ho hv hp hq
    go_enter Tryd.func82, Tryd.ntmps82
    go_wp2_with fail
    clear hw0 hb0
    refine (head_calls s w0).mono ?_
    rintro e w1 ⟨rfl, hb⟩
    have HB1 := Aside0.mk (hb)
    clear hb
    rw [HQ.out]
    go_wp2_with fail
    refine (wrongRule_calls S q 6 (by unfold Num; omega) w1 (((HE.out).below (HB0.out)).below (HB1.out))).mono ?_
    rintro e w2 ⟨v, rfl, hv, hb⟩
    have HB2 := Aside0.mk (hb)
    have HV := Aside0.mk hv
    clear hb hv
    obtain ⟨k0, k1, k2⟩ := ((((HBX.out).below (HB1.out)).below (HB2.out))).cells
    obtain ⟨z0, z1, z2⟩ := ((((HBX.out).below (HB1.out)).below (HB2.out))).fr
    have HX2 := Aside0.mk (((((HBX.out).below (HB1.out)).below (HB2.out))).put 0 0 (.slice none 0 0))
    go_wp2_with fail
    (try simp only [Exit.inBlock, Exit.then]); refine bodyPost_ret (resR2 HX2.out rfl rfl) rfl ?_
    exact ⟨none, 0, _, rfl, Nat.le_refl _, Kd.F_nil _ _ _, ErrV.put3 (HV.out) k0 _ _ _, below_put3 (below_step (below_step (HB0.out) HB1.out) HB2.out) HLE.out _ _ _⟩
  have h2' : headV s = 4 := by have := headV_nonneg s; omega
  obtain ⟨i0, i1, i2, i3⟩ := headV_four h2
  obtain ⟨a0, a1, a2⟩ := rngB_true (i := 0) i0
  obtain ⟨b0, b1, b2⟩ := rngB_true (i := 2) i2
  obtain ⟨e0, _, _⟩ := rngB_true (i := 3) i3
  obtain ⟨c0, hc0⟩ : ∃ c0, bt s 0 = c0 := ⟨_, rfl⟩
  obtain ⟨c2, hc2⟩ : ∃ c2, bt s 2 = c2 := ⟨_, rfl⟩
  have a1' : 49 ≤ c0 := by rw [← hc0]; exact a1
  have a2' : c0 ≤ 52 := by rw [← hc0]; exact a2
  have b1' : 48 ≤ c2 := by rw [← hc2]; exact b1
  have b2' : c2 ≤ 51 := by rw [← hc2]; exact b2
  have hx0 : ∀ h : 0 < s.size, ((s[0]'h).toNat : Int) = c0 := fun h => by rw [← hc0]; exact bt_at s 0 h
  have hx2 : ∀ h : 2 < s.size, ((s[2]'h).toNat : Int) = c2 := fun h => by rw [← hc2]; exact bt_at s 2 h
  have hP2 := HP.out h1 h2
  have HP2 := Aside0.mk hP2
  have HH := Aside0.mk h2'
  have hK : KR (c0 - 48) (c2 - 48) := by unfold KR; omega
  have HK := Aside0.mk hK
  have hwin := hK.win
  have HRO : Aside0 (parseRO s p x = if 256 < nwin (c0 - 48) (c2 - 48) then some (4, [(ruleS, 0)]) else match p with | some _ => undF ruleS 4 p | none => match fromO (c0 - 48) (c2 - 48) x with | some _ => some (3, [(ruleS, 4)]) | none => none) := ⟨by unfold parseRO; rw [if_neg h1, if_neg h2, hc0, hc2]⟩
  have HRV : Aside0 (parseRV s p x = match parseRO s p x with | some _ => (0, 0, []) | none => fromV (c0 - 48) (c2 - 48) x) := ⟨by unfold parseRV; rw [hc0, hc2]⟩
  have s4 : (4 : Int) ≤ s.size := by omega
  obtain ⟨nw, hnw⟩ : ∃ nw, nwin (c0 - 48) (c2 - 48) = nw := ⟨_, rfl⟩
  rw [hnw] at hwin HRO
  have HNW := Aside0.mk hnw
  clear hp h2 h2' i0 i1 i2 i3 a0 a1 a2 b0 b1 b2 e0 hc0 hc2 hP2 hK HP hnw
  go_enter Tryd.func82, Tryd.ntmps82
  go_wp2_with fail
  clear hw0 hb0
  refine (head_calls s w0).mono ?_
  rintro e w1 ⟨rfl, hb⟩
  have HB1 := Aside0.mk (hb)
  clear hb
  rw [HH.out]
  go_wp2_with fail
  go_quiet (fail)
  go_wp2_with fail
  refine (size_calls S (c0 - 48) (c2 - 48) (w1.drewN nq) ((((HE.out).below (HB0.out)).below (HB1.out)).below (pw_below_drewN (Below.refl _ _) nq))).mono ?_
  rintro e w2 ⟨n, u, rfl, hu, hn, hb⟩
  have HB2 := Aside0.mk (below_step (pw_below_drewN (Below.refl _ _) nq) hb)
  clear hb
  rw [if_pos HK.out] at hu hn
  rw [HNW.out] at hn
  subst hn
  have hu' : u = .nilIface := hu
  subst hu'
  clear hu
  by_cases hbig : 256 < n
  · have ho : parseRO s p x = some (4, [(ruleS, 0)]) := by rw [HRO.out, if_pos hbig]
    have hv : parseRV s p x = (0, 0, []) := by rw [HRV.out, ho]
    have HF1 := Aside0.mk ho
    have HF2 := Aside0.mk hv
    have d3 : decide (256 < n) = true := decide_eq_true hbig
    clear ho hv
    go_wp2_with fail
    refine (wrongRule_calls S 0 4 (by unfold Num; omega) w2 ((((HE.out).below (HB0.out)).below (HB1.out)).below (HB2.out))).mono ?_
    rintro e w3 ⟨v, rfl, hv, hb⟩
    have HB3 := Aside0.mk (hb)
    have HV := Aside0.mk hv
    clear hb hv
    obtain ⟨k0, k1, k2⟩ := (((((HBX.out).below (HB1.out)).below (HB2.out)).below (HB3.out))).cells
    obtain ⟨z0, z1, z2⟩ := (((((HBX.out).below (HB1.out)).below (HB2.out)).below (HB3.out))).fr
    have HX2 := Aside0.mk ((((((HBX.out).below (HB1.out)).below (HB2.out)).below (HB3.out))).put 0 0 (.slice none 0 0))
    go_wp2_with fail
    (try simp only [Exit.inBlock, Exit.then]); refine bodyPost_ret (resR2 HX2.out rfl rfl) rfl ?_
    rw [HF2.out, HF1.out]
    exact ⟨none, 0, _, rfl, Nat.le_refl _, Kd.F_nil _ _ _, ErrV.put3 (HV.out) k0 _ _ _, below_put3 (below_step (below_step (below_step (HB0.out) HB1.out) HB2.out) HB3.out) HLE.out _ _ _⟩
  have d3 : decide (256 < n) = false := decide_eq_false hbig
  go_wp2_with fail
  with_reducible refine (HP2.out w2 ((((HE.out).below (HB0.out)).below (HB1.out)).below (HB2.out))).mono ?_
  rintro e w3 ⟨v, u, l, rfl, hf, hnl, hvl, hll, hu, hb⟩
  have HB3 := Aside0.mk (hb)
  clear hb
  obtain ⟨Av, cv, rfl⟩ := Kd.V_slice hf
  have hfr := Kd.V_reads' hf
  have HC := Aside0.mk hfr.2.2
  have HCC := Aside0.mk hfr.2.1
  have HLM := Aside0.mk hnl.1
  have HVL := Aside0.mk hvl
  have HLL := Aside0.mk hll
  clear hf hfr hnl hvl hll
  cases p with
  | some pp =>
    have ho : parseRO s (some pp) x = undF ruleS 4 (some pp) := by rw [HRO.out, if_neg (by omega)]
    have hv : parseRV s (some pp) x = (0, 0, []) := by rw [HRV.out, ho]; rfl
    have HF1 := Aside0.mk ho
    have HF2 := Aside0.mk hv
    obtain ⟨ut, ux, rfl⟩ := hu.2.2.form
    have HU := Aside0.mk hu
    clear ho hv hu
    go_wp2_with fail
    refine (under_calls S ruleS 4 (some pp) (HPP.out.mono (by decide)) _ w3 (HU.out)).mono ?_
    rintro e w4 ⟨v, rfl, hv, hb⟩
    have HB4 := Aside0.mk (hb)
    have HV := Aside0.mk hv
    clear hb hv
    obtain ⟨k0, k1, k2⟩ := ((((((HBX.out).below (HB1.out)).below (HB2.out)).below (HB3.out)).below (HB4.out))).cells
    obtain ⟨z0, z1, z2⟩ := ((((((HBX.out).below (HB1.out)).below (HB2.out)).below (HB3.out)).below (HB4.out))).fr
    have HX2 := Aside0.mk (((((((HBX.out).below (HB1.out)).below (HB2.out)).below (HB3.out)).below (HB4.out))).put 0 0 (.slice none 0 0))
    go_wp2_with fail
    (try simp only [Exit.inBlock, Exit.then]); refine bodyPost_ret (resR2 HX2.out rfl rfl) rfl ?_
    rw [HF2.out, HF1.out]
    exact ⟨none, 0, _, rfl, Nat.le_refl _, Kd.F_nil _ _ _, ErrV.put3 (HV.out) k0 _ _ _, below_put3 (below_step (below_step (below_step (below_step (HB0.out) HB1.out) HB2.out) HB3.out) HB4.out) HLE.out _ _ _⟩
  | none =>
    have hu' : u = .nilIface := hu
    subst hu'
    clear hu
    go_wp2_with fail
    have HLT := Aside0.mk (((((HBX.out).below (HB1.out)).below (HB2.out)).below (HB3.out))).lt
    with_reducible refine (from_calls S (c0 - 48) (c2 - 48) Av cv l w3 (((((HE.out).below (HB0.out)).below (HB1.out)).below (HB2.out)).below (HB3.out)) (HC.out) HCC.out HLM.out HLL.out).mono ?_
    rintro e w4 ⟨Af, cf, uf, rfl, hlf, hCf, huf, hb⟩
    have HB4 := Aside0.mk (hb)
    clear hb
    rw [HVL.out] at hlf hCf huf ⊢
    obtain ⟨ka, ra, ta, hq⟩ : ∃ ka ra ta, fromV (c0 - 48) (c2 - 48) x = (ka, ra, ta) := ⟨_, _, _, rfl⟩
    rw [hq] at hlf hCf ⊢
    have HQ := Aside0.mk hq
    have HCF := Aside0.mk hCf
    have HLF := Aside0.mk hlf
    clear hq hCf hlf
    obtain ⟨wx, hwx⟩ : ∃ wx, (w4).alloc (.cells #[.int .i64 ka, .int .i64 ra, .slice Af ta.length cf] tRule) = wx := ⟨_, rfl⟩
    obtain ⟨bx, hbx⟩ : ∃ bx, (w4).heap.size = bx := ⟨_, rfl⟩
    have HBW := Aside0.mk (show Below (w4).heap.size w4 wx by rw [← hwx]; exact below_alloc (Below.refl _ _) _)
    have HBR := Aside0.mk (show BoxR wx bx ka ra (.slice Af ta.length cf) by rw [← hwx, ← hbx]; exact BoxR.new _ _ _ _)
    cases hfo : fromO (c0 - 48) (c2 - 48) x with
    | some pp =>
      rw [hfo] at huf
      obtain ⟨ut, ux, rfl⟩ := huf.2.2.form
      have ho : parseRO s none x = some (3, [(ruleS, 4)]) := by rw [HRO.out, if_neg (by omega)]; simp only [hfo]
      have hv : parseRV s none x = (0, 0, []) := by rw [HRV.out, ho]
      have HF1 := Aside0.mk ho
      have HF2 := Aside0.mk hv
      clear ho hv huf hfo
      go_wp2_with fail
      clear hwx hbx
      refine (wrongRule_calls S 4 3 (by unfold Num; omega) wx (((((((HE.out).below (HB0.out)).below (HB1.out)).below (HB2.out)).below (HB3.out)).below (HB4.out)).below (HBW.out))).mono ?_
      rintro e w5 ⟨v, rfl, hv, hb⟩
      have HB5 := Aside0.mk (hb)
      have HV := Aside0.mk hv
      clear hb hv
      obtain ⟨k0, k1, k2⟩ := ((((((((HBX.out).below (HB1.out)).below (HB2.out)).below (HB3.out)).below (HB4.out)).below (HBW.out)).below (HB5.out))).cells
      obtain ⟨z0, z1, z2⟩ := ((((((((HBX.out).below (HB1.out)).below (HB2.out)).below (HB3.out)).below (HB4.out)).below (HBW.out)).below (HB5.out))).fr
      have HX2 := Aside0.mk (((((((((HBX.out).below (HB1.out)).below (HB2.out)).below (HB3.out)).below (HB4.out)).below (HBW.out)).below (HB5.out))).put 0 0 (.slice none 0 0))
      go_wp2_with fail
      (try simp only [Exit.inBlock, Exit.then]); refine bodyPost_ret (resR2 HX2.out rfl rfl) rfl ?_
      rw [HF2.out, HF1.out]
      exact ⟨none, 0, _, rfl, Nat.le_refl _, Kd.F_nil _ _ _, ErrV.put3 (HV.out) k0 _ _ _, below_put3 (below_step (below_step (below_step (below_step (below_step (below_step (HB0.out) HB1.out) HB2.out) HB3.out) HB4.out) HBW.out) HB5.out) HLE.out _ _ _⟩
    | none =>
      rw [hfo] at huf
      have hu' : uf = .nilIface := huf
      subst hu'
      have ho : parseRO s none x = none := by rw [HRO.out, if_neg (by omega)]; simp only [hfo]
      have hv : parseRV s none x = (ka, ra, ta) := by rw [HRV.out, ho, ← HQ.out]
      have HF1 := Aside0.mk ho
      have HF2 := Aside0.mk hv
      clear ho hv huf hfo
      obtain ⟨k0, k1, k2⟩ := (((((((HBX.out).below (HB1.out)).below (HB2.out)).below (HB3.out)).below (HB4.out)).below (HBW.out))).cells
      obtain ⟨z0, z1, z2⟩ := (((((((HBX.out).below (HB1.out)).below (HB2.out)).below (HB3.out)).below (HB4.out)).below (HBW.out))).fr
      obtain ⟨y0, y1, y2⟩ := HBR.out.cells
      have HX2 := Aside0.mk ((((((((HBX.out).below (HB1.out)).below (HB2.out)).below (HB3.out)).below (HB4.out)).below (HBW.out))).put ka ra (.slice Af ta.length cf))
      have hbl := (((((((HBX.out).below (HB1.out)).below (HB2.out)).below (HB3.out)).below (HB4.out)).below (HBW.out)))
      go_wp2_with fail
      clear hwx hbx
      (try simp only [Exit.inBlock, Exit.then]); refine bodyPost_ret (resR2 HX2.out rfl rfl) rfl ?_
      rw [HF2.out, HF1.out]
      exact ⟨Af, cf, _, rfl, HLF.out, Kd.F_mono (F_put3 (Kd.F_below (HCF.out) (HBW.out)) (fun q hq => by have h1 := HLT.out; omega) _ _ _) (fun q hq => by have h1 := HLT.out; have h2 := HLE.out; omega), rfl, below_put3 (below_step (below_step (below_step (below_step (below_step (HB0.out) HB1.out) HB2.out) HB3.out) HB4.out) HBW.out) HLE.out _ _ _⟩
end Go.Proofs.YtefhlonipglboaaDoor

/- rule.Step: the image of a word. -/
namespace Go.Proofs.YtefhlonipglboaaDoor
open Go.RowKit Go.Extern.Stop Go.Stop Go.Extern Go.Proofs.YtefhlonipglboaaDoorW.PrintWords Go.Proofs.YtefhlonipglboaaDoorW.PrintLast Go.Proofs.YtefhlonipglboaaDoorW.PrintMore
set_option linter.unusedVariables false
set_option linter.unusedSimpArgs false

/-- an answer of whole numbers, and an error -/
def AnsI (S : Nat → Addr) (w : World) (o : Fr) (xs : List Int) (e : Ending) (w' : World) : Prop :=
  ∃ A c u, e = .returned (.tuple #[.slice A xs.length c, u]) ∧ xs.length ≤ c ∧ Kd.C (Kd.int .i64) w' A xs.length xs ∧ ErrV S w' u o ∧ Below w.heap.size w w'
/-- the number of the window that ends a word, modulo L -/
def wnum (k L : Int) : List Int → Int := fun l => l.foldl (fun n x => (n * k + x) % L) 0
theorem wnum_snoc (k L : Int) (l : List Int) (x : Int) : wnum k L (l ++ [x]) = (wnum k L l * k + x) % L := by simp [wnum]
theorem wnum_lt {k L : Int} (hL : 0 < L) (l : List Int) : 0 ≤ wnum k L l ∧ wnum k L l < L := by
  rcases List.eq_nil_or_concat l with rfl | ⟨l', x, rfl⟩
  · exact ⟨Int.le_refl _, hL⟩
  · rw [List.concat_eq_append, wnum_snoc]
    exact ⟨Int.emod_nonneg _ (by omega), Int.emod_lt_of_pos _ hL⟩
/-- the symbols of the image that the first n symbols give -/
def imgN (k : Int) (t : List Int) (r2 : Nat) (l : List Int) : Nat → List Int
  | 0 => []
  | i + 1 => imgN k t r2 l i ++ (if r2 ≤ i then [rd t (wnum k t.length (l.take (i + 1)))] else [])
theorem imgN_len (k : Int) (t : List Int) (r2 : Nat) (l : List Int) : ∀ i, (imgN k t r2 l i).length = i - r2
  | 0 => by simp [imgN]
  | i + 1 => by
    rw [imgN, List.length_append, imgN_len k t r2 l i]
    by_cases h : r2 ≤ i
    · rw [if_pos h]; simp; omega
    · rw [if_neg h]; simp; omega
/-- what rule.Step says -/
def stepO (k r : Int) (t l : List Int) : Fr := match chkR k r t with
  | some e => some e
  | none => if 4096 < l.length then some (4, [(ruleS, 0)]) else if 0 ≤ fstIx (badB k) l then some (2, [(ruleS, fstIx (badB k) l)]) else none
def stepL (k r : Int) (t l : List Int) : List Int := match stepO k r t l with
  | some _ => []
  | none => imgN k t (2 * r).toNat l l.length

set_option maxHeartbeats 4000000 in
set_option maxRecDepth 100000 in
theorem step_calls (S : Nat → Addr) (k r : Int) (A : Option Addr) (c : Nat) (t : List Int) (Ax : Option Addr) (cx : Nat) (x : List Int) (w : World) (hE : Env S w) (hr : Kd.C (Kd.int .i64) w A t.length t) (hx : Kd.C (Kd.int .i64) w Ax x.length x) :
    Calls Tryd.prog 30 #[.agg #[.int .i64 k, .int .i64 r, .slice A t.length c], .slice Ax x.length cx] w (AnsI S w (stepO k r t x) (stepL k r t x)) := by
  have hm := Kd.C_max hr
  have hmx := Kd.C_max hx
  have HE := Aside0.mk hE
  have HR := Aside0.mk hr
  have HX := Aside0.mk hx
  clear hE hr hx
  cases hc : chkR k r t with
  | some y =>
    have ho : stepO k r t x = some y := by unfold stepO; rw [hc]
    have hl : stepL k r t x = [] := by unfold stepL; rw [ho]
    rw [ho, hl]
    have HCK := Aside0.mk hc
    clear hc ho hl
    go_enter Tryd.func30, Tryd.ntmps30
    go_wp2_with fail
    refine (chkR_calls S k r A c t _ ((HE.out).below (below_alloc (Below.refl _ _) _)) (Kd.C_below (HR.out) (below_alloc (Below.refl _ _) _))).mono ?_
    rintro e w1 ⟨v, rfl, hv, hb⟩
    have HB1 := Aside0.mk (below_step (below_alloc (Below.refl _ _) _) hb)
    clear hb
    rw [HCK.out] at hv
    obtain ⟨vt, vx, rfl⟩ := hv.2.2.form
    have HV := Aside0.mk hv
    clear hv
    go_wp2_with fail
    go_ret2
    exact ⟨none, 0, _, rfl, Nat.le_refl _, Kd.C_nil _ _, (HV.out), (HB1.out)⟩
  | none =>
    by_cases h1 : 4096 < x.length
    · have ho : stepO k r t x = some (4, [(ruleS, 0)]) := by unfold stepO; rw [hc]; simp [h1]
      have hl : stepL k r t x = [] := by unfold stepL; rw [ho]
      rw [ho, hl]
      have HCK := Aside0.mk hc
      have d1 : decide ((4096 : Int) < x.length) = true := decide_eq_true (by omega)
      clear hc ho hl
      go_enter Tryd.func30, Tryd.ntmps30
      go_wp2_with fail
      refine (chkR_calls S k r A c t _ ((HE.out).below (below_alloc (Below.refl _ _) _)) (Kd.C_below (HR.out) (below_alloc (Below.refl _ _) _))).mono ?_
      rintro e w1 ⟨v, rfl, hv, hb⟩
      have HB1 := Aside0.mk (below_step (below_alloc (Below.refl _ _) _) hb)
      clear hb
      rw [HCK.out] at hv
      have hv' : v = .nilIface := hv
      subst hv'
      clear hv
      go_wp2_with fail
      refine (wrongRule_calls S 0 4 (by unfold Num; omega) w1 ((HE.out).below (HB1.out))).mono ?_
      rintro e w2 ⟨v, rfl, hv, hb⟩
      have HB2 := Aside0.mk (hb)
      have HV := Aside0.mk hv
      clear hb hv
      go_wp2_with fail
      go_ret2
      exact ⟨none, 0, _, rfl, Nat.le_refl _, Kd.C_nil _ _, (HV.out), (below_step (HB1.out) HB2.out)⟩
    have d1 : decide ((4096 : Int) < x.length) = false := decide_eq_false (by omega)
    obtain ⟨b, hb0⟩ : ∃ b, fstIx (badB k) x = b := ⟨_, rfl⟩
    by_cases h2 : 0 ≤ b
    · have ho : stepO k r t x = some (2, [(ruleS, b)]) := by unfold stepO; rw [hc]; simp only [if_neg h1, hb0, if_pos h2]
      have hl : stepL k r t x = [] := by unfold stepL; rw [ho]
      rw [ho, hl]
      have HCK := Aside0.mk hc
      have HBB := Aside0.mk hb0
      have hbx : b ≤ 4096 := by
        rcases fstIx_cases (badB k) x with ⟨h7, _⟩ | ⟨i, hi, h7, _⟩ <;> omega
      clear hc ho hl hb0
      go_enter Tryd.func30, Tryd.ntmps30
      go_wp2_with fail
      refine (chkR_calls S k r A c t _ ((HE.out).below (below_alloc (Below.refl _ _) _)) (Kd.C_below (HR.out) (below_alloc (Below.refl _ _) _))).mono ?_
      rintro e w1 ⟨v, rfl, hv, hb⟩
      have HB1 := Aside0.mk (below_step (below_alloc (Below.refl _ _) _) hb)
      have HRX := Aside0.mk ((BoxR.new _ _ _ _).below hb)
      clear hb
      rw [HCK.out] at hv
      have hv' : v = .nilIface := hv
      subst hv'
      clear hv
      obtain ⟨q0, q1, q2⟩ := BoxR.cells (HRX.out)
      go_wp2_with fail
      refine (odd_calls k Ax cx x w1 (Kd.C_below (HX.out) (HB1.out))).mono ?_
      rintro e w2 ⟨rfl, hb⟩
      have HB2 := Aside0.mk (hb)
      clear hb
      rw [HBB.out]
      go_wp2_with fail
      refine (wrongRule_calls S b 2 (by unfold Num; omega) w2 (((HE.out).below (HB1.out)).below (HB2.out))).mono ?_
      rintro e w3 ⟨v, rfl, hv, hb⟩
      have HB3 := Aside0.mk (hb)
      have HV := Aside0.mk hv
      clear hb hv
      go_wp2_with fail
      go_ret2
      exact ⟨none, 0, _, rfl, Nat.le_refl _, Kd.C_nil _ _, (HV.out), (below_step (below_step (HB1.out) HB2.out) HB3.out)⟩
    · have ho : stepO k r t x = none := by unfold stepO; rw [hc]; simp only [if_neg h1, hb0, if_neg h2]
      have hl : stepL k r t x = imgN k t (2 * r).toNat x x.length := by unfold stepL; rw [ho]
      rw [ho, hl]
      have HCK := Aside0.mk hc
      have HBB := Aside0.mk hb0
      obtain ⟨hK, hlen, hsym⟩ := chkR_ok hc
      have hwin := hK.win
      have hall : ∀ j (hj : j < x.length), 0 ≤ x[j] ∧ x[j] < k := by
        rcases fstIx_cases (badB k) x with ⟨h7, h8⟩ | ⟨i, hi, h7, _⟩
        · exact fun j hj => badB_false.1 (h8 j hj)
        · omega
      have HALL := Aside0.mk hall
      have hLt : t.length ≤ 16384 := by omega
      have hLp : 0 < t.length := by omega
      obtain ⟨k1, k2, r1, r2⟩ := hK
      obtain ⟨m, hm2⟩ : ∃ m : Nat, (2 * r).toNat = m := ⟨_, rfl⟩
      have hmr : 2 * r = (m : Int) := by omega
      have s1 : IntKind.i64.wrap (2 * r) = (m : Int) := by rw [← hmr]; exact IntWalk.i64_in _ (by omega)
      rw [hm2]
      clear hc ho hl hb0 hlen hsym hwin hall hm2 hmr
      go_enter Tryd.func30, Tryd.ntmps30
      go_wp2_with fail
      refine (chkR_calls S k r A c t _ ((HE.out).below (below_alloc (Below.refl _ _) _)) (Kd.C_below (HR.out) (below_alloc (Below.refl _ _) _))).mono ?_
      rintro e w1 ⟨v, rfl, hv, hb⟩
      have HB1 := Aside0.mk (below_step (below_alloc (Below.refl _ _) _) hb)
      have HRX := Aside0.mk ((BoxR.new _ _ _ _).below hb)
      clear hb
      rw [HCK.out] at hv
      have hv' : v = .nilIface := hv
      subst hv'
      clear hv
      obtain ⟨q0, q1, q2⟩ := BoxR.cells (HRX.out)
      go_wp2_with fail
      refine (odd_calls k Ax cx x w1 (Kd.C_below (HX.out) (HB1.out))).mono ?_
      rintro e w2 ⟨rfl, hb⟩
      have HB2 := Aside0.mk (hb)
      clear hb
      rw [HBB.out]
      go_wp2_with fail
      have HX2 := Aside0.mk (Kd.C_below (Kd.C_below (HX.out) (HB1.out)) (HB2.out))
      have HR2 := Aside0.mk (Kd.C_below (Kd.C_below (HR.out) (HB1.out)) (HB2.out))
      have HRX2 := Aside0.mk ((HRX.out).below (HB2.out))
      have HBW := Aside0.mk (below_step (HB1.out) HB2.out)
      go_loopg [31, 8, 9] x.length (fun kq v31 v8 v9 w' => ∃ i : Nat, v31 = .int .i64 i ∧ i + kq = x.length ∧ v9 = .int .i64 (wnum k t.length (x.take i)) ∧ Aside0 (Kd.R (Kd.int .i64) 3 w' w2.heap.size (fun _ => True) v8 (imgN k t m x i)) ∧ Aside0 (Below w2.heap.size w2 w'))
      case atStart => exact ⟨0, rfl, by omega, rfl, ⟨Kd.R_nil _ _ _ _ _⟩, ⟨Below.refl _ _⟩⟩
      case round =>
        obtain ⟨i, rfl, hk, rfl, HO, HB⟩ := hrel
        by_cases hlt : i < x.length
        · obtain ⟨kq, rfl⟩ : ∃ kq, gk = kq + 1 := ⟨gk - 1, by omega⟩
          have hxi := HALL.out i hlt
          obtain ⟨ad, e, hxc⟩ := Kd.at_int (Kd.C_below HX2.out HB.out) (i : Int) (by omega) (by omega)
          subst e
          simp only [Int.toNat_natCast] at hxc
          rw [rd_at hlt] at hxc
          have hsn : wnum k t.length (x.take (i + 1)) = (wnum k t.length (x.take i) * k + x[i]) % t.length := by rw [List.take_succ_eq_append_getElem hlt, wnum_snoc]
          have hnb := wnum_lt (k := k) (L := t.length) (by omega) (x.take i)
          have hnb' := wnum_lt (k := k) (L := t.length) (by omega) (x.take (i + 1))
          have himg : imgN k t m x (i + 1) = imgN k t m x i ++ (if m ≤ i then [rd t (wnum k t.length (x.take (i + 1)))] else []) := rfl
          obtain ⟨y, hy⟩ : ∃ y, x[i] = y := ⟨_, rfl⟩
          obtain ⟨n, hn⟩ : ∃ n, wnum k t.length (x.take i) = n := ⟨_, rfl⟩
          obtain ⟨n', hn'⟩ : ∃ n', wnum k t.length (x.take (i + 1)) = n' := ⟨_, rfl⟩
          rw [hy] at hxi hxc hsn
          rw [hn] at hnb hsn ⊢
          rw [hn'] at hsn hnb' himg
          obtain ⟨m1, hm1⟩ : ∃ m1, n * k = m1 := ⟨_, rfl⟩
          have hm1b : 0 ≤ m1 ∧ m1 ≤ 65536 := by
            have h1 : k = 1 ∨ k = 2 ∨ k = 3 ∨ k = 4 := by omega
            rcases h1 with rfl | rfl | rfl | rfl <;> omega
          have hw1 : IntKind.i64.wrap (n * k) = m1 := by rw [hm1]; exact IntWalk.i64_in _ (by omega)
          rw [hm1] at hsn
          have hmod : (m1 + y) % (t.length : Int) = n' := hsn.symm
          have htmod : (m1 + y).tmod (t.length : Int) = n' := by rw [Int.tmod_eq_emod_of_nonneg (by omega)]; exact hmod
          obtain ⟨q0, q1, q2⟩ := (HRX2.out.below HB.out).cells
          have HN := Aside0.mk hn'
          have HIM := Aside0.mk himg
          have HLEN := imgN_len k t m x i
          have hlb : ((imgN k t m x i).length + 1) * 8 ≤ 140737488355328 := by rw [HLEN]; omega
          have HL := Aside0.mk hlb
          clear hy hn hn' hm1 hsn himg HLEN hlb
          by_cases hmi : m ≤ i
          · have d2 : decide (m ≤ i) = true := decide_eq_true hmi
            have d2' : decide ((m : Int) ≤ (i : Int)) = true := decide_eq_true (by omega)
            obtain ⟨ad', e, htc⟩ := Kd.at_int (Kd.C_below HR2.out HB.out) n' (by omega) (by omega)
            subst e
            obtain ⟨n2, hn2⟩ : ∃ n2 : Nat, n' = (n2 : Int) := ⟨n'.toNat, by omega⟩
            subst hn2
            simp only [Int.toNat_natCast] at htc
            obtain ⟨l, hl⟩ : ∃ l, imgN k t m x i = l := ⟨_, rfl⟩
            rw [hl] at HO HL HIM
            clear hl
            go_wp2_with (first | ((with_reducible refine gate_builtin (b := .append) (xs := #[.tmp 51, .tmp 57]) rfl ?_); (try (refine gate_guard (by rfl) ?_; dsimp only)); at_builtin; refine Kd.R_append (Kd.int .i64) (w0 := w2) w2.heap.size rfl (.tmp 51) (.tmp 57) 22 3 (.int .i64 0) 8 rfl Tryd.underlying22 info_i64 rfl (by decide) (by omega) u8 l _ [.int .i64 _] (ok := fun _ => True) (okp := fun _ => False) rfl rfl rfl (fun _ hk => hk.elim) (fun _ _ => trivial) HO.out HB.out HB.out.size HL.out ?_; intro v1 wa ho hb hg hat; have HO1 := Aside0.mk ho; have HBa := Aside0.mk hb; clear ho hb hg hat))
            go_roundg kq
            case measure => omega
            case rel => exact ⟨i + 1, by go_num, by omega, by rw [HN.out], ⟨by rw [HIM.out, if_pos hmi]; exact HO1.out⟩, HBa⟩
          · have d2 : decide (m ≤ i) = false := decide_eq_false hmi
            have d2' : decide ((m : Int) ≤ (i : Int)) = false := decide_eq_false (by omega)
            go_wp2_with fail
            go_roundg kq
            case measure => omega
            case rel => exact ⟨i + 1, by go_num, by omega, by rw [HN.out], ⟨by rw [HIM.out, if_neg hmi, List.append_nil]; exact HO.out⟩, HB⟩
        · obtain rfl : i = x.length := by omega
          obtain ⟨Ao, co, eo⟩ := Kd.R_slice HO.out
          subst eo
          have HRD := Aside0.mk (Kd.R_reads' HO.out)
          clear HO
          go_wp2_with fail
          go_ret2
          exact ⟨Ao, co, _, rfl, HRD.out.2.1, HRD.out.2.2, rfl, below_step HBW.out HB.out⟩
end Go.Proofs.YtefhlonipglboaaDoor

/- What nat.Parse computes of a text of digits: the number that it writes. -/
namespace Go.Proofs.YtefhlonipglboaaDoor
open Go.RowKit Go.Proofs.YtefhlonipglboaaDoorW.PrintWords Go.Proofs.YtefhlonipglboaaDoorW.PrintLast Go.Proofs.YtefhlonipglboaaDoorW.PrintMore
set_option linter.unusedVariables false
set_option linter.unusedSimpArgs false

theorem C_one {w : World} {ad : Addr} {x : Int} (h : w.cell? ad = some (.int .u32 x)) : Kd.C (Kd.int .u32) w (some ad) [x].length [x] := by
  refine Kd.C_of_reads (d := 0) ⟨rfl, by simp, fun _ => ⟨ad, rfl, fun j hj => ?_⟩⟩
  have : j = 0 := by simpa using hj
  subst this
  simpa [Addr.add] using h
theorem mul_one_calls (A0 : Option Addr) (ad : Addr) (c0 : Nat) (l0 : List Int) (x : Int) (w : World) (hr0 : Kd.C (Kd.int .u32) w A0 l0.length l0) (hc0 : l0.length ≤ c0) (hx : w.cell? ad = some (.int .u32 x))
    (hL0 : Limbs l0) (hx0 : 0 ≤ x ∧ x < 4294967296) (hm : l0.length + 1 ≤ 70368744177664) :
    Calls Tryd.prog 90 #[.slice A0 l0.length c0, .slice (some ad) 1 1] w (NatRes w (val l0 * x)) := by
  have h := mul_calls A0 (some ad) c0 1 l0 [x] w hr0 hc0 (C_one hx) (by simp) hL0 (Limbs.cons hx0 Limbs.nil) (by simpa using hm)
  simpa [val] using h
theorem add_one_calls (A0 : Option Addr) (ad : Addr) (c0 : Nat) (l0 : List Int) (x : Int) (w : World) (hr0 : Kd.C (Kd.int .u32) w A0 l0.length l0) (hc0 : l0.length ≤ c0) (hx : w.cell? ad = some (.int .u32 x))
    (hL0 : Limbs l0) (hx0 : 0 ≤ x ∧ x < 4294967296) (hm : l0.length + 1 ≤ 70368744177664) :
    Calls Tryd.prog 89 #[.slice A0 l0.length c0, .slice (some ad) 1 1] w (NatRes w (val l0 + x)) := by
  have h := add_calls A0 (some ad) c0 1 l0 [x] w hr0 hc0 (C_one hx) (by simp) hL0 (Limbs.cons hx0 Limbs.nil) hm (by simp)
  simpa [val] using h

theorem nat_step {w W w2 : World} {v : Value} {r : List Int} (hB : Below w.heap.size w W) (hf : FrN W.heap.size w2 v r) (hb : Below W.heap.size W w2) : FrN w.heap.size w2 v r ∧ Below w.heap.size w w2 :=
  ⟨hf.lower hB.size, below_step hB hb⟩
/-- the number that digits write -/
def decv (l : List UInt8) : Int := l.foldl (fun a b => 10 * a + ((b.toNat : Int) - 48)) 0
theorem decv_snoc (l : List UInt8) (b : UInt8) : decv (l ++ [b]) = 10 * decv l + ((b.toNat : Int) - 48) := by simp [decv]
def Digits (l : List UInt8) : Prop := ∀ b ∈ l, 48 ≤ b.toNat ∧ b.toNat ≤ 57
theorem decv_lt : ∀ (n : Nat) (l : List UInt8), l.length = n → Digits l → 0 ≤ decv l ∧ decv l < 4294967296 ^ n
  | 0, l, hl, _ => by
    rw [List.length_eq_zero_iff.1 hl]; simp [decv]
  | n + 1, l, hl, h => by
    obtain ⟨m, b, rfl⟩ : ∃ m b, l = m ++ [b] := ⟨l.dropLast, l.getLast (by intro e; subst e; simp at hl), (List.dropLast_concat_getLast _).symm⟩
    have ih := decv_lt n m (by simpa using hl) (fun x hx => h x (by simp [hx]))
    have hb := h b (by simp)
    rw [decv_snoc, Int.pow_succ]
    omega
theorem bytes_get (s : ByteArray) (i : Nat) (h : i < s.size) : s.data.toList[i]'(by simpa using h) = s[i] := rfl
theorem bytes_take_succ (s : ByteArray) (k : Nat) (h : k < s.size) : s.data.toList.take (k + 1) = s.data.toList.take k ++ [s[k]] := by
  rw [List.take_succ_eq_append_getElem (by simpa using h)]; rfl

/-- what nat.Parse leaves when all is well -/
def ParseRes (w : World) (x : Int) (e : Ending) (w' : World) : Prop := ∃ v r, e = .returned (.tuple #[v, .nilIface]) ∧ FrN w.heap.size w' v r ∧ Nrm r ∧ val r = x ∧ Below w.heap.size w w'
set_option maxHeartbeats 8000000 in
set_option maxRecDepth 100000 in
theorem parse_calls (s : ByteArray) (w : World) (h1 : s.size ≤ 1200) (h0 : 0 < s.size) (hd : Digits s.data.toList) (hz : s.size = 1 ∨ (s.data.toList.getD 0 0).toNat ≠ 48) :
    Calls Tryd.prog 140 #[.string s] w (ParseRes w (decv s.data.toList)) := by
  have HDg := Aside0.mk hd
  have HZ := Aside0.mk hz
  have hne : s.toList ≠ [] := by
    rw [ByteArray.toList_eq]
    intro e
    have h2 : s.data.toList.length = 0 := by rw [e]; rfl
    have h3 : s.data.toList.length = s.size := by simp
    omega
  have hem : s.toList.isEmpty = false := by simpa using hne
  have hem2 : (s.toList == []) = false := by simpa using hne
  have hsz : decide (1200 < (s.size : Int)) = false := decide_eq_false (by omega)
  clear hne
  clear hd hz
  go_enter Tryd.func140, Tryd.ntmps140
  go_wp2_with fail
  go_loopg [4, 17] (s.size) (fun kq v4 v17 w' => ∃ (i : Nat) (A : Option Addr) (c : Nat) (l : List Int), v4 = .slice A l.length c ∧ v17 = .int .i64 i ∧ Aside0 (kq + i = s.size) ∧ Aside0 (FrN w.heap.size w' (.slice A l.length c) l) ∧ Aside0 (Nrm l ∧ val l = decv (s.data.toList.take i)) ∧ Aside0 (Below w.heap.size w w'))
  case atStart => exact ⟨0, none, 0, [], rfl, rfl, ⟨rfl⟩, ⟨FrN.nil _ _⟩, ⟨⟨Limbs.nil, trivial⟩, rfl⟩, ⟨Below.refl _ _⟩⟩
  case round =>
    obtain ⟨i, A, c, l, rfl, rfl, HK, HF, HV, HB⟩ := hrel
    by_cases hlt : i < s.size
    · have hb := HDg.out s[i] (by rw [← bytes_get s i hlt]; exact List.getElem_mem _)
      have hlo : 48 ≤ ((s[i]).toNat : Int) := by omega
      have hhi : ((s[i]).toNat : Int) ≤ 57 := by omega
      have hib : i < 9223372036854775807 := by omega
      clear hb
      have HC4 : Aside0 (Kd.C (Kd.int .u32) wr A l.length l ∧ l.length ≤ c) := ⟨(Kd.V_reads' HF.out).2.2, (Kd.V_reads' HF.out).2.1⟩
      have HLEN : Aside0 (l.length ≤ i) := ⟨by
        have h := decv_lt i (s.data.toList.take i) (by simp; omega) (fun b hb => HDg.out b (List.mem_of_mem_take hb))
        exact nrm_length HV.out.1 (by rw [HV.out.2]; exact h.2)⟩
      have hw1 : IntKind.u8.wrap ((s[i].toNat : Int) - 48) = (s[i].toNat : Int) - 48 := by rw [IntKind.wrap_u8]; omega
      have hw2 : IntKind.u32.wrap ((s[i].toNat : Int) - 48) = (s[i].toNat : Int) - 48 := by rw [IntKind.wrap_u32]; omega
      have HSN := Aside0.mk (bytes_take_succ s i hlt)
      have HDB : Aside0 (0 ≤ (s[i].toNat : Int) - 48 ∧ (s[i].toNat : Int) - 48 < 4294967296) := ⟨by omega⟩
      have hi0 : (0 : Int) ≤ (i : Int) := by omega
      have hi1 : (i : Int) < (s.size : Int) := by omega
      have HLL : Aside0 (∀ r2, Nrm r2 → val r2 = val l * 10 → r2.length ≤ i + 1) := ⟨fun r2 h2 hv2 => by
        have h := decv_lt i (s.data.toList.take i) (by simp; omega) (fun b hb => HDg.out b (List.mem_of_mem_take hb))
        refine nrm_length h2 ?_
        rw [hv2, HV.out.2, Int.pow_succ]
        omega⟩
      obtain ⟨k1, rfl⟩ : ∃ k1, gk = k1 + 1 := ⟨gk - 1, by have := HK.out; omega⟩
      go_wp2_with fail
      go_region_held3 (fun _ => True) (trivial) ((first
        | (go_at_call 90; (refine (mul_one_calls A _ c l 10 _ (by exact Kd.C_below HC4.out.1 (by repeat (first | exact Below.refl _ _ | apply below_alloc | apply below_drew | apply pw_below_drewN))) HC4.out.2 (by simp) HV.out.1.1 (by decide) (by have := HLEN.out; omega)).mono ?_); rintro e w2 ⟨v2, r2, rfl, hf2, hn2, hv2, hb2⟩; obtain ⟨A2, c2, rfl⟩ := Kd.V_slice hf2; have HF2 := Aside0.mk (nat_step (by repeat (first | exact HB.out | apply below_alloc | apply below_drew | apply pw_below_drewN)) hf2 hb2); have HN2 := Aside0.mk hn2; have HV2 := Aside0.mk hv2; have HB2 := Aside0.mk hb2; clear hf2 hn2 hv2 hb2)
        | (go_at_call 89; (refine (add_one_calls A2 _ c2 r2 ((s[i].toNat : Int) - 48) _ (by exact Kd.C_below (Kd.V_reads' HF2.out.1).2.2 (by repeat (first | exact Below.refl _ _ | apply below_alloc | apply below_drew | apply pw_below_drewN))) (Kd.V_reads' HF2.out.1).2.1 (by first | (simp; done) | (exact (HB2.out.cell (by simp <;> omega)).trans (by simp))) HN2.out.1 HDB.out (by have := HLL.out r2 HN2.out HV2.out; omega)).mono ?_); rintro e w3 ⟨v3, r3, rfl, hf3, hn3, hv3, hb3⟩; obtain ⟨A3, c3, rfl⟩ := Kd.V_slice hf3; have HF3 := Aside0.mk (nat_step (by repeat (first | exact HF2.out.2 | apply below_alloc | apply below_drew | apply pw_below_drewN)) hf3 hb3); have HN3 := Aside0.mk hn3; have HV3 := Aside0.mk hv3; clear hf3 hn3 hv3 hb3)))
      all_goals
        go_wp2_with fail
        go_roundg k1
        case measure => omega
        case rel => exact ⟨i + 1, A3, c3, r3, rfl, by go_num, ⟨by have := HK.out; omega⟩, ⟨HF3.out.1⟩, ⟨HN3.out, by rw [HV3.out, HV2.out, HV.out.2, HSN.out, decv_snoc]; omega⟩, ⟨HF3.out.2⟩⟩
    · obtain rfl : i = s.size := by have := HK.out; omega
      have HVV : Aside0 (val l = decv s.data.toList) := ⟨by rw [HV.out.2, List.take_of_length_le (by simp)]⟩
      by_cases h1s : s.size = 1
      · have hd1 : decide (1 < (s.size : Int)) = false := decide_eq_false (by omega)
        clear h1s
        go_wp2_with fail
        go_ret2
        exact ⟨_, l, rfl, HF.out, HV.out.1, HVV.out, HB.out⟩
      · have hd1 : decide (1 < (s.size : Int)) = true := decide_eq_true (by omega)
        have hz0 : ((s[0].toNat : Int) == 48) = false := by
          rw [beq_eq_false_iff_ne]
          have h3 := HZ.out.resolve_left h1s
          have h4 : s.data.toList.getD 0 0 = s[0] := by
            rw [List.getD_eq_getElem?_getD, List.getElem?_eq_getElem (by simpa using h0), ← bytes_get s 0 h0]; rfl
          rw [h4] at h3
          omega
        have hzz : (0 : Int) < (s.size : Int) := by omega
        clear h1s
        go_wp2_with fail
        go_ret2
        exact ⟨_, l, rfl, HF.out, HV.out.1, HVV.out, HB.out⟩
end Go.Proofs.YtefhlonipglboaaDoor

/- edenlaw04's awake. -/
namespace Go.Proofs.YtefhlonipglboaaDoor
open Go.RowKit Go.Extern.Stop Go.Stop Go.Extern Go.Proofs.YtefhlonipglboaaDoorW.PrintWords Go.Proofs.YtefhlonipglboaaDoorW.PrintLast Go.Proofs.YtefhlonipglboaaDoorW.PrintMore
set_option linter.unusedVariables false
set_option linter.unusedSimpArgs false

abbrev s110 : ByteArray := ⟨#[50, 46, 49, 46, 49, 49, 48]⟩
abbrev t110 : List Int := [0, 1, 1, 1, 0, 1, 1, 0]
theorem parse110 (S : Nat → Addr) (W : World) : Calls Tryd.prog 140 #[.string (s110.extract 4 s110.size)] W (AnsN S W none 110) := by
  have hs : s110.extract 4 s110.size = ⟨#[49, 49, 48]⟩ := by decide
  rw [hs]
  have hd : decv [49, 49, 48] = 110 := by decide
  refine (parse_calls ⟨#[49, 49, 48]⟩ W (by decide) (by decide) (by unfold Digits; decide) (Or.inr (by decide))).mono ?_
  rintro e w' ⟨v, r, rfl, hf, hn, hv, hb⟩
  have hv' : val r = 110 := by rw [hv]; exact hd
  exact ⟨v, _, r, rfl, hf, hn, hv', Nat.le_trans (nrm_length hn (k := 1) (by rw [hv']; decide)) (by decide), rfl, hb⟩
theorem pro110 : parseRO s110 none 110 = none := by decide +kernel
theorem prv110 : parseRV s110 none 110 = (2, 1, t110) := by decide +kernel
theorem step110 : stepO 2 1 t110 [0, 0, 1, 1, 1] = none ∧ stepL 2 1 t110 [0, 0, 1, 1, 1] = [1, 1, 0] := by decide +kernel
theorem chk5 : chkR 5 0 [] = some (1, [(ruleS, 0)]) := by decide +kernel

set_option maxHeartbeats 1000000 in
set_option maxRecDepth 100000 in
theorem awake4_calls (S : Nat → Addr) (w : World) (hE : Env S w) : Calls Tryd.prog 31 #[] w fun e w' => e = .returned (.bool true) ∧ Below w.heap.size w w' := by
  have HE := Aside0.mk hE
  clear hE
  go_enter Tryd.func31, Tryd.ntmps31
  go_wp2_with fail
  refine (parseR_calls S s110 none trivial 110 w (HE.out) (by decide) (fun _ _ W _ => parse110 S W)).mono ?_
  rintro e w1 ⟨A, c, u, rfl, hl, hC, hu, hb⟩
  have HB1 := Aside0.mk (hb)
  clear hb
  rw [pro110] at hu
  rw [prv110] at hl hC ⊢
  have hu' : u = .nilIface := hu
  subst hu'
  have hC' : Kd.C (Kd.int .i64) w1 A t110.length t110 := Kd.F_now hC
  have HC := Aside0.mk hC'
  clear hC hC' hl hu
  go_wp2_with fail
  have hRX := (BoxR.new w1 2 1 (.slice A 8 c)).below (below_alloc (Below.refl _ _) (.cells (nums .i64 t110).toArray 3))
  have HRX := Aside0.mk hRX
  clear hRX
  refine (rules_true 2 1 A (some ⟨w1.heap.size + 1, 0, none⟩) c 8 t110 _ (Kd.C_below (HC.out) (below_alloc (below_alloc (Below.refl _ _) _) _)) (CI_litg (w1.alloc (.cells #[.int .i64 2, .int .i64 1, .slice A 8 c] tRule)) (w1.heap.size + 1) t110 (by rw [sz_alloc']) (by decide))).mono ?_
  rintro e w2 ⟨rfl, hb⟩
  have HB2 := Aside0.mk (below_step (below_alloc (below_alloc (Below.refl _ _) _) _) hb)
  have HRY := Aside0.mk (HRX.out.below hb)
  clear hb
  obtain ⟨q0, q1, q2⟩ := BoxR.cells (HRY.out)
  go_wp2_with fail
  have HST := Aside0.mk step110
  refine (step_calls S 2 1 A c t110 (some ⟨w2.heap.size, 0, none⟩) 5 [0, 0, 1, 1, 1] _ ((((HE.out).below (HB1.out)).below (HB2.out)).below (below_alloc (Below.refl _ _) _)) (Kd.C_below (Kd.C_below (HC.out) (HB2.out)) (below_alloc (Below.refl _ _) _)) (CI_litg w2 w2.heap.size [0, 0, 1, 1, 1] rfl (by decide))).mono ?_
  rintro e w3 ⟨Ai, ci, ui, rfl, hl, hC, hu, hb⟩
  have HB3 := Aside0.mk (below_step (below_alloc (Below.refl _ _) _) hb)
  clear hb
  rw [HST.out.1] at hu
  rw [HST.out.2] at hl hC ⊢
  have hu' : ui = .nilIface := hu
  subst hu'
  have HI := Aside0.mk hC
  clear hC hl hu
  go_wp2_with fail
  refine (ints_true Ai (some ⟨w3.heap.size, 0, none⟩) ci 3 [1, 1, 0] _ (Kd.C_below (HI.out) (below_alloc (Below.refl _ _) _)) (CI_litg w3 w3.heap.size [1, 1, 0] rfl (by decide))).mono ?_
  rintro e w4 ⟨rfl, hd⟩
  have hb := hd.below
  clear hd
  have HB4 := Aside0.mk (below_step (below_alloc (Below.refl _ _) _) hb)
  clear hb
  go_wp2_with fail
  refine (chkR_calls S 5 0 none 0 [] w4 (((((HE.out).below (HB1.out)).below (HB2.out)).below (HB3.out)).below (HB4.out)) (Kd.C_nil _ _)).mono ?_
  rintro e w5 ⟨v, rfl, hv, hb⟩
  have HB5 := Aside0.mk (hb)
  clear hb
  rw [chk5] at hv
  obtain ⟨vt, vx, rfl⟩ := hv.2.2.form
  clear hv
  go_wp2_with fail
  go_ret
  exact ⟨rfl, (below_step (below_step (below_step (below_step (HB1.out) HB2.out) HB3.out) HB4.out) HB5.out)⟩
end Go.Proofs.YtefhlonipglboaaDoor

/- The statement RuleChecksCardSaid: edenlaw04.RuleChecks returns true whatever is handed in; no condition beyond the row's own. -/
namespace Go.Proofs.YtefhlonipglboaaDoor
open Go Go.RowKit Go.WideShapes Go.ChangeShapes Go.ChangeAt
set_option linter.unusedVariables false

theorem ruleChecks_met (os : Os) (args : Array Value) : laidMetH Tryd.prog Rows.ruleChecksRow.laid ((startW os).forCall (fun _ _ => 0) ⟨#[], args, []⟩).memory :=
  laidMetH_of_parts (laidMet_of_run' 8 (by kernel_rfl) (by kernel_rfl)) (by kernel_rfl)
theorem ruleChecks_env {W : World} (h : laidMetH Tryd.prog Rows.ruleChecksRow.laid W) : ∃ S : Nat → Addr, Env S W := by
  have h' : laidMet Tryd.prog (sents []) W ∧ handlesMet Tryd.prog [("errors.errorType", Rows.laid_errors_errorType)] W := h
  exact env_of h'.1 h'.2
set_option maxRecDepth 100000 in
theorem ruleChecks_lifted (os : Os) (started : os.Started) (H : Type) (enc : TypeId × Value → H) :
    ReturnsInHanded {} Tryd.checked os 6 .any (fun w args => (Rows.ruleChecksSpec.pre enc Tryd.prog Tryd.f6 [] false w args ∧ laidMetH Tryd.prog Rows.ruleChecksRow.laid w) ∧ sizedMet enc Tryd.prog Tryd.f6 (OpenSpec.ofChange Rows.ruleChecksSpec) false w args)
      (Rows.ruleChecksSpec.post enc Tryd.prog Tryd.f6 false true false false) := by
  refine returnsInHanded_of_change_and (C := Tryd.checked) (X := fun w _ => laidMetH Tryd.prog Rows.ruleChecksRow.laid w) (fun _ _ _ hh h => h.of_heap hh) ownK started (by kernel_rfl) Tryd.func6
    (ChangeSpec.witness_shaped (enc := enc) (C := Tryd.checked) (os := os) (X := fun w _ => laidMetH Tryd.prog Rows.ruleChecksRow.laid w) false (startW os) #[.agg #[.int .i64 0, .int .i64 0, .slice none 0 0], .int .i64 0, .int .i64 0] 8 rfl (World.shaped_of_RefB (by kernel_rfl) (by kernel_rfl)) (by kernel_rfl) (by kernel_rfl) (by kernel_rfl) (ruleChecks_met os _)) ?_
  intro W base args ds gs before hval0 hW _ hwt hL _
  have hval : ∀ (j : Nat) t v, Tryd.f6.params[j]? = some t → args[j]? = some v → Value.okWide Tryd.prog W .any base t v := hval0
  have hW' := hW
  obtain ⟨p, q, hA0, hV, rfl, hfz, hnd⟩ := hW
  have hA : DataW.TrodAll enc Tryd.prog W 0 (fun _ => true) true Tryd.f6.params.toList args.toList ds p := hA0
  have hlt : ∀ x ∈ p, x.block < W.heap.size := fun x hx => hW'.lt x (List.mem_append_left _ hx)
  rw [Tryd.params6] at hA hval hwt
  have hA2 := hA
  obtain ⟨v0, v1, v2, d0, d1, d2, p0, p1, p2, rfl, rfl, rfl, h0, h1, h2⟩ := trodAll_three hA
  obtain ⟨rfl, rfl⟩ := trodVars_none hV
  obtain ⟨k0, r0, A0, c0, l0, rfl, hc0, hm0, hC0, hk0, hr0⟩ := open_rule (hval 0 24 v0 rfl rfl) h0 (w_at hwt 0 rfl rfl)
  obtain ⟨n1, rfl, rfl, rfl, hw1⟩ := open_int Tryd.underlying3 (hval 1 3 v1 rfl rfl) h1
  have hn1 := i64_wf hw1
  obtain ⟨n2, rfl, rfl, rfl, hw2⟩ := open_int Tryd.underlying3 (hval 2 3 v2 rfl rfl) h2
  have hn2 := i64_wf hw2
  obtain ⟨S, hE⟩ := ruleChecks_env hL
  refine (checks_calls S k0 r0 A0 c0 l0 n1 n2 W hE hC0 hm0 (fun W hW => awake4_calls S W hW)).mono fun e W' ⟨he, hb⟩ => ?_
  subst he
  exact ⟨_, rfl, post_of_below hW' (fun _ _ _ => trodAll_mk1 (shut_bool Tryd.underlying4 true)) (fun sp hsp => by
    rw [Tryd.params6]
    exact stays_all (by decide +kernel) hA2 (fun x hx => hb.same (hlt x hx)) (fun x hx => hsp x (List.mem_append_left _ hx))) (fun _ _ => rfl) rfl hb (ok_one (by kernel_rfl) rfl (okWide_bool_mk Tryd.underlying4 true))⟩

theorem ruleChecks_said : Rows.RuleChecksSaid :=
  OpenClaim.holds_of_wide 6 Tryd.f6 rfl rfl rfl rfl rfl rfl rfl ⟨rfl, rfl, rfl, rfl, rfl⟩ rfl rfl rfl rfl rfl (by kernel_rfl) Tryd.func6 (by kernel_rfl)
    (of_decide_eq_true (by kernel_rfl)) (by unfold Func.isWrapper; first | (rw [if_pos (by decide +kernel)]; kernel_rfl) | (rw [if_neg (by decide +kernel)]; exact ⟨rfl, rfl⟩))
    (fun os started H enc _ => ruleChecks_lifted os started H enc)
theorem ruleChecks_plain (f : FuncId) (fn : Func) (hf : Tryd.pinned.checked.prog.funcNamed "eden/edenlaw04.RuleChecks" = some f) (hfn : Tryd.pinned.checked.prog.funcs[f]? = some fn) :
    true = Tryd.pinned.checked.prog.looks [] ∧ ∀ (j : Nat) t, fn.params[j]? = some t → Tryd.pinned.checked.prog.wantsStandIn t = false := by
  obtain rfl : f = 6 := Option.some.inj ((show Tryd.prog.funcNamed "eden/edenlaw04.RuleChecks" = some 6 by kernel_rfl).symm.trans hf) |>.symm
  obtain rfl : fn = Tryd.f6 := (Option.some.inj (Tryd.func6.symm.trans hfn)).symm
  refine ⟨by kernel_rfl, fun j t ht => ?_⟩
  rw [Tryd.params6] at ht
  have hm : t ∈ [24, 3, 3] := by simpa using Array.mem_of_getElem? ht
  have hall : ([24, 3, 3].all fun u => !Tryd.prog.wantsStandIn u) = true := by kernel_rfl
  exact (show Tryd.prog.wantsStandIn t = false by simpa using List.all_eq_true.1 hall t hm)
theorem ruleChecks_card : Rows.RuleChecksCardSaid :=
  Claim7.holds_tied_plain_at .later [] _ _ _ _ ruleChecks_said (fun _ h => by cases h) (by kernel_rfl) (fun _ h => by cases h) ruleChecks_row_tie rfl ⟨rfl, rfl⟩ (by kernel_rfl) rfl ruleChecks_plain (by kernel_rfl)
end Go.Proofs.YtefhlonipglboaaDoor
