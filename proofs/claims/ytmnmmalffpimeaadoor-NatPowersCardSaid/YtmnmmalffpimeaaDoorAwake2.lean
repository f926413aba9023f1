/- edenraw.Nats at equal numbers; edenlaw02's fixed answers are given. -/
import Derived.Test.YtmnmmalffpimeaaDoorText
namespace Go.Proofs.YtmnmmalffpimeaaDoor
open Go.RowKit Go.Proofs.YtmnmmalffpimeaaDoorW.PrintWords Go.Proofs.YtmnmmalffpimeaaDoorW.PrintLast Go.Proofs.YtmnmmalffpimeaaDoorW.PrintMore
set_option linter.unusedVariables false
set_option linter.unusedSimpArgs false

set_option maxHeartbeats 2000000 in
set_option maxRecDepth 100000 in
theorem nats_true (A0 A1 : Option Addr) (c0 c1 : Nat) (l : List Int) (w : World) (hr0 : Kd.C (Kd.int .u32) w A0 l.length l) (hr1 : Kd.C (Kd.int .u32) w A1 l.length l) :
    Calls Tryd.prog 24 #[.slice A0 l.length c0, .slice A1 l.length c1] w fun e w' => e = .returned (.bool true) ∧ Drawn0 w w' := by
  have HR0 := Aside0.mk hr0
  have HR1 := Aside0.mk hr1
  have hm := Kd.C_max hr0
  clear hr0 hr1
  go_enter Tryd.func24, Tryd.ntmps24
  go_wp2_with fail
  go_loopg [5] l.length (fun kq v3 w' => ∃ i : Nat, v3 = .int .i64 i ∧ kq + i = l.length ∧ Aside0 (Drawn0 w w'))
  case atStart => exact ⟨0, rfl, rfl, ⟨Drawn0.refl _⟩⟩
  case round =>
    obtain ⟨i, rfl, hk, HW⟩ := hrel
    cases gk with
    | zero =>
      obtain rfl : i = l.length := by omega
      go_wp2_with fail
      go_ret
      exact ⟨rfl, HW.out⟩
    | succ k =>
      have hb := HW.out.below
      obtain ⟨ad0, e0, hx0⟩ := Kd.at_int (Kd.C_below HR0.out hb) (i : Int) (by omega) (by omega)
      obtain ⟨ad1, e1, hx1⟩ := Kd.at_int (Kd.C_below HR1.out hb) (i : Int) (by omega) (by omega)
      subst e0
      subst e1
      simp only [Int.toNat_natCast] at hx0 hx1
      have hi : i < l.length := by omega
      have hne : (rd l (i : Int) != rd l (i : Int)) = false := bne_self_eq_false _
      have HK : Aside0 (k + (i + 1) = l.length) := ⟨by omega⟩
      clear hb hk
      go_wp2_with fail
      go_quiet (fail)
      go_wp2_with fail
      go_roundg k
      case measure => omega
      case rel => exact ⟨i + 1, by go_num, HK.out, ⟨by repeat (first | exact HW.out | apply Drawn0.step)⟩⟩

theorem parse_awake : decv [52, 50, 57, 52, 57, 54, 55, 50, 57, 54] = 4294967296 := by decide
theorem digs_big : ∀ (m : Nat) (N : Nat) (x : Int), 0 ≤ x → x < 10 ^ N → digs (N + m) x = digs N x ++ List.replicate m 48
  | 0, N, x, _, _ => by simp
  | m + 1, N, x, h0, h => by
    rw [show N + (m + 1) = (N + m) + 1 by omega, digs_step, digs_big m N x h0 h, List.replicate_succ', List.append_assoc]
    have hp : (10 : Int) ^ N ≤ 10 ^ (N + m) := by
      rw [Int.pow_add]
      have h1 : (1 : Int) ≤ 10 ^ m := Int.pow_pos (by decide)
      have h2 : (0 : Int) < 10 ^ N := Int.pow_pos (by decide)
      have := Int.mul_le_mul_of_nonneg_left h1 (Int.le_of_lt h2)
      simpa using this
    rw [Int.ediv_eq_zero_of_lt h0 (by omega)]
    rfl
theorem trimLeft_zeros (m : Nat) (l : List UInt8) : Lib.trimLeftB (List.replicate m 48 ++ l) 48 = Lib.trimLeftB l 48 := by
  induction m with
  | zero => rfl
  | succ m ih =>
    rw [List.replicate_succ, List.cons_append]
    unfold Lib.trimLeftB at *
    rw [List.dropWhile_cons_of_pos (by decide), ih]
theorem textOf_more (m N : Nat) (x : Int) (h0 : 0 ≤ x) (h : x < 10 ^ N) : textOf (N + m) x = textOf N x := by
  unfold textOf
  rw [digs_big m N x h0 h, List.reverse_append, List.map_append, List.reverse_replicate, List.map_replicate]
  rw [show UInt8.ofNat (48 : Int).toNat = 48 from rfl, trimLeft_zeros]
/-- a number's text is one, with however many digits it is begun -/
theorem textOf_eq (M N : Nat) (x : Int) (h0 : 0 ≤ x) (hM : x < 10 ^ M) (hN : x < 10 ^ N) : textOf M x = textOf N x := by
  rcases Nat.le_total M N with h | h
  · obtain ⟨k, rfl⟩ := Nat.le.dest h
    exact (textOf_more k M x h0 hM).symm
  · obtain ⟨k, rfl⟩ := Nat.le.dest h
    exact textOf_more k N x h0 hN
theorem text_awake : textOf 10 4294967296 = [52, 50, 57, 52, 57, 54, 55, 50, 57, 54] := by decide +kernel

theorem C_lit (W : World) (xs : List Int) (hm : xs.length ≤ 9223372036854775807) : Kd.C (Kd.int .u32) (W.alloc (.cells (nums .u32 xs).toArray 74)) (some ⟨W.heap.size, 0, none⟩) xs.length xs := by
  refine Kd.C_of_reads (d := 0) ⟨rfl, hm, fun _ => ⟨_, rfl, fun j hj => ?_⟩⟩
  rw [add_plain, cell_of_row _ W.heap.size j _ 74 (0, 0) (heap_alloc_new W _)]
  simp [nums, List.getElem?_eq_getElem hj, List.getD_eq_getElem?_getD, rdOf]
theorem C_litg (W : World) (g : Nat) (xs : List Int) (hg : g = W.heap.size) (hm : xs.length ≤ 9223372036854775807) : Kd.C (Kd.int .u32) (W.alloc (.cells (nums .u32 xs).toArray 74)) (some ⟨g, 0, none⟩) xs.length xs := by
  subst hg
  exact C_lit W xs hm
theorem limbs_lit {xs : List Int} (h : xs.all (fun x => decide (0 ≤ x ∧ x < 4294967296)) = true) : Limbs xs := by
  intro x hx
  have := List.all_eq_true.1 h x hx
  simpa using this
set_option maxHeartbeats 4000000 in
set_option maxRecDepth 100000 in
theorem awake2_calls (w : World) : Calls Tryd.prog 47 #[] w fun e w' => e = .returned (.bool true) ∧ Below w.heap.size w w' := by
  go_enter Tryd.func47, Tryd.ntmps47
  go_wp2_with fail
  refine (parse_calls _ _ (by decide) (by decide) (by unfold Digits; decide) (.inr (by decide))).mono ?_
  rintro e w1 ⟨v, r, rfl, hf, hn, hv, hb⟩
  have hr : r = [0, 1] := Nrm.inj hn ⟨limbs_lit rfl, by simp [Tip]⟩ (by rw [hv]; exact parse_awake)
  subst hr
  obtain ⟨A1, c1, rfl⟩ := Kd.V_slice hf
  have HF := Aside0.mk hf
  have HB := Aside0.mk hb
  clear hf hn hv hb
  go_wp2_with fail
  refine (nats_true A1 _ c1 2 [0, 1] _ (Kd.C_alloc (Kd.V_reads' HF.out).2.2 _) (C_lit w1 [0, 1] (by decide))).mono ?_
  rintro e w2 ⟨rfl, hw2⟩
  have HB2 := Aside0.mk (below_step HB.out (below_step (below_alloc (Below.refl _ _) (.cells #[.int .u32 0, .int .u32 1] 74)) hw2.below))
  clear hw2
  go_wp2_with fail
  refine (text_calls _ 2 [0, 1] _ (C_lit w2 [0, 1] (by decide)) (by decide) (limbs_lit rfl) (by decide)).mono ?_
  rintro e w3 ⟨s, N, rfl, hN, hs, hb⟩
  have hs2 : s.toList = [52, 50, 57, 52, 57, 54, 55, 50, 57, 54] := by
    rw [ByteArray.toList_eq, hs, ← text_awake]
    exact textOf_eq _ _ _ (by decide) hN (by decide)
  have HB3 := Aside0.mk (below_step (below_alloc HB2.out (.cells #[.int .u32 0, .int .u32 1] 74)) hb)
  clear hN hs hb
  go_wp2_with fail
  refine (mul_calls _ _ 1 1 [3] [5] _ (Kd.C_alloc (C_lit w3 [3] (by decide)) _) (by decide) (C_litg _ _ [5] (by simp) (by decide)) (by decide) (limbs_lit rfl) (limbs_lit rfl) (by decide)).mono ?_
  rintro e w4 ⟨v, r, rfl, hf, hn, hv, hb⟩
  have hr : r = [15] := Nrm.inj hn ⟨limbs_lit rfl, by simp [Tip]⟩ (by rw [hv]; decide)
  subst hr
  obtain ⟨A4, c4, rfl⟩ := Kd.V_slice hf
  have HF4 := Aside0.mk hf
  have HB4 := Aside0.mk (below_step (below_alloc (below_alloc HB3.out (.cells #[.int .u32 3] 74)) (.cells #[.int .u32 5] 74)) hb)
  clear hf hn hv hb hs2
  go_wp2_with fail
  refine (nats_true A4 _ c4 1 [15] _ (Kd.C_alloc (Kd.V_reads' HF4.out).2.2 _) (C_lit w4 [15] (by decide))).mono ?_
  rintro e w5 ⟨rfl, hw5⟩
  have HB5 := Aside0.mk (below_step (below_alloc HB4.out (.cells #[.int .u32 15] 74)) hw5.below)
  clear hw5
  go_wp2_with fail
  go_ret
  exact ⟨rfl, HB5.out⟩
end Go.Proofs.YtmnmmalffpimeaaDoor
