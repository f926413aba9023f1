/- edenlaw02's long and normal; a row of slices that lies in a new block. -/
import Derived.Test.YtmnmmalffpimeaaDoorAwake2
namespace Go.Proofs.YtmnmmalffpimeaaDoor
open Go.RowKit Go.Proofs.YtmnmmalffpimeaaDoorW.PrintWords Go.Proofs.YtmnmmalffpimeaaDoorW.PrintLast Go.Proofs.YtmnmmalffpimeaaDoorW.PrintMore
set_option linter.unusedVariables false
set_option linter.unusedSimpArgs false

abbrev KN : Kd (List Int) := Kd.slice 74 (Kd.int .u32)
theorem atRow {α : Type} {d : Kd α} {e : Nat} {w : World} {A : Option Addr} {xs : List (List α)} (h : Kd.C (Kd.slice e d) w A xs.length xs) (i : Nat) (hi : i < xs.length) :
    ∃ ad A0 c0, A = some ad ∧ w.cell? (ad.add i) = some (.slice A0 xs[i].length c0) ∧ xs[i].length ≤ c0 ∧ Kd.C d w A0 xs[i].length xs[i] := by
  obtain ⟨ad, c, e1, hc, hK, hcell⟩ := Kd.C_get h [] (i : Int) (by omega) (by omega)
  rw [Int.toNat_natCast] at hK hcell
  have hg : xs.getD i [] = xs[i] := by rw [List.getD_eq_getElem?_getD, List.getElem?_eq_getElem hi]; rfl
  rw [hg] at hK
  obtain ⟨A0, c0, rfl, hl, hC⟩ := hK
  refine ⟨ad, A0, c0, e1, ?_, hl, hC⟩
  have h1 := hcell 0 _ rfl
  rw [show i * (Kd.slice e d).sz + 0 = i from by show i * 1 + 0 = i; omega] at h1
  exact h1

set_option maxHeartbeats 2000000 in
set_option maxRecDepth 100000 in
theorem long_calls (A : Option Addr) (c : Nat) (xs : List (List Int)) (w : World) (hr : Kd.C KN w A xs.length xs) :
    Calls Tryd.prog 48 #[.slice A xs.length c] w fun e w' => e = .returned (.bool (xs.any fun l => decide (400 < l.length))) ∧ w = w' := by
  have HR := Aside0.mk hr
  have hm := Kd.C_max hr
  clear hr
  go_enter Tryd.func48, Tryd.ntmps48
  go_wp2_with fail
  go_loop [3] (fun v3 => ∃ i : Nat, v3 = .int .i64 i ∧ i ≤ xs.length ∧ Aside0 (∀ j (h : j < xs.length), j < i → xs[j].length ≤ 400)) (fun v3 => xs.length - (intOf v3).toNat)
  case atStart => exact ⟨0, rfl, Nat.zero_le _, ⟨fun j _ h => by omega⟩⟩
  case round =>
    obtain ⟨i, rfl, hi, HI⟩ := hrel
    by_cases hlt : i < xs.length
    · obtain ⟨ad, A0, c0, e, hx, hl, hC⟩ := atRow HR.out i hlt
      subst e
      obtain ⟨n, hn⟩ : ∃ n, xs[i].length = n := ⟨_, rfl⟩
      rw [hn] at hx
      have HN := Aside0.mk hn
      clear hl hC hn
      by_cases h4 : 400 < n
      · have hd : decide (400 < (n : Int)) = true := decide_eq_true (by omega)
        have HH := Aside0.mk h4
        clear h4
        go_wp2_with fail
        go_ret
        refine ⟨?_, rfl⟩
        rw [List.any_eq_true.2 ⟨xs[i], List.getElem_mem hlt, by rw [HN.out]; exact decide_eq_true HH.out⟩]
        rfl
      · have hd : decide (400 < (n : Int)) = false := decide_eq_false (by omega)
        have HH := Aside0.mk h4
        clear h4
        go_wp2_with fail
        go_round
        case rel => exact ⟨i + 1, by go_num, by omega, ⟨fun j h hj => by
          by_cases e : j = i
          · subst e; rw [HN.out]; exact Nat.not_lt.1 HH.out
          · exact HI.out j h (by omega)⟩⟩
        case measure => simp [intOf]; omega
    · go_wp2_with fail
      go_ret
      refine ⟨?_, rfl⟩
      have hf : (xs.any fun l => decide (400 < l.length)) = false := by
        rw [List.any_eq_false]
        intro l hl
        obtain ⟨j, hj, rfl⟩ := List.mem_iff_getElem.1 hl
        have := HI.out j hj (by omega)
        simp; omega
      rw [hf]
      rfl

theorem tip_last : ∀ {l : List Int}, Tip l → l ≠ [] → l.getD (l.length - 1) 0 ≠ 0
  | [], _, h => absurd rfl h
  | [x], h, _ => by simpa [Tip] using h
  | x :: y :: ys, h, _ => by
    have ih := tip_last (l := y :: ys) h (by simp)
    simpa using ih
set_option maxHeartbeats 1000000 in
set_option maxRecDepth 100000 in
theorem normal_calls (A : Option Addr) (c : Nat) (l : List Int) (w : World) (hr : Kd.C (Kd.int .u32) w A l.length l) (ht : Tip l) :
    Calls Tryd.prog 50 #[.slice A l.length c] w fun e w' => e = .returned (.bool true) ∧ w = w' := by
  by_cases h0 : l = []
  · subst h0
    go_enter Tryd.func50, Tryd.ntmps50
    go_wp2_with fail
    go_ret
    exact ⟨rfl, rfl⟩
  · have hp : 0 < l.length := by
      rcases Nat.eq_zero_or_pos l.length with h | h
      · exact absurd (List.length_eq_zero_iff.1 h) h0
      · exact h
    have hm := Kd.C_max hr
    obtain ⟨n, hn⟩ : ∃ n, l.length = n + 1 := ⟨l.length - 1, by omega⟩
    have hl := tip_last ht h0
    rw [hn, Nat.add_sub_cancel, ← rd_nat] at hl
    have hlb : (rd l (n : Int) != 0) = true := by rw [bne_iff_ne]; exact hl
    have hlb2 : (rd l (n : Int) == 0) = false := by rw [beq_eq_false_iff_ne]; exact hl
    obtain ⟨ad, e, hx⟩ := Kd.at_int hr (n : Int) (by omega) (by omega)
    subst e
    rw [Int.toNat_natCast] at hx
    have HNN := Aside0.mk hn
    rw [hn] at hm ⊢
    clear hn hl h0 ht hr hp
    go_enter Tryd.func50, Tryd.ntmps50
    go_wp2_with fail
    go_ret
    exact ⟨rfl, rfl⟩
end Go.Proofs.YtmnmmalffpimeaaDoor
