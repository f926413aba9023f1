/- What nat.norm and bits.Add32 compute: the same slice, cut to what is without limbs 0 at the end; a sum and its carry. -/
import Derived.Test.YtmnmmalffpimeaaDoorMem
import Derived.IntWalk
import Derived.Outline
namespace Go.Proofs.YtmnmmalffpimeaaDoor
open Go.RowKit Go.Proofs.YtmnmmalffpimeaaDoorW.PrintWords Go.Proofs.YtmnmmalffpimeaaDoorW.PrintLast Go.Proofs.YtmnmmalffpimeaaDoorW.PrintMore
set_option linter.unusedVariables false
set_option linter.unusedSimpArgs false

theorem info_u32 : (Tryd.prog.info? 74).map (fun i => (i.zero, i.size, i.bytes)) = some (some (.int .u32 0), 1, 4) := by kernel_rfl

def sliceLen : Value → Nat
  | .slice _ n _ => n
  | _ => 0

set_option maxHeartbeats 2000000 in
set_option maxRecDepth 100000 in
theorem norm_calls (A : Option Addr) (c : Nat) (l : List Int) (w : World) (hr : Kd.C (Kd.int .u32) w A l.length l) (hc : l.length ≤ c) :
    Calls Tryd.prog 101 #[.slice A l.length c] w fun e w' => e = .returned (.slice A (trim l).length c) ∧ w = w' := by
  have HR := Aside0.mk hr
  have HC := Aside0.mk hc
  have hlen : l.length ≤ 9223372036854775807 := Kd.C_max hr
  clear hr hc
  go_enter Tryd.func101, Tryd.ntmps101
  go_wp2
  go_loop [0] (fun v => ∃ k : Nat, v = .slice A k c ∧ k ≤ l.length ∧ Aside0 (trim (l.take k) = trim l)) (fun v => sliceLen v)
  case atStart => exact ⟨l.length, rfl, Nat.le_refl _, ⟨by rw [List.take_length]⟩⟩
  case round =>
    obtain ⟨k, rfl, hk, HT⟩ := hrel
    cases k with
    | zero =>
      go_wp2
      go_ret
      exact ⟨by rw [← HT.out]; rfl, rfl⟩
    | succ k =>
      obtain ⟨ad, e, hx⟩ := Kd.at_int HR.out (k : Int) (by omega) (by omega)
      cases e
      simp only [Int.toNat_natCast] at hx
      have hck : k + 1 ≤ c := by have := HC.out; omega
      by_cases h0 : rd l (k : Int) = 0
      · have HZ := Aside0.mk h0
        have h0b : (rd l (k : Int) == 0) = true := beq_iff_eq.mpr h0
        clear h0
        go_wp2
        go_round
        case rel => exact ⟨k, rfl, by omega, ⟨by rw [← HT.out]; exact (trim_step (by omega) (by have := HZ.out; simpa [rd] using this)).symm⟩⟩
        case measure => simp [sliceLen]
      · have HZ := Aside0.mk h0
        have h0b : (rd l (k : Int) == 0) = false := beq_eq_false_iff_ne.mpr h0
        clear h0
        go_wp2
        go_ret
        refine ⟨?_, rfl⟩
        have h1 := trim_done (l := l) (k := k) (by omega) (by have := HZ.out; simpa [rd] using this)
        rw [← HT.out, h1, List.length_take, Nat.min_eq_left hk]
        rfl

set_option maxHeartbeats 2000000 in
set_option maxRecDepth 100000 in
theorem add32_calls (x y c : Int) (w : World) (hx0 : 0 ≤ x) (hx : x < 4294967296) (hy0 : 0 ≤ y) (hy : y < 4294967296) (hc0 : 0 ≤ c) (hc : c ≤ 1) :
    Calls Tryd.prog 106 #[.int .u32 x, .int .u32 y, .int .u32 c] w fun e w' => e = .returned (.tuple #[.int .u32 ((x + y + c) % 4294967296), .int .u32 ((x + y + c) / 4294967296)]) ∧ w = w' := by
  have hm : (x + y + c) / 4294967296 % 4294967296 = (x + y + c) / 4294967296 := by omega
  have HM := Aside0.mk hm
  clear hm
  go_enter Tryd.func106, Tryd.ntmps106
  go_wp2
  go_ret2
  exact ⟨by first | rfl | (rw [HM.out]) | (simp [HM.out]), rfl⟩
end Go.Proofs.YtmnmmalffpimeaaDoor
