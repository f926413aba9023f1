/- What nat.Parse computes of a text of digits: the number that it writes. -/
import Derived.Test.YtmnmmalffpimeaaDoorOver
import Derived.Deep.RegionHeld3
namespace Go.Proofs.YtmnmmalffpimeaaDoor
open Go.RowKit Go.Proofs.YtmnmmalffpimeaaDoorW.PrintWords Go.Proofs.YtmnmmalffpimeaaDoorW.PrintLast Go.Proofs.YtmnmmalffpimeaaDoorW.PrintMore
set_option linter.unusedVariables false
set_option linter.unusedSimpArgs false

theorem C_one {w : World} {ad : Addr} {x : Int} (h : w.cell? ad = some (.int .u32 x)) : Kd.C (Kd.int .u32) w (some ad) [x].length [x] := by
  refine Kd.C_of_reads (d := 0) ⟨rfl, by simp, fun _ => ⟨ad, rfl, fun j hj => ?_⟩⟩
  have : j = 0 := by simpa using hj
  subst this
  simpa [Addr.add] using h
theorem mul_one_calls (A0 : Option Addr) (ad : Addr) (c0 : Nat) (l0 : List Int) (x : Int) (w : World) (hr0 : Kd.C (Kd.int .u32) w A0 l0.length l0) (hc0 : l0.length ≤ c0) (hx : w.cell? ad = some (.int .u32 x))
    (hL0 : Limbs l0) (hx0 : 0 ≤ x ∧ x < 4294967296) (hm : l0.length + 1 ≤ 70368744177664) :
    Calls Tryd.prog 52 #[.slice A0 l0.length c0, .slice (some ad) 1 1] w (NatRes w (val l0 * x)) := by
  have h := mul_calls A0 (some ad) c0 1 l0 [x] w hr0 hc0 (C_one hx) (by simp) hL0 (Limbs.cons hx0 Limbs.nil) (by simpa using hm)
  simpa [val] using h
theorem add_one_calls (A0 : Option Addr) (ad : Addr) (c0 : Nat) (l0 : List Int) (x : Int) (w : World) (hr0 : Kd.C (Kd.int .u32) w A0 l0.length l0) (hc0 : l0.length ≤ c0) (hx : w.cell? ad = some (.int .u32 x))
    (hL0 : Limbs l0) (hx0 : 0 ≤ x ∧ x < 4294967296) (hm : l0.length + 1 ≤ 70368744177664) :
    Calls Tryd.prog 51 #[.slice A0 l0.length c0, .slice (some ad) 1 1] w (NatRes w (val l0 + x)) := by
  have h := add_calls A0 (some ad) c0 1 l0 [x] w hr0 hc0 (C_one hx) (by simp) hL0 (Limbs.cons hx0 Limbs.nil) hm (by simp)
  simpa [val] using h

theorem nat_step {w W w2 : World} {v : Value} {r : List Int} (hB : Below w.heap.size w W) (hf : FrN W.heap.size w2 v r) (hb : Below W.heap.size W w2) : FrN w.heap.size w2 v r ∧ Below w.heap.size w w2 :=
  ⟨hf.lower hB.size, below_step hB hb⟩
/-- the number that digits write -/
def decv (l : List UInt8) : Int := l.foldl (fun a b => 10 * a + ((b.toNat : Int) - 48)) 0
theorem decv_snoc (l : List UInt8) (b : UInt8) : decv (l ++ [b]) = 10 * decv l + ((b.toNat : Int) - 48) := by simp [decv]
def Digits (l : List UInt8) : Prop := ∀ b ∈ l, 48 ≤ b.toNat ∧ b.toNat ≤ 57
theorem decv_lt : ∀ (n : Nat) (l : List UInt8), l.length = n → Digits l → 0 ≤ decv l ∧ decv l < 4294967296 ^ n
  | 0, l, hl, _ => by
    rw [List.length_eq_zero_iff.1 hl]; simp [decv]
  | n + 1, l, hl, h => by
    obtain ⟨m, b, rfl⟩ : ∃ m b, l = m ++ [b] := ⟨l.dropLast, l.getLast (by intro e; subst e; simp at hl), (List.dropLast_concat_getLast _).symm⟩
    have ih := decv_lt n m (by simpa using hl) (fun x hx => h x (by simp [hx]))
    have hb := h b (by simp)
    rw [decv_snoc, Int.pow_succ]
    omega
theorem bytes_get (s : ByteArray) (i : Nat) (h : i < s.size) : s.data.toList[i]'(by simpa using h) = s[i] := rfl
theorem bytes_take_succ (s : ByteArray) (k : Nat) (h : k < s.size) : s.data.toList.take (k + 1) = s.data.toList.take k ++ [s[k]] := by
  rw [List.take_succ_eq_append_getElem (by simpa using h)]; rfl

/-- what nat.Parse leaves when all is well -/
def ParseRes (w : World) (x : Int) (e : Ending) (w' : World) : Prop := ∃ v r, e = .returned (.tuple #[v, .nilIface]) ∧ FrN w.heap.size w' v r ∧ Nrm r ∧ val r = x ∧ Below w.heap.size w w'
set_option maxHeartbeats 8000000 in
set_option maxRecDepth 100000 in
theorem parse_calls (s : ByteArray) (w : World) (h1 : s.size ≤ 1200) (h0 : 0 < s.size) (hd : Digits s.data.toList) (hz : s.size = 1 ∨ (s.data.toList.getD 0 0).toNat ≠ 48) :
    Calls Tryd.prog 102 #[.string s] w (ParseRes w (decv s.data.toList)) := by
  have HDg := Aside0.mk hd
  have HZ := Aside0.mk hz
  have hne : s.toList ≠ [] := by
    rw [ByteArray.toList_eq]
    intro e
    have h2 : s.data.toList.length = 0 := by rw [e]; rfl
    have h3 : s.data.toList.length = s.size := by simp
    omega
  have hem : s.toList.isEmpty = false := by simpa using hne
  have hem2 : (s.toList == []) = false := by simpa using hne
  have hsz : decide (1200 < (s.size : Int)) = false := decide_eq_false (by omega)
  clear hne
  clear hd hz
  go_enter Tryd.func102, Tryd.ntmps102
  go_wp2_with fail
  go_loopg [4, 17] (s.size) (fun kq v4 v17 w' => ∃ (i : Nat) (A : Option Addr) (c : Nat) (l : List Int), v4 = .slice A l.length c ∧ v17 = .int .i64 i ∧ Aside0 (kq + i = s.size) ∧ Aside0 (FrN w.heap.size w' (.slice A l.length c) l) ∧ Aside0 (Nrm l ∧ val l = decv (s.data.toList.take i)) ∧ Aside0 (Below w.heap.size w w'))
  case atStart => exact ⟨0, none, 0, [], rfl, rfl, ⟨rfl⟩, ⟨FrN.nil _ _⟩, ⟨⟨Limbs.nil, trivial⟩, rfl⟩, ⟨Below.refl _ _⟩⟩
  case round =>
    obtain ⟨i, A, c, l, rfl, rfl, HK, HF, HV, HB⟩ := hrel
    by_cases hlt : i < s.size
    · have hb := HDg.out s[i] (by rw [← bytes_get s i hlt]; exact List.getElem_mem _)
      have hlo : 48 ≤ ((s[i]).toNat : Int) := by omega
      have hhi : ((s[i]).toNat : Int) ≤ 57 := by omega
      have hib : i < 9223372036854775807 := by omega
      clear hb
      have HC4 : Aside0 (Kd.C (Kd.int .u32) wr A l.length l ∧ l.length ≤ c) := ⟨(Kd.V_reads' HF.out).2.2, (Kd.V_reads' HF.out).2.1⟩
      have HLEN : Aside0 (l.length ≤ i) := ⟨by
        have h := decv_lt i (s.data.toList.take i) (by simp; omega) (fun b hb => HDg.out b (List.mem_of_mem_take hb))
        exact nrm_length HV.out.1 (by rw [HV.out.2]; exact h.2)⟩
      have hw1 : IntKind.u8.wrap ((s[i].toNat : Int) - 48) = (s[i].toNat : Int) - 48 := by rw [IntKind.wrap_u8]; omega
      have hw2 : IntKind.u32.wrap ((s[i].toNat : Int) - 48) = (s[i].toNat : Int) - 48 := by rw [IntKind.wrap_u32]; omega
      have HSN := Aside0.mk (bytes_take_succ s i hlt)
      have HDB : Aside0 (0 ≤ (s[i].toNat : Int) - 48 ∧ (s[i].toNat : Int) - 48 < 4294967296) := ⟨by omega⟩
      have hi0 : (0 : Int) ≤ (i : Int) := by omega
      have hi1 : (i : Int) < (s.size : Int) := by omega
      have HLL : Aside0 (∀ r2, Nrm r2 → val r2 = val l * 10 → r2.length ≤ i + 1) := ⟨fun r2 h2 hv2 => by
        have h := decv_lt i (s.data.toList.take i) (by simp; omega) (fun b hb => HDg.out b (List.mem_of_mem_take hb))
        refine nrm_length h2 ?_
        rw [hv2, HV.out.2, Int.pow_succ]
        omega⟩
      obtain ⟨k1, rfl⟩ : ∃ k1, gk = k1 + 1 := ⟨gk - 1, by have := HK.out; omega⟩
      go_wp2_with fail
      go_region_held3 (fun _ => True) (trivial) ((first
        | (go_at_call 52; (refine (mul_one_calls A _ c l 10 _ (by exact Kd.C_below HC4.out.1 (by repeat (first | exact Below.refl _ _ | apply below_alloc | apply below_drew | apply pw_below_drewN))) HC4.out.2 (by simp) HV.out.1.1 (by decide) (by have := HLEN.out; omega)).mono ?_); rintro e w2 ⟨v2, r2, rfl, hf2, hn2, hv2, hb2⟩; obtain ⟨A2, c2, rfl⟩ := Kd.V_slice hf2; have HF2 := Aside0.mk (nat_step (by repeat (first | exact HB.out | apply below_alloc | apply below_drew | apply pw_below_drewN)) hf2 hb2); have HN2 := Aside0.mk hn2; have HV2 := Aside0.mk hv2; have HB2 := Aside0.mk hb2; clear hf2 hn2 hv2 hb2)
        | (go_at_call 51; (refine (add_one_calls A2 _ c2 r2 ((s[i].toNat : Int) - 48) _ (by exact Kd.C_below (Kd.V_reads' HF2.out.1).2.2 (by repeat (first | exact Below.refl _ _ | apply below_alloc | apply below_drew | apply pw_below_drewN))) (Kd.V_reads' HF2.out.1).2.1 (by first | (simp; done) | (exact (HB2.out.cell (by simp <;> omega)).trans (by simp))) HN2.out.1 HDB.out (by have := HLL.out r2 HN2.out HV2.out; omega)).mono ?_); rintro e w3 ⟨v3, r3, rfl, hf3, hn3, hv3, hb3⟩; obtain ⟨A3, c3, rfl⟩ := Kd.V_slice hf3; have HF3 := Aside0.mk (nat_step (by repeat (first | exact HF2.out.2 | apply below_alloc | apply below_drew | apply pw_below_drewN)) hf3 hb3); have HN3 := Aside0.mk hn3; have HV3 := Aside0.mk hv3; clear hf3 hn3 hv3 hb3)))
      all_goals
        go_wp2_with fail
        go_roundg k1
        case measure => omega
        case rel => exact ⟨i + 1, A3, c3, r3, rfl, by go_num, ⟨by have := HK.out; omega⟩, ⟨HF3.out.1⟩, ⟨HN3.out, by rw [HV3.out, HV2.out, HV.out.2, HSN.out, decv_snoc]; omega⟩, ⟨HF3.out.2⟩⟩
    · obtain rfl : i = s.size := by have := HK.out; omega
      have HVV : Aside0 (val l = decv s.data.toList) := ⟨by rw [HV.out.2, List.take_of_length_le (by simp)]⟩
      by_cases h1s : s.size = 1
      · have hd1 : decide (1 < (s.size : Int)) = false := decide_eq_false (by omega)
        clear h1s
        go_wp2_with fail
        go_ret2
        exact ⟨_, l, rfl, HF.out, HV.out.1, HVV.out, HB.out⟩
      · have hd1 : decide (1 < (s.size : Int)) = true := decide_eq_true (by omega)
        have hz0 : ((s[0].toNat : Int) == 48) = false := by
          rw [beq_eq_false_iff_ne]
          have h3 := HZ.out.resolve_left h1s
          have h4 : s.data.toList.getD 0 0 = s[0] := by
            rw [List.getD_eq_getElem?_getD, List.getElem?_eq_getElem (by simpa using h0), ← bytes_get s 0 h0]; rfl
          rw [h4] at h3
          omega
        have hzz : (0 : Int) < (s.size : Int) := by omega
        clear h1s
        go_wp2_with fail
        go_ret2
        exact ⟨_, l, rfl, HF.out, HV.out.1, HVV.out, HB.out⟩
end Go.Proofs.YtmnmmalffpimeaaDoor
