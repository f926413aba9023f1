/- edenlaw16.MatOnes returns true whatever number is handed in; no condition beyond the row's own. (Part 2 of 3: Text, Awake2, Long, Frame, Errs, RowMem, Chk, MatMem, Zero, One, Unit, Same, MatMath, Sub.) -/
import Derived.OwnWalk
import Derived.Test.YtmnmmalffpimeaaDoorShelf
import Derived.Test.YtmnmmalffpimeaaDoorRows
import Derived.Below
import Derived.ChangeSame
import Derived.ChangeVars
import Derived.JoinedOf
import Derived.WideKeyArgs
import Derived.Stop.LaidErr
import Derived.LaidLaws
import Derived.LaidHandle
import Derived.LaidMore
import Derived.OpenShut
import Derived.ProofKit
import Derived.Stop.Joined
import GoSem.PinnedTables
import Derived.Laws.BitsAllLaws
import Derived.Test.YtmnmmalffpimeaaDoorBMatOnes1
/- What nat.Text computes: the number's decimal digits. -/
namespace Go.Proofs.YtmnmmalffpimeaaDoor
open Go.RowKit Go.Proofs.YtmnmmalffpimeaaDoorW.PrintWords Go.Proofs.YtmnmmalffpimeaaDoorW.PrintLast Go.Proofs.YtmnmmalffpimeaaDoorW.PrintMore
set_option linter.unusedVariables false
set_option linter.unusedSimpArgs false

theorem info_u8 : (Tryd.prog.info? 5).map (fun i => (i.zero, i.size, i.bytes)) = some (some (.int .u8 0), 1, 1) := by kernel_rfl

/-- the n lowest decimal digits as letters, the lowest first -/
def digs : Nat → Int → List Int
  | 0, _ => []
  | n + 1, x => (48 + x % 10) :: digs n (x / 10)
theorem digs_length : ∀ (n : Nat) (x : Int), (digs n x).length = n
  | 0, _ => rfl
  | n + 1, x => by simp [digs, digs_length n]
theorem ediv2 (a b c : Int) (hb : 0 ≤ b) : a / b / c = a / (b * c) := by
  rw [Int.ediv_ediv, if_neg (by omega)]; omega
theorem ediv_pow_succ (x : Int) (n : Nat) : x / 10 / 10 ^ n = x / 10 ^ (n + 1) := by
  rw [ediv2 _ _ _ (by decide), Int.pow_succ, Int.mul_comm]
theorem digs_add : ∀ (m n : Nat) (x : Int), digs (m + n) x = digs m x ++ digs n (x / 10 ^ m)
  | 0, n, x => by simp [digs]
  | m + 1, n, x => by
    rw [show m + 1 + n = (m + n) + 1 by omega]
    simp only [digs, List.cons_append]
    rw [digs_add m n (x / 10), ediv_pow_succ]
theorem digs_mod : ∀ (n : Nat) (x : Int), 0 ≤ x → digs n (x % 10 ^ n) = digs n x
  | 0, _, _ => rfl
  | n + 1, x, hx => by
    simp only [digs]
    have hp : (0 : Int) < 10 ^ n := Int.pow_pos (by decide)
    have e1 : x % 10 ^ (n + 1) % 10 = x % 10 := by
      rw [Int.pow_succ, Int.emod_emod_of_dvd _ (Int.dvd_mul_left _ _)]
    have e2 : x % 10 ^ (n + 1) / 10 = x / 10 % 10 ^ n := by
      rw [Int.pow_succ, Int.mul_comm]
      have h1 := Int.mul_ediv_add_emod x (10 * 10 ^ n)
      have h2 := ediv2 x 10 (10 ^ n) (by decide)
      have h3 := Int.mul_ediv_add_emod (x / 10) (10 ^ n)
      rw [h2] at h3
      generalize x / (10 * 10 ^ n) = q at *
      generalize (10 : Int) ^ n = p at *
      have h4 : x % (10 * p) = x - 10 * (p * q) := by
        have : 10 * p * q = 10 * (p * q) := by grind
        omega
      rw [h4]
      omega
    rw [e1, e2, digs_mod n (x / 10) (by omega)]
theorem digs_step (j : Nat) (x : Int) : digs (j + 1) x = digs j x ++ [48 + x / 10 ^ j % 10] := by
  rw [digs_add j 1 x]; rfl
theorem digs_bd : ∀ (n : Nat) (x y : Int), y ∈ digs n x → 48 ≤ y ∧ y ≤ 57
  | 0, _, _, h => by cases h
  | n + 1, x, y, h => by
    rcases List.mem_cons.1 h with rfl | h
    · omega
    · exact digs_bd n _ y h

/-- after some nines of digits -/
def TextInv (l0 : List Int) (kq : Nat) (D r : List Int) : Prop :=
  Nrm r ∧ val r < 1000000000 ^ kq ∧ D.length + 9 * kq = 18 * l0.length ∧ D = digs D.length (val l0) ∧ val r = val l0 / 10 ^ D.length
theorem TextInv.start {l0 : List Int} (h : Limbs l0) : TextInv l0 (2 * l0.length) [] (trim l0) := by
  refine ⟨trim_nrm h, ?_, by simp; omega, rfl, by simp [trim_val]⟩
  rw [trim_val, Int.pow_mul]
  refine Int.lt_of_lt_of_le (val_lt h) ?_
  generalize l0.length = n
  induction n with
  | zero => decide
  | succ n ih =>
    rw [Int.pow_succ, Int.pow_succ]
    have h1 : (0 : Int) < 4294967296 ^ n := Int.pow_pos (by decide)
    have h2 : (4294967296 : Int) ≤ 1000000000 ^ 2 := by decide
    exact Int.mul_le_mul ih h2 (by decide) (by have : (0 : Int) < (1000000000 ^ 2) ^ n := Int.pow_pos (by decide); omega)
theorem TextInv.step {l0 D r r2 : List Int} {kq : Nat} (h : TextInv l0 (kq + 1) D r) (h0 : 0 ≤ val l0) (h2 : Nrm r2) (hv : val r2 = val r / 1000000000) :
    TextInv l0 kq (D ++ digs 9 (val r % 1000000000)) r2 := by
  obtain ⟨a1, a2, a3, a4, a5⟩ := h
  have hn : 0 ≤ val r := val_nonneg a1.1
  refine ⟨h2, ?_, ?_, ?_, ?_⟩
  · rw [hv, Int.ediv_lt_iff_lt_mul (by decide)]
    rw [Int.pow_succ] at a2
    omega
  · rw [List.length_append, digs_length]; omega
  · rw [List.length_append, digs_length, digs_add, ← a4, ← a5]
    congr 1
    exact digs_mod 9 (val r) hn
  · rw [List.length_append, digs_length, hv, a5, Int.pow_add, ediv2 _ _ _ (Int.le_of_lt (Int.pow_pos (by decide)))]
    rfl
theorem TextInv.zero {l0 D r : List Int} (h : TextInv l0 0 D r) : r = [] := by
  have h1 := val_nonneg h.1.1
  have h2 := h.2.1
  exact Nrm.zero h.1 (by simp at h2; omega)
theorem pow_le_ (n : Nat) : (1000000000 : Int) ^ n ≤ 4294967296 ^ n := by
  induction n with
  | zero => decide
  | succ n ih =>
    rw [Int.pow_succ, Int.pow_succ]
    exact Int.mul_le_mul ih (by decide) (by decide) (by have : (0 : Int) < 4294967296 ^ n := Int.pow_pos (by decide); omega)
theorem own_ne_far {w w1 : World} {lo hi : Nat} {v : Value} {t : Nat} {l : List Int} {row : Option Nat} (h : Kd.V (Kd.int .u32) t w 0 (fun k => lo ≤ k ∧ k < hi) v l) (hg : w.grownBy w1 row) (hr : ∀ k, row = some k → k < lo ∨ hi ≤ k) : Kd.V (Kd.int .u32) t w1 0 (fun k => lo ≤ k ∧ k < hi) v l :=
  Kd.V_grown h hg (fun k hk e => by
    rcases hr k e.symm with h1 | h1 <;> omega)

def textOf (N : Nat) (x : Int) : List UInt8 := let t := Lib.trimLeftB ((digs N x).reverse.map fun n => UInt8.ofNat n.toNat) 48; if t = [] then [48] else t
/-- what nat.Text leaves -/
def TextRes (w : World) (x : Int) (e : Ending) (w' : World) : Prop := ∃ s N, e = .returned (.string s) ∧ x < 10 ^ N ∧ s.data.toList = textOf N x ∧ Below w.heap.size w w'
set_option maxHeartbeats 8000000 in
set_option maxRecDepth 100000 in
theorem text_calls (A0 : Option Addr) (c0 : Nat) (l0 : List Int) (w : World) (hr0 : Kd.C (Kd.int .u32) w A0 l0.length l0) (hc0 : l0.length ≤ c0) (hL0 : Limbs l0) (hm : l0.length ≤ 1000000000) :
    Calls Tryd.prog 103 #[.slice A0 l0.length c0] w (TextRes w (val l0)) := by
  have HR0 := Aside0.mk hr0
  have HC0 := Aside0.mk hc0
  have HL0 := Aside0.mk hL0
  have HM := Aside0.mk hm
  have HB := Aside0.mk (Below.refl w.heap.size w)
  clear hr0 hc0 hL0 hm
  go_enter Tryd.func103, Tryd.ntmps103
  go_wp2_with (go_at_call 101; refine (norm_calls A0 c0 l0 _ HR0.out HC0.out).mono ?_; rintro e w' ⟨rfl, rfl⟩)
  go_loopg [0, 3] (2 * l0.length) (fun kq v0 v3 w' => ∃ (A : Option Addr) (c : Nat) (r D : List Int) (lo hi : Nat), v0 = .slice A r.length c ∧ Aside0 (TextInv l0 kq D r) ∧ Aside0 (Kd.V (Kd.int .u32) 74 w' 0 (fun k => lo ≤ k ∧ k < hi) (.slice A r.length c) r) ∧ Aside0 (hi ≤ w'.heap.size ∧ ∀ k, v3.ownBlock = some k → k < lo ∨ hi ≤ k) ∧ Aside0 (w'.ownsRow w.heap.size 5 1 v3 D.length (nums .u8 D)) ∧ Aside0 (Below w.heap.size w w'))
  case atStart =>
    refine ⟨A0, c0, trim l0, [], 0, w.heap.size, rfl, ⟨TextInv.start HL0.out⟩, ⟨?_⟩, ⟨Nat.le_refl _, fun k hk => by simp [Value.ownBlock] at hk⟩, ⟨own_nil _ _ _ _⟩, HB⟩
    have ht := Kd.C_take (m := (trim l0).length) HR0.out (trim_length_le l0)
    rw [trim_take] at ht
    exact Kd.V_mk (Nat.le_trans (trim_length_le l0) HC0.out) (Kd.F_mono (Kd.C_F (Kd.heap_int .u32) ht) (fun k hk => ⟨Nat.zero_le _, hk⟩))
  case round =>
    clear HB
    obtain ⟨A, c, r, D, lo, hi, rfl, HI, HV, HN, HO, HB⟩ := hrel
    by_cases hr : 0 < r.length
    · obtain ⟨k1, rfl⟩ : ∃ k1, gk = k1 + 1 := ⟨gk - 1, by
        rcases Nat.eq_zero_or_pos gk with h | h
        · subst h; have := HI.out.zero; subst this; simp at hr
        · omega⟩
      have HRD := Aside0.mk (Kd.V_reads' HV.out)
      have hrl : Aside0 (r.length ≤ 70368744177664) := ⟨by
        have h1 := nrm_length (k := k1 + 1) HI.out.1 (Int.lt_of_lt_of_le HI.out.2.1 (pow_le_ (k1 + 1)))
        have h2 := HI.out.2.2.1
        have h3 := HM.out
        omega⟩
      go_wp2_with (go_at_call 49; refine (over_calls A c r 1000000000 _ HRD.out.2.2 HRD.out.2.1 HI.out.1.1 hrl.out (by decide) (by decide)).mono ?_; rintro e w2 ⟨v2, r2, rfl, hf2, hn2, hv2, hb2⟩; obtain ⟨A2, c2, rfl⟩ := Kd.V_slice hf2; have HF2 := Aside0.mk hf2; have HN2 := Aside0.mk hn2; have HV2 := Aside0.mk hv2; have HB2 := Aside0.mk hb2; clear hf2 hn2 hv2 hb2)
      have hxb : 0 ≤ val r % 1000000000 ∧ val r % 1000000000 < 1000000000 := by omega
      obtain ⟨x, hx⟩ : ∃ x, val r % 1000000000 = x := ⟨_, rfl⟩
      have HX := Aside0.mk hx
      have HXB := Aside0.mk (hx ▸ hxb)
      rw [hx]
      clear hx hxb
      have HO2 := Aside0.mk (pw_own_below HO.out HB2.out)
      have HV3 : Aside0 (Kd.V (Kd.int .u32) 74 w2 0 (fun k => wr.heap.size ≤ k ∧ k < w2.heap.size) (.slice A2 r2.length c2) r2) := ⟨Kd.V_bound HF2.out⟩
      have HB3 := Aside0.mk (below_step HB.out HB2.out)
      obtain ⟨lo2, hlo2⟩ : ∃ n, wr.heap.size = n := ⟨_, rfl⟩
      obtain ⟨hi2, hhi2⟩ : ∃ n, w2.heap.size = n := ⟨_, rfl⟩
      rw [hlo2, hhi2] at HV3
      have HNN : Aside0 (hi2 ≤ w2.heap.size ∧ ∀ k, u3.ownBlock = some k → k < lo2 ∨ hi2 ≤ k) := ⟨by omega, fun k hk => .inl (hlo2 ▸ own_lt HO.out k hk)⟩
      have HDL : Aside0 (D.length ≤ 18 * l0.length) := ⟨by have := HI.out.2.2.1; omega⟩
      have HST := Aside0.mk (HI.out.step (val_nonneg HL0.out) HN2.out HV2.out)
      rw [HX.out] at HST
      clear hlo2 hhi2
      go_loopg [3, 4, 19] 9 (fun kq v3 v4 v19 w' => ∃ (j : Nat) (y : Int), v19 = .int .i64 j ∧ v4 = .int .u32 y ∧ Aside0 (kq + j = 9 ∧ y = x / 10 ^ j) ∧ Aside0 (Kd.V (Kd.int .u32) 74 w' 0 (fun k => lo2 ≤ k ∧ k < hi2) (.slice A2 r2.length c2) r2) ∧ Aside0 (hi2 ≤ w'.heap.size ∧ ∀ k, v3.ownBlock = some k → k < lo2 ∨ hi2 ≤ k) ∧ Aside0 (w'.ownsRow w.heap.size 5 1 v3 (D ++ digs j x).length (nums .u8 (D ++ digs j x))) ∧ Aside0 (Below w.heap.size w w'))
      case atStart => exact ⟨0, x, rfl, rfl, ⟨rfl, by simp⟩, HV3, HNN, ⟨by simpa [digs] using HO2.out⟩, HB3⟩
      case round =>
        clear HO HB HO2 HNN HV3 HB3 HB2 HF2 HV HN HRD
        obtain ⟨j, y, rfl, rfl, HK, HV, HN, HO, HB⟩ := hrel
        have hyb : 0 ≤ y ∧ y ≤ 999999999 := by
          have h1 := HXB.out
          have h2 : (0 : Int) < 10 ^ j := Int.pow_pos (by decide)
          rw [HK.out.2]
          refine ⟨Int.ediv_nonneg h1.1 (Int.le_of_lt h2), ?_⟩
          have h3 : x / 10 ^ j ≤ x := Int.ediv_le_self _ h1.1
          omega
        obtain ⟨hy0, hy1⟩ := hyb
        by_cases hj : j < 9
        · obtain ⟨k2, rfl⟩ : ∃ k2, gk = k2 + 1 := ⟨gk - 1, by have := HK.out.1; omega⟩
          have HLL : Aside0 (((D ++ digs j x).length + 1) * 1 ≤ 140737488355328) := ⟨by have := HDL.out; have := HM.out; rw [List.length_append, digs_length]; omega⟩
          have hub : 48 + y % 10 ≤ 57 := by omega
          have HDS : Aside0 (D ++ digs (j + 1) x = (D ++ digs j x) ++ [48 + y % 10]) := ⟨by rw [digs_step, ← HK.out.2, List.append_assoc]⟩
          have HY1 : Aside0 (y / 10 = x / 10 ^ (j + 1)) := ⟨by rw [HK.out.2, Int.pow_succ, ediv2 _ _ _ (Int.le_of_lt (Int.pow_pos (by decide)))]⟩
          go_wp2_with (at_builtin; refine print_append_num w.heap.size rfl (.tmp 21) (.tmp 26) 169 5 .u8 1 rfl Tryd.underlying169 info_u8 (by omega) u3 (D ++ digs j x) _ rfl rfl HO.out HB.out HB.out.size HLL.out ?_; intro v1 w1 hown hB hg hat; have HO1 := Aside0.mk hown; have HB1 := Aside0.mk hB; have HG1 := Aside0.mk hg; have HAT := Aside0.mk hat; clear hown hB hg hat)
          have HN1 : Aside0 (hi2 ≤ w1.heap.size ∧ ∀ k, v1.ownBlock = some k → k < lo2 ∨ hi2 ≤ k) := ⟨Nat.le_trans HN.out.1 HG1.out.size, fun k hk => by
            rcases HAT.out with h | ⟨b, h, hb⟩
            · exact HN.out.2 k (h ▸ hk)
            · rw [h] at hk
              injection hk with hk
              have := HN.out.1
              omega⟩
          have HVN := Aside0.mk (own_ne_far HV.out HG1.out (fun k hk => HN.out.2 k hk))
          go_roundg k2
          case measure => omega
          case rel => exact ⟨j + 1, y / 10, by go_num, rfl, ⟨by have := HK.out.1; omega, HY1.out⟩, HVN, HN1, ⟨by rw [HDS.out]; exact HO1.out⟩, HB1⟩
        · obtain rfl : j = 9 := by have := HK.out.1; omega
          go_wp2_with fail
          go_roundg k1
          case measure => omega
          case rel => exact ⟨A2, c2, r2, D ++ digs 9 x, lo2, hi2, rfl, HST, HV, HN, HO, HB⟩
    · obtain rfl : r = [] := List.length_eq_zero_iff.1 (by omega)
      obtain ⟨i0, hi0, hz0, hz1, hz2⟩ := info_parts info_u8
      obtain ⟨Ad, cd, hd⟩ := own_slice HO.out
      subst hd
      have HDL : Aside0 (D.length ≤ 18 * l0.length) := ⟨by have := HI.out.2.2.1; omega⟩
      have hdl : D.length ≤ 9223372036854775807 := by have := HDL.out; have := HM.out; omega
      go_wp2_with (at_make; refine wpList_make_own _ rfl _ _ 169 rfl w.heap.size 5 i0 (.int .u8 0) 1 Tryd.underlying169 hi0 hz0 hz1 .i64 .i64 _ D.length rfl rfl rfl (by rw [hz2]; have := HDL.out; have := HM.out; omega) (by unfold maxLen; omega) HB.out.size ?_; intro w3 hown3 hgrow3; have HO3 := Aside0.mk hown3; have HG3 := Aside0.mk hgrow3; clear hown3 hgrow3)
      have HB3 : Aside0 (Below w.heap.size w w3) := ⟨HB.out.grown HG3.out HB.out.size (fun k hk => by cases hk)⟩
      have HOD : Aside0 (w3.ownsRow w.heap.size 5 1 (.slice Ad D.length cd) D.length (nums .u8 D)) := ⟨own_other HO.out HG3.out (by
        rcases h : (Value.slice Ad D.length cd).ownBlock with _ | b
        · exact .inl rfl
        · exact .inr (by simp))⟩
      have HLT : Aside0 (∀ k, (Value.slice Ad D.length cd).ownBlock = some k → k < wr.heap.size) := ⟨own_lt HO.out⟩
      have HVL : Aside0 (val l0 < 10 ^ D.length) := ⟨by
        have h := HI.out.2.2.2.2
        have h0 := val_nonneg HL0.out
        have hp : (0 : Int) < 10 ^ D.length := Int.pow_pos (by decide)
        simp only [val] at h
        have h2 := Int.mul_ediv_add_emod (val l0) (10 ^ D.length)
        rw [← h] at h2
        have h3 := Int.emod_lt_of_pos (val l0) hp
        omega⟩
      have HDD := Aside0.mk HI.out.2.2.2.1
      obtain ⟨lo3, hlo3⟩ : ∃ n, wr.heap.size = n := ⟨_, rfl⟩
      rw [hlo3] at HO3 HLT ⊢
      clear HV HO HN hz0 hz1 hz2 hi0 HB HG3 HI hlo3 hr
      go_loopg [5, 6] (D.length) (fun kq v5 v6 w' => v6 = .int .i64 ((kq : Int) - 1) ∧ kq ≤ D.length ∧ Aside0 (w'.ownsRow w.heap.size 5 1 v5 (D.drop kq).reverse.length (nums .u8 (D.drop kq).reverse)) ∧ Aside0 (w'.ownsRow w.heap.size 5 1 (.slice Ad D.length cd) D.length (nums .u8 D)) ∧ Aside0 (∀ k, v5.ownBlock = some k → lo3 ≤ k) ∧ Aside0 (lo3 ≤ w'.heap.size) ∧ Aside0 (Below w.heap.size w w'))
      case atStart =>
        have h5 : ∀ k, (Value.slice (some ⟨lo3, 0, none⟩) 0 D.length).ownBlock = some k → lo3 ≤ k := by
          intro k hk
          have : lo3 = k := by simpa [Value.ownBlock] using hk
          omega
        have h6 : lo3 ≤ w3.heap.size := Nat.le_of_lt (own_lt HO3.out lo3 (by simp [Value.ownBlock]))
        exact ⟨rfl, Nat.le_refl _, ⟨by simpa [nums] using HO3.out⟩, HOD, ⟨h5⟩, ⟨h6⟩, HB3⟩
      case round =>
        clear HB3 HO3 HOD
        obtain ⟨rfl, hk, HO, HOD, HNE, HLO, HB⟩ := hrel
        cases gk with
        | zero =>
          rw [List.drop_zero, List.length_reverse] at HO
          obtain ⟨A6, c6, hA6⟩ := own_slice HO.out
          subst hA6
          have hcv := own_string (P := Tryd.prog) Tryd.underlying169 Tryd.underlying5 Tryd.underlying9 HO.out
          obtain ⟨T, hT⟩ : ∃ T, Lib.trimLeftB (strOfNums D.reverse).data.toList 48 = T := ⟨_, rfl⟩
          have HTL := Aside0.mk (fun W => Tryd.strings_TrimLeft_one (strOfNums D.reverse) 48 (by decide) W)
          rw [hT] at HTL
          have HT : Aside0 (Lib.trimLeftB ((digs D.length (val l0)).reverse.map fun n => UInt8.ofNat n.toNat) 48 = T) := ⟨by rw [← HDD.out, ← hT]; rfl⟩
          clear hT
          by_cases hTe : T = []
          · subst hTe
            go_wp2_with (go_at_call 140; refine (HTL.out _).mono ?_; rintro e w' ⟨rfl, rfl⟩)
            go_ret
            exact ⟨_, D.length, rfl, HVL.out, by simp only [textOf]; rw [HT.out]; rfl, HB.out⟩
          · have hT1 : T.isEmpty = false := by simpa using hTe
            have hT2 : (T == []) = false := by simpa using hTe
            have HTE := Aside0.mk hTe
            clear hTe
            go_wp2_with (go_at_call 140; refine (HTL.out _).mono ?_; rintro e w' ⟨rfl, rfl⟩)
            go_ret
            exact ⟨_, D.length, rfl, HVL.out, by simp only [textOf]; rw [HT.out, if_neg HTE.out], HB.out⟩
        | succ k =>
          rw [show ((k + 1 : Nat) : Int) - 1 = (k : Int) by omega]
          obtain ⟨A5, c5, hA5, hRI⟩ := own_reads HOD.out
          injection hA5 with ea en ec
          subst ea
          subst ec
          clear en
          obtain ⟨ad, ead, hx⟩ := hRI.at_ (k : Int) (by omega) (by omega)
          subst ead
          rw [Int.toNat_natCast] at hx
          have HRV : Aside0 ((D.drop k).reverse = (D.drop (k + 1)).reverse ++ [rd D (k : Int)]) := ⟨by
            rw [List.drop_eq_getElem_cons (by omega), List.reverse_cons, rd_nat, List.getD_eq_getElem?_getD, List.getElem?_eq_getElem (by omega)]; rfl⟩
          have HLL : Aside0 (((D.drop (k + 1)).reverse.length + 1) * 1 ≤ 140737488355328) := ⟨by have := HDL.out; have := HM.out; simp; omega⟩
          clear hRI
          go_wp2_with (at_builtin; refine print_append_num w.heap.size rfl (.tmp 41) (.tmp 46) 169 5 .u8 1 rfl Tryd.underlying169 info_u8 (by omega) u5 (D.drop (k + 1)).reverse _ rfl rfl HO.out HB.out HB.out.size HLL.out ?_; intro v1 w1 hown hB hg hat; have HO1 := Aside0.mk hown; have HB1 := Aside0.mk hB; have HG1 := Aside0.mk hg; have HAT := Aside0.mk hat; clear hown hB hg hat)
          go_roundg k
          case measure => omega
          case rel =>
            refine ⟨rfl, by omega, ⟨by rw [HRV.out]; exact HO1.out⟩, ⟨own_other HOD.out HG1.out ?_⟩, ⟨fun j hj => ?_⟩, ⟨Nat.le_trans HLO.out HG1.out.size⟩, HB1⟩
            · rcases h : (Value.slice (some ad) D.length cd).ownBlock with _ | b
              · exact .inl rfl
              · refine .inr (fun e => ?_)
                have h1 := HLT.out b h
                have h2 := HNE.out b e.symm
                omega
            · rcases HAT.out with h | ⟨b, h, hb⟩
              · exact HNE.out j (h ▸ hj)
              · rw [h] at hj
                injection hj with hj
                have := HLO.out
                omega
end Go.Proofs.YtmnmmalffpimeaaDoor

/- edenraw.Nats at equal numbers; edenlaw02's fixed answers are given. -/
namespace Go.Proofs.YtmnmmalffpimeaaDoor
open Go.RowKit Go.Proofs.YtmnmmalffpimeaaDoorW.PrintWords Go.Proofs.YtmnmmalffpimeaaDoorW.PrintLast Go.Proofs.YtmnmmalffpimeaaDoorW.PrintMore
set_option linter.unusedVariables false
set_option linter.unusedSimpArgs false

set_option maxHeartbeats 2000000 in
set_option maxRecDepth 100000 in
theorem nats_true (A0 A1 : Option Addr) (c0 c1 : Nat) (l : List Int) (w : World) (hr0 : Kd.C (Kd.int .u32) w A0 l.length l) (hr1 : Kd.C (Kd.int .u32) w A1 l.length l) :
    Calls Tryd.prog 24 #[.slice A0 l.length c0, .slice A1 l.length c1] w fun e w' => e = .returned (.bool true) ∧ Drawn0 w w' := by
  have HR0 := Aside0.mk hr0
  have HR1 := Aside0.mk hr1
  have hm := Kd.C_max hr0
  clear hr0 hr1
  go_enter Tryd.func24, Tryd.ntmps24
  go_wp2_with fail
  go_loopg [5] l.length (fun kq v3 w' => ∃ i : Nat, v3 = .int .i64 i ∧ kq + i = l.length ∧ Aside0 (Drawn0 w w'))
  case atStart => exact ⟨0, rfl, rfl, ⟨Drawn0.refl _⟩⟩
  case round =>
    obtain ⟨i, rfl, hk, HW⟩ := hrel
    cases gk with
    | zero =>
      obtain rfl : i = l.length := by omega
      go_wp2_with fail
      go_ret
      exact ⟨rfl, HW.out⟩
    | succ k =>
      have hb := HW.out.below
      obtain ⟨ad0, e0, hx0⟩ := Kd.at_int (Kd.C_below HR0.out hb) (i : Int) (by omega) (by omega)
      obtain ⟨ad1, e1, hx1⟩ := Kd.at_int (Kd.C_below HR1.out hb) (i : Int) (by omega) (by omega)
      subst e0
      subst e1
      simp only [Int.toNat_natCast] at hx0 hx1
      have hi : i < l.length := by omega
      have hne : (rd l (i : Int) != rd l (i : Int)) = false := bne_self_eq_false _
      have HK : Aside0 (k + (i + 1) = l.length) := ⟨by omega⟩
      clear hb hk
      go_wp2_with fail
      go_quiet (fail)
      go_wp2_with fail
      go_roundg k
      case measure => omega
      case rel => exact ⟨i + 1, by go_num, HK.out, ⟨by repeat (first | exact HW.out | apply Drawn0.step)⟩⟩

theorem parse_awake : decv [52, 50, 57, 52, 57, 54, 55, 50, 57, 54] = 4294967296 := by decide
theorem digs_big : ∀ (m : Nat) (N : Nat) (x : Int), 0 ≤ x → x < 10 ^ N → digs (N + m) x = digs N x ++ List.replicate m 48
  | 0, N, x, _, _ => by simp
  | m + 1, N, x, h0, h => by
    rw [show N + (m + 1) = (N + m) + 1 by omega, digs_step, digs_big m N x h0 h, List.replicate_succ', List.append_assoc]
    have hp : (10 : Int) ^ N ≤ 10 ^ (N + m) := by
      rw [Int.pow_add]
      have h1 : (1 : Int) ≤ 10 ^ m := Int.pow_pos (by decide)
      have h2 : (0 : Int) < 10 ^ N := Int.pow_pos (by decide)
      have := Int.mul_le_mul_of_nonneg_left h1 (Int.le_of_lt h2)
      simpa using this
    rw [Int.ediv_eq_zero_of_lt h0 (by omega)]
    rfl
theorem trimLeft_zeros (m : Nat) (l : List UInt8) : Lib.trimLeftB (List.replicate m 48 ++ l) 48 = Lib.trimLeftB l 48 := by
  induction m with
  | zero => rfl
  | succ m ih =>
    rw [List.replicate_succ, List.cons_append]
    unfold Lib.trimLeftB at *
    rw [List.dropWhile_cons_of_pos (by decide), ih]
theorem textOf_more (m N : Nat) (x : Int) (h0 : 0 ≤ x) (h : x < 10 ^ N) : textOf (N + m) x = textOf N x := by
  unfold textOf
  rw [digs_big m N x h0 h, List.reverse_append, List.map_append, List.reverse_replicate, List.map_replicate]
  rw [show UInt8.ofNat (48 : Int).toNat = 48 from rfl, trimLeft_zeros]
/-- a number's text is one, with however many digits it is begun -/
theorem textOf_eq (M N : Nat) (x : Int) (h0 : 0 ≤ x) (hM : x < 10 ^ M) (hN : x < 10 ^ N) : textOf M x = textOf N x := by
  rcases Nat.le_total M N with h | h
  · obtain ⟨k, rfl⟩ := Nat.le.dest h
    exact (textOf_more k M x h0 hM).symm
  · obtain ⟨k, rfl⟩ := Nat.le.dest h
    exact textOf_more k N x h0 hN
theorem text_awake : textOf 10 4294967296 = [52, 50, 57, 52, 57, 54, 55, 50, 57, 54] := by decide +kernel

theorem C_lit (W : World) (xs : List Int) (hm : xs.length ≤ 9223372036854775807) : Kd.C (Kd.int .u32) (W.alloc (.cells (nums .u32 xs).toArray 74)) (some ⟨W.heap.size, 0, none⟩) xs.length xs := by
  refine Kd.C_of_reads (d := 0) ⟨rfl, hm, fun _ => ⟨_, rfl, fun j hj => ?_⟩⟩
  rw [add_plain, cell_of_row _ W.heap.size j _ 74 (0, 0) (heap_alloc_new W _)]
  simp [nums, List.getElem?_eq_getElem hj, List.getD_eq_getElem?_getD, rdOf]
theorem C_litg (W : World) (g : Nat) (xs : List Int) (hg : g = W.heap.size) (hm : xs.length ≤ 9223372036854775807) : Kd.C (Kd.int .u32) (W.alloc (.cells (nums .u32 xs).toArray 74)) (some ⟨g, 0, none⟩) xs.length xs := by
  subst hg
  exact C_lit W xs hm
theorem limbs_lit {xs : List Int} (h : xs.all (fun x => decide (0 ≤ x ∧ x < 4294967296)) = true) : Limbs xs := by
  intro x hx
  have := List.all_eq_true.1 h x hx
  simpa using this
set_option maxHeartbeats 4000000 in
set_option maxRecDepth 100000 in
theorem awake2_calls (w : World) : Calls Tryd.prog 47 #[] w fun e w' => e = .returned (.bool true) ∧ Below w.heap.size w w' := by
  go_enter Tryd.func47, Tryd.ntmps47
  go_wp2_with fail
  refine (parse_calls _ _ (by decide) (by decide) (by unfold Digits; decide) (.inr (by decide))).mono ?_
  rintro e w1 ⟨v, r, rfl, hf, hn, hv, hb⟩
  have hr : r = [0, 1] := Nrm.inj hn ⟨limbs_lit rfl, by simp [Tip]⟩ (by rw [hv]; exact parse_awake)
  subst hr
  obtain ⟨A1, c1, rfl⟩ := Kd.V_slice hf
  have HF := Aside0.mk hf
  have HB := Aside0.mk hb
  clear hf hn hv hb
  go_wp2_with fail
  refine (nats_true A1 _ c1 2 [0, 1] _ (Kd.C_alloc (Kd.V_reads' HF.out).2.2 _) (C_lit w1 [0, 1] (by decide))).mono ?_
  rintro e w2 ⟨rfl, hw2⟩
  have HB2 := Aside0.mk (below_step HB.out (below_step (below_alloc (Below.refl _ _) (.cells #[.int .u32 0, .int .u32 1] 74)) hw2.below))
  clear hw2
  go_wp2_with fail
  refine (text_calls _ 2 [0, 1] _ (C_lit w2 [0, 1] (by decide)) (by decide) (limbs_lit rfl) (by decide)).mono ?_
  rintro e w3 ⟨s, N, rfl, hN, hs, hb⟩
  have hs2 : s.toList = [52, 50, 57, 52, 57, 54, 55, 50, 57, 54] := by
    rw [ByteArray.toList_eq, hs, ← text_awake]
    exact textOf_eq _ _ _ (by decide) hN (by decide)
  have HB3 := Aside0.mk (below_step (below_alloc HB2.out (.cells #[.int .u32 0, .int .u32 1] 74)) hb)
  clear hN hs hb
  go_wp2_with fail
  refine (mul_calls _ _ 1 1 [3] [5] _ (Kd.C_alloc (C_lit w3 [3] (by decide)) _) (by decide) (C_litg _ _ [5] (by simp) (by decide)) (by decide) (limbs_lit rfl) (limbs_lit rfl) (by decide)).mono ?_
  rintro e w4 ⟨v, r, rfl, hf, hn, hv, hb⟩
  have hr : r = [15] := Nrm.inj hn ⟨limbs_lit rfl, by simp [Tip]⟩ (by rw [hv]; decide)
  subst hr
  obtain ⟨A4, c4, rfl⟩ := Kd.V_slice hf
  have HF4 := Aside0.mk hf
  have HB4 := Aside0.mk (below_step (below_alloc (below_alloc HB3.out (.cells #[.int .u32 3] 74)) (.cells #[.int .u32 5] 74)) hb)
  clear hf hn hv hb hs2
  go_wp2_with fail
  refine (nats_true A4 _ c4 1 [15] _ (Kd.C_alloc (Kd.V_reads' HF4.out).2.2 _) (C_lit w4 [15] (by decide))).mono ?_
  rintro e w5 ⟨rfl, hw5⟩
  have HB5 := Aside0.mk (below_step (below_alloc HB4.out (.cells #[.int .u32 15] 74)) hw5.below)
  clear hw5
  go_wp2_with fail
  go_ret
  exact ⟨rfl, HB5.out⟩
end Go.Proofs.YtmnmmalffpimeaaDoor

/- edenlaw02's long and normal; a row of slices that lies in a new block. -/
namespace Go.Proofs.YtmnmmalffpimeaaDoor
open Go.RowKit Go.Proofs.YtmnmmalffpimeaaDoorW.PrintWords Go.Proofs.YtmnmmalffpimeaaDoorW.PrintLast Go.Proofs.YtmnmmalffpimeaaDoorW.PrintMore
set_option linter.unusedVariables false
set_option linter.unusedSimpArgs false

abbrev KN : Kd (List Int) := Kd.slice 74 (Kd.int .u32)
theorem atRow {α : Type} {d : Kd α} {e : Nat} {w : World} {A : Option Addr} {xs : List (List α)} (h : Kd.C (Kd.slice e d) w A xs.length xs) (i : Nat) (hi : i < xs.length) :
    ∃ ad A0 c0, A = some ad ∧ w.cell? (ad.add i) = some (.slice A0 xs[i].length c0) ∧ xs[i].length ≤ c0 ∧ Kd.C d w A0 xs[i].length xs[i] := by
  obtain ⟨ad, c, e1, hc, hK, hcell⟩ := Kd.C_get h [] (i : Int) (by omega) (by omega)
  rw [Int.toNat_natCast] at hK hcell
  have hg : xs.getD i [] = xs[i] := by rw [List.getD_eq_getElem?_getD, List.getElem?_eq_getElem hi]; rfl
  rw [hg] at hK
  obtain ⟨A0, c0, rfl, hl, hC⟩ := hK
  refine ⟨ad, A0, c0, e1, ?_, hl, hC⟩
  have h1 := hcell 0 _ rfl
  rw [show i * (Kd.slice e d).sz + 0 = i from by show i * 1 + 0 = i; omega] at h1
  exact h1

set_option maxHeartbeats 2000000 in
set_option maxRecDepth 100000 in
theorem long_calls (A : Option Addr) (c : Nat) (xs : List (List Int)) (w : World) (hr : Kd.C KN w A xs.length xs) :
    Calls Tryd.prog 48 #[.slice A xs.length c] w fun e w' => e = .returned (.bool (xs.any fun l => decide (400 < l.length))) ∧ w = w' := by
  have HR := Aside0.mk hr
  have hm := Kd.C_max hr
  clear hr
  go_enter Tryd.func48, Tryd.ntmps48
  go_wp2_with fail
  go_loop [3] (fun v3 => ∃ i : Nat, v3 = .int .i64 i ∧ i ≤ xs.length ∧ Aside0 (∀ j (h : j < xs.length), j < i → xs[j].length ≤ 400)) (fun v3 => xs.length - (intOf v3).toNat)
  case atStart => exact ⟨0, rfl, Nat.zero_le _, ⟨fun j _ h => by omega⟩⟩
  case round =>
    obtain ⟨i, rfl, hi, HI⟩ := hrel
    by_cases hlt : i < xs.length
    · obtain ⟨ad, A0, c0, e, hx, hl, hC⟩ := atRow HR.out i hlt
      subst e
      obtain ⟨n, hn⟩ : ∃ n, xs[i].length = n := ⟨_, rfl⟩
      rw [hn] at hx
      have HN := Aside0.mk hn
      clear hl hC hn
      by_cases h4 : 400 < n
      · have hd : decide (400 < (n : Int)) = true := decide_eq_true (by omega)
        have HH := Aside0.mk h4
        clear h4
        go_wp2_with fail
        go_ret
        refine ⟨?_, rfl⟩
        rw [List.any_eq_true.2 ⟨xs[i], List.getElem_mem hlt, by rw [HN.out]; exact decide_eq_true HH.out⟩]
        rfl
      · have hd : decide (400 < (n : Int)) = false := decide_eq_false (by omega)
        have HH := Aside0.mk h4
        clear h4
        go_wp2_with fail
        go_round
        case rel => exact ⟨i + 1, by go_num, by omega, ⟨fun j h hj => by
          by_cases e : j = i
          · subst e; rw [HN.out]; exact Nat.not_lt.1 HH.out
          · exact HI.out j h (by omega)⟩⟩
        case measure => simp [intOf]; omega
    · go_wp2_with fail
      go_ret
      refine ⟨?_, rfl⟩
      have hf : (xs.any fun l => decide (400 < l.length)) = false := by
        rw [List.any_eq_false]
        intro l hl
        obtain ⟨j, hj, rfl⟩ := List.mem_iff_getElem.1 hl
        have := HI.out j hj (by omega)
        simp; omega
      rw [hf]
      rfl

theorem tip_last : ∀ {l : List Int}, Tip l → l ≠ [] → l.getD (l.length - 1) 0 ≠ 0
  | [], _, h => absurd rfl h
  | [x], h, _ => by simpa [Tip] using h
  | x :: y :: ys, h, _ => by
    have ih := tip_last (l := y :: ys) h (by simp)
    simpa using ih
set_option maxHeartbeats 1000000 in
set_option maxRecDepth 100000 in
theorem normal_calls (A : Option Addr) (c : Nat) (l : List Int) (w : World) (hr : Kd.C (Kd.int .u32) w A l.length l) (ht : Tip l) :
    Calls Tryd.prog 50 #[.slice A l.length c] w fun e w' => e = .returned (.bool true) ∧ w = w' := by
  by_cases h0 : l = []
  · subst h0
    go_enter Tryd.func50, Tryd.ntmps50
    go_wp2_with fail
    go_ret
    exact ⟨rfl, rfl⟩
  · have hp : 0 < l.length := by
      rcases Nat.eq_zero_or_pos l.length with h | h
      · exact absurd (List.length_eq_zero_iff.1 h) h0
      · exact h
    have hm := Kd.C_max hr
    obtain ⟨n, hn⟩ : ∃ n, l.length = n + 1 := ⟨l.length - 1, by omega⟩
    have hl := tip_last ht h0
    rw [hn, Nat.add_sub_cancel, ← rd_nat] at hl
    have hlb : (rd l (n : Int) != 0) = true := by rw [bne_iff_ne]; exact hl
    have hlb2 : (rd l (n : Int) == 0) = false := by rw [beq_eq_false_iff_ne]; exact hl
    obtain ⟨ad, e, hx⟩ := Kd.at_int hr (n : Int) (by omega) (by omega)
    subst e
    rw [Int.toNat_natCast] at hx
    have HNN := Aside0.mk hn
    rw [hn] at hm ⊢
    clear hn hl h0 ht hr hp
    go_enter Tryd.func50, Tryd.ntmps50
    go_wp2_with fail
    go_ret
    exact ⟨rfl, rfl⟩
end Go.Proofs.YtmnmmalffpimeaaDoor

/- What the rows' condition gives a walk, a world in which the door stands, and the row's last step. -/
namespace Go.Proofs.YtmnmmalffpimeaaDoor
open Go.RowKit Go.WideShapes Go.ChangeShapes Go.ChangeAt Go.Extern.Stop Go.Proofs.YtmnmmalffpimeaaDoorW.PrintWords Go.Proofs.YtmnmmalffpimeaaDoorW.PrintLast Go.Proofs.YtmnmmalffpimeaaDoorW.PrintMore Go.Stop Go.Extern
set_option linter.unusedVariables false

theorem post_of_below {H : Type} {enc : TypeId × Value → H} {P : Program} {f : Func} {s : ChangeSpec} {apart fresh handsOn again : Bool} {W W' : World} {args : Array Value} {v : Value} {ds gs : List (DataW H)} {before pa pv : List MemPlace}
    (hW : DataW.Whole enc P f.params.toList s.vars apart W args.toList ds gs before)
    (hres : ∀ (b : Nat) (sp : Nat → Bool) (hd : Bool), DataW.TrodAll enc P W' b sp hd f.resultTypes.toList (v.resultList f.resultTypes.size) (s.fn H (ds ++ gs)).results [])
    (hargs : ∀ sp : Nat → Bool, (∀ p ∈ before, sp p.block = true) → DataW.TrodAll enc P W' 0 sp true f.params.toList args.toList (s.fn H (ds ++ gs)).args pa)
    (hvars : ∀ sp : Nat → Bool, (∀ p ∈ before, sp p.block = true) → DataW.TrodVars enc P W' sp s.vars (s.fn H (ds ++ gs)).vars pv)
    (hps : before = pa ++ pv) (hb : Below W.heap.size W W')
    (hok : ∀ (j : Nat) (t : TypeId) (r : Value), f.resultTypes[j]? = some t → (v.resultList f.resultTypes.size)[j]? = some r → Value.okWide P W' .any 0 t r) :
    s.post enc P f apart fresh handsOn again W args v W' := by
  have hlt : ∀ p ∈ before, p.block < W.heap.size := fun p hp => hW.lt p hp
  have hold : ∀ p ∈ before, (fun b => decide (b < W.heap.size)) p.block = true := fun p hp => by simpa using hlt p hp
  refine ⟨ds, gs, before, [], pa, pv, hW, hres _ _ _, hargs _ hold, hvars _ hold, World.keptBut_mono (fun p hp => ⟨hp, ?_⟩) (hb.frame (· ∈ before)), fun _ => ?_⟩
  · rw [hps, List.mem_append] at hp
    exact Or.inr hp
  · obtain ⟨_, _, _, _, _, hz, hn⟩ := hW
    refine ⟨hok, _, _, ([] ++ pa) ++ pv, ⟨[] ++ pa, pv, trodAll_append (hargs _ (fun _ _ => rfl)) (hres _ _ _), hvars _ (fun _ _ => rfl), rfl, ?_, ?_⟩, ?_⟩
    · intro b off hp
      have hin : MemPlace.cell b off ∈ before := by rw [hps]; simpa using hp
      rw [hb.frozen (hlt _ hin)]
      exact hz b off hin
    · intro ha
      have := hn ha
      rw [hps] at this
      simpa using this
    · intro p hp _
      rw [hps]
      simpa using hp

theorem laidOutP : laidOutB Tryd.prog = true := by kernel_rfl
theorem ownK : ownKnob Tryd.prog.godebug = none := by kernel_rfl

/-- arguments read again in a later world -/
theorem stays_all {H : Type} {enc : TypeId × Value → H} {W W' : World} {sp' : Nat → Bool} : ∀ {ts : List TypeId} {vs : List Value} {ds : List (DataW H)} {ps : List MemPlace},
    (∀ t ∈ ts, Tryd.prog.readableRec t = true ∧ t < Tryd.prog.types.size) → DataW.TrodAll enc Tryd.prog W 0 (fun _ => true) true ts vs ds ps → (∀ p ∈ ps, W.sameAt W' p) → (∀ p ∈ ps, sp' p.block = true) →
    DataW.TrodAll enc Tryd.prog W' 0 sp' true ts vs ds ps
  | [], vs, ds, ps, _, h, _, _ => by obtain ⟨rfl, rfl, rfl⟩ := trodAll_nil h; exact h
  | t :: ts, vs0, ds0, ps0, ht, h, hs, hp => by
    obtain ⟨v, vs, d, ds, p, q, rfl, rfl, rfl, hd, hr⟩ := trodAll_cons h
    exact trodAll_cons_mk (WideElems.Trod_stays laidOutP (ht t List.mem_cons_self).1 (ht t List.mem_cons_self).2 hd (fun x hx => hs x (List.mem_append_left _ hx)) (fun x hx => hp x (List.mem_append_left _ hx)))
      (stays_all (fun u hu => ht u (List.mem_cons_of_mem _ hu)) hr (fun x hx => hs x (List.mem_append_right _ hx)) (fun x hx => hp x (List.mem_append_right _ hx)))

theorem star_ : "*" ++ "errors.errorString" = "*errors.errorString" := by decide
theorem row_es (u : TypeId) (h : Tryd.prog.typeName? 3 u = some "*errors.errorString") : u = 212 :=
  typeName_ptr_named (nm := "errors.errorString") (by rw [star_]; kernel_rfl) (by kernel_rfl) (by decide) u (by rw [star_]; exact h)
theorem cells_es : Tryd.prog.cellsOf 233 = 1 := by kernel_rfl
theorem cells_st : Tryd.prog.cellsOf 9 = 1 := by kernel_rfl
theorem sent {n : String} {text : List UInt8} {r : List (String × DataW Unit)} {W : World} {g : Nat}
    (h : laidMet Tryd.prog ((n, .iface "*errors.errorString" (.ptr (.agg [.lit (.string text)]))) :: r) W) (hg : Tryd.prog.globalNamed n = some g) (ht : (Tryd.prog.globals[g]?).map (·.type) = some 25) :
    ∃ a, W.cell? ⟨g, 0, none⟩ = some (.iface 212 (.pointer (some a))) := by
  obtain ⟨a, s, hv, _⟩ := laid_sentinel h hg ht Tryd.underlying25 row_es Tryd.underlying212 Tryd.underlying233 rfl rfl Tryd.underlying9 cells_es cells_st
  exact ⟨a, by simpa using World.var?_cell hg hv 0⟩

theorem et_ : Tryd.prog.globalNamed "errors.errorType" = some 12 := by kernel_rfl
theorem rt_ : (Tryd.prog.cutTypes.find? (·.1 == "internal/reflectlite.rtype")).map (·.2) = some 174 := by kernel_rfl
theorem oneRow_ : ((List.range Tryd.prog.types.size).filter fun t => Tryd.prog.rowNamed t [101, 114, 114, 111, 114]) = [25] := by kernel_rfl
theorem handle_of {W : World} (h : handlesMet Tryd.prog [("errors.errorType", Rows.laid_errors_errorType)] W) : W.cell? ⟨12, 0, none⟩ = some (.iface 174 (.agg #[.pointer (some ⟨17, 25, none⟩)])) := by
  obtain ⟨name, u, ty, e1, e2, e3, e4, e5⟩ := h _ (List.mem_singleton.2 rfl)
  have en : name = [101, 114, 114, 111, 114] := (Option.some.inj e1).symm
  subst en
  obtain rfl := Option.some.inj (rt_.symm.trans e2)
  have hm : ty ∈ (List.range Tryd.prog.types.size).filter fun t => Tryd.prog.rowNamed t [101, 114, 114, 111, 114] := List.mem_filter.2 ⟨List.mem_range.2 e3, e4⟩
  rw [oneRow_] at hm
  obtain rfl := List.mem_singleton.1 hm
  have hh : typeHandle Tryd.prog 25 = .pointer (some ⟨17, 25, none⟩) := by kernel_rfl
  rw [hh] at e5
  simpa using World.var?_cell et_ e5 0

def sents (r : List (String × DataW Unit)) : List (String × DataW Unit) :=
  ("eden/api.BadRule", Rows.laid_eden_api_BadRule) :: ("eden/api.BadWord", Rows.laid_eden_api_BadWord) :: ("eden/api.BadArg", Rows.laid_eden_api_BadArg) :: ("eden/api.TooBig", Rows.laid_eden_api_TooBig) ::
  ("eden/api.NoBudget", Rows.laid_eden_api_NoBudget) :: ("eden/api.BadText", Rows.laid_eden_api_BadText) :: ("eden/api.BadPatch", Rows.laid_eden_api_BadPatch) :: ("eden/api.BadCert", Rows.laid_eden_api_BadCert) ::
  ("eden/api.NoInverse", Rows.laid_eden_api_NoInverse) :: ("eden/api.BadLine", Rows.laid_eden_api_BadLine) :: ("eden/api.BadState", Rows.laid_eden_api_BadState) :: ("eden/api.Unknown", Rows.laid_eden_api_Unknown) :: r
/-- WHAT THE CONDITION GIVES A WALK -/
theorem env_of {W : World} {r : List (String × DataW Unit)} (h0 : laidMet Tryd.prog (sents r) W) (hh : handlesMet Tryd.prog [("errors.errorType", Rows.laid_errors_errorType)] W) : ∃ S : Nat → Addr, Env S W := by
  unfold sents at h0
  have h1 := h0.tail
  have h2 := h1.tail
  have h3 := h2.tail
  have h4 := h3.tail
  have h5 := h4.tail
  have h6 := h5.tail
  have h7 := h6.tail
  have h8 := h7.tail
  have h9 := h8.tail
  have h10 := h9.tail
  have h11 := h10.tail
  obtain ⟨a1, g1⟩ := sent (g := 0) h0 (by kernel_rfl) (by kernel_rfl)
  obtain ⟨a2, g2⟩ := sent (g := 1) h1 (by kernel_rfl) (by kernel_rfl)
  obtain ⟨a3, g3⟩ := sent (g := 2) h2 (by kernel_rfl) (by kernel_rfl)
  obtain ⟨a4, g4⟩ := sent (g := 3) h3 (by kernel_rfl) (by kernel_rfl)
  obtain ⟨a5, g5⟩ := sent (g := 4) h4 (by kernel_rfl) (by kernel_rfl)
  obtain ⟨a6, g6⟩ := sent (g := 5) h5 (by kernel_rfl) (by kernel_rfl)
  obtain ⟨a7, g7⟩ := sent (g := 6) h6 (by kernel_rfl) (by kernel_rfl)
  obtain ⟨a8, g8⟩ := sent (g := 7) h7 (by kernel_rfl) (by kernel_rfl)
  obtain ⟨a9, g9⟩ := sent (g := 8) h8 (by kernel_rfl) (by kernel_rfl)
  obtain ⟨a10, g10⟩ := sent (g := 9) h9 (by kernel_rfl) (by kernel_rfl)
  obtain ⟨a11, g11⟩ := sent (g := 10) h10 (by kernel_rfl) (by kernel_rfl)
  obtain ⟨a12, g12⟩ := sent (g := 11) h11 (by kernel_rfl) (by kernel_rfl)
  exact ⟨fun n => match n with | 1 => a1 | 2 => a2 | 3 => a3 | 4 => a4 | 5 => a5 | 6 => a6 | 7 => a7 | 8 => a8 | 9 => a9 | 10 => a10 | 11 => a11 | _ => a12, g1, g2, g3, g4, g5, g6, g7, g8, g9, g10, g11, g12, handle_of hh⟩

/-- a world that meets the condition: the heap that the door's own run leaves, the one pinned table laid -/
noncomputable def startW (os : Os) : World :=
  let w0 := World.doorLaid Tryd.prog 600 os
  { w0 with heap := w0.heap.modify 14 fun
      | .cells _ t frozen => .cells (Go.Pinned.utf8FirstZ.map fun (n : Nat) => Value.int .u8 (n : Int)).toArray t frozen
      | o => o }
theorem start_met (os : Os) (args : Array Value) : laidMetH Tryd.prog Rows.natDividesRow.laid ((startW os).forCall (fun _ _ => 0) ⟨#[], args, []⟩).memory :=
  laidMetH_of_parts (laidMet_of_run' 8 (by kernel_rfl) (by kernel_rfl)) (by kernel_rfl)
theorem env_two {W : World} (h : laidMetH Tryd.prog Rows.natDividesRow.laid W) : ∃ S : Nat → Addr, Env S W := by
  have h' : laidMet Tryd.prog (("unicode/utf8.acceptRanges", Rows.laid_unicode_utf8_acceptRanges) :: sents [("unicode/utf8.first", Rows.laid_unicode_utf8_first)]) W ∧ handlesMet Tryd.prog [("errors.errorType", Rows.laid_errors_errorType)] W := h
  exact env_of h'.1.tail h'.2

theorem limbs_of {zs : List Int} (h : ∀ n ∈ zs, (Lit.int .u32 n).wf = true) (k : Nat) : Limbs (zs.take k) := by
  intro x hx
  obtain ⟨j, hj, e⟩ := List.mem_iff_getElem.1 (List.mem_of_mem_take hx)
  have := range_u32 h j
  rw [List.getElem?_eq_getElem hj] at this
  simp only [Option.getD_some] at this
  rw [← e]
  exact ⟨this.1, by omega⟩
set_option maxRecDepth 100000 in
/-- a number's slice, opened -/
theorem open_nat {H : Type} {enc : TypeId × Value → H} {W : World} {base : Nat} {v : Value} {d : DataW H} {p : List MemPlace} (hv : Value.okWide Tryd.prog W .any base 44 v) (h : DataW.Trod enc Tryd.prog W 0 (fun _ => true) true 44 v d p) :
    ∃ A c l, v = .slice A l.length c ∧ l.length ≤ c ∧ Limbs l ∧ Kd.C (Kd.int .u32) W A l.length l := by
  obtain ⟨fuel, hf⟩ := h
  have c74 : Tryd.prog.cellsOf 74 = 1 := by kernel_rfl
  obtain ⟨A0, n0, c0, rfl⟩ := okWide_slice Tryd.underlying44 hv
  rcases open_ints Tryd.underlying44 Tryd.underlying74 c74 hf with ⟨h1, _⟩ | ⟨a, len, cap, zs, h1, _, hl, hm, hz, _, hcell, hw⟩
  · simp [Value.cells] at h1
    obtain ⟨rfl, rfl, rfl⟩ := h1
    exact ⟨none, 0, [], rfl, Nat.le_refl _, (fun x hx => absurd hx List.not_mem_nil), Kd.C_nil _ _⟩
  · simp [Value.cells] at h1
    obtain ⟨rfl, rfl, rfl⟩ := h1
    simp only [if_true] at hz
    have hlen : (zs.take n0).length = n0 := by rw [List.length_take]; omega
    refine ⟨some a, c0, zs.take n0, by rw [hlen], by rw [hlen]; exact hl, limbs_of hw n0, ?_⟩
    refine Kd.C_of_reads (d := 0) ⟨rfl, by rw [hlen]; unfold maxLen at hm; omega, fun _ => ⟨a, rfl, fun j hj => ?_⟩⟩
    rw [hlen] at hj
    rw [hcell j (by omega)]
    simp [List.getD_eq_getElem?_getD, hj]
theorem u32_wf {n : Int} (h : (Lit.int .u32 n).wf = true) : 0 ≤ n ∧ n < 4294967296 := by
  have := range_u32 (zs := [n]) (by simpa using h) 0
  simp only [List.getElem?_cons_zero, Option.getD_some] at this
  omega
theorem i64_wf {n : Int} (h : (Lit.int .i64 n).wf = true) : -9223372036854775808 ≤ n ∧ n ≤ 9223372036854775807 := by
  have := range_i64 (zs := [n]) (by simpa using h) 0
  simp only [List.getElem?_cons_zero, Option.getD_some] at this
  exact this
theorem start_met1 (os : Os) (args : Array Value) : laidMetH Tryd.prog Rows.matOnesRow.laid ((startW os).forCall (fun _ _ => 0) ⟨#[], args, []⟩).memory :=
  laidMetH_of_parts (laidMet_of_run' 8 (by kernel_rfl) (by kernel_rfl)) (by kernel_rfl)
theorem env_one {W : World} (h : laidMetH Tryd.prog Rows.matOnesRow.laid W) : ∃ S : Nat → Addr, Env S W := by
  have h' : laidMet Tryd.prog (sents []) W ∧ handlesMet Tryd.prog [("errors.errorType", Rows.laid_errors_errorType)] W := h
  exact env_of h'.1 h'.2
end Go.Proofs.YtmnmmalffpimeaaDoor

/- Errors and the documents' errors, both of them perhaps none; a box of three cells that holds a document's error. -/
namespace Go.Proofs.YtmnmmalffpimeaaDoor
open Go.RowKit Go.Extern.Stop Go.Stop Go.Extern Go.Proofs.YtmnmmalffpimeaaDoorW.PrintWords Go.Proofs.YtmnmmalffpimeaaDoorW.PrintLast Go.Proofs.YtmnmmalffpimeaaDoorW.PrintMore
set_option linter.unusedVariables false
set_option linter.unusedSimpArgs false

/-- stops a walk at an operation -/
def Hold (p : Prop) : Prop := p
theorem print_hold {p : Prop} (h : Hold p) : p := h
/-- an error's number and its frames, or none -/
abbrev Fr := Option (Int × List (ByteArray × Int))
def ErrV (S : Nat → Addr) (w : World) (v : Value) : Fr → Prop
  | none => v = .nilIface
  | some (n, l) => Num n ∧ l.length < 1000000 ∧ ErrAt S w n.toNat l v
def WantV (w : World) (v : Value) : Fr → Prop
  | none => v = .agg #[.int .i64 0, .slice none 0 0, .slice none 0 0]
  | some (n, l) => WantAt w v n l
/-- .. in blocks from b on -/
def WantF (w : World) (b : Nat) (v : Value) (o : Fr) : Prop := Foot (fun W => WantV W v o) w (fun k => b ≤ k)
theorem ErrV.below {S : Nat → Addr} {w w1 : World} {v : Value} {o : Fr} (h : ErrV S w v o) (hb : Below w.heap.size w w1) : ErrV S w1 v o := by
  cases o with
  | none => exact h
  | some p => exact ⟨h.1, h.2.1, h.2.2.below hb⟩
theorem ErrV.form {S : Nat → Addr} {w : World} {v : Value} {o : Fr} (h : ErrV S w v o) : v = .nilIface ∨ ∃ t x, v = .iface t x := by
  cases o with
  | none => exact .inl h
  | some p =>
    obtain ⟨t, x, e⟩ := h.2.2.form
    exact .inr ⟨t, x, e⟩
theorem WantF.now {w : World} {b : Nat} {v : Value} {o : Fr} (h : WantF w b v o) : WantV w v o := Foot.now h
theorem WantF.below {w w1 : World} {b : Nat} {v : Value} {o : Fr} (h : WantF w b v o) (hb : Below w.heap.size w w1) : WantF w1 b v o := Foot.step h (fun k _ hlt => hb.block k hlt)
theorem WantF.lower {w : World} {b b' : Nat} {v : Value} {o : Fr} (h : WantF w b v o) (hb : b' ≤ b) : WantF w b' v o := Foot.mono h (fun k hk => Nat.le_trans hb hk)
theorem WantF.far {w : World} {b : Nat} {v : Value} {o : Fr} (h : WantF w b v o) {p : Addr} (hp : p.block < b) (u : Value) : WantF (w.setCell p u) b v o :=
  Foot.step h (fun k hk _ => Below.heap_setCell w p u k (by omega))
theorem WantF.nil (w : World) (b : Nat) : WantF w b (.agg #[.int .i64 0, .slice none 0 0, .slice none 0 0]) none := fun _ _ => rfl
theorem WantV.form {w : World} {v : Value} {o : Fr} (h : WantV w v o) : ∃ n A1 n1 c1 A2 n2 c2, v = .agg #[.int .i64 n, .slice A1 n1 c1, .slice A2 n2 c2] ∧ (n = match o with | none => 0 | some (n, _) => n) := by
  cases o with
  | none => exact ⟨0, none, 0, 0, none, 0, 0, h, rfl⟩
  | some p =>
    obtain ⟨n, l⟩ := p
    obtain ⟨Ao, co, Aa, ca, e, _⟩ := h
    exact ⟨n, Ao, l.length, co, Aa, l.length, ca, e, rfl⟩

theorem new_F (op : ByteArray) (pos n : Int) (w : World) :
    Calls Tryd.prog 18 #[.string op, .int .i64 pos, .int .i64 n] w fun e w' => ∃ v, e = .returned v ∧ WantF w' w.heap.size v (some (n, [(op, pos)])) ∧ Below w.heap.size w w' := by
  refine (GNat.edenraw_New.calls op pos n n [op] [pos] w rfl).mono ?_
  rintro e w' ⟨v1, v2, rfl, h1, h2, hb⟩
  obtain ⟨A1, c1, rfl, k1, r1⟩ := Kd.R_reads h1
  obtain ⟨A2, c2, rfl, k2, r2⟩ := Kd.R_reads h2
  refine ⟨_, rfl, fun W' hW => ?_, hb⟩
  have r1' := Kd.R_reads' (Kd.R_step (Kd.R_mono (Kd.R_bound h1) (fun k hk => (show w.heap.size ≤ k from hk.2.1))) hW)
  have r2' := Kd.R_reads' (Kd.R_step (Kd.R_mono (Kd.R_bound h2) (fun k hk => (show w.heap.size ≤ k from hk.2.1))) hW)
  exact ⟨A1, c1, A2, c2, rfl, r1'.2.2, r2'.2.2, k1, k2⟩

set_option maxHeartbeats 1000000 in
set_option maxRecDepth 100000 in
theorem is_nil (w : World) (u v : Value) (hu : u.oneCell' = true) (hv : v.oneCell' = true) : Calls Tryd.prog 16 #[.nilIface, .agg #[.int .i64 0, u, v]] w fun e w' => e = .returned (.bool true) ∧ Below w.heap.size w w' := by
  go_enter Tryd.func16, Tryd.ntmps16
  go_wp2_with fail
  go_ret
  exact ⟨rfl, below_alloc (Below.refl _ _) _⟩
theorem both_is (S : Nat → Addr) (o : Fr) (v want : Value) (w : World) (hE : Env S w) (h : ErrV S w v o) (hw : WantV w want o) :
    Calls Tryd.prog 16 #[v, want] w fun e w' => e = .returned (.bool true) ∧ Below w.heap.size w w' := by
  cases o with
  | none =>
    have h1 : v = .nilIface := h
    have h2 : want = .agg #[.int .i64 0, .slice none 0 0, .slice none 0 0] := hw
    subst h1; subst h2
    exact is_nil w _ _ rfl rfl
  | some p => exact isf_calls S p.1 h.1 p.2 v want w hE h.2.2 hw h.2.1

theorem sc_other {w : World} {a b : Addr} {v : Value} (h : a ≠ b) : (w.setCell a v).cell? b = w.cell? b := by
  first | exact World.cell?_setCell_other _ _ _ _ h | exact World.cell?_setCell_other _ _ _ h | exact World.cell?_setCell_other h
abbrev tErr : Nat := 31
/-- a block of three cells: a document's error -/
def Box3 (w : World) (b : Nat) (x y z : Value) : Prop := w.heap[b]? = some (.cells #[x, y, z] tErr (0, 0))
theorem Box3.new (w : World) (x y z : Value) : Box3 (w.alloc (.cells #[x, y, z] tErr)) w.heap.size x y z := heap_alloc_new w _
theorem Box3.lt {w : World} {b : Nat} {x y z : Value} (h : Box3 w b x y z) : b < w.heap.size := blk_lt h
theorem Box3.below {w w1 : World} {b : Nat} {x y z : Value} (h : Box3 w b x y z) (hb : Below w.heap.size w w1) : Box3 w1 b x y z := (hb.block b h.lt).trans h
theorem Box3.far {w : World} {b : Nat} {x y z : Value} (h : Box3 w b x y z) {p : Addr} (hp : p.block ≠ b) (u : Value) : Box3 (w.setCell p u) b x y z := (Below.heap_setCell w p u b (Ne.symm hp)).trans h
theorem Box3.cells {w : World} {b : Nat} {x y z : Value} (h : Box3 w b x y z) : w.cell? ⟨b, 0, none⟩ = some x ∧ w.cell? ⟨b, 1, none⟩ = some y ∧ w.cell? ⟨b, 2, none⟩ = some z ∧ w.frozen? ⟨b, 0, none⟩ = false ∧ w.frozen? ⟨b, 1, none⟩ = false ∧ w.frozen? ⟨b, 2, none⟩ = false := by
  unfold Box3 at h
  refine ⟨?_, ?_, ?_, ?_, ?_, ?_⟩ <;> simp [World.cell?, World.frozen?, h]
/-- the world with the three cells written -/
abbrev put3 (w : World) (b : Nat) (x y z : Value) : World := ((w.setCell ⟨b, 0, none⟩ x).setCell ⟨b, 1, none⟩ y).setCell ⟨b, 2, none⟩ z
theorem Box3.put {w : World} {b : Nat} {x y z : Value} (h : Box3 w b x y z) (x' y' z' : Value) : Box3 (put3 w b x' y' z') b x' y' z' := by
  have h1 : (w.setCell ⟨b, 0, none⟩ x').heap[b]? = some (.cells #[x', y, z] tErr (0, 0)) := blk_set h 0 x'
  have h2 : ((w.setCell ⟨b, 0, none⟩ x').setCell ⟨b, 1, none⟩ y').heap[b]? = some (.cells #[x', y', z] tErr (0, 0)) := blk_set h1 1 y'
  exact blk_set h2 2 z'
theorem info_err : (Tryd.prog.info? tErr).map (·.size) = some 3 := by kernel_rfl
theorem res1 {fn : Func} {p : Tmp} {tmps : Array Value} {w : World} {b : Nat} {x y z : Value} (hB : Box3 w b x y z) (h : fn.results = #[.cell p tErr]) (hp : tmps.getD p undef = .pointer (some ⟨b, 0, none⟩)) :
    (results fn tmps).run Tryd.prog w = .ok (.agg #[x, y, z]) w :=
  results_cell_row h tmps w b tErr #[x, y, z] (0, 0) _ hp hB Tryd.underlying31 rfl info_err
theorem res2 {fn : Func} {p t : Tmp} {tmps : Array Value} {w : World} {b : Nat} {x y z : Value} (hB : Box3 w b x y z) (h : fn.results = #[.tmp t, .cell p tErr]) (hp : tmps.getD p undef = .pointer (some ⟨b, 0, none⟩)) :
    (results fn tmps).run Tryd.prog w = .ok (.tuple #[tmps.getD t undef, .agg #[x, y, z]]) w := by
  have hp' : tmps[p]?.getD undef = .pointer (some ⟨b, 0, none⟩) := by simpa using hp
  simp [results, h, hp', asAddr, run_loadVar_row w b tErr tErr #[x, y, z] (0, 0) _ hB Tryd.underlying31 rfl info_err]
theorem res3 {fn : Func} {p t t' : Tmp} {tmps : Array Value} {w : World} {b : Nat} {x y z : Value} (hB : Box3 w b x y z) (h : fn.results = #[.tmp t, .tmp t', .cell p tErr]) (hp : tmps.getD p undef = .pointer (some ⟨b, 0, none⟩)) :
    (results fn tmps).run Tryd.prog w = .ok (.tuple #[tmps.getD t undef, tmps.getD t' undef, .agg #[x, y, z]]) w := by
  have hp' : tmps[p]?.getD undef = .pointer (some ⟨b, 0, none⟩) := by simpa using hp
  simp [results, h, hp', asAddr, run_loadVar_row w b tErr tErr #[x, y, z] (0, 0) _ hB Tryd.underlying31 rfl info_err]
theorem below_put3 {w0 w : World} {b B : Nat} (h : Below B w0 w) (hb : B ≤ b) (x y z : Value) : Below B w0 (put3 w b x y z) :=
  ((h.setCell (p := ⟨b, 0, none⟩) hb _).setCell (p := ⟨b, 1, none⟩) hb _).setCell (p := ⟨b, 2, none⟩) hb _
theorem WantF.put3 {w : World} {b c : Nat} {v : Value} {o : Fr} (h : WantF w c v o) (hb : b < c) (x y z : Value) : WantF (put3 w b x y z) c v o :=
  ((h.far (p := ⟨b, 0, none⟩) hb _).far (p := ⟨b, 1, none⟩) hb _).far (p := ⟨b, 2, none⟩) hb _
end Go.Proofs.YtmnmmalffpimeaaDoor

/- Rows of slices in memory of the call's own, each row with its own footprint. -/
namespace Go.Proofs.YtmnmmalffpimeaaDoor
open Go.RowKit Go.Proofs.YtmnmmalffpimeaaDoorW.PrintWords Go.Proofs.YtmnmmalffpimeaaDoorW.PrintLast Go.Proofs.YtmnmmalffpimeaaDoorW.PrintMore
set_option linter.unusedVariables false
set_option linter.unusedSimpArgs false
section
variable {α : Type} {d : Kd α} {e e' g n : Nat} {w w1 : World} {xs : List (List α)} {ok : Nat → Nat → Prop}

theorem FK_slice {c : List Value} {x : List α} {okp : Nat → Prop} (h : Kd.FK (Kd.slice e d) w okp x c) : ∃ A cc, c = [.slice A x.length cc] ∧ x.length ≤ cc ∧ Kd.F d w okp A x.length x := by
  obtain ⟨A, cc, rfl, hl, hC⟩ := Kd.FK_now h
  refine ⟨A, cc, rfl, hl, fun W' hW => ?_⟩
  obtain ⟨A', cc', he, _, hC'⟩ := h W' hW
  injection he with h1
  injection h1 with h2
  subst h2
  exact hC'

/-- block g holds n slices, the rows xs; what row j leads to lies in ok j, and not in g -/
def Rows (d : Kd α) (w : World) (g n : Nat) (xs : List (List α)) (ok : Nat → Nat → Prop) : Prop :=
  xs.length = n ∧ n ≤ 9223372036854775807 ∧ g < w.heap.size ∧ ∀ j (h : j < xs.length), ∃ A c, w.cell? ⟨g, j, none⟩ = some (.slice A xs[j].length c) ∧ w.frozen? ⟨g, j, none⟩ = false ∧ xs[j].length ≤ c ∧ Kd.F d w (fun k => ok j k ∧ k ≠ g) A xs[j].length xs[j]
theorem Rows.of_N {base cap : Nat} {okn : Nat → Prop} (h : Kd.N (Kd.slice e' d) e w base okn (.slice (some ⟨g, 0, none⟩) n cap) xs) : Rows d w g n xs (fun _ k => okn k) := by
  have h1 := Kd.N_reads' h
  have hg : g < w.heap.size := Kd.N_lt h g (by simp [Value.ownBlock])
  refine ⟨h1.1.symm, by rw [h1.1]; exact Kd.C_max h1.2.2, hg, fun j hj => ?_⟩
  obtain ⟨c, hcl, hF, hcc, hfr⟩ := Kd.N_elem h [] (j : Int) (by omega) (by omega)
  rw [Int.toNat_natCast] at hF hcc hfr
  have e1 : xs.getD j [] = xs[j] := by rw [List.getD_eq_getElem?_getD, List.getElem?_eq_getElem hj]; rfl
  rw [e1] at hF
  obtain ⟨A, cc, rfl, hl, hF2⟩ := FK_slice hF
  have h3 := hcc 0 _ rfl
  have h4 := hfr 0
  rw [show j * (Kd.slice e' d).sz + 0 = j from by show j * 1 + 0 = j; omega] at h3 h4
  exact ⟨A, cc, h3, h4, hl, hF2⟩
theorem Rows.C (h : Rows d w g n xs ok) : Kd.C (Kd.slice e d) w (some ⟨g, 0, none⟩) n xs := by
  obtain ⟨h1, h2, h3, h4⟩ := h
  subst h1
  refine ⟨rfl, h2, fun _ => ⟨_, rfl, fun j p hj => ?_⟩⟩
  obtain ⟨hj1, hj2⟩ := List.getElem?_eq_some_iff.1 hj
  subst hj2
  obtain ⟨A, c, hc, _, hl, hF⟩ := h4 j hj1
  refine ⟨[.slice A xs[j].length c], rfl, ⟨A, c, rfl, hl, Kd.F_now hF⟩, fun i u hu => ?_⟩
  cases i with
  | zero =>
    have : u = .slice A xs[j].length c := by simpa using hu.symm
    subst this
    rw [show j * (Kd.slice e d).sz + 0 = j from by show j * 1 + 0 = j; omega, add_plain]
    exact hc
  | succ i => simp at hu
theorem Rows.step (h : Rows d w g n xs ok) (hg : w1.heap[g]? = w.heap[g]?) (hm : ∀ j k, j < n → ok j k → k ≠ g → k < w.heap.size → w1.heap[k]? = w.heap[k]?) : Rows d w1 g n xs ok := by
  obtain ⟨h1, h2, h3, h4⟩ := h
  subst h1
  refine ⟨rfl, h2, heap_lt hg h3, fun j hj => ?_⟩
  obtain ⟨A, c, hc, hf, hl, hF⟩ := h4 j hj
  exact ⟨A, c, (World.cell?_of_block (a := ⟨g, j, none⟩) hg).trans hc, (World.frozen?_of_block (a := ⟨g, j, none⟩) hg).trans hf, hl, Kd.F_step hF (fun k hk hlt => hm j k hj hk.1 hk.2 hlt)⟩
theorem Rows.below (h : Rows d w g n xs ok) (hb : Below w.heap.size w w1) : Rows d w1 g n xs ok := h.step (hb.block g h.2.2.1) (fun _ k _ _ _ hlt => hb.block k hlt)
theorem Rows.mono {ok' : Nat → Nat → Prop} (h : Rows d w g n xs ok) (hm : ∀ j k, j < n → ok j k → k < w.heap.size → k ≠ g → ok' j k) : Rows d w g n xs ok' := by
  obtain ⟨h1, h2, h3, h4⟩ := h
  subst h1
  refine ⟨rfl, h2, h3, fun j hj => ?_⟩
  obtain ⟨A, c, hc, hf, hl, hF⟩ := h4 j hj
  exact ⟨A, c, hc, hf, hl, Kd.F_mono (Kd.F_bound hF) (fun k hk => ⟨hm j k hj hk.1.1 hk.2 hk.1.2, hk.1.2⟩)⟩
/-- a store elsewhere -/
theorem Rows.far (h : Rows d w g n xs ok) {p : Addr} (hg : p.block ≠ g) (hm : ∀ j k, j < n → ok j k → k ≠ p.block) (u : Value) : Rows d (w.setCell p u) g n xs ok :=
  h.step (Below.heap_setCell w p u g (Ne.symm hg)) (fun j k hj hk _ _ => Below.heap_setCell w p u k (hm j k hj hk))
/-- a store of a slice into the row of rows -/
theorem Rows.put (h : Rows d w g n xs ok) (i : Nat) (hi : i < n) {A : Option Addr} {c : Nat} {l : List α} {okp : Nat → Prop} (hl : l.length ≤ c) (hF : Kd.F d w okp A l.length l) (hne : ∀ k, okp k → k ≠ g) :
    Rows d (w.setCell ⟨g, i, none⟩ (.slice A l.length c)) g n (xs.set i l) (fun j => if j = i then okp else ok j) := by
  obtain ⟨h1, h2, h3, h4⟩ := h
  subst h1
  have hsz : (w.setCell ⟨g, i, none⟩ (.slice A l.length c)).heap.size = w.heap.size := by simp [World.setCell]
  refine ⟨List.length_set, h2, by rw [hsz]; exact h3, fun j hj => ?_⟩
  have hj' : j < xs.length := by simpa using hj
  by_cases e : j = i
  · subst e
    obtain ⟨A0, c0, hc, hf, _, _⟩ := h4 j hj'
    refine ⟨A, c, ?_, ?_, ?_, ?_⟩
    · rw [List.getElem_set_self]; exact setCell_same_ hc
    · rw [World.frozen?_setCell]; exact hf
    · rw [List.getElem_set_self]; exact hl
    · rw [List.getElem_set_self]
      exact Kd.F_mono (Kd.F_far hF (p := ⟨g, j, none⟩) hne _) (fun k hk => ⟨by simpa using hk, hne k hk⟩)
  · obtain ⟨A0, c0, hc, hf, hl0, hF0⟩ := h4 j hj'
    rw [List.getElem_set_ne (by omega)]
    refine ⟨A0, c0, ?_, ?_, hl0, ?_⟩
    · rw [sc_other (by intro he; injection he with _ he _; omega)]; exact hc
    · rw [World.frozen?_setCell]; exact hf
    · have := Kd.F_far hF0 (p := ⟨g, i, none⟩) (fun k hk => hk.2) (.slice A l.length c)
      exact Kd.F_mono this (fun k hk => ⟨by simpa [e] using hk.1, hk.2⟩)
theorem Rows.get (h : Rows d w g n xs ok) (i : Nat) (hi : i < n) : ∃ A c, w.cell? ⟨g, i, none⟩ = some (.slice A (xs.getD i []).length c) ∧ w.frozen? ⟨g, i, none⟩ = false ∧ (xs.getD i []).length ≤ c ∧ Kd.F d w (fun k => ok i k ∧ k ≠ g) A (xs.getD i []).length (xs.getD i []) := by
  obtain ⟨h1, h2, h3, h4⟩ := h
  subst h1
  have e1 : xs.getD i [] = xs[i] := by rw [List.getD_eq_getElem?_getD, List.getElem?_eq_getElem hi]; rfl
  rw [e1]
  exact h4 i hi
/-- the whole, as a value that is read -/
theorem Rows.F (h : Rows d w g n xs ok) {okall : Nat → Prop} (hg : okall g) (hm : ∀ j k, j < n → ok j k → k < w.heap.size → okall k) : Kd.F (Kd.slice e d) w okall (some ⟨g, 0, none⟩) n xs := fun W' hW =>
  (h.step (hW g hg h.2.2.1) (fun j k hj hk _ hlt => hW k (hm j k hj hk hlt) hlt)).C
theorem Rows.V (h : Rows d w g n xs ok) {c base : Nat} {okall : Nat → Prop} (hc : n ≤ c) (hg : okall g) (hm : ∀ j k, j < n → ok j k → k < w.heap.size → okall k) : Kd.V (Kd.slice e d) e' w base okall (.slice (some ⟨g, 0, none⟩) n c) xs := by
  have h0 := h.1
  subst h0
  exact Kd.V_mk hc (h.F hg hm)
end
end Go.Proofs.YtmnmmalffpimeaaDoor

/- mat.Check and edenref16.Check: what is a square matrix. -/
namespace Go.Proofs.YtmnmmalffpimeaaDoor
open Go.RowKit Go.Extern.Stop Go.Stop Go.Extern Go.Proofs.YtmnmmalffpimeaaDoorW.PrintWords Go.Proofs.YtmnmmalffpimeaaDoorW.PrintLast Go.Proofs.YtmnmmalffpimeaaDoorW.PrintMore
set_option linter.unusedVariables false
set_option linter.unusedSimpArgs false

abbrev KM : Kd (List (List Int)) := Kd.slice 44 KN
abbrev matS : ByteArray := ⟨#[109, 97, 116]⟩
/-- what Check says of lines of these lengths -/
def chk (lens : List Nat) : Fr :=
  if 96 < lens.length then some (4, [(matS, 0)]) else
  match lens.findIdx? (fun n => n != lens.length) with
  | none => none
  | some i => some (1, [(matS, (i : Int))])
theorem chk_big {lens : List Nat} (h : 96 < lens.length) : chk lens = some (4, [(matS, 0)]) := by unfold chk; rw [if_pos h]
theorem chk_ok {lens : List Nat} (h : ¬ 96 < lens.length) (hall : ∀ j (hj : j < lens.length), lens[j] = lens.length) : chk lens = none := by
  unfold chk
  rw [if_neg h]
  have : lens.findIdx? (fun n => n != lens.length) = none := by
    rw [List.findIdx?_eq_none_iff]
    intro x hx
    obtain ⟨j, hj, rfl⟩ := List.mem_iff_getElem.1 hx
    simp [hall j hj]
  rw [this]
theorem chk_at {lens : List Nat} (h : ¬ 96 < lens.length) {i : Nat} (hi : i < lens.length) (hne : lens[i] ≠ lens.length) (hall : ∀ j (hj : j < lens.length), j < i → lens[j] = lens.length) : chk lens = some (1, [(matS, (i : Int))]) := by
  unfold chk
  rw [if_neg h]
  have : lens.findIdx? (fun n => n != lens.length) = some i := by
    rw [List.findIdx?_eq_some_iff_getElem]
    refine ⟨hi, by simpa using hne, fun j hj => ?_⟩
    have := hall j (by omega) hj
    simp [this]
  rw [this]

set_option maxHeartbeats 1000000 in
set_option maxRecDepth 100000 in
theorem wrong_calls (S : Nat → Addr) (pos n : Int) (hn : Num n) (w : World) (h : Env S w) :
    Calls Tryd.prog 66 #[.int .i64 pos, .int .i64 n] w (ErrRes S w n.toNat [(matS, pos)]) := by
  have H := Aside0.mk h
  clear h
  go_enter Tryd.func66, Tryd.ntmps66
  go_wp2_with fail
  refine (fnew_calls S _ pos n hn _ H.out).mono ?_
  rintro e w1 ⟨v, rfl, hv, hb⟩
  have HV := Aside0.mk hv
  have HB := Aside0.mk hb
  clear hv hb
  go_wp2_with fail
  go_ret
  exact ⟨v, rfl, HV.out, HB.out⟩

/-- what a call that answers an error, or none, leaves -/
def ErrO (S : Nat → Addr) (w : World) (o : Fr) (e : Ending) (w' : World) : Prop := ∃ v, e = .returned v ∧ ErrV S w' v o ∧ Below w.heap.size w w'
/-- .. a document's error -/
def WantO (w : World) (o : Fr) (e : Ending) (w' : World) : Prop := ∃ v, e = .returned v ∧ WantF w' w.heap.size v o ∧ Below w.heap.size w w'

set_option maxHeartbeats 4000000 in
set_option maxRecDepth 100000 in
theorem mcheck_calls (S : Nat → Addr) (A : Option Addr) (c : Nat) (m : List (List (List Int))) (w : World) (hE : Env S w) (hr : Kd.C KM w A m.length m) :
    Calls Tryd.prog 17 #[.slice A m.length c] w (ErrO S w (chk (m.map List.length))) := by
  have HE := Aside0.mk hE
  have HR := Aside0.mk hr
  have hm := Kd.C_max hr
  clear hE hr
  by_cases hbig : 96 < m.length
  · have hd : decide (96 < (m.length : Int)) = true := decide_eq_true (by omega)
    rw [chk_big (by simpa using hbig)]
    go_enter Tryd.func17, Tryd.ntmps17
    go_wp2_with fail
    refine (wrong_calls S 0 4 (by unfold Num; omega) _ HE.out).mono ?_
    rintro e w1 ⟨v, rfl, hv, hb⟩
    have HV := Aside0.mk hv
    have HB := Aside0.mk hb
    clear hv hb
    go_wp2_with fail
    go_ret
    exact ⟨v, rfl, ⟨by unfold Num; omega, by simp, HV.out⟩, HB.out⟩
  · have hd : decide (96 < (m.length : Int)) = false := decide_eq_false (by omega)
    have HBIG := Aside0.mk hbig
    clear hbig
    go_enter Tryd.func17, Tryd.ntmps17
    go_wp2_with fail
    go_loop [11] (fun v11 => ∃ i : Nat, v11 = .int .i64 i ∧ i ≤ m.length ∧ Aside0 (∀ j (h : j < m.length), j < i → m[j].length = m.length)) (fun v11 => m.length - (intOf v11).toNat)
    case atStart => exact ⟨0, rfl, Nat.zero_le _, ⟨fun j _ h => by omega⟩⟩
    case round =>
      obtain ⟨i, rfl, hi, HI⟩ := hrel
      by_cases hlt : i < m.length
      · obtain ⟨ad, A0, c0, e, hx, hl, hC⟩ := atRow HR.out i hlt
        subst e
        obtain ⟨n, hn⟩ : ∃ n, m[i].length = n := ⟨_, rfl⟩
        rw [hn] at hx
        have hnm : n ≤ 9223372036854775807 := by rw [← hn]; exact Kd.C_max hC
        have HN := Aside0.mk hn
        clear hl hC hn
        by_cases h4 : n = m.length
        · have hd : ((n : Int) != (m.length : Int)) = false := by rw [bne_eq_false_iff_eq]; omega
          have HH := Aside0.mk h4
          clear h4
          go_wp2_with fail
          go_round
          case rel => exact ⟨i + 1, by go_num, by omega, ⟨fun j h hj => by
            by_cases e : j = i
            · subst e; rw [HN.out]; exact HH.out
            · exact HI.out j h (by omega)⟩⟩
          case measure => simp [intOf]; omega
        · have hd : ((n : Int) != (m.length : Int)) = true := by rw [bne_iff_ne]; omega
          have HCK := chk_at (lens := m.map List.length) (by simpa using HBIG.out) (i := i) (by simpa using hlt) (by simp [HN.out]; exact h4) (fun j hj hji => by simp; exact HI.out j (by simpa using hj) hji)
          rw [HCK]
          clear h4
          go_wp2_with fail
          refine (wrong_calls S (i : Int) 1 (by unfold Num; omega) _ HE.out).mono ?_
          rintro e w1 ⟨v, rfl, hv, hb⟩
          have HV := Aside0.mk hv
          have HB := Aside0.mk hb
          clear hv hb
          go_wp2_with fail
          go_ret
          exact ⟨v, rfl, ⟨by unfold Num; omega, by simp, HV.out⟩, HB.out⟩
      · have HALL : ∀ j (h : j < m.length), m[j].length = m.length := fun j h => HI.out j h (by omega)
        have HCK := chk_ok (lens := m.map List.length) (by simpa using HBIG.out) (fun j hj => by simp; exact HALL j (by simpa using hj))
        rw [HCK]
        go_wp2_with fail
        go_ret
        exact ⟨_, rfl, rfl, Below.refl _ _⟩

set_option maxHeartbeats 4000000 in
set_option maxRecDepth 100000 in
theorem rcheck_calls (A : Option Addr) (c : Nat) (m : List (List (List Int))) (w : World) (hr : Kd.C KM w A m.length m) :
    Calls Tryd.prog 81 #[.slice A m.length c] w (WantO w (chk (m.map List.length))) := by
  obtain ⟨w0, hw0⟩ : ∃ w0, w.alloc (.cells #[.int .i64 0, .slice none 0 0, .slice none 0 0] tErr) = w0 := ⟨_, rfl⟩
  obtain ⟨b, hb0⟩ : ∃ b, w.heap.size = b := ⟨_, rfl⟩
  have hB0 : Below w.heap.size w w0 := by rw [← hw0]; exact below_alloc (Below.refl _ _) _
  have hbox : Box3 w0 b (.int .i64 0) (.slice none 0 0) (.slice none 0 0) := by rw [← hw0, ← hb0]; exact Box3.new _ _ _ _
  have hsz : w0.heap.size = b + 1 := by rw [← hw0, ← hb0]; simp
  have HR := Aside0.mk (Kd.C_below hr hB0)
  have HB0 := Aside0.mk hB0
  have HBX := Aside0.mk hbox
  have HSZ := Aside0.mk hsz
  have HBE := Aside0.mk hb0
  have HW0 := Aside0.mk hw0
  have hm := Kd.C_max hr
  clear hr hB0 hbox hsz
  by_cases hbig : 96 < m.length
  · have hd : decide (96 < (m.length : Int)) = true := decide_eq_true (by omega)
    rw [chk_big (by simpa using hbig)]
    go_enter Tryd.func81, Tryd.ntmps81
    go_wp2_with fail
    clear hw0 hb0
    refine (new_F _ 0 4 w0).mono ?_
    rintro e w1 ⟨v, rfl, hf, hb⟩
    obtain ⟨n, A1, n1, c1, A2, n2, c2, rfl, hn⟩ := hf.now.form
    obtain ⟨k0, k1, k2, z0, z1, z2⟩ := (HBX.out.below hb).cells
    have HX2 := Aside0.mk ((HBX.out.below hb).put (.int .i64 n) (.slice A1 n1 c1) (.slice A2 n2 c2))
    have HF := Aside0.mk ((hf.put3 (b := b) (by rw [HSZ.out]; omega) (.int .i64 n) (.slice A1 n1 c1) (.slice A2 n2 c2)).lower (b' := w.heap.size) (by rw [HSZ.out, HBE.out]; omega))
    have HB1 := Aside0.mk (below_put3 (below_step HB0.out hb) (Nat.le_of_eq HBE.out) (.int .i64 n) (.slice A1 n1 c1) (.slice A2 n2 c2))
    clear hf hb hn
    go_wp2_with fail
    (try simp only [Exit.inBlock, Exit.then]); refine bodyPost_ret (res1 HX2.out rfl rfl) rfl ?_
    exact ⟨_, rfl, HF.out, HB1.out⟩
  · have hd : decide (96 < (m.length : Int)) = false := decide_eq_false (by omega)
    have HBIG := Aside0.mk hbig
    clear hbig
    go_enter Tryd.func81, Tryd.ntmps81
    go_wp2_with fail
    clear hw0 hb0
    go_loop [3] (fun v3 => ∃ i : Nat, v3 = .int .i64 i ∧ i ≤ m.length ∧ Aside0 (∀ j (h : j < m.length), j < i → m[j].length = m.length)) (fun v3 => m.length - (intOf v3).toNat)
    case atStart => exact ⟨0, rfl, Nat.zero_le _, ⟨fun j _ h => by omega⟩⟩
    case round =>
      obtain ⟨i, rfl, hi, HI⟩ := hrel
      by_cases hlt : i < m.length
      · obtain ⟨ad, A0, c0, e, hx, hl, hC⟩ := atRow HR.out i hlt
        subst e
        obtain ⟨n, hn⟩ : ∃ n, m[i].length = n := ⟨_, rfl⟩
        rw [hn] at hx
        have hnm : n ≤ 9223372036854775807 := by rw [← hn]; exact Kd.C_max hC
        have HN := Aside0.mk hn
        clear hl hC hn
        by_cases h4 : n = m.length
        · have hd : ((n : Int) != (m.length : Int)) = false := by rw [bne_eq_false_iff_eq]; omega
          have HH := Aside0.mk h4
          clear h4
          go_wp2_with fail
          go_round
          case rel => exact ⟨i + 1, by go_num, by omega, ⟨fun j h hj => by
            by_cases e : j = i
            · subst e; rw [HN.out]; exact HH.out
            · exact HI.out j h (by omega)⟩⟩
          case measure => simp [intOf]; omega
        · have hd : ((n : Int) != (m.length : Int)) = true := by rw [bne_iff_ne]; omega
          have HCK := chk_at (lens := m.map List.length) (by simpa using HBIG.out) (i := i) (by simpa using hlt) (by simp [HN.out]; exact h4) (fun j hj hji => by simp; exact HI.out j (by simpa using hj) hji)
          rw [HCK]
          clear h4
          go_wp2_with fail
          refine (new_F _ (i : Int) 1 w0).mono ?_
          rintro e w1 ⟨v, rfl, hf, hb⟩
          obtain ⟨n, A1, n1, c1, A2, n2, c2, rfl, hn⟩ := hf.now.form
          obtain ⟨k0, k1, k2, z0, z1, z2⟩ := (HBX.out.below hb).cells
          have HX2 := Aside0.mk ((HBX.out.below hb).put (.int .i64 n) (.slice A1 n1 c1) (.slice A2 n2 c2))
          have HF := Aside0.mk ((hf.put3 (b := b) (by rw [HSZ.out]; omega) (.int .i64 n) (.slice A1 n1 c1) (.slice A2 n2 c2)).lower (b' := w.heap.size) (by rw [HSZ.out, HBE.out]; omega))
          have HB1 := Aside0.mk (below_put3 (below_step HB0.out hb) (Nat.le_of_eq HBE.out) (.int .i64 n) (.slice A1 n1 c1) (.slice A2 n2 c2))
          clear hf hb hn
          go_wp2_with fail
          (try simp only [Exit.inBlock, Exit.then]); refine bodyPost_ret (res1 HX2.out rfl rfl) rfl ?_
          exact ⟨_, rfl, HF.out, HB1.out⟩
      · have HALL : ∀ j (h : j < m.length), m[j].length = m.length := fun j h => HI.out j h (by omega)
        have HCK := chk_ok (lens := m.map List.length) (by simpa using HBIG.out) (fun j hj => by simp; exact HALL j (by simpa using hj))
        rw [HCK]
        obtain ⟨k0, k1, k2, z0, z1, z2⟩ := HBX.out.cells
        have HX2 := Aside0.mk (HBX.out.put (.int .i64 0) (.slice none 0 0) (.slice none 0 0))
        have HB1 := Aside0.mk (below_put3 HB0.out (Nat.le_of_eq HBE.out) (.int .i64 0) (.slice none 0 0) (.slice none 0 0))
        go_wp2_with fail
        (try simp only [Exit.inBlock, Exit.then]); refine bodyPost_ret (res1 HX2.out rfl rfl) rfl ?_
        exact ⟨_, rfl, WantF.nil _ _, HB1.out⟩
end Go.Proofs.YtmnmmalffpimeaaDoor

/- A matrix of numbers in memory of the call's own: a row of rows, each row in a block of its own. -/
namespace Go.Proofs.YtmnmmalffpimeaaDoor
open Go.RowKit Go.Extern.Stop Go.Stop Go.Extern Go.Proofs.YtmnmmalffpimeaaDoorW.PrintWords Go.Proofs.YtmnmmalffpimeaaDoorW.PrintLast Go.Proofs.YtmnmmalffpimeaaDoorW.PrintMore
set_option linter.unusedVariables false
set_option linter.unusedSimpArgs false

abbrev tNat : Nat := 44
abbrev tNats : Nat := 86
theorem FK_nil {α : Type} (e : Nat) (d : Kd α) (W : World) (okp : Nat → Prop) : Kd.FK (Kd.slice e d) W okp [] [.slice none 0 0] := fun W' _ => ⟨none, 0, rfl, Nat.le_refl _, Kd.C_nil _ _⟩

/-- a slice stored into a row of slices -/
theorem N_put1 {α : Type} {d : Kd α} {e e' g n cap base : Nat} {w : World} {ok okp : Nat → Prop} {xs : List (List α)} (h : Kd.N (Kd.slice e' d) e w base ok (.slice (some ⟨g, 0, none⟩) n cap) xs) (i : Nat) (hi : i < n) {A : Option Addr} {c : Nat} {l : List α}
    (hl : l.length ≤ c) (hF : Kd.F d w okp A l.length l) (hokp : ∀ k, okp k → ok k ∧ k ≠ g) : Kd.N (Kd.slice e' d) e (w.setCell ⟨g, i, none⟩ (.slice A l.length c)) base ok (.slice (some ⟨g, 0, none⟩) n cap) (xs.set i l) := by
  obtain ⟨c0, hcl, hF0, hcc, hfr⟩ := Kd.N_elem h [] (i : Int) (by omega) (by omega)
  rw [Int.toNat_natCast] at hcc
  have hcl1 : c0.length = 1 := hcl
  have hM : Kd.FK (Kd.slice e' d) w okp l (c0.take 0 ++ [Value.slice A l.length c] ++ c0.drop (0 + 1)) := by
    rw [List.drop_eq_nil_of_le (by omega)]
    exact fun W' hW => ⟨A, c, rfl, hl, hF W' hW⟩
  have h2 := (Kd.N_seg h (i : Int) (by omega) (by omega) (c := c0) (seg := [Value.slice A l.length c]) (j := 0) hcl (by rw [Int.toNat_natCast]; exact hcc) (by show 0 + 1 ≤ 1; omega) hM hokp).1
  rw [Int.toNat_natCast] at h2
  rw [show i * (Kd.slice e' d).sz + 0 = i from by show i * 1 + 0 = i; omega] at h2
  exact h2
theorem N_cell1 {α : Type} {d : Kd α} {e e' g n cap base : Nat} {w : World} {ok : Nat → Prop} {xs : List (List α)} (h : Kd.N (Kd.slice e' d) e w base ok (.slice (some ⟨g, 0, none⟩) n cap) xs) (i : Nat) (hi : i < n) :
    ∃ A c, w.cell? ⟨g, i, none⟩ = some (.slice A (xs.getD i []).length c) ∧ w.frozen? ⟨g, i, none⟩ = false ∧ (xs.getD i []).length ≤ c ∧ Kd.F d w (fun k => ok k ∧ k ≠ g) A (xs.getD i []).length (xs.getD i []) := by
  obtain ⟨c0, hcl, hF0, hcc, hfr⟩ := Kd.N_elem h [] (i : Int) (by omega) (by omega)
  rw [Int.toNat_natCast] at hF0 hcc hfr
  obtain ⟨A, c, rfl, hl, hF⟩ := FK_slice hF0
  have h1 := hcc 0 _ rfl
  have h2 := hfr 0
  rw [show i * (Kd.slice e' d).sz + 0 = i from by show i * 1 + 0 = i; omega] at h1 h2
  exact ⟨A, c, h1, h2, hl, hF⟩

/-- n cells that may be written -/
def OutC (w : World) (g n : Nat) : Prop := ∀ j, j < n → ∃ v, w.cell? ⟨g, j, none⟩ = some v ∧ w.frozen? ⟨g, j, none⟩ = false
theorem OutC.below {w w1 : World} {g n : Nat} (h : OutC w g n) (hb : Below w.heap.size w w1) : OutC w1 g n := by
  intro j hj
  obtain ⟨v, h1, h2⟩ := h j hj
  have hlt : g < w.heap.size := World.block_lt_of_cell? w _ h1
  exact ⟨v, (hb.cell (p := ⟨g, j, none⟩) hlt).trans h1, (hb.frozen (p := ⟨g, j, none⟩) hlt).trans h2⟩
theorem OutC.set {w : World} {g n : Nat} (h : OutC w g n) (p : Addr) (u : Value) : OutC (w.setCell p u) g n := by
  intro j hj
  obtain ⟨v, h1, h2⟩ := h j hj
  by_cases e : p = ⟨g, j, none⟩
  · subst e
    exact ⟨u, setCell_same_ h1, by rw [World.frozen?_setCell]; exact h2⟩
  · exact ⟨v, (sc_other e).trans h1, by rw [World.frozen?_setCell]; exact h2⟩
theorem OutC.of_N {α : Type} {d : Kd α} {e e' g n cap base : Nat} {w : World} {ok : Nat → Prop} {xs : List (List α)} (h : Kd.N (Kd.slice e' d) e w base ok (.slice (some ⟨g, 0, none⟩) n cap) xs) : OutC w g n := by
  intro j hj
  obtain ⟨A, c, h1, h2, _⟩ := N_cell1 h j hj
  exact ⟨_, h1, h2⟩

/-- the first m rows -/
def MatR (w : World) (g n : Nat) (G : Nat → Nat) (ok : Nat → Nat → Prop) (rows : Nat → List (List Int)) (m : Nat) : Prop :=
  ∀ j, j < m → (rows j).length = n ∧ ∃ c, w.cell? ⟨g, j, none⟩ = some (.slice (some ⟨G j, 0, none⟩) n c) ∧ n ≤ c ∧ w.frozen? ⟨g, j, none⟩ = false ∧ Kd.N KN tNat w 0 (ok j) (.slice (some ⟨G j, 0, none⟩) n c) (rows j)
section
variable {w w1 : World} {g n m : Nat} {G : Nat → Nat} {ok : Nat → Nat → Prop} {rows : Nat → List (List Int)}
theorem MatR.zero : MatR w g n G ok rows 0 := fun j hj => by omega
theorem MatR.below (h : MatR w g n G ok rows m) (hb : Below w.heap.size w w1) : MatR w1 g n G ok rows m := by
  intro j hj
  obtain ⟨h0, c, h1, h2, h3, h4⟩ := h j hj
  have hlt : g < w.heap.size := World.block_lt_of_cell? w _ h1
  exact ⟨h0, c, (hb.cell (p := ⟨g, j, none⟩) hlt).trans h1, h2, (hb.frozen (p := ⟨g, j, none⟩) hlt).trans h3, Kd.N_below h4 hb⟩
theorem MatR.mono {ok' : Nat → Nat → Prop} (h : MatR w g n G ok rows m) (hm : ∀ j k, j < m → ok j k → k < w.heap.size → ok' j k) : MatR w g n G ok' rows m := by
  intro j hj
  obtain ⟨h0, c, h1, h2, h3, h4⟩ := h j hj
  exact ⟨h0, c, h1, h2, h3, Kd.N_mono (Kd.N_bound h4) (fun k hk => hm j k hj hk.1 hk.2)⟩
/-- a store that meets none of the rows -/
theorem MatR.far (h : MatR w g n G ok rows m) {p : Addr} (hp : p.block ≠ g ∨ m ≤ p.off) (hm : ∀ j k, j < m → ok j k → k ≠ p.block) (u : Value) : MatR (w.setCell p u) g n G ok rows m := by
  intro j hj
  obtain ⟨h0, c, h1, h2, h3, h4⟩ := h j hj
  have hne : p ≠ ⟨g, j, none⟩ := by
    intro e
    subst e
    rcases hp with hp | hp
    · exact hp rfl
    · exact absurd hp (by show ¬ m ≤ j; omega)
  exact ⟨h0, c, (sc_other hne).trans h1, h2, by rw [World.frozen?_setCell]; exact h3, Kd.N_far h4 (fun k hk => hm j k hj hk) u⟩
/-- the next row is stored -/
theorem MatR.add (h : MatR w g n G ok rows m) (ho : OutC w g (m + 1)) {b c : Nat} (hc : n ≤ c) {okb : Nat → Prop} {row : List (List Int)} (hl : row.length = n) (hN : Kd.N KN tNat w 0 okb (.slice (some ⟨b, 0, none⟩) n c) row)
    (hm : ∀ j k, j < m → ok j k → k ≠ g) (hb : ∀ k, okb k → k ≠ g) :
    MatR (w.setCell ⟨g, m, none⟩ (.slice (some ⟨b, 0, none⟩) n c)) g n (fun j => if j = m then b else G j) (fun j => if j = m then okb else ok j) (fun j => if j = m then row else rows j) (m + 1) := by
  intro j hj
  by_cases e : j = m
  · subst e
    obtain ⟨v, h1, h2⟩ := ho j (by omega)
    refine ⟨by simpa using hl, c, ?_, hc, by rw [World.frozen?_setCell]; exact h2, ?_⟩
    · rw [setCell_same_ h1]; simp
    · simp only [if_true]
      exact Kd.N_far hN (fun k hk => hb k hk) _
  · have := (h.far (p := ⟨g, m, none⟩) (.inr (Nat.le_refl _)) (fun j k hj hk => hm j k hj hk) (.slice (some ⟨b, 0, none⟩) n c)) j (by omega)
    simpa [e] using this
/-- a number is stored into row i -/
theorem MatR.put (h : MatR w g n G ok rows m) (i t : Nat) (hi : i < m) (ht : t < n) {A : Option Addr} {c : Nat} {l : List Int} {okp : Nat → Prop} (hl : l.length ≤ c) (hF : Kd.F (Kd.int .u32) w okp A l.length l) (hokp : ∀ k, okp k → ok i k ∧ k ≠ G i) (hgi : G i ≠ g)
    (hm : ∀ j k, j < m → j ≠ i → ok j k → k ≠ G i) :
    MatR (w.setCell ⟨G i, t, none⟩ (.slice A l.length c)) g n G ok (fun j => if j = i then (rows i).set t l else rows j) m := by
  intro j hj
  obtain ⟨h0, c0, h1, h2, h3, h4⟩ := h j hj
  have hne : (⟨G i, t, none⟩ : Addr) ≠ ⟨g, j, none⟩ := by
    intro e
    injection e with e1
    exact hgi e1
  have hcell := (sc_other (v := .slice A l.length c) hne).trans h1
  have hfr : (w.setCell ⟨G i, t, none⟩ (.slice A l.length c)).frozen? ⟨g, j, none⟩ = false := by rw [World.frozen?_setCell]; exact h3
  by_cases e : j = i
  · subst e
    refine ⟨by simp [h0], c0, hcell, h2, hfr, ?_⟩
    simp only [if_true]
    exact N_put1 h4 t ht hl hF hokp
  · refine ⟨by simp [e, h0], c0, hcell, h2, hfr, ?_⟩
    simp only [e, if_false]
    exact Kd.N_far h4 (p := ⟨G i, t, none⟩) (fun k hk => hm j k hj e hk) _
/-- the whole, as a value that is read -/
theorem MatR.V {xs : List (List (List Int))} {cap base : Nat} {okall : Nat → Prop} (h : MatR w g n G ok rows xs.length) (hx : ∀ j (hj : j < xs.length), xs[j] = rows j) (hmax : xs.length ≤ 9223372036854775807) (hc : xs.length ≤ cap) (hg : okall g) (hm : ∀ j k, j < xs.length → ok j k → k < w.heap.size → okall k) :
    Kd.V KM tNats w base okall (.slice (some ⟨g, 0, none⟩) xs.length cap) xs := by
  refine Kd.V_mk hc (fun W' hW => ⟨rfl, hmax, fun _ => ⟨_, rfl, fun j p hj => ?_⟩⟩)
  obtain ⟨hj1, hj2⟩ := List.getElem?_eq_some_iff.1 hj
  subst hj2
  obtain ⟨h0, c, h1, h2, h3, h4⟩ := h j hj1
  have hlt : g < w.heap.size := World.block_lt_of_cell? w _ h1
  have hN := Kd.N_reads' (Kd.N_step (Kd.N_bound h4) (fun k hk hl => hW k (hm j k hj1 hk.1 hk.2) hl))
  rw [← hx j hj1] at h0 hN
  refine ⟨[.slice (some ⟨G j, 0, none⟩) n c], rfl, ⟨_, c, by rw [h0], by omega, hN.2.2⟩, fun i u hu => ?_⟩
  cases i with
  | zero =>
    have : u = .slice (some ⟨G j, 0, none⟩) n c := by simpa using hu.symm
    subst this
    rw [show j * KM.sz + 0 = j from by show j * 1 + 0 = j; omega, add_plain]
    exact (World.cell?_of_block (a := ⟨g, j, none⟩) (hW g hg hlt)).trans h1
  | succ i => simp at hu
end
end Go.Proofs.YtmnmmalffpimeaaDoor

/- mat.zero, mat.One; edenref16.unit, edenref16.One. -/
namespace Go.Proofs.YtmnmmalffpimeaaDoor
open Go.RowKit Go.Extern.Stop Go.Stop Go.Extern Go.Proofs.YtmnmmalffpimeaaDoorW.PrintWords Go.Proofs.YtmnmmalffpimeaaDoorW.PrintLast Go.Proofs.YtmnmmalffpimeaaDoorW.PrintMore
set_option linter.unusedVariables false
set_option linter.unusedSimpArgs false

theorem info_nats : (Tryd.prog.info? tNats).map (fun i => (i.zero, i.size, i.bytes)) = some (some (.slice none 0 0), 1, 24) := by kernel_rfl
theorem info_nat : (Tryd.prog.info? tNat).map (fun i => (i.zero, i.size, i.bytes)) = some (some (.slice none 0 0), 1, 24) := by kernel_rfl
theorem nrm_one : Nrm [1] := ⟨Limbs.cons ⟨by decide, by decide⟩ Limbs.nil, by simp [Tip]⟩

theorem norm_spec : ∀ (n k : Nat) (l : List Int), l.length = n → n < k → n ≤ 9223372036854775807 → GNat.nat_norm.l0 k l = some (trim l)
  | 0, k, l, hl, hk, _ => by
    obtain ⟨k, rfl⟩ : ∃ j, k = j + 1 := ⟨k - 1, by omega⟩
    have : l = [] := List.length_eq_zero_iff.1 hl
    subst this
    simp [GNat.nat_norm.l0, trim]
  | n + 1, k, l, hl, hk, hm => by
    obtain ⟨k, rfl⟩ : ∃ j, k = j + 1 := ⟨k - 1, by omega⟩
    have hw : wrap64 ((l.length : Int) - 1) = (n : Int) := by rw [IntWalk.wrap64_in _ (by omega)]; omega
    simp only [GNat.nat_norm.l0]
    rw [if_pos (by omega), hw, if_pos (by omega), if_pos (by omega)]
    have hn1 : trim (l.take (n + 1)) = trim l := by rw [← hl, List.take_length]
    by_cases h0 : rd l (n : Int) = 0
    · rw [if_pos h0, if_pos (by omega), Int.toNat_natCast, norm_spec n k (l.take n) (by simp; omega) (by omega) (by omega), ← trim_step (l := l) (k := n) (by omega) (by simpa [rd] using h0), hn1]
    · rw [if_neg h0]
      have h1 := trim_done (l := l) (k := n) (by omega) (by simpa [rd] using h0)
      rw [hn1, ← hl, List.take_length] at h1
      rw [h1]
theorem from_calls (x : Int) (w : World) (h0 : 0 ≤ x) (h1 : x < 18446744073709551616) : Calls Tryd.prog 46 #[.int .u64 x] w (NatRes w x) := by
  have hs : GNat.nat_From.f 3 x = some (trim [x % 4294967296, x / 4294967296 % 4294967296]) := by
    unfold GNat.nat_From.f GNat.nat_norm.f
    rw [norm_spec 2 3 _ rfl (by decide) (by decide)]
    rfl
  refine (GNat.nat_From.calls 3 x _ w hs).mono ?_
  rintro e w' ⟨v, rfl, hv, hb⟩
  refine ⟨v, _, rfl, hv, trim_nrm (Limbs.cons ⟨by omega, by omega⟩ (Limbs.cons ⟨by omega, by omega⟩ Limbs.nil)), ?_, hb⟩
  rw [trim_val]
  simp only [val]
  omega

def ZeroRes (w : World) (n : Nat) (e : Ending) (w' : World) : Prop :=
  ∃ (g cap : Nat) (G : Nat → Nat), e = .returned (.slice (some ⟨g, 0, none⟩) n cap) ∧ n ≤ cap ∧ MatR w' g n G (fun j k => k = G j) (fun _ => List.replicate n []) n ∧ OutC w' g n ∧ w.heap.size ≤ g ∧ g < w'.heap.size ∧
    (∀ j, j < n → g < G j ∧ G j < w'.heap.size) ∧ (∀ j j', j < n → j' < n → j ≠ j' → G j ≠ G j') ∧ Below w.heap.size w w'
set_option maxHeartbeats 4000000 in
set_option maxRecDepth 100000 in
theorem zero_calls (n : Nat) (w : World) (h0 : 0 < n) (hn : n ≤ 96) : Calls Tryd.prog 67 #[.int .i64 n] w (ZeroRes w n) := by
  have P0 : Aside0 (0 ≤ (n : Int)) := ⟨by omega⟩
  have HN : Aside0 (0 < n ∧ n ≤ 96) := ⟨h0, hn⟩
  have HB := Aside0.mk (Below.refl w.heap.size w)
  have hn9 : n ≤ 9223372036854775807 := by omega
  clear h0 hn
  go_enter Tryd.func67, Tryd.ntmps67
  go_wp2_with ((with_reducible refine gate_dst (N := 6) rfl ?_); refine print_hold ?_)
  unfold Hold
  refine Kd.N_make KM _ tNats rfl (N' := 6) rfl 23 _ _ rfl (n : Int) rfl rfl Tryd.underlying23 (.slice none 0 0) 24 info_nats rfl (by decide) (by omega) [] (ok := fun _ => True) (okp := fun _ => False) (FK_nil _ _ _ _) (fun _ hk => hk.elim) trivial P0.out (by have := HN.out; omega) HB.out (Nat.le_refl _) ?_
  intro vo w1 ho hb hg_ hnew_
  clear hg_ hnew_ HB
  have HB := Aside0.mk hb
  have HO := Aside0.mk ho
  clear hb ho
  rw [Int.toNat_natCast] at HO
  obtain ⟨g, cap, eo, gb, gl, _⟩ := Kd.N_form HO.out (by simp; exact HN.out.1)
  rw [List.length_replicate] at eo
  subst eo
  have HOC := Aside0.mk (OutC.of_N HO.out)
  have HCAP := Aside0.mk (Kd.N_reads' HO.out).2.1
  have HGB := Aside0.mk gb
  have HGL := Aside0.mk gl
  clear HO gb gl
  go_wp2_with fail
  go_loopg [9] n (fun kq v9 w' => ∃ (i : Nat) (G : Nat → Nat), v9 = .int .i64 i ∧ Aside0 (kq + i = n) ∧ Aside0 (MatR w' g n G (fun j k => k = G j) (fun _ => List.replicate n []) i) ∧ Aside0 (OutC w' g n) ∧ Aside0 (g < w'.heap.size) ∧ Aside0 (∀ j, j < i → g < G j ∧ G j < w'.heap.size) ∧ Aside0 (∀ j j', j < i → j' < i → j ≠ j' → G j ≠ G j') ∧ Aside0 (Below w.heap.size w w'))
  case atStart => exact ⟨0, fun _ => 0, rfl, ⟨rfl⟩, ⟨MatR.zero⟩, HOC, HGL, ⟨fun j hj => by omega⟩, ⟨fun j j' hj => by omega⟩, HB⟩
  case round =>
    clear HOC HGL HB
    obtain ⟨i, G, rfl, HK, HM, HOC, HGL, HG, HI, HB⟩ := hrel
    by_cases hlt : i < n
    · obtain ⟨k1, rfl⟩ : ∃ k1, gk = k1 + 1 := ⟨gk - 1, by have := HK.out; omega⟩
      obtain ⟨b, hbb⟩ : ∃ b, b = wr.heap.size := ⟨_, rfl⟩
      go_wp2_with ((with_reducible refine gate_dst (N := 15) rfl ?_); refine print_hold ?_)
      unfold Hold
      refine Kd.N_make KN _ tNat rfl (N' := 15) rfl tNats _ _ rfl (n : Int) rfl rfl Tryd.underlying86 (.slice none 0 0) 24 info_nat rfl (by decide) (by omega) [] (ok := fun k => k = b) (okp := fun _ => False) (FK_nil _ _ _ _) (fun _ hk => hk.elim) hbb.symm P0.out (by have := HN.out; omega) HB.out HB.out.size ?_
      intro v1 w2 ho hb hg_ hnew_
      rw [Int.toNat_natCast] at ho
      obtain ⟨b', cb, eo, gb, gl, _⟩ := Kd.N_form ho (by simp; exact HN.out.1)
      rw [List.length_replicate] at eo
      subst eo
      have hbe : b' = b := ho.1 b' (by simp [Value.ownBlock])
      subst hbe
      have HCB := Aside0.mk (Kd.N_reads' ho).2.1
      have hbl : Below wr.heap.size wr w2 := (Below.refl _ _).grown hg_ (Nat.le_refl _) (fun k hk => by cases hk)
      have HM2 := Aside0.mk (HM.out.below hbl)
      have HOC2 := Aside0.mk (HOC.out.below hbl)
      have HROW := Aside0.mk (Kd.N_lower ho (Nat.zero_le _))
      have HB2 := Aside0.mk hb
      have HGL2 := Aside0.mk (Nat.lt_of_lt_of_le HGL.out hbl.size)
      have HBL := Aside0.mk (And.intro hbl.size gl)
      have HBB := Aside0.mk hbb
      obtain ⟨vi, hci, hfi⟩ := HOC2.out i hlt
      clear ho hb hg_ hnew_ hbl gb gl hbb
      go_wp2_with fail
      go_roundg k1
      case measure => omega
      case rel =>
        have hgb : g < b' := by rw [HBB.out]; exact HGL.out
        refine ⟨i + 1, fun j => if j = i then b' else G j, by go_num, ⟨by have := HK.out; omega⟩, ⟨?_⟩, ⟨HOC2.out.set _ _⟩, ⟨by simpa [World.setCell] using HGL2.out⟩, ⟨?_⟩, ⟨?_⟩, ⟨HB2.out.setCell (p := ⟨g, i, none⟩) HGB.out _⟩⟩
        · have hA := HM2.out.add (fun j hj => HOC2.out j (by omega)) (b := b') (c := cb) HCB.out (okb := fun k => k = b') (row := List.replicate n []) (by simp) HROW.out (fun j k hj hk => by have := (HG.out j hj).1; omega) (fun k hk => by omega)
          intro j hj
          obtain ⟨h0, c, h1, h2, h3, h4⟩ := hA j hj
          refine ⟨by simp, c, h1, h2, h3, ?_⟩
          by_cases e : j = i
          · subst e; simpa using h4
          · simpa [e] using h4
        · intro j hj
          by_cases e : j = i
          · subst e; simp only [if_true]; refine ⟨hgb, ?_⟩; have := HBL.out.2; simpa [World.setCell] using this
          · simp only [e, if_false]
            have := HG.out j (by omega)
            refine ⟨this.1, ?_⟩
            have h5 := HBL.out.1
            have : G j < w2.heap.size := by omega
            simpa [World.setCell] using this
        · intro j j' hj hj' hne
          by_cases e : j = i
          · subst e
            have e' : j' ≠ j := fun h => hne h.symm
            simp only [if_true, e', if_false]
            have := (HG.out j' (by omega)).2
            rw [HBB.out]; omega
          · by_cases e' : j' = i
            · subst e'
              simp only [e, if_false, if_true]
              have := (HG.out j (by omega)).2
              rw [HBB.out]; omega
            · simp only [e, e', if_false]
              exact HI.out j j' (by omega) (by omega) hne
    · obtain rfl : i = n := by have := HK.out; omega
      go_wp2_with fail
      go_ret
      exact ⟨g, cap, G, rfl, HCAP.out, HM.out, HOC.out, HGB.out, HGL.out, HG.out, HI.out, HB.out⟩
end Go.Proofs.YtmnmmalffpimeaaDoor

/- mat.One, edenref16.unit, edenref16.One. -/
namespace Go.Proofs.YtmnmmalffpimeaaDoor
open Go.RowKit Go.Extern.Stop Go.Stop Go.Extern Go.Proofs.YtmnmmalffpimeaaDoorW.PrintWords Go.Proofs.YtmnmmalffpimeaaDoorW.PrintLast Go.Proofs.YtmnmmalffpimeaaDoorW.PrintMore
set_option linter.unusedVariables false
set_option linter.unusedSimpArgs false

/-- line j of the matrix that changes nothing -/
def unitR (n j : Nat) : List (List Int) := (List.replicate n []).set j [1]
def unitM (n : Nat) : List (List (List Int)) := (List.range n).map (unitR n)
theorem unitM_length (n : Nat) : (unitM n).length = n := by simp [unitM]
theorem unitM_get (n j : Nat) (hj : j < (unitM n).length) : (unitM n)[j] = unitR n j := by simp [unitM]
def oneO (n : Int) : Fr := if n < 0 then some (3, [(matS, 0)]) else if 96 < n then some (4, [(matS, 0)]) else none
def oneL (n : Int) : List (List (List Int)) := if n < 0 then [] else if 96 < n then [] else unitM n.toNat
/-- what mat.One leaves -/
def OneRes (S : Nat → Addr) (n : Int) (w : World) (e : Ending) (w' : World) : Prop :=
  ∃ v u, e = .returned (.tuple #[v, u]) ∧ Kd.V KM tNats w' 0 (fun k => w.heap.size ≤ k) v (oneL n) ∧ ErrV S w' u (oneO n) ∧ Below w.heap.size w w'
theorem ones_bad (S : Nat → Addr) (n : Int) (w : World) (hE : Env S w) (h : n < 0 ∨ 96 < n) : Calls Tryd.prog 13 #[.int .i64 n] w (OneRes S n w) := by
  have HE := Aside0.mk hE
  clear hE
  by_cases h0 : n < 0
  · have hd : decide (n < 0) = true := decide_eq_true h0
    have e1 : oneO n = some (3, [(matS, 0)]) := by unfold oneO; rw [if_pos h0]
    have e2 : oneL n = [] := by unfold oneL; rw [if_pos h0]
    unfold OneRes
    rw [e1, e2]
    clear h0 h e1 e2
    go_enter Tryd.func13, Tryd.ntmps13
    go_wp2_with fail
    refine (wrong_calls S 0 3 (by unfold Num; omega) _ HE.out).mono ?_
    rintro e w1 ⟨v, rfl, hv, hb⟩
    have HV := Aside0.mk hv
    have HB := Aside0.mk hb
    clear hv hb
    go_wp2_with fail
    go_ret2
    exact ⟨_, _, rfl, Kd.V_nil _ _ _ _ _, ⟨by unfold Num; omega, by simp, HV.out⟩, HB.out⟩
  · have h9 : 96 < n := by omega
    have hd : decide (n < 0) = false := decide_eq_false h0
    have hd2 : decide (96 < n) = true := decide_eq_true h9
    have e1 : oneO n = some (4, [(matS, 0)]) := by unfold oneO; rw [if_neg h0, if_pos h9]
    have e2 : oneL n = [] := by unfold oneL; rw [if_neg h0, if_pos h9]
    unfold OneRes
    rw [e1, e2]
    clear h0 h h9 e1 e2
    go_enter Tryd.func13, Tryd.ntmps13
    go_wp2_with fail
    refine (wrong_calls S 0 4 (by unfold Num; omega) _ HE.out).mono ?_
    rintro e w1 ⟨v, rfl, hv, hb⟩
    have HV := Aside0.mk hv
    have HB := Aside0.mk hb
    clear hv hb
    go_wp2_with fail
    go_ret2
    exact ⟨_, _, rfl, Kd.V_nil _ _ _ _ _, ⟨by unfold Num; omega, by simp, HV.out⟩, HB.out⟩

set_option maxHeartbeats 4000000 in
set_option maxRecDepth 100000 in
theorem zero_none (w : World) : Calls Tryd.prog 67 #[.int .i64 0] w fun e w' => (∃ A c, e = .returned (.slice A 0 c)) ∧ Below w.heap.size w w' := by
  have HB := Aside0.mk (Below.refl w.heap.size w)
  go_enter Tryd.func67, Tryd.ntmps67
  go_wp2_with ((with_reducible refine gate_dst (N := 6) rfl ?_); refine print_hold ?_)
  unfold Hold
  refine Kd.N_make KM _ tNats rfl (N' := 6) rfl 23 _ _ rfl (0 : Int) rfl rfl Tryd.underlying23 (.slice none 0 0) 24 info_nats rfl (by decide) (by omega) [] (ok := fun _ => True) (okp := fun _ => False) (FK_nil _ _ _ _) (fun _ hk => hk.elim) trivial (by decide) (by decide) HB.out (Nat.le_refl _) ?_
  intro vo w1 ho hb hg_ hnew_
  clear hg_ hnew_ HB
  have HB := Aside0.mk hb
  obtain ⟨A, c, eo⟩ := Kd.N_slice ho
  have eo : vo = .slice A 0 c := eo
  subst eo
  clear hb ho
  go_wp2_with fail
  go_loop [9] (fun v9 => v9 = .int .i64 0) (fun v9 => 0)
  case atStart => rfl
  case round =>
    subst hrel
    go_wp2_with fail
    go_ret
    exact ⟨⟨A, c, rfl⟩, HB.out⟩

set_option maxHeartbeats 4000000 in
set_option maxRecDepth 100000 in
theorem one_zero (S : Nat → Addr) (w : World) : Calls Tryd.prog 13 #[.int .i64 0] w (OneRes S 0 w) := by
  go_enter Tryd.func13, Tryd.ntmps13
  go_wp2_with fail
  refine (zero_none w).mono ?_
  rintro e w1 ⟨⟨A, c, rfl⟩, hb⟩
  have HB := Aside0.mk hb
  clear hb
  go_wp2_with fail
  go_loop [18] (fun v18 => v18 = .int .i64 0) (fun v18 => 0)
  case atStart => rfl
  case round =>
    subst hrel
    go_wp2_with fail
    go_ret2
    have hV : Kd.V KM tNats w1 0 (fun k => w.heap.size ≤ k) (.slice A 0 c) ([] : List (List (List Int))) := ⟨A, c, rfl, Nat.zero_le _, fun W' _ => ⟨rfl, Nat.zero_le _, fun h => absurd h (by decide)⟩⟩
    exact ⟨_, _, rfl, hV, rfl, HB.out⟩

set_option maxHeartbeats 4000000 in
set_option maxRecDepth 100000 in
theorem one_pos (S : Nat → Addr) (n : Nat) (w : World) (h0 : 0 < n) (hn : n ≤ 96) : Calls Tryd.prog 13 #[.int .i64 n] w (OneRes S n w) := by
  have e1 : oneO n = none := by unfold oneO; rw [if_neg (by omega), if_neg (by omega)]
  have e2 : oneL n = unitM n := by unfold oneL; rw [if_neg (by omega), if_neg (by omega), Int.toNat_natCast]
  unfold OneRes
  rw [e1, e2]
  have HN : Aside0 (0 < n ∧ n ≤ 96) := ⟨h0, hn⟩
  have hd1 : decide ((n : Int) < 0) = false := decide_eq_false (by omega)
  have hd2 : decide (96 < (n : Int)) = false := decide_eq_false (by omega)
  have hn9 : n ≤ 9223372036854775807 := by omega
  clear e1 e2 h0 hn
  go_enter Tryd.func13, Tryd.ntmps13
  go_wp2_with fail
  refine (zero_calls n w HN.out.1 HN.out.2).mono ?_
  rintro e w1 ⟨g, cap, G, rfl, hcap, hM, hO, hgb, hgl, hG, hI, hb⟩
  have HCAP := Aside0.mk hcap
  have HG := Aside0.mk (fun j (hj : j < n) => And.intro (hG j hj).1 (hG j hj).2)
  have HI := Aside0.mk hI
  have HGB := Aside0.mk hgb
  have HB1 := Aside0.mk hb
  have HM1 : Aside0 (MatR w1 g n G (fun j k => k = G j ∨ w1.heap.size ≤ k) (fun j => if j < 0 then unitR n j else List.replicate n []) n) := ⟨by
    have h := hM.mono (ok' := fun j k => k = G j ∨ w1.heap.size ≤ k) (fun j k hj hk _ => .inl hk)
    intro j hj
    simpa using h j hj⟩
  have HB := Aside0.mk (Below.refl w1.heap.size w1)
  clear hcap hM hO hgb hgl hG hI hb
  go_wp2_with fail
  go_loopg [18] n (fun kq v18 w' => ∃ i : Nat, v18 = .int .i64 i ∧ Aside0 (kq + i = n) ∧ Aside0 (MatR w' g n G (fun j k => k = G j ∨ w1.heap.size ≤ k) (fun j => if j < i then unitR n j else List.replicate n []) n) ∧ Aside0 (Below w.heap.size w w' ∧ w1.heap.size ≤ w'.heap.size))
  case atStart => exact ⟨0, rfl, ⟨rfl⟩, HM1, ⟨HB1.out, Nat.le_refl _⟩⟩
  case round =>
    clear HM1 HB
    obtain ⟨i, rfl, HK, HM, HB⟩ := hrel
    by_cases hlt : i < n
    · obtain ⟨k1, rfl⟩ : ∃ k1, gk = k1 + 1 := ⟨gk - 1, by have := HK.out; omega⟩
      go_wp2_with fail
      obtain ⟨wq, hwq⟩ : ∃ wq, wr.drew = wq := ⟨_, rfl⟩
      have hBq : Below wr.heap.size wr wq := by rw [← hwq]; exact below_drew (Below.refl _ _)
      have HBq := Aside0.mk hBq
      obtain ⟨_, c, hcell, hcn, _, _⟩ := (HM.out.below hBq) i hlt
      have HCL : Aside0 (wq.cell? ⟨g, i, none⟩ = some (.slice (some ⟨G i, 0, none⟩) n c)) := ⟨hcell⟩
      clear hBq
      refine start_ (n := 8) (S := fun w' => w'.cell? ⟨g, i, none⟩ = some (.slice (some ⟨G i, 0, none⟩) n c)) (ds := [7]) #[false, false, false, false, false, false, false, false] (by kernel_rfl) rfl rfl (by rw [hwq]; exact HCL.out) (fun hHeld => ?_)
      rw [hwq] at hHeld ⊢
      clear hwq
      refine pure_ (i := 0) (N := (some 21)) (v := ?_) (a' := ?_) #[true, false, false, false, false, false, false, false] rfl rfl (by kernel_rfl) (fun _ _ _ h => h) (Or.inl ⟨by rfl, ?_⟩) ?_ ?_
      rotate_left
      · intro w'
        go_simp
        with_reducible rfl
      rotate_left
      · simp only [Act.put, List.setIfInBounds_toArray, List.set_cons_zero, List.set_cons_succ, i64_w, i32_w]
        rfl
      refine pure_ (i := 1) (N := (some 22)) (v := ?_) (a' := ?_) #[true, true, false, false, false, false, false, false] rfl rfl (by kernel_rfl) (fun _ _ _ h => h) (Or.inl ⟨by rfl, ?_⟩) ?_ ?_
      rotate_left
      · intro w'
        go_simp
        with_reducible rfl
      rotate_left
      · simp only [Act.put, List.setIfInBounds_toArray, List.set_cons_zero, List.set_cons_succ, i64_w, i32_w]
        rfl
      refine pure_ (i := 2) (N := (some 23)) (v := ?_) (a' := ?_) #[true, true, true, false, false, false, false, false] rfl rfl (by kernel_rfl) (fun _ _ _ h => h) (Or.inl ⟨by rfl, ?_⟩) ?_ ?_
      rotate_left
      · intro w'
        go_simp
        with_reducible rfl
      rotate_left
      · simp only [Act.put, List.setIfInBounds_toArray, List.set_cons_zero, List.set_cons_succ, i64_w, i32_w]
        rfl
      refine take_ (i := 3) (N := (some 24)) (v := ?_) (a' := ?_) #[true, true, true, true, false, false, false, false] rfl rfl (by kernel_rfl) (fun _ _ _ h => h) (Or.inl ⟨by rfl, ?_⟩) hHeld ?_ ?_
      rotate_left
      · rintro w' s0
        go_simp
        with_reducible rfl
      rotate_left
      · simp only [Act.put, List.setIfInBounds_toArray, List.set_cons_zero, List.set_cons_succ, i64_w, i32_w]
        rfl
      refine pure_ (i := 4) (N := (some 25)) (v := ?_) (a' := ?_) #[true, true, true, true, true, false, false, false] rfl rfl (by kernel_rfl) (fun _ _ _ h => h) (Or.inl ⟨by rfl, ?_⟩) ?_ ?_
      rotate_left
      · intro w'
        go_simp
        with_reducible rfl
      rotate_left
      · simp only [Act.put, List.setIfInBounds_toArray, List.set_cons_zero, List.set_cons_succ, i64_w, i32_w]
        rfl
      refine one_ (i := 5) (N := (some 26)) #[true, true, true, true, true, true, false, false] rfl rfl (by kernel_rfl) (by decide) (fun K hK => ?_)
      refine goes_ Tryd.func46 (by kernel_rfl) rfl #[.int .u64 1] (by rfl) rfl rfl (by (try simp only [List.map_toArray, List.map_cons, List.map_nil]); first | done | rfl) ?_
      with_reducible refine (from_calls 1 _ (by decide) (by decide)).mono ?_
      rintro e w' ⟨v, r, rfl, hfr, hnr, hvr, hb⟩
      refine ⟨_, rfl, ?_⟩
      have e1 : r = [1] := Nrm.inj hnr nrm_one (by rw [hvr]; decide)
      subst e1
      obtain ⟨Av, cv, rfl⟩ := Kd.V_slice hfr
      have HFR := Aside0.mk (Kd.V_at hfr).2
      have HBW := Aside0.mk hb
      have hM2 := (HM.out.below HBq.out).below HBW.out
      obtain ⟨_, cz, hcz0, hcn, hfz0, hNz⟩ := hM2 i hlt
      obtain ⟨Az, czz, hcz, hfz, _, _⟩ := N_cell1 hNz i hlt
      have HM2 := Aside0.mk hM2
      refine hK.out _ _ (pw_cell_below HBW.out HCL.out) (fun hHeld => ?_)
      clear hK K hfr hnr hvr hb hM2 hNz
      refine norm_ (a' := ?_) ?_ ?_
      rotate_left
      · show Act.put _ (some 26) _ = _
        simp only [Act.put, List.setIfInBounds_toArray, List.set_cons_zero, List.set_cons_succ, i64_w, i32_w]
        rfl
      refine pure_ (i := 6) (N := (some 27)) (v := ?_) (a' := ?_) #[true, true, true, true, true, true, true, false] rfl rfl (by kernel_rfl) (fun _ _ _ h => h) (Or.inl ⟨by rfl, ?_⟩) ?_ ?_
      rotate_left
      · intro w'
        go_simp
        with_reducible rfl
      rotate_left
      · simp only [Act.put, List.setIfInBounds_toArray, List.set_cons_zero, List.set_cons_succ, i64_w, i32_w]
        rfl
      refine last_ (i := 7) (N := none) #[true, true, true, true, true, true, true, true] rfl rfl (by kernel_rfl) (by decide) (fun K hK => ?_)
      refine skip_ (w1 := ?_) (by rfl) rfl ?_ ?_
      rotate_left
      · go_simp
        rfl
      refine hK.out _ _ ?_
      clear hK K
      refine done_ (by kernel_rfl) ?_
      have hgi := HG.out i hlt
      have hsz := HB.out.2
      have hszq := HBq.out.size
      have hP := HM2.out.put i i hlt hlt (A := Av) (c := cv) (l := [1]) HFR.out.1 HFR.out.2 (fun k hk => ⟨.inr (by omega), by have := hgi.2; omega⟩) (by omega) (fun j k hj hne hk => by
        rcases hk with hk | hk
        · rw [hk]; exact HI.out j i hj hlt hne
        · have := hgi.2; omega)
      have HP : Aside0 (MatR (w'.setCell ⟨G i, i, none⟩ (.slice Av 1 cv)) g n G (fun j k => k = G j ∨ w1.heap.size ≤ k) (fun j => if j < i + 1 then unitR n j else List.replicate n []) n) := ⟨by
        intro j hj
        obtain ⟨h0, c0, h1, h2, h3, h4⟩ := hP j hj
        by_cases e : j = i
        · subst e
          simp only [if_true, Nat.lt_irrefl, if_false] at h0 h4
          refine ⟨by simp only [Nat.lt_succ_self, if_true]; exact h0, c0, h1, h2, h3, ?_⟩
          simp only [Nat.lt_succ_self, if_true]
          exact h4
        · have e1 : (j < i + 1) = (j < i) := by rw [eq_iff_iff]; omega
          simp only [e, if_false] at h0 h4
          simp only [e1]
          exact ⟨h0, c0, h1, h2, h3, h4⟩⟩
      have HBN : Aside0 (Below w.heap.size w (w'.setCell ⟨G i, i, none⟩ (.slice Av 1 cv)) ∧ w1.heap.size ≤ (w'.setCell ⟨G i, i, none⟩ (.slice Av 1 cv)).heap.size) := ⟨by
        refine ⟨(below_step (below_step HB.out.1 HBq.out) HBW.out).setCell (p := ⟨G i, i, none⟩) (by show w.heap.size ≤ G i; have := HGB.out; omega) _, ?_⟩
        have := HBW.out.size
        simp [World.setCell]
        omega⟩
      clear hgi hsz hszq hP
      go_wp2_with fail
      go_roundg k1
      case measure => omega
      case rel => exact ⟨i + 1, by go_num, ⟨by have := HK.out; omega⟩, HP, HBN⟩
    · obtain rfl : i = n := by have := HK.out; omega
      have hV := MatR.V (xs := unitM i) (cap := cap) (base := 0) (okall := fun k => w.heap.size ≤ k) (by rw [unitM_length]; exact HM.out) (fun j hj => by
        rw [unitM_get]
        have : j < i := by rw [unitM_length] at hj; exact hj
        simp [this]) (by rw [unitM_length]; exact hn9) (by rw [unitM_length]; exact HCAP.out) HGB.out (fun j k hj hk _ => by
        rw [unitM_length] at hj
        have h1 := (HG.out j hj)
        have h2 := HGB.out
        have h3 := HB1.out.size
        show w.heap.size ≤ k
        rcases hk with hk | hk <;> omega)
      rw [unitM_length] at hV
      have HV := Aside0.mk hV
      clear hV
      go_wp2_with fail
      go_ret2
      exact ⟨_, _, rfl, HV.out, rfl, HB.out.1⟩
theorem one_calls (S : Nat → Addr) (n : Int) (w : World) (hE : Env S w) : Calls Tryd.prog 13 #[.int .i64 n] w (OneRes S n w) := by
  by_cases h : n < 0 ∨ 96 < n
  · exact ones_bad S n w hE h
  · obtain ⟨k, rfl⟩ : ∃ k : Nat, n = k := ⟨n.toNat, by omega⟩
    by_cases h0 : k = 0
    · subst h0; exact one_zero S w
    · exact one_pos S k w (by omega) (by omega)
end Go.Proofs.YtmnmmalffpimeaaDoor

/- edenref16.unit, edenref16.One. -/
namespace Go.Proofs.YtmnmmalffpimeaaDoor
open Go.RowKit Go.Extern.Stop Go.Stop Go.Extern Go.Proofs.YtmnmmalffpimeaaDoorW.PrintWords Go.Proofs.YtmnmmalffpimeaaDoorW.PrintLast Go.Proofs.YtmnmmalffpimeaaDoorW.PrintMore
set_option linter.unusedVariables false
set_option linter.unusedSimpArgs false

theorem F_lit (W : World) (xs : List Int) (hm : xs.length ≤ 9223372036854775807) : Kd.F (Kd.int .u32) (W.alloc (.cells (nums .u32 xs).toArray 74)) (fun k => k = W.heap.size) (some ⟨W.heap.size, 0, none⟩) xs.length xs := by
  intro W' hW
  have hb : W'.heap[W.heap.size]? = some (.cells (nums .u32 xs).toArray 74 (0, 0)) := (hW W.heap.size rfl (by simp)).trans (heap_alloc_new W _)
  refine Kd.C_of_reads (d := 0) ⟨rfl, hm, fun _ => ⟨_, rfl, fun j hj => ?_⟩⟩
  rw [add_plain, cell_of_row _ W.heap.size j _ 74 (0, 0) hb]
  simp [nums, List.getElem?_eq_getElem hj, List.getD_eq_getElem?_getD, rdOf]

set_option maxHeartbeats 4000000 in
set_option maxRecDepth 100000 in
theorem unit_zero (w : World) : Calls Tryd.prog 68 #[.int .i64 0] w fun e w' => (∃ A c, e = .returned (.slice A 0 c)) ∧ Below w.heap.size w w' := by
  have HB := Aside0.mk (Below.refl w.heap.size w)
  go_enter Tryd.func68, Tryd.ntmps68
  go_wp2_with ((with_reducible refine gate_dst (N := 6) rfl ?_); refine print_hold ?_)
  unfold Hold
  refine Kd.N_make KM _ tNats rfl (N' := 6) rfl 23 _ _ rfl (0 : Int) rfl rfl Tryd.underlying23 (.slice none 0 0) 24 info_nats rfl (by decide) (by omega) [] (ok := fun _ => True) (okp := fun _ => False) (FK_nil _ _ _ _) (fun _ hk => hk.elim) trivial (by decide) (by decide) HB.out (Nat.le_refl _) ?_
  intro vo w1 ho hb hg_ hnew_
  clear hg_ hnew_ HB
  have HB := Aside0.mk hb
  obtain ⟨A, c, eo⟩ := Kd.N_slice ho
  have eo : vo = .slice A 0 c := eo
  subst eo
  clear hb ho
  go_wp2_with fail
  go_loop [4] (fun v4 => v4 = .int .i64 0) (fun v4 => 0)
  case atStart => rfl
  case round =>
    subst hrel
    go_wp2_with fail
    go_ret
    exact ⟨⟨A, c, rfl⟩, HB.out⟩

set_option maxHeartbeats 4000000 in
set_option maxRecDepth 100000 in
theorem unit_pos (n : Nat) (w : World) (h0 : 0 < n) (hn : n ≤ 96) : Calls Tryd.prog 68 #[.int .i64 n] w fun e w' => ∃ v, e = .returned v ∧ Kd.V KM tNats w' 0 (fun k => w.heap.size ≤ k) v (unitM n) ∧ Below w.heap.size w w' := by
  have P0 : Aside0 (0 ≤ (n : Int)) := ⟨by omega⟩
  have HN : Aside0 (0 < n ∧ n ≤ 96) := ⟨h0, hn⟩
  have HB := Aside0.mk (Below.refl w.heap.size w)
  have hn9 : n ≤ 9223372036854775807 := by omega
  clear h0 hn
  go_enter Tryd.func68, Tryd.ntmps68
  go_wp2_with ((with_reducible refine gate_dst (N := 6) rfl ?_); refine print_hold ?_)
  unfold Hold
  refine Kd.N_make KM _ tNats rfl (N' := 6) rfl 23 _ _ rfl (n : Int) rfl rfl Tryd.underlying23 (.slice none 0 0) 24 info_nats rfl (by decide) (by omega) [] (ok := fun _ => True) (okp := fun _ => False) (FK_nil _ _ _ _) (fun _ hk => hk.elim) trivial P0.out (by have := HN.out; omega) HB.out (Nat.le_refl _) ?_
  intro vo w1 ho hb hg_ hnew_
  clear hg_ hnew_ HB
  have HB := Aside0.mk hb
  rw [Int.toNat_natCast] at ho
  obtain ⟨g, cap, eo, gb, gl, _⟩ := Kd.N_form ho (by simp; exact HN.out.1)
  rw [List.length_replicate] at eo
  subst eo
  have HOC := Aside0.mk (OutC.of_N ho)
  have HCAP := Aside0.mk (Kd.N_reads' ho).2.1
  have HGB := Aside0.mk gb
  have HGL := Aside0.mk gl
  clear ho gb gl hb
  go_wp2_with fail
  go_loopg [4] n (fun kq v4 w' => ∃ (i : Nat) (G : Nat → Nat), v4 = .int .i64 i ∧ Aside0 (kq + i = n) ∧ Aside0 (MatR w' g n G (fun j k => g < k) (fun j => unitR n j) i) ∧ Aside0 (OutC w' g n) ∧ Aside0 (g < w'.heap.size) ∧ Aside0 (∀ j, j < i → G j < w'.heap.size) ∧ Aside0 (Below w.heap.size w w'))
  case atStart => exact ⟨0, fun _ => 0, rfl, ⟨rfl⟩, ⟨MatR.zero⟩, HOC, HGL, ⟨fun j hj => by omega⟩, HB⟩
  case round =>
    clear HOC HGL HB
    obtain ⟨i, G, rfl, HK, HM, HOC, HGL, HG, HB⟩ := hrel
    by_cases hlt : i < n
    · obtain ⟨k1, rfl⟩ : ∃ k1, gk = k1 + 1 := ⟨gk - 1, by have := HK.out; omega⟩
      obtain ⟨b, hbb⟩ : ∃ b, b = wr.heap.size := ⟨_, rfl⟩
      go_wp2_with ((with_reducible refine gate_dst (N := 15) rfl ?_); refine print_hold ?_)
      unfold Hold
      refine Kd.N_make KN _ tNat rfl (N' := 15) rfl tNats _ _ rfl (n : Int) rfl rfl Tryd.underlying86 (.slice none 0 0) 24 info_nat rfl (by decide) (by omega) [] (ok := fun k => k = b) (okp := fun _ => False) (FK_nil _ _ _ _) (fun _ hk => hk.elim) hbb.symm P0.out (by have := HN.out; omega) HB.out HB.out.size ?_
      intro v1 w2 ho hb hg_ hnew_
      rw [Int.toNat_natCast] at ho
      obtain ⟨b', cb, eo, gb, gl, _⟩ := Kd.N_form ho (by simp; exact HN.out.1)
      rw [List.length_replicate] at eo
      subst eo
      have hbe : b' = b := ho.1 b' (by simp [Value.ownBlock])
      subst hbe
      have hbl : Below wr.heap.size wr w2 := (Below.refl _ _).grown hg_ (Nat.le_refl _) (fun k hk => by cases hk)
      have hgb : g < b' := by rw [hbb]; exact HGL.out
      have hM1 := (HM.out.mono (ok' := fun j k => g < k ∧ k < b') (fun j k hj hk hlt => ⟨hk, by rw [hbb]; exact hlt⟩)).below hbl
      have hO2 := HOC.out.below hbl
      have hrow := Kd.N_mono (Kd.N_lower ho (Nat.zero_le _)) (ok' := fun k => k = b' ∨ b' < k) (fun k hk => .inl hk)
      have hA := hM1.add (fun j hj => hO2 j (by omega)) (b := b') (c := cb) (Kd.N_reads' ho).2.1 (row := List.replicate n []) (by simp) hrow (fun j k hj hk => by omega) (fun k hk => by omega)
      obtain ⟨vi, hci, hfi⟩ := hO2 i hlt
      have hcell3 : (w2.setCell ⟨g, i, none⟩ (.slice (some ⟨b', 0, none⟩) n cb)).cell? ⟨g, i, none⟩ = some (.slice (some ⟨b', 0, none⟩) n cb) := setCell_same_ hci
      have hl3 : (w2.setCell ⟨g, i, none⟩ (.slice (some ⟨b', 0, none⟩) n cb)).heap.size = w2.heap.size := by simp [World.setCell]
      obtain ⟨w3, hw3⟩ : ∃ w3, w3 = w2.setCell ⟨g, i, none⟩ (.slice (some ⟨b', 0, none⟩) n cb) := ⟨_, rfl⟩
      rw [← hw3] at hA hcell3 hl3
      have hb4 : Below w3.heap.size w3 (w3.alloc (.cells (nums .u32 [1]).toArray 74)) := below_alloc (Below.refl _ _) _
      have hA4 := hA.below hb4
      have hF := F_lit w3 [1] (by simp)
      have hP := hA4.put i i (by omega) hlt (c := 1) (by simp) hF (fun k hk => ⟨by simp only [if_true]; rw [hk, hl3]; omega, by simp only [if_true]; rw [hk, hl3]; omega⟩) (by simp only [if_true]; omega) (fun j k hj hne hk => by
        simp only [hne, if_false] at hk
        simp only [if_true]
        omega)
      simp only [if_true] at hP
      obtain ⟨_, c5, h5a, h5b, h5c, h5N⟩ := hA4 i (by omega)
      simp only [if_true] at h5a h5N
      obtain ⟨Az, cz, hcz, hfz, _, _⟩ := N_cell1 h5N i hlt
      have h5x : (w3.alloc (.cells (nums .u32 [1]).toArray 74)).cell? ⟨g, i, none⟩ = some (.slice (some ⟨b', 0, none⟩) n cb) := (hb4.cell (p := ⟨g, i, none⟩) (by rw [hl3]; exact Nat.lt_of_lt_of_le HGL.out hbl.size)).trans hcell3
      have HP := Aside0.mk hP
      have HB2 := Aside0.mk hb
      have HO2 := Aside0.mk hO2
      have HSZ := Aside0.mk (And.intro hbl.size (And.intro gl (And.intro hl3 (And.intro hgb hbb))))
      have HCELL3 := Aside0.mk hcell3
      have HW3 := Aside0.mk hw3
      clear ho hb hg_ hnew_ hbl gb gl hM1 hO2 hrow hA hb4 hA4 hF hP h5b h5c h5N h5a hbb
      subst hw3
      have hcz' : ((w2.setCell ⟨g, i, none⟩ (.slice (some ⟨b', 0, none⟩) n cb)).alloc (.cells #[.int .u32 1] 74)).cell? ⟨b', i, none⟩ = some (.slice Az ((List.replicate n ([] : List Int)).getD i []).length cz) := hcz
      have hfz' : ((w2.setCell ⟨g, i, none⟩ (.slice (some ⟨b', 0, none⟩) n cb)).alloc (.cells #[.int .u32 1] 74)).frozen? ⟨b', i, none⟩ = false := hfz
      have HP2 : Aside0 (MatR (((w2.setCell ⟨g, i, none⟩ (.slice (some ⟨b', 0, none⟩) n cb)).alloc (.cells #[.int .u32 1] 74)).setCell ⟨b', i, none⟩ (.slice (some ⟨w2.heap.size, 0, none⟩) 1 1)) g n (fun j => if j = i then b' else G j) (fun j k => g < k) (fun j => unitR n j) (i + 1)) := ⟨by
        have h := HP.out
        have hgb := HSZ.out.2.2.2.1
        rw [hl3] at h
        intro j hj
        obtain ⟨h0, c0, h1, h2, h3, h4⟩ := h j hj
        by_cases e : j = i
        · subst e
          simp only [if_true] at h0 h1 h4
          simp only [if_true]
          exact ⟨h0, c0, h1, h2, h3, Kd.N_mono h4 (fun k hk => by omega)⟩
        · simp only [e, if_false] at h0 h1 h4
          simp only [e, if_false]
          exact ⟨h0, c0, h1, h2, h3, Kd.N_mono h4 (fun k hk => hk.1)⟩⟩
      clear hcz hfz HP
      have h5y := HCELL3.out
      go_wp2_with fail
      go_roundg k1
      case measure => omega
      case rel =>
        have hs := HSZ.out
        refine ⟨i + 1, _, by go_num, ⟨by have := HK.out; omega⟩, HP2, ⟨((HO2.out.set _ _).below (below_alloc (Below.refl _ _) _)).set _ _⟩, ⟨by simp [World.setCell]; have := HGL.out; omega⟩, ⟨fun j hj => ?_⟩, ⟨?_⟩⟩
        · by_cases e : j = i
          · subst e; simp [World.setCell]; omega
          · have := HG.out j (by omega)
            simp [World.setCell, e]
            omega
        · refine (((HB2.out.setCell (p := ⟨g, i, none⟩) HGB.out _).trans (below_alloc (Below.refl _ _) _ |>.mono ?_))).setCell (p := ⟨b', i, none⟩) ?_ _
          · have := HB2.out.size
            simp [World.setCell]; omega
          · show w.heap.size ≤ b'
            have := HGB.out; omega
    · obtain rfl : i = n := by have := HK.out; omega
      have hV := MatR.V (xs := unitM i) (cap := cap) (base := 0) (okall := fun k => w.heap.size ≤ k) (by rw [unitM_length]; exact HM.out) (fun j hj => unitM_get _ _ _) (by rw [unitM_length]; exact hn9) (by rw [unitM_length]; exact HCAP.out) HGB.out (fun j k hj hk _ => by
        have h2 := HGB.out
        show w.heap.size ≤ k
        omega)
      rw [unitM_length] at hV
      have HV := Aside0.mk hV
      clear hV
      go_wp2_with fail
      go_ret
      exact ⟨_, rfl, HV.out, HB.out⟩
theorem unit_calls (n : Nat) (w : World) (hn : n ≤ 96) : Calls Tryd.prog 68 #[.int .i64 n] w fun e w' => ∃ v, e = .returned v ∧ Kd.V KM tNats w' 0 (fun k => w.heap.size ≤ k) v (unitM n) ∧ Below w.heap.size w w' := by
  by_cases h0 : n = 0
  · subst h0
    refine (unit_zero w).mono ?_
    rintro e w' ⟨⟨A, c, rfl⟩, hb⟩
    exact ⟨_, rfl, ⟨A, c, rfl, Nat.zero_le _, fun W' _ => ⟨rfl, Nat.zero_le _, fun h => absurd h (by decide)⟩⟩, hb⟩
  · exact unit_pos n w (by omega) hn

/-- what edenref16.One leaves -/
def ROneRes (n : Int) (w : World) (e : Ending) (w' : World) : Prop :=
  ∃ v u, e = .returned (.tuple #[v, u]) ∧ Kd.V KM tNats w' 0 (fun k => w.heap.size ≤ k) v (oneL n) ∧ WantF w' w.heap.size u (oneO n) ∧ Below w.heap.size w w'
set_option maxHeartbeats 4000000 in
set_option maxRecDepth 100000 in
theorem rone_calls (n : Int) (w : World) : Calls Tryd.prog 14 #[.int .i64 n] w (ROneRes n w) := by
  obtain ⟨w0, hw0⟩ : ∃ w0, w.alloc (.cells #[.int .i64 0, .slice none 0 0, .slice none 0 0] tErr) = w0 := ⟨_, rfl⟩
  obtain ⟨b, hb0⟩ : ∃ b, w.heap.size = b := ⟨_, rfl⟩
  have hB0 : Below w.heap.size w w0 := by rw [← hw0]; exact below_alloc (Below.refl _ _) _
  have hbox : Box3 w0 b (.int .i64 0) (.slice none 0 0) (.slice none 0 0) := by rw [← hw0, ← hb0]; exact Box3.new _ _ _ _
  have hsz : w0.heap.size = b + 1 := by rw [← hw0, ← hb0]; simp
  have HB0 := Aside0.mk hB0
  have HBX := Aside0.mk hbox
  have HSZ := Aside0.mk hsz
  have HBE := Aside0.mk hb0
  have HW0 := Aside0.mk hw0
  clear hB0 hbox hsz
  by_cases hbad : n < 0 ∨ 96 < n
  · obtain ⟨m, hm⟩ : ∃ m : Int, m = if n < 0 then 3 else 4 := ⟨_, rfl⟩
    have e1 : oneO n = some (m, [(matS, 0)]) := by
      unfold oneO; rw [hm]; by_cases h : n < 0
      · rw [if_pos h, if_pos h]
      · rw [if_neg h, if_neg h, if_pos (by omega)]
    have e2 : oneL n = [] := by
      unfold oneL; by_cases h : n < 0
      · rw [if_pos h]
      · rw [if_neg h, if_pos (by omega)]
    unfold ROneRes
    rw [e1, e2]
    have HM := Aside0.mk hm
    by_cases h0 : n < 0
    · rw [if_pos h0] at hm
      subst hm
      have hd : decide (n < 0) = true := decide_eq_true h0
      clear hbad h0 e1 e2
      go_enter Tryd.func14, Tryd.ntmps14
      go_wp2_with fail
      clear hw0 hb0
      refine (new_F _ 0 3 w0).mono ?_
      rintro e w1 ⟨v, rfl, hf, hb⟩
      obtain ⟨n, A1, n1, c1, A2, n2, c2, rfl, hn⟩ := hf.now.form
      obtain ⟨k0, k1, k2, z0, z1, z2⟩ := (HBX.out.below hb).cells
      have HX2 := Aside0.mk ((HBX.out.below hb).put (.int .i64 n) (.slice A1 n1 c1) (.slice A2 n2 c2))
      have HF := Aside0.mk ((hf.put3 (b := b) (by rw [HSZ.out]; omega) (.int .i64 n) (.slice A1 n1 c1) (.slice A2 n2 c2)).lower (b' := w.heap.size) (by rw [HSZ.out, HBE.out]; omega))
      have HB1 := Aside0.mk (below_put3 (below_step HB0.out hb) (Nat.le_of_eq HBE.out) (.int .i64 n) (.slice A1 n1 c1) (.slice A2 n2 c2))
      clear hf hb hn
      go_wp2_with fail
      (try simp only [Exit.inBlock, Exit.then]); refine bodyPost_ret (res2 HX2.out rfl rfl) rfl ?_
      exact ⟨_, _, rfl, Kd.V_nil _ _ _ _ _, HF.out, HB1.out⟩
    · have h9 : 96 < n := by omega
      rw [if_neg h0] at hm
      subst hm
      have hd : decide (n < 0) = false := decide_eq_false h0
      have hd2 : decide (96 < n) = true := decide_eq_true h9
      clear hbad h0 h9 e1 e2
      go_enter Tryd.func14, Tryd.ntmps14
      go_wp2_with fail
      clear hw0 hb0
      refine (new_F _ 0 4 w0).mono ?_
      rintro e w1 ⟨v, rfl, hf, hb⟩
      obtain ⟨n, A1, n1, c1, A2, n2, c2, rfl, hn⟩ := hf.now.form
      obtain ⟨k0, k1, k2, z0, z1, z2⟩ := (HBX.out.below hb).cells
      have HX2 := Aside0.mk ((HBX.out.below hb).put (.int .i64 n) (.slice A1 n1 c1) (.slice A2 n2 c2))
      have HF := Aside0.mk ((hf.put3 (b := b) (by rw [HSZ.out]; omega) (.int .i64 n) (.slice A1 n1 c1) (.slice A2 n2 c2)).lower (b' := w.heap.size) (by rw [HSZ.out, HBE.out]; omega))
      have HB1 := Aside0.mk (below_put3 (below_step HB0.out hb) (Nat.le_of_eq HBE.out) (.int .i64 n) (.slice A1 n1 c1) (.slice A2 n2 c2))
      clear hf hb hn
      go_wp2_with fail
      (try simp only [Exit.inBlock, Exit.then]); refine bodyPost_ret (res2 HX2.out rfl rfl) rfl ?_
      exact ⟨_, _, rfl, Kd.V_nil _ _ _ _ _, HF.out, HB1.out⟩
  · obtain ⟨k, rfl⟩ : ∃ k : Nat, n = k := ⟨n.toNat, by omega⟩
    have hk : k ≤ 96 := by omega
    have e1 : oneO k = none := by unfold oneO; rw [if_neg (by omega), if_neg (by omega)]
    have e2 : oneL k = unitM k := by unfold oneL; rw [if_neg (by omega), if_neg (by omega), Int.toNat_natCast]
    unfold ROneRes
    rw [e1, e2]
    have hd : decide ((k : Int) < 0) = false := decide_eq_false (by omega)
    have hd2 : decide (96 < (k : Int)) = false := decide_eq_false (by omega)
    have HK := Aside0.mk hk
    clear hbad hk e1 e2
    go_enter Tryd.func14, Tryd.ntmps14
    go_wp2_with fail
    clear hw0 hb0
    refine (unit_calls k w0 HK.out).mono ?_
    rintro e w1 ⟨v, rfl, hv, hb⟩
    obtain ⟨Av, cv, rfl⟩ := Kd.V_slice hv
    obtain ⟨k0, k1, k2, z0, z1, z2⟩ := (HBX.out.below hb).cells
    have HX2 := Aside0.mk ((HBX.out.below hb).put (.int .i64 0) (.slice none 0 0) (.slice none 0 0))
    have HV := Aside0.mk (Kd.V_mono (ok' := fun k => w.heap.size ≤ k) (Kd.V_far (p := ⟨b, 2, none⟩) (Kd.V_far (p := ⟨b, 1, none⟩) (Kd.V_far (p := ⟨b, 0, none⟩) hv (fun k hk => by have := HSZ.out; show k ≠ b; omega) (.int .i64 0)) (fun k hk => by have := HSZ.out; show k ≠ b; omega) (.slice none 0 0)) (fun k hk => by have := HSZ.out; show k ≠ b; omega) (.slice none 0 0)) (fun k hk => by have := HSZ.out; have := HBE.out; omega))
    have HB1 := Aside0.mk (below_put3 (below_step HB0.out hb) (Nat.le_of_eq HBE.out) (.int .i64 0) (.slice none 0 0) (.slice none 0 0))
    clear hv hb
    go_wp2_with fail
    (try simp only [Exit.inBlock, Exit.then]); refine bodyPost_ret (res2 HX2.out rfl rfl) rfl ?_
    exact ⟨_, _, rfl, HV.out, WantF.nil _ _, HB1.out⟩
end Go.Proofs.YtmnmmalffpimeaaDoor

/- edenlaw16's line and same: equal lists, equal matrices. -/
namespace Go.Proofs.YtmnmmalffpimeaaDoor
open Go.RowKit Go.Proofs.YtmnmmalffpimeaaDoorW.PrintWords Go.Proofs.YtmnmmalffpimeaaDoorW.PrintLast Go.Proofs.YtmnmmalffpimeaaDoorW.PrintMore
set_option linter.unusedVariables false
set_option linter.unusedSimpArgs false

set_option maxHeartbeats 4000000 in
set_option maxRecDepth 100000 in
theorem line_true (A0 A1 : Option Addr) (c0 c1 : Nat) (l : List (List Int)) (w : World) (hr0 : Kd.C KN w A0 l.length l) (hr1 : Kd.C KN w A1 l.length l) :
    Calls Tryd.prog 69 #[.slice A0 l.length c0, .slice A1 l.length c1] w fun e w' => e = .returned (.bool true) ∧ Drawn0 w w' := by
  have HR0 := Aside0.mk hr0
  have HR1 := Aside0.mk hr1
  have hm := Kd.C_max hr0
  clear hr0 hr1
  go_enter Tryd.func69, Tryd.ntmps69
  go_wp2_with fail
  go_loopg [5] l.length (fun kq v5 w' => ∃ i : Nat, v5 = .int .i64 i ∧ kq + i = l.length ∧ Aside0 (Drawn0 w w'))
  case atStart => exact ⟨0, rfl, rfl, ⟨Drawn0.refl _⟩⟩
  case round =>
    obtain ⟨i, rfl, hk, HD⟩ := hrel
    by_cases hlt : i < l.length
    · obtain ⟨k1, rfl⟩ : ∃ k1, gk = k1 + 1 := ⟨gk - 1, by omega⟩
      obtain ⟨ad0, B0, d0, e0, hx0, hl0, hC0⟩ := atRow (Kd.C_below HR0.out HD.out.below) i hlt
      obtain ⟨ad1, B1, d1, e1, hx1, hl1, hC1⟩ := atRow (Kd.C_below HR1.out HD.out.below) i hlt
      subst e0
      subst e1
      have HC0 := Aside0.mk hC0
      have HC1 := Aside0.mk hC1
      have hil : i < 9223372036854775807 := by omega
      clear hl0 hC0 hl1 hC1
      go_wp2_with fail
      go_quiet (first | (go_at_call 24; (with_reducible refine (nats_true B0 B1 d0 d1 l[i] _ ?side1 ?side2).mono ?_); (case side1 => repeat (first | exact HC0.out | (with_reducible refine Kd.C_drewN ?_ _) | (with_reducible refine Kd.C_drew ?_))); (case side2 => repeat (first | exact HC1.out | (with_reducible refine Kd.C_drewN ?_ _) | (with_reducible refine Kd.C_drew ?_))); rintro e w' ⟨rfl, ⟨nd, rfl⟩⟩; (try first | exact ⟨rfl, _, World.drewN_drewN _ _ _⟩ | exact ⟨rfl, _, Eq.trans (World.drewN_drewN _ _ _) (congrArg (World.drewN _) (Nat.add_assoc _ _ _))⟩)))
      go_wp2_with fail
      go_roundg k1
      case measure => omega
      case rel => exact ⟨i + 1, by go_num, by omega, ⟨by repeat (first | exact HD.out | apply Drawn0.step)⟩⟩
    · go_wp2_with fail
      go_ret
      exact ⟨rfl, HD.out⟩

set_option maxHeartbeats 4000000 in
set_option maxRecDepth 100000 in
theorem same_true (A0 A1 : Option Addr) (c0 c1 : Nat) (l : List (List (List Int))) (w : World) (hr0 : Kd.C KM w A0 l.length l) (hr1 : Kd.C KM w A1 l.length l) :
    Calls Tryd.prog 15 #[.slice A0 l.length c0, .slice A1 l.length c1] w fun e w' => e = .returned (.bool true) ∧ Drawn0 w w' := by
  have HR0 := Aside0.mk hr0
  have HR1 := Aside0.mk hr1
  have hm := Kd.C_max hr0
  clear hr0 hr1
  go_enter Tryd.func15, Tryd.ntmps15
  go_wp2_with fail
  go_loopg [5] l.length (fun kq v5 w' => ∃ i : Nat, v5 = .int .i64 i ∧ kq + i = l.length ∧ Aside0 (Drawn0 w w'))
  case atStart => exact ⟨0, rfl, rfl, ⟨Drawn0.refl _⟩⟩
  case round =>
    obtain ⟨i, rfl, hk, HD⟩ := hrel
    by_cases hlt : i < l.length
    · obtain ⟨k1, rfl⟩ : ∃ k1, gk = k1 + 1 := ⟨gk - 1, by omega⟩
      obtain ⟨ad0, B0, d0, e0, hx0, hl0, hC0⟩ := atRow (Kd.C_below HR0.out HD.out.below) i hlt
      obtain ⟨ad1, B1, d1, e1, hx1, hl1, hC1⟩ := atRow (Kd.C_below HR1.out HD.out.below) i hlt
      subst e0
      subst e1
      have HC0 := Aside0.mk hC0
      have HC1 := Aside0.mk hC1
      have hil : i < 9223372036854775807 := by omega
      clear hl0 hC0 hl1 hC1
      go_wp2_with fail
      go_quiet (first | (go_at_call 69; (with_reducible refine (line_true B0 B1 d0 d1 l[i] _ ?side1 ?side2).mono ?_); (case side1 => repeat (first | exact HC0.out | (with_reducible refine Kd.C_drewN ?_ _) | (with_reducible refine Kd.C_drew ?_))); (case side2 => repeat (first | exact HC1.out | (with_reducible refine Kd.C_drewN ?_ _) | (with_reducible refine Kd.C_drew ?_))); rintro e w' ⟨rfl, ⟨nd, rfl⟩⟩; (try first | exact ⟨rfl, _, World.drewN_drewN _ _ _⟩ | exact ⟨rfl, _, Eq.trans (World.drewN_drewN _ _ _) (congrArg (World.drewN _) (Nat.add_assoc _ _ _))⟩)))
      go_wp2_with fail
      go_roundg k1
      case measure => omega
      case rel => exact ⟨i + 1, by go_num, by omega, ⟨by repeat (first | exact HD.out | apply Drawn0.step)⟩⟩
    · go_wp2_with fail
      go_ret
      exact ⟨rfl, HD.out⟩
end Go.Proofs.YtmnmmalffpimeaaDoor

/- Plain facts on square matrices as functions; and lists of lists of numbers that are such matrices. -/
namespace Go.Proofs.YtmnmmalffpimeaaDoor

def sumTo : Nat → (Nat → Int) → Int
  | 0, _ => 0
  | n + 1, f => sumTo n f + f n
theorem sumTo_congr : ∀ (n : Nat) {f g : Nat → Int}, (∀ i, i < n → f i = g i) → sumTo n f = sumTo n g
  | 0, _, _, _ => rfl
  | n + 1, f, g, h => by
    simp only [sumTo]
    rw [sumTo_congr n (fun i hi => h i (by omega)), h n (by omega)]
theorem sumTo_zero : ∀ (n : Nat), sumTo n (fun _ => 0) = 0
  | 0 => rfl
  | n + 1 => by simp only [sumTo, sumTo_zero n]; rfl
theorem sumTo_add : ∀ (n : Nat) (f g : Nat → Int), sumTo n (fun i => f i + g i) = sumTo n f + sumTo n g
  | 0, _, _ => rfl
  | n + 1, f, g => by simp only [sumTo, sumTo_add n f g]; omega
theorem sumTo_mul_left : ∀ (n : Nat) (c : Int) (f : Nat → Int), c * sumTo n f = sumTo n (fun i => c * f i)
  | 0, c, _ => by simp [sumTo]
  | n + 1, c, f => by simp only [sumTo, ← sumTo_mul_left n c f, Int.mul_add]
theorem sumTo_mul_right (n : Nat) (c : Int) (f : Nat → Int) : sumTo n f * c = sumTo n (fun i => f i * c) := by
  rw [Int.mul_comm, sumTo_mul_left]
  exact sumTo_congr n (fun i _ => Int.mul_comm _ _)
theorem sumTo_comm (m : Nat) : ∀ (n : Nat) (f : Nat → Nat → Int), sumTo n (fun i => sumTo m (fun j => f i j)) = sumTo m (fun j => sumTo n (fun i => f i j))
  | 0, f => by simp only [sumTo]; exact (sumTo_zero m).symm
  | n + 1, f => by
    simp only [sumTo]
    rw [sumTo_comm m n f, ← sumTo_add]
theorem sumTo_one : ∀ (n i : Nat) (f : Nat → Int), i < n → sumTo n (fun t => if i = t then f t else 0) = f i
  | 0, i, _, h => by omega
  | n + 1, i, f, h => by
    simp only [sumTo]
    by_cases e : i = n
    · subst e
      have : sumTo i (fun t => if i = t then f t else 0) = 0 := by
        rw [sumTo_congr i (g := fun _ => 0) (fun t ht => by rw [if_neg (by omega)]), sumTo_zero]
      rw [this, if_pos rfl]; omega
    · rw [sumTo_one n i f (by omega), if_neg e]; omega
theorem sumTo_nonneg : ∀ (n : Nat) {f : Nat → Int}, (∀ i, i < n → 0 ≤ f i) → 0 ≤ sumTo n f
  | 0, _, _ => Int.le_refl _
  | n + 1, f, h => by
    have := sumTo_nonneg n (f := f) (fun i hi => h i (by omega))
    have := h n (by omega)
    simp only [sumTo]; omega
theorem sumTo_le : ∀ (n : Nat) {f : Nat → Int} {c : Int}, (∀ i, i < n → f i ≤ c) → sumTo n f ≤ n * c
  | 0, f, c, _ => by simp [sumTo]
  | n + 1, f, c, h => by
    have := sumTo_le n (f := f) (c := c) (fun i hi => h i (by omega))
    have := h n (by omega)
    simp only [sumTo, Int.natCast_add, Int.add_mul]
    omega

def mm (n : Nat) (f g : Nat → Nat → Int) : Nat → Nat → Int := fun i j => sumTo n (fun t => f i t * g t j)
def mid : Nat → Nat → Int := fun i j => if i = j then 1 else 0
def mpow (n : Nat) (f : Nat → Nat → Int) : Nat → Nat → Nat → Int
  | 0 => mid
  | k + 1 => mm n f (mpow n f k)
def EqM (n : Nat) (f g : Nat → Nat → Int) : Prop := ∀ i, i < n → ∀ j, j < n → f i j = g i j
theorem EqM.refl (n : Nat) (f : Nat → Nat → Int) : EqM n f f := fun _ _ _ _ => rfl
theorem EqM.symm {n : Nat} {f g : Nat → Nat → Int} (h : EqM n f g) : EqM n g f := fun i hi j hj => (h i hi j hj).symm
theorem EqM.trans {n : Nat} {f g k : Nat → Nat → Int} (h : EqM n f g) (h' : EqM n g k) : EqM n f k := fun i hi j hj => (h i hi j hj).trans (h' i hi j hj)
theorem EqM.mm {n : Nat} {f f' g g' : Nat → Nat → Int} (h : EqM n f f') (h' : EqM n g g') : EqM n (mm n f g) (mm n f' g') := fun i hi j hj =>
  sumTo_congr n (fun t ht => by rw [h i hi t ht, h' t ht j hj])
theorem mm_assoc (n : Nat) (f g h : Nat → Nat → Int) : EqM n (mm n (mm n f g) h) (mm n f (mm n g h)) := by
  intro i _ j _
  show sumTo n (fun t => sumTo n (fun s => f i s * g s t) * h t j) = sumTo n (fun s => f i s * sumTo n (fun t => g s t * h t j))
  have e1 : ∀ t, t < n → sumTo n (fun s => f i s * g s t) * h t j = sumTo n (fun s => f i s * g s t * h t j) := fun t _ => sumTo_mul_right _ _ _
  rw [sumTo_congr n e1, sumTo_comm n n (fun t s => f i s * g s t * h t j)]
  refine sumTo_congr n (fun s _ => ?_)
  rw [sumTo_mul_left]
  exact sumTo_congr n (fun t _ => Int.mul_assoc _ _ _)
theorem mm_id_left (n : Nat) (f : Nat → Nat → Int) : EqM n (mm n mid f) f := by
  intro i hi j _
  show sumTo n (fun t => mid i t * f t j) = f i j
  rw [← sumTo_one n i (fun t => f t j) hi]
  refine sumTo_congr n (fun t _ => ?_)
  unfold mid
  split <;> simp
theorem mm_id_right (n : Nat) (f : Nat → Nat → Int) : EqM n (mm n f mid) f := by
  intro i _ j hj
  show sumTo n (fun t => f i t * mid t j) = f i j
  rw [← sumTo_one n j (fun t => f i t) hj]
  refine sumTo_congr n (fun t _ => ?_)
  unfold mid
  by_cases e : j = t
  · subst e; simp
  · rw [if_neg e, if_neg (fun h => e h.symm)]; simp
theorem EqM.pow {n : Nat} {f g : Nat → Nat → Int} (h : EqM n f g) : ∀ k, EqM n (mpow n f k) (mpow n g k)
  | 0 => EqM.refl _ _
  | k + 1 => h.mm (h.pow k)
theorem mpow_add (n : Nat) (f : Nat → Nat → Int) : ∀ a b, EqM n (mpow n f (a + b)) (mm n (mpow n f a) (mpow n f b))
  | 0, b => by
    rw [Nat.zero_add]
    exact (mm_id_left n _).symm
  | a + 1, b => by
    rw [Nat.add_right_comm]
    exact ((EqM.refl n f).mm (mpow_add n f a b)).trans (mm_assoc n f _ _).symm
theorem mpow_one (n : Nat) (f : Nat → Nat → Int) : EqM n (mpow n f 1) f := mm_id_right n f
theorem mpow_sq (n : Nat) (f : Nat → Nat → Int) : ∀ k, EqM n (mpow n (mm n f f) k) (mpow n f (2 * k))
  | 0 => EqM.refl _ _
  | k + 1 => by
    have h1 := (EqM.refl n (mm n f f)).mm (mpow_sq n f k)
    refine h1.trans ?_
    have h2 := mm_assoc n f f (mpow n f (2 * k))
    rw [show 2 * (k + 1) = 2 * k + 1 + 1 by omega]
    exact h2

/-- the list is the matrix f of n lines, its numbers normal with at most K limbs -/
def IsM (n K : Nat) (f : Nat → Nat → Int) (xs : List (List (List Int))) : Prop :=
  xs.length = n ∧ ∀ i (hi : i < xs.length), xs[i].length = n ∧ ∀ j (hj : j < xs[i].length), Nrm xs[i][j] ∧ val xs[i][j] = f i j ∧ xs[i][j].length ≤ K
/-- .. perhaps not normal -/
def InM (n K : Nat) (f : Nat → Nat → Int) (xs : List (List (List Int))) : Prop :=
  xs.length = n ∧ ∀ i (hi : i < xs.length), xs[i].length = n ∧ ∀ j (hj : j < xs[i].length), Limbs xs[i][j] ∧ val xs[i][j] = f i j ∧ xs[i][j].length ≤ K
theorem IsM.inM {n K : Nat} {f : Nat → Nat → Int} {xs : List (List (List Int))} (h : IsM n K f xs) : InM n K f xs :=
  ⟨h.1, fun i hi => ⟨(h.2 i hi).1, fun j hj => ⟨((h.2 i hi).2 j hj).1.1, ((h.2 i hi).2 j hj).2⟩⟩⟩
theorem IsM.congr {n K : Nat} {f g : Nat → Nat → Int} {xs : List (List (List Int))} (h : IsM n K f xs) (he : EqM n f g) : IsM n K g xs :=
  ⟨h.1, fun i hi => ⟨(h.2 i hi).1, fun j hj => ⟨((h.2 i hi).2 j hj).1, by rw [((h.2 i hi).2 j hj).2.1, he i (by have := h.1; omega) j (by have := (h.2 i hi).1; omega)], ((h.2 i hi).2 j hj).2.2⟩⟩⟩
/-- two such lists are one -/
theorem IsM.inj {n K K' : Nat} {f : Nat → Nat → Int} {xs ys : List (List (List Int))} (h : IsM n K f xs) (h' : IsM n K' f ys) : xs = ys := by
  refine List.ext_getElem (by rw [h.1, h'.1]) (fun i hi hi' => List.ext_getElem (by rw [(h.2 i hi).1, (h'.2 i hi').1]) (fun j hj hj' => ?_))
  have a := (h.2 i hi).2 j hj
  have b := (h'.2 i hi').2 j hj'
  exact Nrm.inj a.1 b.1 (by rw [a.2.1, b.2.1])
def ent (m : List (List (List Int))) (i j : Nat) : Int := val ((m.getD i []).getD j [])
end Go.Proofs.YtmnmmalffpimeaaDoor

/- What bits.Sub32 and nat.Sub compute: a difference and its borrow. -/
namespace Go.Proofs.YtmnmmalffpimeaaDoor
open Go.RowKit Go.Proofs.YtmnmmalffpimeaaDoorW.PrintWords Go.Proofs.YtmnmmalffpimeaaDoorW.PrintLast Go.Proofs.YtmnmmalffpimeaaDoorW.PrintMore
set_option linter.unusedVariables false
set_option linter.unusedSimpArgs false

theorem top_bit {n : Nat} (h : n < 4294967296) : n / 2147483648 = if n.testBit 31 then 1 else 0 := by
  rw [Nat.testBit_eq_decide_div_mod_eq]
  by_cases h1 : n / 2147483648 % 2 = 1
  · rw [if_pos (by simpa using h1)]; omega
  · rw [if_neg (by simpa using h1)]; omega
theorem test_top {n : Nat} (h : n < 4294967296) : n.testBit 31 = decide (2147483648 ≤ n) := by
  rw [Nat.testBit_eq_decide_div_mod_eq]
  rw [decide_eq_decide]
  show n / 2147483648 % 2 = 1 ↔ _
  omega
theorem borrow_nat (x y b d : Nat) (hx : x < 4294967296) (hy : y < 4294967296) (hb : b ≤ 1) (hd : d = (x + 8589934592 - y - b) % 4294967296) :
    (((4294967295 ^^^ x) &&& y) ||| ((4294967295 ^^^ (x ^^^ y)) &&& d)) / 2147483648 = if x < y + b then 1 else 0 := by
  have hd1 : d < 4294967296 := by omega
  have hm : (((4294967295 ^^^ x) &&& y) ||| ((4294967295 ^^^ (x ^^^ y)) &&& d)) < 4294967296 := by
    have h1 : ((4294967295 ^^^ x) &&& y) < 2 ^ 32 := Nat.and_lt_two_pow _ (by omega)
    have h2 : ((4294967295 ^^^ (x ^^^ y)) &&& d) < 2 ^ 32 := Nat.and_lt_two_pow _ (by omega)
    exact Nat.or_lt_two_pow h1 h2
  rw [top_bit hm]
  simp only [Nat.testBit_or, Nat.testBit_and, Nat.testBit_xor]
  rw [show (4294967295 : Nat).testBit 31 = true from by decide, test_top hx, test_top hy, test_top hd1]
  by_cases h1 : 2147483648 ≤ x <;> by_cases h2 : 2147483648 ≤ y <;> by_cases h3 : 2147483648 ≤ d <;> simp [h1, h2, h3] <;> omega
/-- the borrow -/
def bor (x y c : Int) : Int := if x < y + c then 1 else 0
theorem borrow_int (x y c : Int) (hx0 : 0 ≤ x) (hx : x < 4294967296) (hy0 : 0 ≤ y) (hy : y < 4294967296) (hc0 : 0 ≤ c) (hc : c ≤ 1) :
    bits .or .u32 (bits .and .u32 (bits .xor .u32 4294967295 x) y) (bits .and .u32 (bits .xor .u32 4294967295 (bits .xor .u32 x y)) ((x - y - c) % 4294967296)) / 2147483648 = bor x y c := by
  obtain ⟨X, rfl⟩ := Int.eq_ofNat_of_zero_le hx0
  obtain ⟨Y, rfl⟩ := Int.eq_ofNat_of_zero_le hy0
  obtain ⟨C, rfl⟩ := Int.eq_ofNat_of_zero_le hc0
  have hX : X < 4294967296 := by omega
  have hY : Y < 4294967296 := by omega
  have hC : C ≤ 1 := by omega
  have hD : ((X : Int) - Y - C) % 4294967296 = (((X + 8589934592 - Y - C) % 4294967296 : Nat) : Int) := by omega
  have lt32 : ∀ {a b : Nat}, a < 4294967296 → b < 4294967296 → a ^^^ b < 4294967296 := fun {a b} ha hb => Nat.xor_lt_two_pow (n := 32) ha hb
  have lta : ∀ {a b : Nat}, b < 4294967296 → a &&& b < 4294967296 := fun {a b} hb => Nat.and_lt_two_pow (n := 32) _ hb
  obtain ⟨d, hd⟩ : ∃ d, d = (X + 8589934592 - Y - C) % 4294967296 := ⟨_, rfl⟩
  rw [hD, ← hd]
  have hd1 : d < 4294967296 := by omega
  rw [show (4294967295 : Int) = ((4294967295 : Nat) : Int) from rfl, u32_xor_nat _ _ (by decide) hX, u32_xor_nat _ _ hX hY, u32_xor_nat _ _ (by decide) (lt32 hX hY), u32_and_nat _ _ (lt32 (by decide) hX) hY, u32_and_nat _ _ (lt32 (by decide) (lt32 hX hY)) hd1,
    u32_or_nat _ _ (lta hY) (lta hd1)]
  have h := borrow_nat X Y C d hX hY hC hd
  rw [show (2147483648 : Int) = ((2147483648 : Nat) : Int) from rfl, ← Int.natCast_ediv, h]
  unfold bor
  by_cases hlt : X < Y + C
  · rw [if_pos hlt, if_pos (by omega)]; rfl
  · rw [if_neg hlt, if_neg (by omega)]; rfl

set_option maxHeartbeats 2000000 in
set_option maxRecDepth 100000 in
theorem sub32_calls (x y c : Int) (w : World) (hx0 : 0 ≤ x) (hx : x < 4294967296) (hy0 : 0 ≤ y) (hy : y < 4294967296) (hc0 : 0 ≤ c) (hc : c ≤ 1) :
    Calls Tryd.prog 107 #[.int .u32 x, .int .u32 y, .int .u32 c] w fun e w' => e = .returned (.tuple #[.int .u32 ((x - y - c) % 4294967296), .int .u32 (bor x y c)]) ∧ w = w' := by
  have HM := Aside0.mk (borrow_int x y c hx0 hx hy0 hy hc0 hc)
  have HD : Aside0 (((x - y) % 4294967296 - c) % 4294967296 = (x - y - c) % 4294967296) := ⟨by omega⟩
  go_enter Tryd.func107, Tryd.ntmps107
  go_wp2_with fail
  go_ret2
  refine ⟨?_, rfl⟩
  rw [← HM.out, ← HD.out]
  rfl

/-- after i rounds: the digits so far, and the borrow -/
def SubInv (l0 l1 : List Int) (i : Nat) (c : Int) (s : List Int) : Prop :=
  i ≤ l0.length ∧ s.length = i ∧ Limbs s ∧ 0 ≤ c ∧ c ≤ 1 ∧ val s - 4294967296 ^ i * c = val (l0.take i) - val (l1.take i)
theorem SubInv.step {l0 l1 : List Int} {i : Nat} {c : Int} {s : List Int} (h : SubInv l0 l1 i c s) (hi : i < l0.length) (h0 : Limbs l0) (h1 : Limbs l1) :
    SubInv l0 l1 (i + 1) (bor (limb l0 i) (limb l1 i) c) (s ++ [(limb l0 i - limb l1 i - c) % 4294967296]) := by
  obtain ⟨a1, a2, a3, a4, a5, a6⟩ := h
  have b0 := h0.getD i
  have b1 := h1.getD i
  rw [← limb_eq] at b0 b1
  have hb : 0 ≤ bor (limb l0 i) (limb l1 i) c ∧ bor (limb l0 i) (limb l1 i) c ≤ 1 := by unfold bor; split <;> omega
  refine ⟨by omega, by simp [a2], a3.append (Limbs.cons ⟨by omega, by omega⟩ Limbs.nil), hb.1, hb.2, ?_⟩
  rw [val_snoc, a2, val_take_limb, val_take_limb, Int.pow_succ]
  have e : limb l0 i - limb l1 i - c = (limb l0 i - limb l1 i - c) % 4294967296 - 4294967296 * bor (limb l0 i) (limb l1 i) c := by unfold bor; split <;> omega
  generalize bor (limb l0 i) (limb l1 i) c = q at *
  generalize (limb l0 i - limb l1 i - c) % 4294967296 = m at *
  generalize (4294967296 : Int) ^ i = p at *
  grind
theorem SubInv.done {l0 l1 : List Int} {c : Int} {s : List Int} (h : SubInv l0 l1 l0.length c s) (hge : l1.length ≤ l0.length) (h0 : Limbs l0) (h1 : Limbs l1) (hv : val l1 ≤ val l0) : val s = val l0 - val l1 ∧ Limbs s := by
  obtain ⟨a1, a2, a3, a4, a5, a6⟩ := h
  rw [List.take_length, List.take_of_length_le hge] at a6
  have h2 := val_lt a3
  rw [a2] at h2
  have hc : c = 0 := by
    rcases (show c = 0 ∨ c = 1 by omega) with rfl | rfl
    · rfl
    · exfalso; omega
  subst hc
  exact ⟨by omega, a3⟩
theorem length_of_val {a b : List Int} (ha : Nrm a) (hb : Nrm b) (h : val b ≤ val a) : b.length ≤ a.length := by
  rcases Nat.lt_or_ge a.length b.length with h1 | h1
  · have := val_lt_of_length ha hb h1
    omega
  · exact h1
theorem set_zeros' (s : List Int) (n : Nat) (x : Int) (i : Nat) (hi : s.length = i) (hn : i < n) : (s ++ List.replicate (n - i) 0).set i x = (s ++ [x]) ++ List.replicate (n - (i + 1)) 0 := by
  rw [set_zeros s (n - i) x i hi (by omega), show n - i - 1 = n - (i + 1) by omega]

/-- what nat.Sub leaves -/
def SubRes (w : World) (x : Int) (e : Ending) (w' : World) : Prop := ∃ v l, e = .returned (.tuple #[v, .nilIface]) ∧ FrN w.heap.size w' v l ∧ Nrm l ∧ val l = x ∧ Below w.heap.size w w'
set_option maxHeartbeats 8000000 in
set_option maxRecDepth 100000 in
theorem sub_calls (A0 A1 : Option Addr) (c0 c1 : Nat) (l0 l1 : List Int) (w : World) (hr0 : Kd.C (Kd.int .u32) w A0 l0.length l0) (hc0 : l0.length ≤ c0) (hr1 : Kd.C (Kd.int .u32) w A1 l1.length l1) (hc1 : l1.length ≤ c1)
    (hL0 : Limbs l0) (hL1 : Limbs l1) (hm : l0.length ≤ 70368744177664) (hv : val l1 ≤ val l0) :
    Calls Tryd.prog 53 #[.slice A0 l0.length c0, .slice A1 l1.length c1] w (SubRes w (val l0 - val l1)) := by
  have HCMP := Aside0.mk (cmp_calls A0 A1 c0 c1 l0 l1 w hr0 hc0 hr1 hc1 hL0 hL1)
  obtain ⟨cv, hcv⟩ : ∃ cv, cmpI (val l0) (val l1) = cv := ⟨_, rfl⟩
  have hcd : decide (cv < 0) = false := decide_eq_false (by rw [← hcv]; unfold cmpI; split <;> (try split) <;> omega)
  rw [hcv] at HCMP
  have HR0 := Aside0.mk hr0
  have HR1 := Aside0.mk hr1
  have HC0 := Aside0.mk hc0
  have HC1 := Aside0.mk hc1
  have ht0 := Kd.C_take (m := (trim l0).length) hr0 (trim_length_le l0)
  have ht1 := Kd.C_take (m := (trim l1).length) hr1 (trim_length_le l1)
  rw [trim_take] at ht0 ht1
  have HN0 := Aside0.mk (trim_nrm hL0)
  have HN1 := Aside0.mk (trim_nrm hL1)
  rw [← trim_val l0, ← trim_val l1] at hv ⊢
  have hk0 : (trim l0).length ≤ c0 := Nat.le_trans (trim_length_le l0) hc0
  have hk1 : (trim l1).length ≤ c1 := Nat.le_trans (trim_length_le l1) hc1
  have hm' : (trim l0).length ≤ 70368744177664 := Nat.le_trans (trim_length_le l0) hm
  obtain ⟨t0, e0⟩ : ∃ t, trim l0 = t := ⟨_, rfl⟩
  obtain ⟨t1, e1⟩ : ∃ t, trim l1 = t := ⟨_, rfl⟩
  rw [e0] at ht0 hk0 HN0 hm' hv ⊢
  rw [e1] at ht1 hk1 HN1 hv ⊢
  have E0 := Aside0.mk e0
  have E1 := Aside0.mk e1
  have HT0 := Aside0.mk ht0
  have HT1 := Aside0.mk ht1
  have hm0 := Kd.C_max ht0
  have HM := Aside0.mk hm'
  have HGE := Aside0.mk (length_of_val HN0.out HN1.out hv)
  have HV := Aside0.mk hv
  clear hr0 hr1 hc0 hc1 e0 e1 ht0 ht1 hL0 hL1 hm hm' hv hcv
  have harm0 : ∀ w1, Kd.C (Kd.int .u32) w1 A0 l0.length l0 → Calls Tryd.prog 101 #[.slice A0 l0.length c0] w1 fun e w' => e = .returned (.slice A0 t0.length c0) ∧ w1 = w' := by
    intro w1 hr
    have h := norm_calls A0 c0 l0 w1 hr HC0.out
    rw [E0.out] at h
    exact h
  have harm1 : ∀ w1, Kd.C (Kd.int .u32) w1 A1 l1.length l1 → Calls Tryd.prog 101 #[.slice A1 l1.length c1] w1 fun e w' => e = .returned (.slice A1 t1.length c1) ∧ w1 = w' := by
    intro w1 hr
    have h := norm_calls A1 c1 l1 w1 hr HC1.out
    rw [E1.out] at h
    exact h
  have HA0 := Aside0.mk harm0
  have HA1 := Aside0.mk harm1
  have P0 : Aside0 (0 ≤ (t0.length : Int)) := ⟨by omega⟩
  clear harm0 harm1
  go_enter Tryd.func53, Tryd.ntmps53
  go_wp2_with fail
  refine HCMP.out.mono ?_
  rintro e w0 ⟨rfl, hw⟩
  have HB := Aside0.mk hw.below
  have HSZ := Aside0.mk hw.below.size
  clear hw
  go_wp2_with fail
  refine (HA0.out _ (Kd.C_below HR0.out HB.out)).mono ?_
  rintro e w' ⟨rfl, rfl⟩
  go_wp2_with fail
  refine (HA1.out _ (Kd.C_below HR1.out HB.out)).mono ?_
  rintro e w' ⟨rfl, rfl⟩
  go_wp2_with (first | ((with_reducible refine gate_dst (N := 22) rfl ?_); refine Kd.R_make (Kd.int .u32) _ 74 rfl (N := 22) rfl 44 _ _ rfl (t0.length : Int) rfl rfl Tryd.underlying44 (.int .u32 0) 4 info_u32 rfl (by decide) (by omega) 0 (ok := fun _ => True) (okp := fun _ => True) rfl (fun _ hk => hk) trivial P0.out (by have := HM.out; omega) HB.out HSZ.out ?_; intro vo w1 ho hb hg_ hnew_; clear hg_ hnew_ HB HSZ; have HB := Aside0.mk hb; have HO := Aside0.mk ho; clear hb ho))
  obtain ⟨Ao, co, eo⟩ := Kd.R_slice HO.out
  rw [List.length_replicate, Int.toNat_natCast] at eo
  rw [Int.toNat_natCast] at HO
  subst eo
  clear hcd hk0 hk1
  go_loopg [7, 25] (t0.length) (fun kq v7 v25 w' => ∃ (i : Nat) (c : Int) (s : List Int), v7 = .int .u32 c ∧ v25 = .int .i64 i ∧ Aside0 (SubInv t0 t1 i c s) ∧ Aside0 (kq + i = t0.length) ∧ Aside0 (Kd.R (Kd.int .u32) 74 w' w.heap.size (fun _ => True) (.slice Ao t0.length co) (s ++ List.replicate (t0.length - i) 0)) ∧ Aside0 (Below w.heap.size w w'))
  case atStart => exact ⟨0, 0, [], rfl, rfl, ⟨⟨Nat.zero_le _, rfl, Limbs.nil, by decide, by decide, by simp [val]⟩⟩, ⟨rfl⟩, ⟨by simpa using HO.out⟩, HB⟩
  case round =>
    clear HO HB
    obtain ⟨i, c, s, rfl, rfl, HA, HK, HO, HB⟩ := hrel
    by_cases hlt : i < t0.length
    · obtain ⟨k1, rfl⟩ : ∃ k1, gk = k1 + 1 := ⟨gk - 1, by have := HK.out; omega⟩
      obtain ⟨g, cq, eo, gb, gl, cl, HG⟩ := Kd.R_form HO.out (by simp [HA.out.2.1]; omega)
      injection eo with e1 e2 e3
      subst e1
      subst e3
      clear e2
      have GB := Aside0.mk gb
      clear gb gl cl HG
      obtain ⟨ad0, e0, hx0⟩ := Kd.at_int HT0.out (i : Int) (by omega) (by omega)
      cases e0
      replace hx0 := (HB.out.cell (World.block_lt_of_cell? w _ hx0)).trans hx0
      simp only [Int.toNat_natCast] at hx0
      have hib : i < 9223372036854775807 := by have := HM.out; omega
      have BX := Aside0.mk (HN0.out.1.getD i)
      have BY := Aside0.mk (HN1.out.1.getD i)
      have BC : Aside0 (0 ≤ c ∧ c ≤ 1) := ⟨⟨HA.out.2.2.2.1, HA.out.2.2.2.2.1⟩⟩
      have HS := Aside0.mk (HA.out.step hlt HN0.out.1 HN1.out.1)
      have hrep := set_zeros' s t0.length ((limb t0 i - limb t1 i - c) % 4294967296) i HA.out.2.1 (by omega)
      have HX : Aside0 (limb t0 i = rd t0 (i : Int)) := ⟨by rw [limb, if_pos hlt]⟩
      by_cases hl1 : i < t1.length
      · obtain ⟨ad1, e1, hx1⟩ := Kd.at_int HT1.out (i : Int) (by omega) (by omega)
        cases e1
        replace hx1 := (HB.out.cell (World.block_lt_of_cell? w _ hx1)).trans hx1
        simp only [Int.toNat_natCast] at hx1
        have hl1b : decide (i < t1.length) = true := decide_eq_true hl1
        have HY : Aside0 (limb t1 i = rd t1 (i : Int)) := ⟨by rw [limb, if_pos hl1]⟩
        have HE : Aside0 ((limb t0 i - limb t1 i - c) % 4294967296 = ((rd t0 (i : Int) - rd t1 (i : Int) - c) % 4294967296)) := ⟨by rw [HX.out, HY.out]⟩
        have HPP : Aside0 (Kd.R (Kd.int .u32) 74 (wr.setCell ⟨g, i, none⟩ (.int .u32 ((rd t0 (i : Int) - rd t1 (i : Int) - c) % 4294967296))) w.heap.size (fun _ => True) (.slice (some ⟨g, 0, none⟩) t0.length co) ((s ++ [(limb t0 i - limb t1 i - c) % 4294967296]) ++ List.replicate (t0.length - (i + 1)) 0)) :=
          ⟨by have h := (Kd.R_putg HO.out (i : Int) ((limb t0 i - limb t1 i - c) % 4294967296)).1; rw [Int.toNat_natCast, hrep] at h; rw [← HE.out]; exact h⟩
        obtain ⟨hc, hf⟩ := Kd.R_celln 0 HO.out (i : Int) (by omega) (by omega)
        rw [Int.toNat_natCast] at hc hf
        have HBS := Aside0.mk (fun v => below_set (g := g) (j := i) HB.out GB.out (v := v))
        clear hrep
        go_wp2_with (go_at_call 107; refine (sub32_calls _ _ _ _ (by have := BX.out; rw [rd_nat]; omega) (by have := BX.out; rw [rd_nat]; omega) (by have := BY.out; rw [rd_nat]; omega) (by have := BY.out; rw [rd_nat]; omega) BC.out.1 BC.out.2).mono ?_; rintro e w' ⟨rfl, rfl⟩)
        go_roundg k1
        case measure => omega
        case rel => exact ⟨i + 1, _, _, by rw [HX.out, HY.out], by go_num, HS, ⟨by have := HK.out; omega⟩, ⟨HPP.out⟩, ⟨HBS.out _⟩⟩
      · have hl1b : decide (i < t1.length) = false := decide_eq_false hl1
        have HY : Aside0 (limb t1 i = 0) := ⟨by rw [limb, if_neg hl1]⟩
        have HE : Aside0 ((limb t0 i - limb t1 i - c) % 4294967296 = ((rd t0 (i : Int) - 0 - c) % 4294967296)) := ⟨by rw [HX.out, HY.out]⟩
        have HPP : Aside0 (Kd.R (Kd.int .u32) 74 (wr.setCell ⟨g, i, none⟩ (.int .u32 ((rd t0 (i : Int) - 0 - c) % 4294967296))) w.heap.size (fun _ => True) (.slice (some ⟨g, 0, none⟩) t0.length co) ((s ++ [(limb t0 i - limb t1 i - c) % 4294967296]) ++ List.replicate (t0.length - (i + 1)) 0)) :=
          ⟨by have h := (Kd.R_putg HO.out (i : Int) ((limb t0 i - limb t1 i - c) % 4294967296)).1; rw [Int.toNat_natCast, hrep] at h; rw [← HE.out]; exact h⟩
        obtain ⟨hc, hf⟩ := Kd.R_celln 0 HO.out (i : Int) (by omega) (by omega)
        rw [Int.toNat_natCast] at hc hf
        have HBS := Aside0.mk (fun v => below_set (g := g) (j := i) HB.out GB.out (v := v))
        clear hrep
        go_wp2_with (go_at_call 107; refine (sub32_calls _ _ _ _ (by have := BX.out; rw [rd_nat]; omega) (by have := BX.out; rw [rd_nat]; omega) (by omega) (by omega) BC.out.1 BC.out.2).mono ?_; rintro e w' ⟨rfl, rfl⟩)
        go_roundg k1
        case measure => omega
        case rel => exact ⟨i + 1, _, _, by rw [HX.out, HY.out], by go_num, HS, ⟨by have := HK.out; omega⟩, ⟨by first | exact HPP.out | simpa using HPP.out⟩, ⟨HBS.out _⟩⟩
    · obtain rfl : i = t0.length := by have := HA.out.1; omega
      have hd2 := HA.out.done HGE.out HN0.out.1 HN1.out.1 HV.out
      have HLQ : Aside0 (s.length = t0.length) := ⟨HA.out.2.1⟩
      rw [Nat.sub_self, List.replicate_zero, List.append_nil] at HO
      have HRR := Aside0.mk (Kd.R_reads' HO.out)
      have HD2 := Aside0.mk hd2
      clear hd2
      go_wp2_with (go_at_call 101; (refine calls_of_args ?_ ((norm_calls Ao co s _ HRR.out.2.2 (by have := HRR.out; omega)).mono ?_)); (case refine_1 => rw [HLQ.out]); rintro e w' ⟨rfl, rfl⟩)
      go_ret2
      exact ⟨_, trim s, rfl, (FrN.of_R' HO.out HB.out).trimmed, trim_nrm HD2.out.2, by rw [trim_val]; exact HD2.out.1, HB.out⟩

set_option maxHeartbeats 2000000 in
set_option maxRecDepth 100000 in
theorem sub_less (S : Nat → Addr) (A0 A1 : Option Addr) (c0 c1 : Nat) (l0 l1 : List Int) (w : World) (hE : Env S w) (hr0 : Kd.C (Kd.int .u32) w A0 l0.length l0) (hc0 : l0.length ≤ c0) (hr1 : Kd.C (Kd.int .u32) w A1 l1.length l1) (hc1 : l1.length ≤ c1)
    (hL0 : Limbs l0) (hL1 : Limbs l1) (hv : val l0 < val l1) :
    Calls Tryd.prog 53 #[.slice A0 l0.length c0, .slice A1 l1.length c1] w fun e w' => ∃ v, e = .returned (.tuple #[.slice none 0 0, v]) ∧ ErrAt S w' 3 [(⟨#[110, 97, 116]⟩, 0)] v ∧ Below w.heap.size w w' := by
  have HCMP := Aside0.mk (cmp_calls A0 A1 c0 c1 l0 l1 w hr0 hc0 hr1 hc1 hL0 hL1)
  rw [cmpI_lt hv] at HCMP
  have HE := Aside0.mk hE
  clear hE hr0 hc0 hr1 hc1 hL0 hL1 hv
  go_enter Tryd.func53, Tryd.ntmps53
  go_wp2_with fail
  refine HCMP.out.mono ?_
  rintro e w0 ⟨rfl, hw⟩
  have HB := Aside0.mk hw.below
  clear hw
  go_wp2_with fail
  refine (fnew_calls S _ 0 3 (by unfold Num; omega) _ (HE.out.below HB.out)).mono ?_
  rintro e w1 ⟨v, rfl, hv, hb⟩
  have HV := Aside0.mk hv
  have HB1 := Aside0.mk (below_step HB.out hb)
  clear hv hb
  go_wp2_with fail
  go_ret2
  exact ⟨_, rfl, HV.out, HB1.out⟩
end Go.Proofs.YtmnmmalffpimeaaDoor
