/- What nat.Text computes: the number's decimal digits. -/
import Derived.Test.YtmnmmalffpimeaaDoorParse
import Derived.OwnWalk
import Derived.Test.YtmnmmalffpimeaaDoorShelf
namespace Go.Proofs.YtmnmmalffpimeaaDoor
open Go.RowKit Go.Proofs.YtmnmmalffpimeaaDoorW.PrintWords Go.Proofs.YtmnmmalffpimeaaDoorW.PrintLast Go.Proofs.YtmnmmalffpimeaaDoorW.PrintMore
set_option linter.unusedVariables false
set_option linter.unusedSimpArgs false

theorem info_u8 : (Tryd.prog.info? 5).map (fun i => (i.zero, i.size, i.bytes)) = some (some (.int .u8 0), 1, 1) := by kernel_rfl

/-- the n lowest decimal digits as letters, the lowest first -/
def digs : Nat → Int → List Int
  | 0, _ => []
  | n + 1, x => (48 + x % 10) :: digs n (x / 10)
theorem digs_length : ∀ (n : Nat) (x : Int), (digs n x).length = n
  | 0, _ => rfl
  | n + 1, x => by simp [digs, digs_length n]
theorem ediv2 (a b c : Int) (hb : 0 ≤ b) : a / b / c = a / (b * c) := by
  rw [Int.ediv_ediv, if_neg (by omega)]; omega
theorem ediv_pow_succ (x : Int) (n : Nat) : x / 10 / 10 ^ n = x / 10 ^ (n + 1) := by
  rw [ediv2 _ _ _ (by decide), Int.pow_succ, Int.mul_comm]
theorem digs_add : ∀ (m n : Nat) (x : Int), digs (m + n) x = digs m x ++ digs n (x / 10 ^ m)
  | 0, n, x => by simp [digs]
  | m + 1, n, x => by
    rw [show m + 1 + n = (m + n) + 1 by omega]
    simp only [digs, List.cons_append]
    rw [digs_add m n (x / 10), ediv_pow_succ]
theorem digs_mod : ∀ (n : Nat) (x : Int), 0 ≤ x → digs n (x % 10 ^ n) = digs n x
  | 0, _, _ => rfl
  | n + 1, x, hx => by
    simp only [digs]
    have hp : (0 : Int) < 10 ^ n := Int.pow_pos (by decide)
    have e1 : x % 10 ^ (n + 1) % 10 = x % 10 := by
      rw [Int.pow_succ, Int.emod_emod_of_dvd _ (Int.dvd_mul_left _ _)]
    have e2 : x % 10 ^ (n + 1) / 10 = x / 10 % 10 ^ n := by
      rw [Int.pow_succ, Int.mul_comm]
      have h1 := Int.mul_ediv_add_emod x (10 * 10 ^ n)
      have h2 := ediv2 x 10 (10 ^ n) (by decide)
      have h3 := Int.mul_ediv_add_emod (x / 10) (10 ^ n)
      rw [h2] at h3
      generalize x / (10 * 10 ^ n) = q at *
      generalize (10 : Int) ^ n = p at *
      have h4 : x % (10 * p) = x - 10 * (p * q) := by
        have : 10 * p * q = 10 * (p * q) := by grind
        omega
      rw [h4]
      omega
    rw [e1, e2, digs_mod n (x / 10) (by omega)]
theorem digs_step (j : Nat) (x : Int) : digs (j + 1) x = digs j x ++ [48 + x / 10 ^ j % 10] := by
  rw [digs_add j 1 x]; rfl
theorem digs_bd : ∀ (n : Nat) (x y : Int), y ∈ digs n x → 48 ≤ y ∧ y ≤ 57
  | 0, _, _, h => by cases h
  | n + 1, x, y, h => by
    rcases List.mem_cons.1 h with rfl | h
    · omega
    · exact digs_bd n _ y h

/-- after some nines of digits -/
def TextInv (l0 : List Int) (kq : Nat) (D r : List Int) : Prop :=
  Nrm r ∧ val r < 1000000000 ^ kq ∧ D.length + 9 * kq = 18 * l0.length ∧ D = digs D.length (val l0) ∧ val r = val l0 / 10 ^ D.length
theorem TextInv.start {l0 : List Int} (h : Limbs l0) : TextInv l0 (2 * l0.length) [] (trim l0) := by
  refine ⟨trim_nrm h, ?_, by simp; omega, rfl, by simp [trim_val]⟩
  rw [trim_val, Int.pow_mul]
  refine Int.lt_of_lt_of_le (val_lt h) ?_
  generalize l0.length = n
  induction n with
  | zero => decide
  | succ n ih =>
    rw [Int.pow_succ, Int.pow_succ]
    have h1 : (0 : Int) < 4294967296 ^ n := Int.pow_pos (by decide)
    have h2 : (4294967296 : Int) ≤ 1000000000 ^ 2 := by decide
    exact Int.mul_le_mul ih h2 (by decide) (by have : (0 : Int) < (1000000000 ^ 2) ^ n := Int.pow_pos (by decide); omega)
theorem TextInv.step {l0 D r r2 : List Int} {kq : Nat} (h : TextInv l0 (kq + 1) D r) (h0 : 0 ≤ val l0) (h2 : Nrm r2) (hv : val r2 = val r / 1000000000) :
    TextInv l0 kq (D ++ digs 9 (val r % 1000000000)) r2 := by
  obtain ⟨a1, a2, a3, a4, a5⟩ := h
  have hn : 0 ≤ val r := val_nonneg a1.1
  refine ⟨h2, ?_, ?_, ?_, ?_⟩
  · rw [hv, Int.ediv_lt_iff_lt_mul (by decide)]
    rw [Int.pow_succ] at a2
    omega
  · rw [List.length_append, digs_length]; omega
  · rw [List.length_append, digs_length, digs_add, ← a4, ← a5]
    congr 1
    exact digs_mod 9 (val r) hn
  · rw [List.length_append, digs_length, hv, a5, Int.pow_add, ediv2 _ _ _ (Int.le_of_lt (Int.pow_pos (by decide)))]
    rfl
theorem TextInv.zero {l0 D r : List Int} (h : TextInv l0 0 D r) : r = [] := by
  have h1 := val_nonneg h.1.1
  have h2 := h.2.1
  exact Nrm.zero h.1 (by simp at h2; omega)
theorem pow_le_ (n : Nat) : (1000000000 : Int) ^ n ≤ 4294967296 ^ n := by
  induction n with
  | zero => decide
  | succ n ih =>
    rw [Int.pow_succ, Int.pow_succ]
    exact Int.mul_le_mul ih (by decide) (by decide) (by have : (0 : Int) < 4294967296 ^ n := Int.pow_pos (by decide); omega)
theorem own_ne_far {w w1 : World} {lo hi : Nat} {v : Value} {t : Nat} {l : List Int} {row : Option Nat} (h : Kd.V (Kd.int .u32) t w 0 (fun k => lo ≤ k ∧ k < hi) v l) (hg : w.grownBy w1 row) (hr : ∀ k, row = some k → k < lo ∨ hi ≤ k) : Kd.V (Kd.int .u32) t w1 0 (fun k => lo ≤ k ∧ k < hi) v l :=
  Kd.V_grown h hg (fun k hk e => by
    rcases hr k e.symm with h1 | h1 <;> omega)

def textOf (N : Nat) (x : Int) : List UInt8 := let t := Lib.trimLeftB ((digs N x).reverse.map fun n => UInt8.ofNat n.toNat) 48; if t = [] then [48] else t
/-- what nat.Text leaves -/
def TextRes (w : World) (x : Int) (e : Ending) (w' : World) : Prop := ∃ s N, e = .returned (.string s) ∧ x < 10 ^ N ∧ s.data.toList = textOf N x ∧ Below w.heap.size w w'
set_option maxHeartbeats 8000000 in
set_option maxRecDepth 100000 in
theorem text_calls (A0 : Option Addr) (c0 : Nat) (l0 : List Int) (w : World) (hr0 : Kd.C (Kd.int .u32) w A0 l0.length l0) (hc0 : l0.length ≤ c0) (hL0 : Limbs l0) (hm : l0.length ≤ 1000000000) :
    Calls Tryd.prog 103 #[.slice A0 l0.length c0] w (TextRes w (val l0)) := by
  have HR0 := Aside0.mk hr0
  have HC0 := Aside0.mk hc0
  have HL0 := Aside0.mk hL0
  have HM := Aside0.mk hm
  have HB := Aside0.mk (Below.refl w.heap.size w)
  clear hr0 hc0 hL0 hm
  go_enter Tryd.func103, Tryd.ntmps103
  go_wp2_with (go_at_call 101; refine (norm_calls A0 c0 l0 _ HR0.out HC0.out).mono ?_; rintro e w' ⟨rfl, rfl⟩)
  go_loopg [0, 3] (2 * l0.length) (fun kq v0 v3 w' => ∃ (A : Option Addr) (c : Nat) (r D : List Int) (lo hi : Nat), v0 = .slice A r.length c ∧ Aside0 (TextInv l0 kq D r) ∧ Aside0 (Kd.V (Kd.int .u32) 74 w' 0 (fun k => lo ≤ k ∧ k < hi) (.slice A r.length c) r) ∧ Aside0 (hi ≤ w'.heap.size ∧ ∀ k, v3.ownBlock = some k → k < lo ∨ hi ≤ k) ∧ Aside0 (w'.ownsRow w.heap.size 5 1 v3 D.length (nums .u8 D)) ∧ Aside0 (Below w.heap.size w w'))
  case atStart =>
    refine ⟨A0, c0, trim l0, [], 0, w.heap.size, rfl, ⟨TextInv.start HL0.out⟩, ⟨?_⟩, ⟨Nat.le_refl _, fun k hk => by simp [Value.ownBlock] at hk⟩, ⟨own_nil _ _ _ _⟩, HB⟩
    have ht := Kd.C_take (m := (trim l0).length) HR0.out (trim_length_le l0)
    rw [trim_take] at ht
    exact Kd.V_mk (Nat.le_trans (trim_length_le l0) HC0.out) (Kd.F_mono (Kd.C_F (Kd.heap_int .u32) ht) (fun k hk => ⟨Nat.zero_le _, hk⟩))
  case round =>
    clear HB
    obtain ⟨A, c, r, D, lo, hi, rfl, HI, HV, HN, HO, HB⟩ := hrel
    by_cases hr : 0 < r.length
    · obtain ⟨k1, rfl⟩ : ∃ k1, gk = k1 + 1 := ⟨gk - 1, by
        rcases Nat.eq_zero_or_pos gk with h | h
        · subst h; have := HI.out.zero; subst this; simp at hr
        · omega⟩
      have HRD := Aside0.mk (Kd.V_reads' HV.out)
      have hrl : Aside0 (r.length ≤ 70368744177664) := ⟨by
        have h1 := nrm_length (k := k1 + 1) HI.out.1 (Int.lt_of_lt_of_le HI.out.2.1 (pow_le_ (k1 + 1)))
        have h2 := HI.out.2.2.1
        have h3 := HM.out
        omega⟩
      go_wp2_with (go_at_call 49; refine (over_calls A c r 1000000000 _ HRD.out.2.2 HRD.out.2.1 HI.out.1.1 hrl.out (by decide) (by decide)).mono ?_; rintro e w2 ⟨v2, r2, rfl, hf2, hn2, hv2, hb2⟩; obtain ⟨A2, c2, rfl⟩ := Kd.V_slice hf2; have HF2 := Aside0.mk hf2; have HN2 := Aside0.mk hn2; have HV2 := Aside0.mk hv2; have HB2 := Aside0.mk hb2; clear hf2 hn2 hv2 hb2)
      have hxb : 0 ≤ val r % 1000000000 ∧ val r % 1000000000 < 1000000000 := by omega
      obtain ⟨x, hx⟩ : ∃ x, val r % 1000000000 = x := ⟨_, rfl⟩
      have HX := Aside0.mk hx
      have HXB := Aside0.mk (hx ▸ hxb)
      rw [hx]
      clear hx hxb
      have HO2 := Aside0.mk (pw_own_below HO.out HB2.out)
      have HV3 : Aside0 (Kd.V (Kd.int .u32) 74 w2 0 (fun k => wr.heap.size ≤ k ∧ k < w2.heap.size) (.slice A2 r2.length c2) r2) := ⟨Kd.V_bound HF2.out⟩
      have HB3 := Aside0.mk (below_step HB.out HB2.out)
      obtain ⟨lo2, hlo2⟩ : ∃ n, wr.heap.size = n := ⟨_, rfl⟩
      obtain ⟨hi2, hhi2⟩ : ∃ n, w2.heap.size = n := ⟨_, rfl⟩
      rw [hlo2, hhi2] at HV3
      have HNN : Aside0 (hi2 ≤ w2.heap.size ∧ ∀ k, u3.ownBlock = some k → k < lo2 ∨ hi2 ≤ k) := ⟨by omega, fun k hk => .inl (hlo2 ▸ own_lt HO.out k hk)⟩
      have HDL : Aside0 (D.length ≤ 18 * l0.length) := ⟨by have := HI.out.2.2.1; omega⟩
      have HST := Aside0.mk (HI.out.step (val_nonneg HL0.out) HN2.out HV2.out)
      rw [HX.out] at HST
      clear hlo2 hhi2
      go_loopg [3, 4, 19] 9 (fun kq v3 v4 v19 w' => ∃ (j : Nat) (y : Int), v19 = .int .i64 j ∧ v4 = .int .u32 y ∧ Aside0 (kq + j = 9 ∧ y = x / 10 ^ j) ∧ Aside0 (Kd.V (Kd.int .u32) 74 w' 0 (fun k => lo2 ≤ k ∧ k < hi2) (.slice A2 r2.length c2) r2) ∧ Aside0 (hi2 ≤ w'.heap.size ∧ ∀ k, v3.ownBlock = some k → k < lo2 ∨ hi2 ≤ k) ∧ Aside0 (w'.ownsRow w.heap.size 5 1 v3 (D ++ digs j x).length (nums .u8 (D ++ digs j x))) ∧ Aside0 (Below w.heap.size w w'))
      case atStart => exact ⟨0, x, rfl, rfl, ⟨rfl, by simp⟩, HV3, HNN, ⟨by simpa [digs] using HO2.out⟩, HB3⟩
      case round =>
        clear HO HB HO2 HNN HV3 HB3 HB2 HF2 HV HN HRD
        obtain ⟨j, y, rfl, rfl, HK, HV, HN, HO, HB⟩ := hrel
        have hyb : 0 ≤ y ∧ y ≤ 999999999 := by
          have h1 := HXB.out
          have h2 : (0 : Int) < 10 ^ j := Int.pow_pos (by decide)
          rw [HK.out.2]
          refine ⟨Int.ediv_nonneg h1.1 (Int.le_of_lt h2), ?_⟩
          have h3 : x / 10 ^ j ≤ x := Int.ediv_le_self _ h1.1
          omega
        obtain ⟨hy0, hy1⟩ := hyb
        by_cases hj : j < 9
        · obtain ⟨k2, rfl⟩ : ∃ k2, gk = k2 + 1 := ⟨gk - 1, by have := HK.out.1; omega⟩
          have HLL : Aside0 (((D ++ digs j x).length + 1) * 1 ≤ 140737488355328) := ⟨by have := HDL.out; have := HM.out; rw [List.length_append, digs_length]; omega⟩
          have hub : 48 + y % 10 ≤ 57 := by omega
          have HDS : Aside0 (D ++ digs (j + 1) x = (D ++ digs j x) ++ [48 + y % 10]) := ⟨by rw [digs_step, ← HK.out.2, List.append_assoc]⟩
          have HY1 : Aside0 (y / 10 = x / 10 ^ (j + 1)) := ⟨by rw [HK.out.2, Int.pow_succ, ediv2 _ _ _ (Int.le_of_lt (Int.pow_pos (by decide)))]⟩
          go_wp2_with (at_builtin; refine print_append_num w.heap.size rfl (.tmp 21) (.tmp 26) 169 5 .u8 1 rfl Tryd.underlying169 info_u8 (by omega) u3 (D ++ digs j x) _ rfl rfl HO.out HB.out HB.out.size HLL.out ?_; intro v1 w1 hown hB hg hat; have HO1 := Aside0.mk hown; have HB1 := Aside0.mk hB; have HG1 := Aside0.mk hg; have HAT := Aside0.mk hat; clear hown hB hg hat)
          have HN1 : Aside0 (hi2 ≤ w1.heap.size ∧ ∀ k, v1.ownBlock = some k → k < lo2 ∨ hi2 ≤ k) := ⟨Nat.le_trans HN.out.1 HG1.out.size, fun k hk => by
            rcases HAT.out with h | ⟨b, h, hb⟩
            · exact HN.out.2 k (h ▸ hk)
            · rw [h] at hk
              injection hk with hk
              have := HN.out.1
              omega⟩
          have HVN := Aside0.mk (own_ne_far HV.out HG1.out (fun k hk => HN.out.2 k hk))
          go_roundg k2
          case measure => omega
          case rel => exact ⟨j + 1, y / 10, by go_num, rfl, ⟨by have := HK.out.1; omega, HY1.out⟩, HVN, HN1, ⟨by rw [HDS.out]; exact HO1.out⟩, HB1⟩
        · obtain rfl : j = 9 := by have := HK.out.1; omega
          go_wp2_with fail
          go_roundg k1
          case measure => omega
          case rel => exact ⟨A2, c2, r2, D ++ digs 9 x, lo2, hi2, rfl, HST, HV, HN, HO, HB⟩
    · obtain rfl : r = [] := List.length_eq_zero_iff.1 (by omega)
      obtain ⟨i0, hi0, hz0, hz1, hz2⟩ := info_parts info_u8
      obtain ⟨Ad, cd, hd⟩ := own_slice HO.out
      subst hd
      have HDL : Aside0 (D.length ≤ 18 * l0.length) := ⟨by have := HI.out.2.2.1; omega⟩
      have hdl : D.length ≤ 9223372036854775807 := by have := HDL.out; have := HM.out; omega
      go_wp2_with (at_make; refine wpList_make_own _ rfl _ _ 169 rfl w.heap.size 5 i0 (.int .u8 0) 1 Tryd.underlying169 hi0 hz0 hz1 .i64 .i64 _ D.length rfl rfl rfl (by rw [hz2]; have := HDL.out; have := HM.out; omega) (by unfold maxLen; omega) HB.out.size ?_; intro w3 hown3 hgrow3; have HO3 := Aside0.mk hown3; have HG3 := Aside0.mk hgrow3; clear hown3 hgrow3)
      have HB3 : Aside0 (Below w.heap.size w w3) := ⟨HB.out.grown HG3.out HB.out.size (fun k hk => by cases hk)⟩
      have HOD : Aside0 (w3.ownsRow w.heap.size 5 1 (.slice Ad D.length cd) D.length (nums .u8 D)) := ⟨own_other HO.out HG3.out (by
        rcases h : (Value.slice Ad D.length cd).ownBlock with _ | b
        · exact .inl rfl
        · exact .inr (by simp))⟩
      have HLT : Aside0 (∀ k, (Value.slice Ad D.length cd).ownBlock = some k → k < wr.heap.size) := ⟨own_lt HO.out⟩
      have HVL : Aside0 (val l0 < 10 ^ D.length) := ⟨by
        have h := HI.out.2.2.2.2
        have h0 := val_nonneg HL0.out
        have hp : (0 : Int) < 10 ^ D.length := Int.pow_pos (by decide)
        simp only [val] at h
        have h2 := Int.mul_ediv_add_emod (val l0) (10 ^ D.length)
        rw [← h] at h2
        have h3 := Int.emod_lt_of_pos (val l0) hp
        omega⟩
      have HDD := Aside0.mk HI.out.2.2.2.1
      obtain ⟨lo3, hlo3⟩ : ∃ n, wr.heap.size = n := ⟨_, rfl⟩
      rw [hlo3] at HO3 HLT ⊢
      clear HV HO HN hz0 hz1 hz2 hi0 HB HG3 HI hlo3 hr
      go_loopg [5, 6] (D.length) (fun kq v5 v6 w' => v6 = .int .i64 ((kq : Int) - 1) ∧ kq ≤ D.length ∧ Aside0 (w'.ownsRow w.heap.size 5 1 v5 (D.drop kq).reverse.length (nums .u8 (D.drop kq).reverse)) ∧ Aside0 (w'.ownsRow w.heap.size 5 1 (.slice Ad D.length cd) D.length (nums .u8 D)) ∧ Aside0 (∀ k, v5.ownBlock = some k → lo3 ≤ k) ∧ Aside0 (lo3 ≤ w'.heap.size) ∧ Aside0 (Below w.heap.size w w'))
      case atStart =>
        have h5 : ∀ k, (Value.slice (some ⟨lo3, 0, none⟩) 0 D.length).ownBlock = some k → lo3 ≤ k := by
          intro k hk
          have : lo3 = k := by simpa [Value.ownBlock] using hk
          omega
        have h6 : lo3 ≤ w3.heap.size := Nat.le_of_lt (own_lt HO3.out lo3 (by simp [Value.ownBlock]))
        exact ⟨rfl, Nat.le_refl _, ⟨by simpa [nums] using HO3.out⟩, HOD, ⟨h5⟩, ⟨h6⟩, HB3⟩
      case round =>
        clear HB3 HO3 HOD
        obtain ⟨rfl, hk, HO, HOD, HNE, HLO, HB⟩ := hrel
        cases gk with
        | zero =>
          rw [List.drop_zero, List.length_reverse] at HO
          obtain ⟨A6, c6, hA6⟩ := own_slice HO.out
          subst hA6
          have hcv := own_string (P := Tryd.prog) Tryd.underlying169 Tryd.underlying5 Tryd.underlying9 HO.out
          obtain ⟨T, hT⟩ : ∃ T, Lib.trimLeftB (strOfNums D.reverse).data.toList 48 = T := ⟨_, rfl⟩
          have HTL := Aside0.mk (fun W => Tryd.strings_TrimLeft_one (strOfNums D.reverse) 48 (by decide) W)
          rw [hT] at HTL
          have HT : Aside0 (Lib.trimLeftB ((digs D.length (val l0)).reverse.map fun n => UInt8.ofNat n.toNat) 48 = T) := ⟨by rw [← HDD.out, ← hT]; rfl⟩
          clear hT
          by_cases hTe : T = []
          · subst hTe
            go_wp2_with (go_at_call 140; refine (HTL.out _).mono ?_; rintro e w' ⟨rfl, rfl⟩)
            go_ret
            exact ⟨_, D.length, rfl, HVL.out, by simp only [textOf]; rw [HT.out]; rfl, HB.out⟩
          · have hT1 : T.isEmpty = false := by simpa using hTe
            have hT2 : (T == []) = false := by simpa using hTe
            have HTE := Aside0.mk hTe
            clear hTe
            go_wp2_with (go_at_call 140; refine (HTL.out _).mono ?_; rintro e w' ⟨rfl, rfl⟩)
            go_ret
            exact ⟨_, D.length, rfl, HVL.out, by simp only [textOf]; rw [HT.out, if_neg HTE.out], HB.out⟩
        | succ k =>
          rw [show ((k + 1 : Nat) : Int) - 1 = (k : Int) by omega]
          obtain ⟨A5, c5, hA5, hRI⟩ := own_reads HOD.out
          injection hA5 with ea en ec
          subst ea
          subst ec
          clear en
          obtain ⟨ad, ead, hx⟩ := hRI.at_ (k : Int) (by omega) (by omega)
          subst ead
          rw [Int.toNat_natCast] at hx
          have HRV : Aside0 ((D.drop k).reverse = (D.drop (k + 1)).reverse ++ [rd D (k : Int)]) := ⟨by
            rw [List.drop_eq_getElem_cons (by omega), List.reverse_cons, rd_nat, List.getD_eq_getElem?_getD, List.getElem?_eq_getElem (by omega)]; rfl⟩
          have HLL : Aside0 (((D.drop (k + 1)).reverse.length + 1) * 1 ≤ 140737488355328) := ⟨by have := HDL.out; have := HM.out; simp; omega⟩
          clear hRI
          go_wp2_with (at_builtin; refine print_append_num w.heap.size rfl (.tmp 41) (.tmp 46) 169 5 .u8 1 rfl Tryd.underlying169 info_u8 (by omega) u5 (D.drop (k + 1)).reverse _ rfl rfl HO.out HB.out HB.out.size HLL.out ?_; intro v1 w1 hown hB hg hat; have HO1 := Aside0.mk hown; have HB1 := Aside0.mk hB; have HG1 := Aside0.mk hg; have HAT := Aside0.mk hat; clear hown hB hg hat)
          go_roundg k
          case measure => omega
          case rel =>
            refine ⟨rfl, by omega, ⟨by rw [HRV.out]; exact HO1.out⟩, ⟨own_other HOD.out HG1.out ?_⟩, ⟨fun j hj => ?_⟩, ⟨Nat.le_trans HLO.out HG1.out.size⟩, HB1⟩
            · rcases h : (Value.slice (some ad) D.length cd).ownBlock with _ | b
              · exact .inl rfl
              · refine .inr (fun e => ?_)
                have h1 := HLT.out b h
                have h2 := HNE.out b e.symm
                omega
            · rcases HAT.out with h | ⟨b, h, hb⟩
              · exact HNE.out j (h ▸ hj)
              · rw [h] at hj
                injection hj with hj
                have := HLO.out
                omega
end Go.Proofs.YtmnmmalffpimeaaDoor
