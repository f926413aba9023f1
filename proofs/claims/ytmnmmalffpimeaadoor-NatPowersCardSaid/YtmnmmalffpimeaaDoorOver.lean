/- What bits.Div32 and nat.Over compute: quotient and rest. -/
import Derived.Test.YtmnmmalffpimeaaDoorCmp
import Derived.Test.YtmnmmalffpimeaaDoorIs
import Derived.Laws.BitsLemmas
namespace Go.Proofs.YtmnmmalffpimeaaDoor
open Go.RowKit Go.Proofs.YtmnmmalffpimeaaDoorW.PrintWords Go.Proofs.YtmnmmalffpimeaaDoorW.PrintLast Go.Proofs.YtmnmmalffpimeaaDoorW.PrintMore
set_option linter.unusedVariables false
set_option linter.unusedSimpArgs false

set_option maxHeartbeats 2000000 in
set_option maxRecDepth 100000 in
theorem div32_calls (h l d : Int) (w : World) (h0 : 0 ≤ h) (hd : h < d) (hd1 : d < 4294967296) (l0 : 0 ≤ l) (l1 : l < 4294967296) :
    Calls Tryd.prog 105 #[.int .u32 h, .int .u32 l, .int .u32 d] w fun e w' => e = .returned (.tuple #[.int .u32 ((h * 4294967296 + l) / d), .int .u32 ((h * 4294967296 + l) % d)]) ∧ Drawn0 w w' := by
  have hdb : (d != 0) = true := by rw [bne_iff_ne]; omega
  have hle : decide (d ≤ h) = false := decide_eq_false (by omega)
  have q1 : IntKind.u64.wrap h = h := u64_in _ h0 (by omega)
  have q2 : IntKind.u64.wrap l = l := u64_in _ l0 (by omega)
  have q3 : IntKind.u64.wrap d = d := u64_in _ (by omega) (by omega)
  have hor : bits .or .u64 (h * 4294967296) l = h * 4294967296 + l :=
    bits_join .u64 64 (by decide) (fun n a b => u64_in n a (by omega)) 32 (h * 4294967296) l (by omega) (by omega) (by omega) l0 (by omega) (by omega)
  obtain ⟨n, hn⟩ : ∃ n, h * 4294967296 + l = n := ⟨_, rfl⟩
  rw [hn] at hor ⊢
  have hn0 : 0 ≤ n := by omega
  have hq0 : 0 ≤ n / d := Int.ediv_nonneg hn0 (by omega)
  have hq1 : n / d < 4294967296 := by
    rw [Int.ediv_lt_iff_lt_mul (by omega)]
    have : h * 4294967296 + 4294967296 ≤ 4294967296 * d := by omega
    omega
  have hr0 : 0 ≤ n % d := Int.emod_nonneg _ (by omega)
  have hr1 : n % d < d := Int.emod_lt_of_pos _ (by omega)
  have q4 : n / d % 4294967296 = n / d := by omega
  have q5 : n % d % 4294967296 = n % d := by omega
  have hdp : 1 ≤ d := by omega
  have HQ : Aside0 (IntKind.u64.wrap (n.tdiv d) % 4294967296 = n / d) := ⟨by rw [Int.tdiv_eq_ediv_of_nonneg hn0, u64_in _ hq0 (by omega), q4]⟩
  clear hn hq0 hq1 hr0 hr1
  go_enter Tryd.func105, Tryd.ntmps105
  go_wp2_with fail
  go_quiet (fail)
  go_wp2_with fail
  go_ret2
  refine ⟨?_, by repeat (first | exact Drawn0.refl _ | apply Drawn0.step)⟩
  show Ending.returned (.tuple #[.int .u32 (IntKind.u64.wrap (n.tdiv d) % 4294967296), .int .u32 (n % d)]) = _
  rw [HQ.out]

/-- the quotient's upper digits, and the rest so far -/
def OverInv (l : List Int) (d : Int) (k : Nat) (r : Int) (q : List Int) : Prop :=
  q.length + k = l.length ∧ Limbs q ∧ 0 ≤ r ∧ r < d ∧ val (l.drop k) = d * val q + r
theorem OverInv.start (l : List Int) {d : Int} (hd : 0 < d) : OverInv l d l.length 0 [] := ⟨by simp, Limbs.nil, by decide, hd, by simp [val]⟩
theorem OverInv.step {l q : List Int} {d r : Int} {k : Nat} (h : OverInv l d (k + 1) r q) (hl : Limbs l) (hd : d < 4294967296) :
    OverInv l d k ((r * 4294967296 + rd l (k : Int)) % d) ((r * 4294967296 + rd l (k : Int)) / d :: q) := by
  obtain ⟨a1, a2, a3, a4, a5⟩ := h
  have hk : k < l.length := by omega
  have b0 := hl.getD k
  rw [← rd_nat] at b0
  obtain ⟨n, hn⟩ : ∃ n, r * 4294967296 + rd l (k : Int) = n := ⟨_, rfl⟩
  have hn0 : 0 ≤ n := by omega
  have hq0 : 0 ≤ n / d := Int.ediv_nonneg hn0 (by omega)
  have hq1 : n / d < 4294967296 := by
    rw [Int.ediv_lt_iff_lt_mul (by omega)]
    have : r * 4294967296 + 4294967296 ≤ 4294967296 * d := by omega
    omega
  rw [hn]
  refine ⟨by simp only [List.length_cons]; omega, Limbs.cons ⟨hq0, hq1⟩ a2, Int.emod_nonneg _ (by omega), Int.emod_lt_of_pos _ (by omega), ?_⟩
  rw [List.drop_eq_getElem_cons hk]
  have hg : l[k] = rd l (k : Int) := by rw [rd_nat, List.getD_eq_getElem?_getD, List.getElem?_eq_getElem hk]; rfl
  simp only [val, hg, a5]
  have hdm := Int.mul_ediv_add_emod n d
  generalize n / d = qq at *
  generalize n % d = rr at *
  generalize val q = V at *
  generalize rd l (k : Int) = x at *
  subst hn
  grind
theorem OverInv.done {l q : List Int} {d r : Int} (h : OverInv l d 0 r q) : val q = val l / d ∧ r = val l % d ∧ Limbs q := by
  obtain ⟨a1, a2, a3, a4, a5⟩ := h
  rw [List.drop_zero] at a5
  have h1 : (d * val q + r) / d = val q := by
    rw [Int.add_comm, Int.add_mul_ediv_left _ _ (by omega), Int.ediv_eq_zero_of_lt a3 a4]; omega
  have h2 : (d * val q + r) % d = r := by
    rw [Int.add_comm, Int.add_mul_emod_self_left, Int.emod_eq_of_lt a3 a4]
  rw [a5, h1, h2]
  exact ⟨rfl, rfl, a2⟩

/-- what nat.Over leaves -/
def OverRes (w : World) (q r : Int) (e : Ending) (w' : World) : Prop := ∃ v l, e = .returned (.tuple #[v, .int .u32 r, .nilIface]) ∧ FrN w.heap.size w' v l ∧ Nrm l ∧ val l = q ∧ Below w.heap.size w w'
set_option maxHeartbeats 8000000 in
set_option maxRecDepth 100000 in
theorem over_calls (A0 : Option Addr) (c0 : Nat) (l0 : List Int) (d : Int) (w : World) (hr0 : Kd.C (Kd.int .u32) w A0 l0.length l0) (hc0 : l0.length ≤ c0)
    (hL0 : Limbs l0) (hm : l0.length ≤ 70368744177664) (hd0 : 0 < d) (hd1 : d < 4294967296) :
    Calls Tryd.prog 49 #[.slice A0 l0.length c0, .int .u32 d] w (OverRes w (val l0 / d) (val l0 % d)) := by
  have HR0 := Aside0.mk hr0
  have HC0 := Aside0.mk hc0
  have HL0 := Aside0.mk hL0
  have HM := Aside0.mk hm
  have HD := Aside0.mk (And.intro hd0 hd1)
  have hdb : (d == 0) = false := by rw [beq_eq_false_iff_ne]; omega
  have P0 : Aside0 (0 ≤ (l0.length : Int)) := ⟨by omega⟩
  have hlm : l0.length ≤ 9223372036854775807 := by omega
  have HB := Aside0.mk (Below.refl w.heap.size w)
  clear hr0 hc0 hL0 hm hd0 hd1
  go_enter Tryd.func49, Tryd.ntmps49
  go_wp2_with (first | ((with_reducible refine gate_dst (N := 15) rfl ?_); refine Kd.R_make (Kd.int .u32) _ 74 rfl (N := 15) rfl 44 _ _ rfl (l0.length : Int) rfl rfl Tryd.underlying44 (.int .u32 0) 4 info_u32 rfl (by decide) (by omega) 0 (ok := fun _ => True) (okp := fun _ => True) rfl (fun _ hk => hk) trivial P0.out (by have := HM.out; omega) HB.out (Nat.le_refl _) ?_; intro vo w1 ho hb hg_ hnew_; clear hg_ hnew_ HB; have HB := Aside0.mk hb; have HO := Aside0.mk ho; clear hb ho))
  obtain ⟨Ao, co, eo⟩ := Kd.R_slice HO.out
  rw [List.length_replicate, Int.toNat_natCast] at eo
  rw [Int.toNat_natCast] at HO
  subst eo
  go_loopg [8, 9] (l0.length) (fun kq v8 v9 w' => ∃ (r : Int) (q : List Int), v8 = .int .u32 r ∧ v9 = .int .i64 ((kq : Int) - 1) ∧ Aside0 (OverInv l0 d kq r q) ∧ Aside0 (Kd.R (Kd.int .u32) 74 w' w.heap.size (fun _ => True) (.slice Ao l0.length co) (List.replicate kq 0 ++ q)) ∧ Aside0 (Below w.heap.size w w'))
  case atStart => exact ⟨0, [], rfl, rfl, ⟨OverInv.start l0 HD.out.1⟩, ⟨by rw [List.append_nil]; exact HO.out⟩, HB⟩
  case round =>
    clear HO HB
    obtain ⟨r, q, rfl, rfl, HI, HO, HB⟩ := hrel
    cases gk with
    | zero =>
      have hd := HI.out.done
      have HDn := Aside0.mk hd
      rw [List.replicate_zero, List.nil_append] at HO
      have hrr := Kd.R_reads' HO.out
      have HRR := Aside0.mk hrr
      have HLQ : Aside0 (q.length = l0.length) := ⟨by have := HI.out.1; omega⟩
      clear hd hrr
      go_wp2_with (go_at_call 101; (refine calls_of_args ?_ ((norm_calls Ao co q _ HRR.out.2.2 (by have := HRR.out; omega)).mono ?_)); (case refine_1 => rw [HLQ.out]); rintro e w' ⟨rfl, rfl⟩)
      go_ret3
      exact ⟨_, trim q, by rw [HDn.out.2.1]; rfl, (FrN.of_R' HO.out HB.out).trimmed, trim_nrm HDn.out.2.2, by rw [trim_val]; exact HDn.out.1, HB.out⟩
    | succ k =>
      rw [show ((k + 1 : Nat) : Int) - 1 = (k : Int) by omega]
      have hk : k < l0.length := by have := HI.out.1; omega
      obtain ⟨ad0, e0, hx0⟩ := Kd.at_int HR0.out (k : Int) (by omega) (by omega)
      cases e0
      replace hx0 := (HB.out.cell (World.block_lt_of_cell? w _ hx0)).trans hx0
      simp only [Int.toNat_natCast] at hx0
      have HS := Aside0.mk (HI.out.step HL0.out HD.out.2)
      have BX := Aside0.mk (HL0.out.getD k)
      obtain ⟨g, cq, eo, gb, gl, cl, HG⟩ := Kd.R_form HO.out (by simp; omega)
      injection eo with e1 e2 e3
      subst e1
      subst e3
      clear e2
      have GB := Aside0.mk gb
      clear gb gl cl HG
      obtain ⟨hz, hzf⟩ := Kd.R_celln 0 HO.out (k : Int) (by omega) (by omega)
      rw [Int.toNat_natCast] at hz hzf
      have hset : (List.replicate (k + 1) 0 ++ q).set k ((r * 4294967296 + rd l0 (k : Int)) / d) = List.replicate k 0 ++ ((r * 4294967296 + rd l0 (k : Int)) / d :: q) := by
        rw [List.replicate_succ', List.append_assoc, List.set_append_right _ _ (by simp)]
        simp
      have HPP : Aside0 (Kd.R (Kd.int .u32) 74 (wr.setCell ⟨g, k, none⟩ (.int .u32 ((r * 4294967296 + rd l0 (k : Int)) / d))) w.heap.size (fun _ => True) (.slice (some ⟨g, 0, none⟩) l0.length co) (List.replicate k 0 ++ ((r * 4294967296 + rd l0 (k : Int)) / d :: q))) :=
        ⟨by have h := (Kd.R_putg HO.out (k : Int) ((r * 4294967296 + rd l0 (k : Int)) / d)).1; rw [Int.toNat_natCast, hset] at h; exact h⟩
      have HBS := Aside0.mk (fun v => below_set (g := g) (j := k) HB.out GB.out (v := v))
      have HRB := Aside0.mk (And.intro HI.out.2.2.1 HI.out.2.2.2.1)
      clear hset
      go_wp2_with (go_at_call 105; refine (div32_calls _ _ _ _ HRB.out.1 HRB.out.2 HD.out.2 (by have := BX.out; rw [rd_nat]; omega) (by have := BX.out; rw [rd_nat]; omega)).mono ?_; rintro e w' ⟨rfl, ⟨nd, rfl⟩⟩)
      go_roundg k
      case measure => omega
      case rel => exact ⟨_, _, rfl, rfl, HS, ⟨by first | exact HPP.out | exact Kd.R_drewN HPP.out _⟩, ⟨by first | exact HBS.out _ | exact pw_below_drewN (HBS.out _) _⟩⟩

theorem over_zero (S : Nat → Addr) (A0 : Option Addr) (c0 : Nat) (l0 : List Int) (w : World) (hE : Env S w) :
    Calls Tryd.prog 49 #[.slice A0 l0.length c0, .int .u32 0] w fun e w' => ∃ v, e = .returned (.tuple #[.slice none 0 0, .int .u32 0, v]) ∧ ErrAt S w' 3 [(⟨#[110, 97, 116]⟩, 0)] v ∧ Below w.heap.size w w' := by
  have HE := Aside0.mk hE
  clear hE
  go_enter Tryd.func49, Tryd.ntmps49
  go_wp2_with (go_at_call 104; refine (fnew_calls S _ 0 3 (by unfold Num; omega) _ HE.out).mono ?_; rintro e w' ⟨v, rfl, hv, hb⟩; have HV := Aside0.mk hv; have HB := Aside0.mk hb; clear hv hb)
  go_ret3
  exact ⟨_, rfl, HV.out, HB.out⟩
end Go.Proofs.YtmnmmalffpimeaaDoor
