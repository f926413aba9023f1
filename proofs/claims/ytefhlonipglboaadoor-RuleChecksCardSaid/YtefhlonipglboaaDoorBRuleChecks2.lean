/- edenlaw04.RuleChecks returns true whatever rule and numbers are handed in; no condition beyond the row's own. (Part 2 of 3: Ints, LentR, RuleRef2, RuleSize, ChecksWalk, Head, Add, Mul, Cmp, Over, Bits, From.) -/
import Derived.Deep.QuietTactic
import Derived.BigQuiet
import Derived.Deep.RegionHeld3
import Derived.Laws.BitsLemmas
import Derived.Test.YtefhlonipglboaaDoorShelf
import Derived.Lib.ItoaNum
import Derived.Test.YtefhlonipglboaaDoorBRuleChecks1
/- edenraw.Ints at equal lists; Kept; a rule lent, and kept. -/
namespace Go.Proofs.YtefhlonipglboaaDoor
open Go.RowKit Go.Extern.Stop Go.Stop Go.Extern Go.Proofs.YtefhlonipglboaaDoorW.PrintWords Go.Proofs.YtefhlonipglboaaDoorW.PrintLast Go.Proofs.YtefhlonipglboaaDoorW.PrintMore
set_option linter.unusedVariables false
set_option linter.unusedSimpArgs false

set_option maxHeartbeats 2000000 in
set_option maxRecDepth 100000 in
theorem ints_true (A0 A1 : Option Addr) (c0 c1 : Nat) (l : List Int) (w : World) (hr0 : Kd.C (Kd.int .i64) w A0 l.length l) (hr1 : Kd.C (Kd.int .i64) w A1 l.length l) :
    Calls Tryd.prog 29 #[.slice A0 l.length c0, .slice A1 l.length c1] w fun e w' => e = .returned (.bool true) ∧ Drawn0 w w' := by
  have HR0 := Aside0.mk hr0
  have HR1 := Aside0.mk hr1
  have hm := Kd.C_max hr0
  clear hr0 hr1
  go_enter Tryd.func29, Tryd.ntmps29
  go_wp2_with fail
  go_loopg [5] l.length (fun kq v3 w' => ∃ i : Nat, v3 = .int .i64 i ∧ kq + i = l.length ∧ Aside0 (Drawn0 w w'))
  case atStart => exact ⟨0, rfl, rfl, ⟨Drawn0.refl _⟩⟩
  case round =>
    obtain ⟨i, rfl, hk, HW⟩ := hrel
    cases gk with
    | zero =>
      obtain rfl : i = l.length := by omega
      go_wp2_with fail
      go_ret
      exact ⟨rfl, HW.out⟩
    | succ k =>
      have hb := HW.out.below
      obtain ⟨ad0, e0, hx0⟩ := Kd.at_int (Kd.C_below HR0.out hb) (i : Int) (by omega) (by omega)
      obtain ⟨ad1, e1, hx1⟩ := Kd.at_int (Kd.C_below HR1.out hb) (i : Int) (by omega) (by omega)
      subst e0
      subst e1
      simp only [Int.toNat_natCast] at hx0 hx1
      have hi : i < l.length := by omega
      have hne : (rd l (i : Int) != rd l (i : Int)) = false := bne_self_eq_false _
      have HK : Aside0 (k + (i + 1) = l.length) := ⟨by omega⟩
      clear hb hk
      go_wp2_with fail
      go_quiet (fail)
      go_wp2_with fail
      go_roundg k
      case measure => omega
      case rel => exact ⟨i + 1, by go_num, HK.out, ⟨by repeat (first | exact HW.out | apply Drawn0.step)⟩⟩

theorem CI_lit (W : World) (xs : List Int) (hm : xs.length ≤ 9223372036854775807) : Kd.C (Kd.int .i64) (W.alloc (.cells (nums .i64 xs).toArray 3)) (some ⟨W.heap.size, 0, none⟩) xs.length xs := by
  refine Kd.C_of_reads (d := 0) ⟨rfl, hm, fun _ => ⟨_, rfl, fun j hj => ?_⟩⟩
  rw [add_plain, cell_of_row _ W.heap.size j _ 3 (0, 0) (heap_alloc_new W _)]
  simp [nums, List.getElem?_eq_getElem hj, List.getD_eq_getElem?_getD, rdOf]
theorem CI_litg (W : World) (g : Nat) (xs : List Int) (hg : g = W.heap.size) (hm : xs.length ≤ 9223372036854775807) : Kd.C (Kd.int .i64) (W.alloc (.cells (nums .i64 xs).toArray 3)) (some ⟨g, 0, none⟩) xs.length xs := by
  subst hg
  exact CI_lit W xs hm

set_option maxHeartbeats 4000000 in
set_option maxRecDepth 100000 in
theorem kept_true (A : Option Addr) (b c : Nat) (v : Value) (l : List Int) (w : World) (h : LentIAt w b v l) (hr : Kd.C (Kd.int .i64) w A l.length l) (hm : l.length + 2 ≤ 17592186044416) :
    Calls Tryd.prog 20 #[v, .slice A l.length c] w fun e w' => e = .returned (.bool true) ∧ Drawn0 w w' := by
  obtain ⟨g, cv, rfl, hcv, hC2, hFC⟩ := h.full
  clear h
  have HF := Aside0.mk hFC
  have HR := Aside0.mk hr
  have HC := Aside0.mk hC2
  clear hFC hr hC2
  have hl : l.length ≤ 17592186044416 := by omega
  have HM := Aside0.mk hm
  clear hm
  go_enter Tryd.func20, Tryd.ntmps20
  go_wp2_with fail
  refine (ints_true (some ⟨g, 0, none⟩) A cv c l w HC.out HR.out).mono ?_
  rintro e w1 ⟨rfl, hd⟩
  have HD := Aside0.mk hd
  have hFC := Kd.C_below HF.out hd.below
  obtain ⟨ad, e, h1⟩ := Kd.at_int hFC (l.length : Int) (by omega) (by omega)
  cases e
  obtain ⟨ad, e, h2⟩ := Kd.at_int hFC ((l.length : Int) + 1) (by omega) (by omega)
  cases e
  rw [Int.toNat_natCast, add_plain, show rd (l ++ [(7001 : Int), 7002]) (l.length : Int) = 7001 from by simp [rd]] at h1
  rw [show ((l.length : Int) + 1).toNat = l.length + 1 from by omega, add_plain, show rd (l ++ [(7001 : Int), 7002]) ((l.length : Int) + 1) = 7002 from by rw [rd, show ((l.length : Int) + 1).toNat = l.length + 1 from by omega]; simp] at h2
  clear hd hFC
  go_wp2_with fail
  go_ret
  exact ⟨rfl, HD.out⟩
end Go.Proofs.YtefhlonipglboaaDoor

/- edenraw.LentRule, KeptRule, Rules. -/
namespace Go.Proofs.YtefhlonipglboaaDoor
open Go.RowKit Go.Extern.Stop Go.Stop Go.Extern Go.Proofs.YtefhlonipglboaaDoorW.PrintWords Go.Proofs.YtefhlonipglboaaDoorW.PrintLast Go.Proofs.YtefhlonipglboaaDoorW.PrintMore
set_option linter.unusedVariables false
set_option linter.unusedSimpArgs false

theorem sz_alloc' (W : World) (o : Obj) : (W.alloc o).heap.size = W.heap.size + 1 := by simp
theorem info_rule : (Tryd.prog.info? tRule).map (·.size) = some 3 := by kernel_rfl
theorem BoxR.fr {w : World} {b : Nat} {k r : Int} {s : Value} (h : BoxR w b k r s) : w.frozen? ⟨b, 0, none⟩ = false ∧ w.frozen? ⟨b, 1, none⟩ = false ∧ w.frozen? ⟨b, 2, none⟩ = false := by
  unfold BoxR at h
  refine ⟨?_, ?_, ?_⟩ <;> simp [World.frozen?, h]
theorem BoxR.lt {w : World} {b : Nat} {k r : Int} {s : Value} (h : BoxR w b k r s) : b < w.heap.size := blk_lt h
theorem BoxR.put {w : World} {b : Nat} {k r : Int} {s : Value} (h : BoxR w b k r s) (k' r' : Int) (s' : Value) : BoxR (Go.Proofs.YtefhlonipglboaaDoor.put3 w b (.int .i64 k') (.int .i64 r') s') b k' r' s' := by
  have h1 : (w.setCell ⟨b, 0, none⟩ (.int .i64 k')).heap[b]? = some (.cells #[.int .i64 k', .int .i64 r, s] tRule (0, 0)) := blk_set h 0 (.int .i64 k')
  have h2 : ((w.setCell ⟨b, 0, none⟩ (.int .i64 k')).setCell ⟨b, 1, none⟩ (.int .i64 r')).heap[b]? = some (.cells #[.int .i64 k', .int .i64 r', s] tRule (0, 0)) := blk_set h1 1 (.int .i64 r')
  exact blk_set h2 2 s'
theorem resR1 {fn : Func} {p : Tmp} {tmps : Array Value} {w : World} {b : Nat} {k r : Int} {s : Value} (hB : BoxR w b k r s) (h : fn.results = #[.cell p tRule]) (hp : tmps.getD p undef = .pointer (some ⟨b, 0, none⟩)) :
    (results fn tmps).run Tryd.prog w = .ok (.agg #[.int .i64 k, .int .i64 r, s]) w :=
  results_cell_row h tmps w b tRule #[.int .i64 k, .int .i64 r, s] (0, 0) _ hp hB Tryd.underlying24 rfl info_rule

set_option maxHeartbeats 4000000 in
set_option maxRecDepth 100000 in
theorem lentR_calls (k r : Int) (A : Option Addr) (c : Nat) (t : List Int) (w : World) (hr : Kd.C (Kd.int .i64) w A t.length t) (ht : t.length + 2 ≤ 17592186044416) :
    Calls Tryd.prog 13 #[.agg #[.int .i64 k, .int .i64 r, .slice A t.length c]] w fun e w' => ∃ v, e = .returned (.agg #[.int .i64 k, .int .i64 r, v]) ∧ LentIAt w' w.heap.size v t ∧ Below w.heap.size w w' := by
  have hm := Kd.C_max hr
  have HT := Aside0.mk ht
  obtain ⟨w0, hw0⟩ : ∃ w0, (w.alloc (.cells #[.int .i64 k, .int .i64 r, .slice A t.length c] tRule)).alloc (.cells #[.int .i64 0, .int .i64 0, .slice none 0 0] tRule) = w0 := ⟨_, rfl⟩
  obtain ⟨a, ha⟩ : ∃ a, w.heap.size = a := ⟨_, rfl⟩
  obtain ⟨b, hb0⟩ : ∃ b, a + 1 = b := ⟨_, rfl⟩
  have HB0 := Aside0.mk (show Below w.heap.size w w0 by rw [← hw0]; exact below_alloc (below_alloc (Below.refl _ _) _) _)
  have HBX := Aside0.mk (show BoxR w0 b 0 0 (.slice none 0 0) by rw [← hw0, ← hb0, ← ha]; have h := BoxR.new (w.alloc (.cells #[.int .i64 k, .int .i64 r, .slice A t.length c] tRule)) 0 0 (.slice none 0 0); rw [sz_alloc'] at h; exact h)
  have HRX := Aside0.mk (show BoxR w0 a k r (.slice A t.length c) by rw [← hw0, ← ha]; exact (BoxR.new _ _ _ _).below (below_alloc (Below.refl _ _) _))
  have HLE := Aside0.mk (show w.heap.size ≤ b by omega)
  have HAB := Aside0.mk (show b ≠ a by omega)
  have HR := Aside0.mk (Kd.C_below hr HB0.out)
  have HBLT := Aside0.mk (show b < w0.heap.size from HBX.out.lt)
  clear hr ht
  go_enter Tryd.func13, Tryd.ntmps13
  go_wp2_with fail
  clear hw0 ha hb0
  obtain ⟨q0, q1, q2⟩ := HRX.out.cells
  go_region_held3 (fun w' => w'.cell? ⟨a, 0, none⟩ = some (.int .i64 k) ∧ w'.cell? ⟨a, 1, none⟩ = some (.int .i64 r) ∧ w'.cell? ⟨a, 2, none⟩ = some (.slice A t.length c)) (first | exact (HRX2.out.put3 HAB.out _ _ _).cells | go_keep | exact ⟨q0, q1, q2⟩) ((go_at_call 14; (refine (LentI_calls A c t _ (by exact Kd.C_below HR.out (by repeat (first | exact Below.refl _ _ | apply below_alloc | apply below_drew | apply pw_below_drewN))) HT.out).mono ?_); rintro e w2 ⟨v, rfl, hv, hb⟩; have HV := Aside0.mk (hv.lower (b' := w0.heap.size) (by exact Nat.le_of_eq rfl)); obtain ⟨G, cv, rfl, _, _, _⟩ := hv; have HRX2 := Aside0.mk (HRX.out.below (below_step (below_drew (Below.refl w0.heap.size w0)) hb)); have HBX2 := Aside0.mk (HBX.out.below (below_step (below_drew (Below.refl w0.heap.size w0)) hb)); have HB2 := Aside0.mk (below_step (below_drew (Below.refl w0.heap.size w0)) hb); obtain ⟨q0, q1, q2⟩ := (HRX.out.below (below_step (below_drew (Below.refl w0.heap.size w0)) hb)).cells; obtain ⟨x0, x1, x2⟩ := (HBX.out.below (below_step (below_drew (Below.refl w0.heap.size w0)) hb)).cells; obtain ⟨y0, y1, y2⟩ := (HBX.out.below (below_step (below_drew (Below.refl w0.heap.size w0)) hb)).fr; clear hb))
  go_wp2_with fail
  have HX2 := Aside0.mk (HBX2.out.put k r (.slice (some ⟨G, 0, none⟩) t.length cv))
  (try simp only [Exit.inBlock, Exit.then]); refine bodyPost_ret (resR1 HX2.out rfl rfl) rfl ?_
  exact ⟨_, rfl, (HV.out.put3 HBLT.out _ _ _).lower HB0.out.size, below_put3 (below_step HB0.out HB2.out) HLE.out _ _ _⟩

set_option maxHeartbeats 4000000 in
set_option maxRecDepth 100000 in
theorem keptR_true (k r : Int) (v : Value) (A : Option Addr) (b c : Nat) (t : List Int) (w : World) (h : LentIAt w b v t) (hr : Kd.C (Kd.int .i64) w A t.length t) (ht : t.length + 2 ≤ 17592186044416) :
    Calls Tryd.prog 19 #[.agg #[.int .i64 k, .int .i64 r, v], .agg #[.int .i64 k, .int .i64 r, .slice A t.length c]] w fun e w' => e = .returned (.bool true) ∧ Below w.heap.size w w' := by
  have HT := Aside0.mk ht
  obtain ⟨G, cv, e1, e2, e3, e4⟩ := h
  subst e1
  have hh : LentIAt w b (.slice (some ⟨G, 0, none⟩) t.length cv) t := ⟨G, cv, rfl, e2, e3, e4⟩
  have HH := Aside0.mk hh
  have HR := Aside0.mk hr
  clear hh hr
  have hk : (k == k) = true := beq_self_eq_true k
  have hrr : (r == r) = true := beq_self_eq_true r
  clear ht e2 e3 e4
  go_enter Tryd.func19, Tryd.ntmps19
  go_wp2_with fail
  refine (kept_true A b c _ t _ ((HH.out).below (below_alloc (below_alloc (Below.refl _ _) _) _)) (Kd.C_below (HR.out) (below_alloc (below_alloc (Below.refl _ _) _) _)) HT.out).mono ?_
  rintro e w1 ⟨rfl, hd⟩
  have hb := hd.below
  clear hd
  have HB1 := Aside0.mk (below_step (below_alloc (below_alloc (Below.refl _ _) _) _) hb)
  clear hb
  go_wp2_with fail
  go_ret
  exact ⟨rfl, (HB1.out)⟩
set_option maxHeartbeats 4000000 in
set_option maxRecDepth 100000 in
theorem rules_true (k r : Int) (A0 A1 : Option Addr) (c0 c1 : Nat) (t : List Int) (w : World) (hr0 : Kd.C (Kd.int .i64) w A0 t.length t) (hr1 : Kd.C (Kd.int .i64) w A1 t.length t) :
    Calls Tryd.prog 50 #[.agg #[.int .i64 k, .int .i64 r, .slice A0 t.length c0], .agg #[.int .i64 k, .int .i64 r, .slice A1 t.length c1]] w fun e w' => e = .returned (.bool true) ∧ Below w.heap.size w w' := by
  have HA := Aside0.mk hr0
  have HR := Aside0.mk hr1
  clear hr0 hr1
  have hk : (k == k) = true := beq_self_eq_true k
  have hrr : (r == r) = true := beq_self_eq_true r
  go_enter Tryd.func50, Tryd.ntmps50
  go_wp2_with fail
  refine (ints_true A0 A1 c0 c1 t _ (Kd.C_below (HA.out) (below_alloc (below_alloc (Below.refl _ _) _) _)) (Kd.C_below (HR.out) (below_alloc (below_alloc (Below.refl _ _) _) _))).mono ?_
  rintro e w1 ⟨rfl, hd⟩
  have hb := hd.below
  clear hd
  have HB1 := Aside0.mk (below_step (below_alloc (below_alloc (Below.refl _ _) _) _) hb)
  clear hb
  go_wp2_with fail
  go_ret
  exact ⟨rfl, (HB1.out)⟩
end Go.Proofs.YtefhlonipglboaaDoor

/- edenref04.Check, Small, Size: the document's word on what is a rule. -/
namespace Go.Proofs.YtefhlonipglboaaDoor
open Go.RowKit Go.Extern.Stop Go.Stop Go.Extern Go.Proofs.YtefhlonipglboaaDoorW.PrintWords Go.Proofs.YtefhlonipglboaaDoorW.PrintLast Go.Proofs.YtefhlonipglboaaDoorW.PrintMore
set_option linter.unusedVariables false
set_option linter.unusedSimpArgs false

set_option maxHeartbeats 4000000 in
set_option maxRecDepth 100000 in
theorem rchkR_calls (k r : Int) (A : Option Addr) (c : Nat) (t : List Int) (w : World) (hr : Kd.C (Kd.int .i64) w A t.length t) :
    Calls Tryd.prog 35 #[.agg #[.int .i64 k, .int .i64 r, .slice A t.length c]] w (WantO w (chkR k r t)) := by
  have hm := Kd.C_max hr
  have HR := Aside0.mk hr
  clear hr
  obtain ⟨w0, hw0⟩ : ∃ w0, (w.alloc (.cells #[.int .i64 k, .int .i64 r, .slice A t.length c] tRule)).alloc (.cells #[.int .i64 0, .slice none 0 0, .slice none 0 0] tErr) = w0 := ⟨_, rfl⟩
  obtain ⟨a, ha⟩ : ∃ a, w.heap.size = a := ⟨_, rfl⟩
  obtain ⟨b, hb0⟩ : ∃ b, a + 1 = b := ⟨_, rfl⟩
  have HB0 := Aside0.mk (show Below w.heap.size w w0 by rw [← hw0]; exact below_alloc (below_alloc (Below.refl _ _) _) _)
  have HBX := Aside0.mk (show Box3 w0 b (.int .i64 0) (.slice none 0 0) (.slice none 0 0) by rw [← hw0, ← hb0, ← ha]; have h := Box3.new (w.alloc (.cells #[.int .i64 k, .int .i64 r, .slice A t.length c] tRule)) (.int .i64 0) (.slice none 0 0) (.slice none 0 0); rw [sz_alloc'] at h; exact h)
  have HRX := Aside0.mk (show BoxR w0 a k r (.slice A t.length c) by rw [← hw0, ← ha]; exact (BoxR.new _ _ _ _).below (below_alloc (Below.refl _ _) _))
  have HLE := Aside0.mk (show w.heap.size ≤ b by omega)
  obtain ⟨q0, q1, q2⟩ := HRX.out.cells
  by_cases h1 : k < 1
  · have ho : chkR k r t = some (1, [(ruleS, 0)]) := by unfold chkR; rw [if_pos (Or.inl h1)]
    rw [ho]
    have d1 : decide (k < 1) = true := decide_eq_true h1
    clear ho
    go_enter Tryd.func35, Tryd.ntmps35
    go_wp2_with fail
    clear hw0 ha hb0
    refine (new_F _ (0) (1) w0).mono ?_
    rintro e wz ⟨zv, rfl, hf, hb⟩
    obtain ⟨zn, zA1, zn1, zc1, zA2, zn2, zc2, rfl, hn⟩ := hf.now.form
    have HXC := Aside0.mk (((HBX.out)).below hb)
    obtain ⟨k0, k1, k2, z0, z1, z2⟩ := HXC.out.cells
    have HX2 := Aside0.mk (HXC.out.put (.int .i64 zn) (.slice zA1 zn1 zc1) (.slice zA2 zn2 zc2))
    have HFZ := Aside0.mk ((hf.put3 (b := b) ((HBX.out)).lt (.int .i64 zn) (.slice zA1 zn1 zc1) (.slice zA2 zn2 zc2)).lower (b' := w.heap.size) ((HB0.out)).size)
    have HBZ := Aside0.mk (below_put3 (below_step (HB0.out) hb) HLE.out (.int .i64 zn) (.slice zA1 zn1 zc1) (.slice zA2 zn2 zc2))
    clear hf hb hn
    go_wp2_with fail
    (try simp only [Exit.inBlock, Exit.then]); refine bodyPost_ret (res1 HX2.out rfl rfl) rfl ?_
    exact ⟨_, rfl, HFZ.out, HBZ.out⟩
  have d1 : decide (k < 1) = false := decide_eq_false h1
  by_cases h2 : 4 < k
  · have ho : chkR k r t = some (1, [(ruleS, 0)]) := by unfold chkR; rw [if_pos (Or.inr h2)]
    rw [ho]
    have d2 : decide (4 < k) = true := decide_eq_true h2
    clear ho
    go_enter Tryd.func35, Tryd.ntmps35
    go_wp2_with fail
    clear hw0 ha hb0
    refine (new_F _ (0) (1) w0).mono ?_
    rintro e wz ⟨zv, rfl, hf, hb⟩
    obtain ⟨zn, zA1, zn1, zc1, zA2, zn2, zc2, rfl, hn⟩ := hf.now.form
    have HXC := Aside0.mk (((HBX.out)).below hb)
    obtain ⟨k0, k1, k2, z0, z1, z2⟩ := HXC.out.cells
    have HX2 := Aside0.mk (HXC.out.put (.int .i64 zn) (.slice zA1 zn1 zc1) (.slice zA2 zn2 zc2))
    have HFZ := Aside0.mk ((hf.put3 (b := b) ((HBX.out)).lt (.int .i64 zn) (.slice zA1 zn1 zc1) (.slice zA2 zn2 zc2)).lower (b' := w.heap.size) ((HB0.out)).size)
    have HBZ := Aside0.mk (below_put3 (below_step (HB0.out) hb) HLE.out (.int .i64 zn) (.slice zA1 zn1 zc1) (.slice zA2 zn2 zc2))
    clear hf hb hn
    go_wp2_with fail
    (try simp only [Exit.inBlock, Exit.then]); refine bodyPost_ret (res1 HX2.out rfl rfl) rfl ?_
    exact ⟨_, rfl, HFZ.out, HBZ.out⟩
  have d2 : decide (4 < k) = false := decide_eq_false h2
  by_cases h3 : r < 0
  · have ho : chkR k r t = some (1, [(ruleS, 1)]) := by unfold chkR; rw [if_neg (by omega), if_pos (Or.inl h3)]
    rw [ho]
    have d3 : decide (r < 0) = true := decide_eq_true h3
    clear ho
    go_enter Tryd.func35, Tryd.ntmps35
    go_wp2_with fail
    clear hw0 ha hb0
    refine (new_F _ (1) (1) w0).mono ?_
    rintro e wz ⟨zv, rfl, hf, hb⟩
    obtain ⟨zn, zA1, zn1, zc1, zA2, zn2, zc2, rfl, hn⟩ := hf.now.form
    have HXC := Aside0.mk (((HBX.out)).below hb)
    obtain ⟨k0, k1, k2, z0, z1, z2⟩ := HXC.out.cells
    have HX2 := Aside0.mk (HXC.out.put (.int .i64 zn) (.slice zA1 zn1 zc1) (.slice zA2 zn2 zc2))
    have HFZ := Aside0.mk ((hf.put3 (b := b) ((HBX.out)).lt (.int .i64 zn) (.slice zA1 zn1 zc1) (.slice zA2 zn2 zc2)).lower (b' := w.heap.size) ((HB0.out)).size)
    have HBZ := Aside0.mk (below_put3 (below_step (HB0.out) hb) HLE.out (.int .i64 zn) (.slice zA1 zn1 zc1) (.slice zA2 zn2 zc2))
    clear hf hb hn
    go_wp2_with fail
    (try simp only [Exit.inBlock, Exit.then]); refine bodyPost_ret (res1 HX2.out rfl rfl) rfl ?_
    exact ⟨_, rfl, HFZ.out, HBZ.out⟩
  have d3 : decide (r < 0) = false := decide_eq_false h3
  by_cases h4 : 3 < r
  · have ho : chkR k r t = some (1, [(ruleS, 1)]) := by unfold chkR; rw [if_neg (by omega), if_pos (Or.inr h4)]
    rw [ho]
    have d4 : decide (3 < r) = true := decide_eq_true h4
    clear ho
    go_enter Tryd.func35, Tryd.ntmps35
    go_wp2_with fail
    clear hw0 ha hb0
    refine (new_F _ (1) (1) w0).mono ?_
    rintro e wz ⟨zv, rfl, hf, hb⟩
    obtain ⟨zn, zA1, zn1, zc1, zA2, zn2, zc2, rfl, hn⟩ := hf.now.form
    have HXC := Aside0.mk (((HBX.out)).below hb)
    obtain ⟨k0, k1, k2, z0, z1, z2⟩ := HXC.out.cells
    have HX2 := Aside0.mk (HXC.out.put (.int .i64 zn) (.slice zA1 zn1 zc1) (.slice zA2 zn2 zc2))
    have HFZ := Aside0.mk ((hf.put3 (b := b) ((HBX.out)).lt (.int .i64 zn) (.slice zA1 zn1 zc1) (.slice zA2 zn2 zc2)).lower (b' := w.heap.size) ((HB0.out)).size)
    have HBZ := Aside0.mk (below_put3 (below_step (HB0.out) hb) HLE.out (.int .i64 zn) (.slice zA1 zn1 zc1) (.slice zA2 zn2 zc2))
    clear hf hb hn
    go_wp2_with fail
    (try simp only [Exit.inBlock, Exit.then]); refine bodyPost_ret (res1 HX2.out rfl rfl) rfl ?_
    exact ⟨_, rfl, HFZ.out, HBZ.out⟩
  have d4 : decide (3 < r) = false := decide_eq_false h4
  have hK : KR k r := by unfold KR; omega
  have hw := hK.win
  have s1 : IntKind.i64.wrap (2 * r) = 2 * r := IntWalk.i64_in _ (by omega)
  have s2 : IntKind.i64.wrap (2 * r + 1) = 2 * r + 1 := IntWalk.i64_in _ (by omega)
  have hpow := fun W => power_calls k (2 * r + 1) W (by omega) (by omega) (by omega) (by omega)
  obtain ⟨nw, hnw⟩ : ∃ nw, nwin k r = nw := ⟨_, rfl⟩
  have hpn : k ^ (2 * r + 1).toNat = nw := hnw
  rw [hpn] at hpow
  have HPW := Aside0.mk hpow
  clear hpow hpn
  by_cases h5 : (t.length : Int) = nw
  · have d5 : ((t.length : Int) != nw) = false := by rw [bne_eq_false_iff_eq]; exact h5
    obtain ⟨x, hx⟩ : ∃ x, fstIx (badB k) t = x := ⟨_, rfl⟩
    have HX := Aside0.mk hx
    by_cases h6 : 0 ≤ x
    · have ho : chkR k r t = some (1, [(ruleS, 3 + x)]) := by unfold chkR; rw [if_neg (by omega), if_neg (by omega), if_neg (by omega), hx, if_pos h6]
      rw [ho]
      have hmx : x ≤ 16384 := by
        rcases fstIx_cases (badB k) t with ⟨h7, _⟩ | ⟨i, hi, h7, _⟩ <;> omega
      have h5' := Aside0.mk h5
      have hnw' := Aside0.mk hnw
      clear ho h5 hnw hx
      go_enter Tryd.func35, Tryd.ntmps35
      go_wp2_with fail
      clear hw0 ha hb0
      go_quiet ((go_at_call 83; (with_reducible refine (HPW.out _).mono ?_); rintro e w' ⟨rfl, rfl⟩; exact ⟨rfl, _, rfl⟩))
      go_wp2_with fail
      refine (rbad_calls k A c t (w0.drewN nq) (Kd.C_below (Kd.C_below (HR.out) (HB0.out)) (pw_below_drewN (Below.refl _ _) nq))).mono ?_
      rintro e w1 ⟨rfl, rfl⟩
      rw [HX.out]
      go_wp2_with fail
      refine (new_F _ (3 + x) (1) (w0.drewN nq)).mono ?_
      rintro e wz ⟨zv, rfl, hf, hb⟩
      obtain ⟨zn, zA1, zn1, zc1, zA2, zn2, zc2, rfl, hn⟩ := hf.now.form
      have HXC := Aside0.mk ((((HBX.out).below (pw_below_drewN (Below.refl _ _) nq))).below hb)
      obtain ⟨k0, k1, k2, z0, z1, z2⟩ := HXC.out.cells
      have HX2 := Aside0.mk (HXC.out.put (.int .i64 zn) (.slice zA1 zn1 zc1) (.slice zA2 zn2 zc2))
      have HFZ := Aside0.mk ((hf.put3 (b := b) (((HBX.out).below (pw_below_drewN (Below.refl _ _) nq))).lt (.int .i64 zn) (.slice zA1 zn1 zc1) (.slice zA2 zn2 zc2)).lower (b' := w.heap.size) ((pw_below_drewN (HB0.out) nq)).size)
      have HBZ := Aside0.mk (below_put3 (below_step (pw_below_drewN (HB0.out) nq) hb) HLE.out (.int .i64 zn) (.slice zA1 zn1 zc1) (.slice zA2 zn2 zc2))
      clear hf hb hn
      go_wp2_with fail
      (try simp only [Exit.inBlock, Exit.then]); refine bodyPost_ret (res1 HX2.out rfl rfl) rfl ?_
      exact ⟨_, rfl, HFZ.out, HBZ.out⟩
    · have ho : chkR k r t = none := by unfold chkR; rw [if_neg (by omega), if_neg (by omega), if_neg (by omega), hx, if_neg h6]
      rw [ho]
      have h5' := Aside0.mk h5
      have hnw' := Aside0.mk hnw
      clear ho h5 hnw hx
      go_enter Tryd.func35, Tryd.ntmps35
      go_wp2_with fail
      clear hw0 ha hb0
      go_quiet ((go_at_call 83; (with_reducible refine (HPW.out _).mono ?_); rintro e w' ⟨rfl, rfl⟩; exact ⟨rfl, _, rfl⟩))
      go_wp2_with fail
      refine (rbad_calls k A c t (w0.drewN nq) (Kd.C_below (Kd.C_below (HR.out) (HB0.out)) (pw_below_drewN (Below.refl _ _) nq))).mono ?_
      rintro e w1 ⟨rfl, rfl⟩
      rw [HX.out]
      obtain ⟨k0, k1, k2, z0, z1, z2⟩ := (((HBX.out).below (pw_below_drewN (Below.refl _ _) nq))).cells
      have HX2 := Aside0.mk ((((HBX.out).below (pw_below_drewN (Below.refl _ _) nq))).put (.int .i64 0) (.slice none 0 0) (.slice none 0 0))
      have HBZ := Aside0.mk (below_put3 (pw_below_drewN (HB0.out) nq) HLE.out (.int .i64 0) (.slice none 0 0) (.slice none 0 0))
      go_wp2_with fail
      (try simp only [Exit.inBlock, Exit.then]); refine bodyPost_ret (res1 HX2.out rfl rfl) rfl ?_
      exact ⟨_, rfl, WantF.nil _ _, HBZ.out⟩
  · have ho : chkR k r t = some (1, [(ruleS, 2)]) := by unfold chkR; rw [if_neg (by omega), if_neg (by omega), if_pos (by omega)]
    rw [ho]
    have d5 : ((t.length : Int) != nw) = true := by rw [bne_iff_ne]; exact h5
    have hnw' := Aside0.mk hnw
    clear ho h5 hnw
    go_enter Tryd.func35, Tryd.ntmps35
    go_wp2_with fail
    clear hw0 ha hb0
    go_quiet ((go_at_call 83; (with_reducible refine (HPW.out _).mono ?_); rintro e w' ⟨rfl, rfl⟩; exact ⟨rfl, _, rfl⟩))
    go_wp2_with fail
    refine (new_F _ (2) (1) (w0.drewN nq)).mono ?_
    rintro e wz ⟨zv, rfl, hf, hb⟩
    obtain ⟨zn, zA1, zn1, zc1, zA2, zn2, zc2, rfl, hn⟩ := hf.now.form
    have HXC := Aside0.mk ((((HBX.out).below (pw_below_drewN (Below.refl _ _) nq))).below hb)
    obtain ⟨k0, k1, k2, z0, z1, z2⟩ := HXC.out.cells
    have HX2 := Aside0.mk (HXC.out.put (.int .i64 zn) (.slice zA1 zn1 zc1) (.slice zA2 zn2 zc2))
    have HFZ := Aside0.mk ((hf.put3 (b := b) (((HBX.out).below (pw_below_drewN (Below.refl _ _) nq))).lt (.int .i64 zn) (.slice zA1 zn1 zc1) (.slice zA2 zn2 zc2)).lower (b' := w.heap.size) ((pw_below_drewN (HB0.out) nq)).size)
    have HBZ := Aside0.mk (below_put3 (below_step (pw_below_drewN (HB0.out) nq) hb) HLE.out (.int .i64 zn) (.slice zA1 zn1 zc1) (.slice zA2 zn2 zc2))
    clear hf hb hn
    go_wp2_with fail
    (try simp only [Exit.inBlock, Exit.then]); refine bodyPost_ret (res1 HX2.out rfl rfl) rfl ?_
    exact ⟨_, rfl, HFZ.out, HBZ.out⟩

set_option maxHeartbeats 4000000 in
set_option maxRecDepth 100000 in
theorem rsmallR_calls (k r : Int) (A : Option Addr) (c : Nat) (t : List Int) (w : World) (hr : Kd.C (Kd.int .i64) w A t.length t) :
    Calls Tryd.prog 37 #[.agg #[.int .i64 k, .int .i64 r, .slice A t.length c]] w (WantO w (smallR k r t)) := by
  have hm := Kd.C_max hr
  have HR := Aside0.mk hr
  clear hr
  obtain ⟨w0, hw0⟩ : ∃ w0, (w.alloc (.cells #[.int .i64 k, .int .i64 r, .slice A t.length c] tRule)).alloc (.cells #[.int .i64 0, .slice none 0 0, .slice none 0 0] tErr) = w0 := ⟨_, rfl⟩
  obtain ⟨a, ha⟩ : ∃ a, w.heap.size = a := ⟨_, rfl⟩
  obtain ⟨b, hb0⟩ : ∃ b, a + 1 = b := ⟨_, rfl⟩
  have HB0 := Aside0.mk (show Below w.heap.size w w0 by rw [← hw0]; exact below_alloc (below_alloc (Below.refl _ _) _) _)
  have HBX := Aside0.mk (show Box3 w0 b (.int .i64 0) (.slice none 0 0) (.slice none 0 0) by rw [← hw0, ← hb0, ← ha]; have h := Box3.new (w.alloc (.cells #[.int .i64 k, .int .i64 r, .slice A t.length c] tRule)) (.int .i64 0) (.slice none 0 0) (.slice none 0 0); rw [sz_alloc'] at h; exact h)
  have HRX := Aside0.mk (show BoxR w0 a k r (.slice A t.length c) by rw [← hw0, ← ha]; exact (BoxR.new _ _ _ _).below (below_alloc (Below.refl _ _) _))
  have HLE := Aside0.mk (show w.heap.size ≤ b by omega)
  obtain ⟨q0, q1, q2⟩ := HRX.out.cells
  have hf := chkR_few k r t
  cases hc : chkR k r t with
  | some x =>
    have ho : smallR k r t = some x := by unfold smallR; rw [hc]
    rw [ho]
    rw [hc] at hf
    have HCK := Aside0.mk hc
    have HFW := Aside0.mk (hf.mono (by decide : 1 ≤ 1000))
    clear ho hc hf
    go_enter Tryd.func37, Tryd.ntmps37
    go_wp2_with fail
    clear hw0 ha hb0
    refine (rchkR_calls k r A c t w0 (Kd.C_below (HR.out) (HB0.out))).mono ?_
    rintro e w1 ⟨v, rfl, hv, hb⟩
    have HB1 := Aside0.mk (hb)
    clear hb
    rw [HCK.out] at hv
    obtain ⟨zn, zA1, zn1, zc1, zA2, zn2, zc2, rfl, hn⟩ := hv.now.form
    have HV := Aside0.mk hv
    clear hv hn
    obtain ⟨wx1, hwx⟩ : ∃ wx, (w1).alloc (.cells #[.int .i64 zn, .slice zA1 zn1 zc1, .slice zA2 zn2 zc2] tErr) = wx := ⟨_, rfl⟩
    obtain ⟨bx1, hbx⟩ : ∃ bx, (w1).heap.size = bx := ⟨_, rfl⟩
    have HBW1 := Aside0.mk (show Below (w1).heap.size w1 wx1 by rw [← hwx]; exact below_alloc (Below.refl _ _) _)
    have HBE1 := Aside0.mk (show Box3 wx1 bx1 (.int .i64 zn) (.slice zA1 zn1 zc1) (.slice zA2 zn2 zc2) by rw [← hwx, ← hbx]; exact Box3.new _ _ _ _)
    obtain ⟨e0, e1, e2, y0, y1, y2⟩ := HBE1.out.cells
    go_wp2_with fail
    clear hwx hbx
    refine (ebad_want (some x) HFW.out _ wx1 (((HV.out).below (HBW1.out))).now).mono ?_
    rintro e w2 ⟨rfl, hb⟩
    have HB2 := Aside0.mk (hb)
    clear hb
    obtain ⟨e0, e1, e2, y0, y1, y2⟩ := (((HBE1.out).below (HB2.out))).cells
    obtain ⟨k0, k1, k2, z0, z1, z2⟩ := (((((HBX.out).below (HB1.out)).below (HBW1.out)).below (HB2.out))).cells
    have HX2 := Aside0.mk ((((((HBX.out).below (HB1.out)).below (HBW1.out)).below (HB2.out))).put (.int .i64 zn) (.slice zA1 zn1 zc1) (.slice zA2 zn2 zc2))
    have HFZ := Aside0.mk ((((((HV.out).below (HBW1.out)).below (HB2.out))).put3 (b := b) HBX.out.lt (.int .i64 zn) (.slice zA1 zn1 zc1) (.slice zA2 zn2 zc2)).lower (b' := w.heap.size) HB0.out.size)
    have HBZ := Aside0.mk (below_put3 (below_step (below_step (below_step (HB0.out) HB1.out) HBW1.out) HB2.out) HLE.out (.int .i64 zn) (.slice zA1 zn1 zc1) (.slice zA2 zn2 zc2))
    go_wp2_with fail
    (try simp only [Exit.inBlock, Exit.then]); refine bodyPost_ret (res1 HX2.out rfl rfl) rfl ?_
    exact ⟨_, rfl, HFZ.out, HBZ.out⟩
  | none =>
    rw [hc] at hf
    by_cases h5 : 256 < t.length
    · have ho : smallR k r t = some (4, [(ruleS, 0)]) := by unfold smallR; rw [hc]; simp [h5]
      rw [ho]
      have HCK := Aside0.mk hc
      have HFW := Aside0.mk (hf.mono (by decide : 1 ≤ 1000))
      have d5 : decide ((256 : Int) < t.length) = true := decide_eq_true (by omega)
      clear ho hc hf
      go_enter Tryd.func37, Tryd.ntmps37
      go_wp2_with fail
      clear hw0 ha hb0
      refine (rchkR_calls k r A c t w0 (Kd.C_below (HR.out) (HB0.out))).mono ?_
      rintro e w1 ⟨v, rfl, hv, hb⟩
      have HB1 := Aside0.mk (hb)
      clear hb
      rw [HCK.out] at hv
      obtain ⟨zn, zA1, zn1, zc1, zA2, zn2, zc2, rfl, hn⟩ := hv.now.form
      have HV := Aside0.mk hv
      clear hv hn
      obtain ⟨wx1, hwx⟩ : ∃ wx, (w1).alloc (.cells #[.int .i64 zn, .slice zA1 zn1 zc1, .slice zA2 zn2 zc2] tErr) = wx := ⟨_, rfl⟩
      obtain ⟨bx1, hbx⟩ : ∃ bx, (w1).heap.size = bx := ⟨_, rfl⟩
      have HBW1 := Aside0.mk (show Below (w1).heap.size w1 wx1 by rw [← hwx]; exact below_alloc (Below.refl _ _) _)
      have HBE1 := Aside0.mk (show Box3 wx1 bx1 (.int .i64 zn) (.slice zA1 zn1 zc1) (.slice zA2 zn2 zc2) by rw [← hwx, ← hbx]; exact Box3.new _ _ _ _)
      obtain ⟨e0, e1, e2, y0, y1, y2⟩ := HBE1.out.cells
      go_wp2_with fail
      clear hwx hbx
      refine (ebad_want none HFW.out _ wx1 (((HV.out).below (HBW1.out))).now).mono ?_
      rintro e w2 ⟨rfl, hb⟩
      have HB2 := Aside0.mk (hb)
      clear hb
      obtain ⟨e0, e1, e2, y0, y1, y2⟩ := (((HBE1.out).below (HB2.out))).cells
      obtain ⟨q0, q1, q2⟩ := BoxR.cells ((((HRX.out).below (HB1.out)).below (HBW1.out)).below (HB2.out))
      go_wp2_with fail
      refine (new_F _ (0) (4) w2).mono ?_
      rintro e wz ⟨zv, rfl, hf, hb⟩
      obtain ⟨zn, zA1, zn1, zc1, zA2, zn2, zc2, rfl, hn⟩ := hf.now.form
      have HXC := Aside0.mk ((((((HBX.out).below (HB1.out)).below (HBW1.out)).below (HB2.out))).below hb)
      obtain ⟨k0, k1, k2, z0, z1, z2⟩ := HXC.out.cells
      have HX2 := Aside0.mk (HXC.out.put (.int .i64 zn) (.slice zA1 zn1 zc1) (.slice zA2 zn2 zc2))
      have HFZ := Aside0.mk ((hf.put3 (b := b) (((((HBX.out).below (HB1.out)).below (HBW1.out)).below (HB2.out))).lt (.int .i64 zn) (.slice zA1 zn1 zc1) (.slice zA2 zn2 zc2)).lower (b' := w.heap.size) ((below_step (below_step (below_step (HB0.out) HB1.out) HBW1.out) HB2.out)).size)
      have HBZ := Aside0.mk (below_put3 (below_step (below_step (below_step (below_step (HB0.out) HB1.out) HBW1.out) HB2.out) hb) HLE.out (.int .i64 zn) (.slice zA1 zn1 zc1) (.slice zA2 zn2 zc2))
      clear hf hb hn
      go_wp2_with fail
      (try simp only [Exit.inBlock, Exit.then]); refine bodyPost_ret (res1 HX2.out rfl rfl) rfl ?_
      exact ⟨_, rfl, HFZ.out, HBZ.out⟩
    · have ho : smallR k r t = none := by unfold smallR; rw [hc]; simp [h5]
      rw [ho]
      have HCK := Aside0.mk hc
      have HFW := Aside0.mk (hf.mono (by decide : 1 ≤ 1000))
      have d5 : decide ((256 : Int) < t.length) = false := decide_eq_false (by omega)
      clear ho hc hf
      go_enter Tryd.func37, Tryd.ntmps37
      go_wp2_with fail
      clear hw0 ha hb0
      refine (rchkR_calls k r A c t w0 (Kd.C_below (HR.out) (HB0.out))).mono ?_
      rintro e w1 ⟨v, rfl, hv, hb⟩
      have HB1 := Aside0.mk (hb)
      clear hb
      rw [HCK.out] at hv
      obtain ⟨zn, zA1, zn1, zc1, zA2, zn2, zc2, rfl, hn⟩ := hv.now.form
      have HV := Aside0.mk hv
      clear hv hn
      obtain ⟨wx1, hwx⟩ : ∃ wx, (w1).alloc (.cells #[.int .i64 zn, .slice zA1 zn1 zc1, .slice zA2 zn2 zc2] tErr) = wx := ⟨_, rfl⟩
      obtain ⟨bx1, hbx⟩ : ∃ bx, (w1).heap.size = bx := ⟨_, rfl⟩
      have HBW1 := Aside0.mk (show Below (w1).heap.size w1 wx1 by rw [← hwx]; exact below_alloc (Below.refl _ _) _)
      have HBE1 := Aside0.mk (show Box3 wx1 bx1 (.int .i64 zn) (.slice zA1 zn1 zc1) (.slice zA2 zn2 zc2) by rw [← hwx, ← hbx]; exact Box3.new _ _ _ _)
      obtain ⟨e0, e1, e2, y0, y1, y2⟩ := HBE1.out.cells
      go_wp2_with fail
      clear hwx hbx
      refine (ebad_want none HFW.out _ wx1 (((HV.out).below (HBW1.out))).now).mono ?_
      rintro e w2 ⟨rfl, hb⟩
      have HB2 := Aside0.mk (hb)
      clear hb
      obtain ⟨e0, e1, e2, y0, y1, y2⟩ := (((HBE1.out).below (HB2.out))).cells
      obtain ⟨q0, q1, q2⟩ := BoxR.cells ((((HRX.out).below (HB1.out)).below (HBW1.out)).below (HB2.out))
      obtain ⟨k0, k1, k2, z0, z1, z2⟩ := (((((HBX.out).below (HB1.out)).below (HBW1.out)).below (HB2.out))).cells
      have HX2 := Aside0.mk ((((((HBX.out).below (HB1.out)).below (HBW1.out)).below (HB2.out))).put (.int .i64 zn) (.slice zA1 zn1 zc1) (.slice zA2 zn2 zc2))
      have HFZ := Aside0.mk ((((((HV.out).below (HBW1.out)).below (HB2.out))).put3 (b := b) HBX.out.lt (.int .i64 zn) (.slice zA1 zn1 zc1) (.slice zA2 zn2 zc2)).lower (b' := w.heap.size) HB0.out.size)
      have HBZ := Aside0.mk (below_put3 (below_step (below_step (below_step (HB0.out) HB1.out) HBW1.out) HB2.out) HLE.out (.int .i64 zn) (.slice zA1 zn1 zc1) (.slice zA2 zn2 zc2))
      go_wp2_with fail
      (try simp only [Exit.inBlock, Exit.then]); refine bodyPost_ret (res1 HX2.out rfl rfl) rfl ?_
      exact ⟨_, rfl, HFZ.out, HBZ.out⟩
end Go.Proofs.YtefhlonipglboaaDoor

/- edenref04.Size. -/
namespace Go.Proofs.YtefhlonipglboaaDoor
open Go.RowKit Go.Extern.Stop Go.Stop Go.Extern Go.Proofs.YtefhlonipglboaaDoorW.PrintWords Go.Proofs.YtefhlonipglboaaDoorW.PrintLast Go.Proofs.YtefhlonipglboaaDoorW.PrintMore
set_option linter.unusedVariables false
set_option linter.unusedSimpArgs false
/-- what edenref04.Size leaves -/
def RSizeRes (k r : Int) (w : World) (e : Ending) (w' : World) : Prop :=
  ∃ n u, e = .returned (.tuple #[.int .i64 n, u]) ∧ WantF w' w.heap.size u (if KR k r then none else some (3, [(ruleS, 0)])) ∧ n = (if KR k r then nwin k r else 0) ∧ Below w.heap.size w w'
set_option maxHeartbeats 4000000 in
set_option maxRecDepth 100000 in
theorem rsize_calls (k r : Int) (w : World) : Calls Tryd.prog 33 #[.int .i64 k, .int .i64 r] w (RSizeRes k r w) := by
  by_cases hK : KR k r
  · unfold RSizeRes
    rw [if_pos hK, if_pos hK]
    obtain ⟨k1, k2, r1, r2⟩ := hK
    have d1 : decide (k < 1) = false := decide_eq_false (by omega)
    have d2 : decide (4 < k) = false := decide_eq_false (by omega)
    have d3 : decide (r < 0) = false := decide_eq_false (by omega)
    have d4 : decide (3 < r) = false := decide_eq_false (by omega)
    have s1 : IntKind.i64.wrap (2 * r) = 2 * r := IntWalk.i64_in _ (by omega)
    have s2 : IntKind.i64.wrap (2 * r + 1) = 2 * r + 1 := IntWalk.i64_in _ (by omega)
    have hpow := fun W => power_calls k (2 * r + 1) W (by omega) (by omega) (by omega) (by omega)
    obtain ⟨nw, hnw⟩ : ∃ nw, nwin k r = nw := ⟨_, rfl⟩
    have hpn : k ^ (2 * r + 1).toNat = nw := hnw
    rw [hpn] at hpow
    rw [hnw]
    have HPW := Aside0.mk hpow
    clear hpow hpn hnw
    obtain ⟨w0, hw0⟩ : ∃ w0, w.alloc (.cells #[.int .i64 0, .slice none 0 0, .slice none 0 0] tErr) = w0 := ⟨_, rfl⟩
    obtain ⟨b, hb0⟩ : ∃ b, w.heap.size = b := ⟨_, rfl⟩
    have HB0 := Aside0.mk (show Below w.heap.size w w0 by rw [← hw0]; exact below_alloc (Below.refl _ _) _)
    have HBX := Aside0.mk (show Box3 w0 b (.int .i64 0) (.slice none 0 0) (.slice none 0 0) by rw [← hw0, ← hb0]; exact Box3.new _ _ _ _)
    have HLE := Aside0.mk (show w.heap.size ≤ b by omega)
    go_enter Tryd.func33, Tryd.ntmps33
    go_wp2_with fail
    clear hw0 hb0
    refine (HPW.out _).mono ?_
    rintro e w1 ⟨rfl, rfl⟩
    obtain ⟨k0, k1, k2, z0, z1, z2⟩ := ((HBX.out)).cells
    have HX2 := Aside0.mk (((HBX.out)).put (.int .i64 0) (.slice none 0 0) (.slice none 0 0))
    have HBZ := Aside0.mk (below_put3 (HB0.out) HLE.out (.int .i64 0) (.slice none 0 0) (.slice none 0 0))
    go_wp2_with fail
    (try simp only [Exit.inBlock, Exit.then]); refine bodyPost_ret (res2 HX2.out rfl rfl) rfl ?_
    exact ⟨nw, _, rfl, WantF.nil _ _, rfl, HBZ.out⟩
  · have h' : k < 1 ∨ 4 < k ∨ r < 0 ∨ 3 < r := by unfold KR at hK; omega
    unfold RSizeRes
    rw [if_neg hK, if_neg hK]
    clear hK
    obtain ⟨w0, hw0⟩ : ∃ w0, w.alloc (.cells #[.int .i64 0, .slice none 0 0, .slice none 0 0] tErr) = w0 := ⟨_, rfl⟩
    obtain ⟨b, hb0⟩ : ∃ b, w.heap.size = b := ⟨_, rfl⟩
    have HB0 := Aside0.mk (show Below w.heap.size w w0 by rw [← hw0]; exact below_alloc (Below.refl _ _) _)
    have HBX := Aside0.mk (show Box3 w0 b (.int .i64 0) (.slice none 0 0) (.slice none 0 0) by rw [← hw0, ← hb0]; exact Box3.new _ _ _ _)
    have HLE := Aside0.mk (show w.heap.size ≤ b by omega)
    by_cases h1 : k < 1
    · have d1 : decide (k < 1) = true := decide_eq_true h1
      clear h'
      go_enter Tryd.func33, Tryd.ntmps33
      go_wp2_with fail
      clear hw0 hb0
      refine (new_F _ (0) (3) w0).mono ?_
      rintro e wz ⟨zv, rfl, hf, hb⟩
      obtain ⟨zn, zA1, zn1, zc1, zA2, zn2, zc2, rfl, hn⟩ := hf.now.form
      have HXC := Aside0.mk (((HBX.out)).below hb)
      obtain ⟨k0, k1, k2, z0, z1, z2⟩ := HXC.out.cells
      have HX2 := Aside0.mk (HXC.out.put (.int .i64 zn) (.slice zA1 zn1 zc1) (.slice zA2 zn2 zc2))
      have HFZ := Aside0.mk ((hf.put3 (b := b) ((HBX.out)).lt (.int .i64 zn) (.slice zA1 zn1 zc1) (.slice zA2 zn2 zc2)).lower (b' := w.heap.size) ((HB0.out)).size)
      have HBZ := Aside0.mk (below_put3 (below_step (HB0.out) hb) HLE.out (.int .i64 zn) (.slice zA1 zn1 zc1) (.slice zA2 zn2 zc2))
      clear hf hb hn
      go_wp2_with fail
      (try simp only [Exit.inBlock, Exit.then]); refine bodyPost_ret (res2 HX2.out rfl rfl) rfl ?_
      exact ⟨0, _, rfl, HFZ.out, rfl, HBZ.out⟩
    · have d1 : decide (k < 1) = false := decide_eq_false h1
      by_cases h2 : 4 < k
      · have d2 : decide (4 < k) = true := decide_eq_true h2
        clear h'
        go_enter Tryd.func33, Tryd.ntmps33
        go_wp2_with fail
        clear hw0 hb0
        refine (new_F _ (0) (3) w0).mono ?_
        rintro e wz ⟨zv, rfl, hf, hb⟩
        obtain ⟨zn, zA1, zn1, zc1, zA2, zn2, zc2, rfl, hn⟩ := hf.now.form
        have HXC := Aside0.mk (((HBX.out)).below hb)
        obtain ⟨k0, k1, k2, z0, z1, z2⟩ := HXC.out.cells
        have HX2 := Aside0.mk (HXC.out.put (.int .i64 zn) (.slice zA1 zn1 zc1) (.slice zA2 zn2 zc2))
        have HFZ := Aside0.mk ((hf.put3 (b := b) ((HBX.out)).lt (.int .i64 zn) (.slice zA1 zn1 zc1) (.slice zA2 zn2 zc2)).lower (b' := w.heap.size) ((HB0.out)).size)
        have HBZ := Aside0.mk (below_put3 (below_step (HB0.out) hb) HLE.out (.int .i64 zn) (.slice zA1 zn1 zc1) (.slice zA2 zn2 zc2))
        clear hf hb hn
        go_wp2_with fail
        (try simp only [Exit.inBlock, Exit.then]); refine bodyPost_ret (res2 HX2.out rfl rfl) rfl ?_
        exact ⟨0, _, rfl, HFZ.out, rfl, HBZ.out⟩
      · have d2 : decide (4 < k) = false := decide_eq_false h2
        by_cases h3 : r < 0
        · have d3 : decide (r < 0) = true := decide_eq_true h3
          clear h'
          go_enter Tryd.func33, Tryd.ntmps33
          go_wp2_with fail
          clear hw0 hb0
          refine (new_F _ (0) (3) w0).mono ?_
          rintro e wz ⟨zv, rfl, hf, hb⟩
          obtain ⟨zn, zA1, zn1, zc1, zA2, zn2, zc2, rfl, hn⟩ := hf.now.form
          have HXC := Aside0.mk (((HBX.out)).below hb)
          obtain ⟨k0, k1, k2, z0, z1, z2⟩ := HXC.out.cells
          have HX2 := Aside0.mk (HXC.out.put (.int .i64 zn) (.slice zA1 zn1 zc1) (.slice zA2 zn2 zc2))
          have HFZ := Aside0.mk ((hf.put3 (b := b) ((HBX.out)).lt (.int .i64 zn) (.slice zA1 zn1 zc1) (.slice zA2 zn2 zc2)).lower (b' := w.heap.size) ((HB0.out)).size)
          have HBZ := Aside0.mk (below_put3 (below_step (HB0.out) hb) HLE.out (.int .i64 zn) (.slice zA1 zn1 zc1) (.slice zA2 zn2 zc2))
          clear hf hb hn
          go_wp2_with fail
          (try simp only [Exit.inBlock, Exit.then]); refine bodyPost_ret (res2 HX2.out rfl rfl) rfl ?_
          exact ⟨0, _, rfl, HFZ.out, rfl, HBZ.out⟩
        · have d3 : decide (r < 0) = false := decide_eq_false h3
          have d4 : decide (3 < r) = true := decide_eq_true (by omega)
          clear h'
          go_enter Tryd.func33, Tryd.ntmps33
          go_wp2_with fail
          clear hw0 hb0
          refine (new_F _ (0) (3) w0).mono ?_
          rintro e wz ⟨zv, rfl, hf, hb⟩
          obtain ⟨zn, zA1, zn1, zc1, zA2, zn2, zc2, rfl, hn⟩ := hf.now.form
          have HXC := Aside0.mk (((HBX.out)).below hb)
          obtain ⟨k0, k1, k2, z0, z1, z2⟩ := HXC.out.cells
          have HX2 := Aside0.mk (HXC.out.put (.int .i64 zn) (.slice zA1 zn1 zc1) (.slice zA2 zn2 zc2))
          have HFZ := Aside0.mk ((hf.put3 (b := b) ((HBX.out)).lt (.int .i64 zn) (.slice zA1 zn1 zc1) (.slice zA2 zn2 zc2)).lower (b' := w.heap.size) ((HB0.out)).size)
          have HBZ := Aside0.mk (below_put3 (below_step (HB0.out) hb) HLE.out (.int .i64 zn) (.slice zA1 zn1 zc1) (.slice zA2 zn2 zc2))
          clear hf hb hn
          go_wp2_with fail
          (try simp only [Exit.inBlock, Exit.then]); refine bodyPost_ret (res2 HX2.out rfl rfl) rfl ?_
          exact ⟨0, _, rfl, HFZ.out, rfl, HBZ.out⟩
end Go.Proofs.YtefhlonipglboaaDoor

/- The law RuleChecks returns true, whatever the rule and the numbers. -/
namespace Go.Proofs.YtefhlonipglboaaDoor
open Go.RowKit Go.Extern.Stop Go.Stop Go.Extern Go.Proofs.YtefhlonipglboaaDoorW.PrintWords Go.Proofs.YtefhlonipglboaaDoorW.PrintLast Go.Proofs.YtefhlonipglboaaDoorW.PrintMore
set_option linter.unusedVariables false
set_option linter.unusedSimpArgs false

set_option maxHeartbeats 8000000 in
set_option maxRecDepth 100000 in
theorem checks_calls (S : Nat → Addr) (k r : Int) (A : Option Addr) (c : Nat) (t : List Int) (kk rr : Int) (w : World) (hE : Env S w) (hr : Kd.C (Kd.int .i64) w A t.length t) (ht : t.length + 2 ≤ 17592186044416)
    (haw : ∀ W, Env S W → Calls Tryd.prog 31 #[] W fun e w' => e = .returned (.bool true) ∧ Below W.heap.size W w') :
    Calls Tryd.prog 6 #[.agg #[.int .i64 k, .int .i64 r, .slice A t.length c], .int .i64 kk, .int .i64 rr] w fun e w' => e = .returned (.bool true) ∧ Below w.heap.size w w' := by
  have hm := Kd.C_max hr
  have HE := Aside0.mk hE
  have HR := Aside0.mk hr
  have HT := Aside0.mk ht
  have HAW := Aside0.mk haw
  clear hE hr ht haw
  go_enter Tryd.func6, Tryd.ntmps6
  go_wp2_with fail
  refine (HAW.out _ ((HE.out).below (below_alloc (Below.refl _ _) _))).mono ?_
  rintro e w1 ⟨rfl, hb⟩
  have HB1 := Aside0.mk (below_step (below_alloc (Below.refl _ _) _) hb)
  have HRX := Aside0.mk ((BoxR.new _ _ _ _).below hb)
  clear hb
  obtain ⟨q0, q1, q2⟩ := BoxR.cells (HRX.out)
  go_wp2_with fail
  refine (lentR_calls k r A c t w1 (Kd.C_below (HR.out) (HB1.out)) HT.out).mono ?_
  rintro e w2 ⟨v, rfl, hv, hb⟩
  have HB2 := Aside0.mk (hb)
  clear hb
  obtain ⟨G, cv, e1, e2, e3, e4⟩ := hv
  subst e1
  have hv : LentIAt w2 w1.heap.size (.slice (some ⟨G, 0, none⟩) t.length cv) t := ⟨G, cv, rfl, e2, e3, e4⟩
  have HV := Aside0.mk hv
  clear hv e2 e3 e4
  obtain ⟨wx1, hwx⟩ : ∃ wx, (w2).alloc (.cells #[.int .i64 k, .int .i64 r, .slice (some ⟨G, 0, none⟩) t.length cv] tRule) = wx := ⟨_, rfl⟩
  obtain ⟨bx1, hbx⟩ : ∃ bx, (w2).heap.size = bx := ⟨_, rfl⟩
  have HBW1 := Aside0.mk (show Below (w2).heap.size w2 wx1 by rw [← hwx]; exact below_alloc (Below.refl _ _) _)
  have HBR1 := Aside0.mk (show BoxR wx1 bx1 k r (.slice (some ⟨G, 0, none⟩) t.length cv) by rw [← hwx, ← hbx]; exact BoxR.new _ _ _ _)
  go_wp2_with fail
  clear hwx hbx
  refine (size_calls S kk rr wx1 ((((HE.out).below (HB1.out)).below (HB2.out)).below (HBW1.out))).mono ?_
  rintro e w3 ⟨n, u, rfl, hu, hn, hb⟩
  have HB3 := Aside0.mk (hb)
  have HU := Aside0.mk hu
  clear hb hu
  have HN := Aside0.mk hn
  have hform := ErrV.form (HU.out)
  clear hn
  obtain ⟨o, ho⟩ : ∃ o : Fr, (if KR kk rr then none else some (3, [(ruleS, 0)])) = o := ⟨_, rfl⟩
  rw [ho] at HU
  have HO := Aside0.mk ho
  clear ho
  go_wp2_with fail
  refine (rsize_calls kk rr w3).mono ?_
  rintro e w4 ⟨n', u', rfl, hw, hn, hb⟩
  have HB4 := Aside0.mk (hb)
  clear hb
  rw [HO.out] at hw
  have hnn : n' = n := by rw [hn, HN.out]
  subst hnn
  obtain ⟨zn, zA1, zn1, zc1, zA2, zn2, zc2, rfl, hz⟩ := hw.now.form
  have HW := Aside0.mk hw
  clear hw hn hz
  obtain ⟨wx2, hwx⟩ : ∃ wx, (w4).alloc (.cells #[.int .i64 zn, .slice zA1 zn1 zc1, .slice zA2 zn2 zc2] tErr) = wx := ⟨_, rfl⟩
  obtain ⟨bx2, hbx⟩ : ∃ bx, (w4).heap.size = bx := ⟨_, rfl⟩
  have HBW2 := Aside0.mk (show Below (w4).heap.size w4 wx2 by rw [← hwx]; exact below_alloc (Below.refl _ _) _)
  have HBE2 := Aside0.mk (show Box3 wx2 bx2 (.int .i64 zn) (.slice zA1 zn1 zc1) (.slice zA2 zn2 zc2) by rw [← hwx, ← hbx]; exact Box3.new _ _ _ _)
  obtain ⟨e0, e1, e2, y0, y1, y2⟩ := HBE2.out.cells
  have hnn : (n' == n') = true := beq_self_eq_true n'
  have hlc : Kd.C (Kd.int .i64) wx2 (some ⟨G, 0, none⟩) t.length t := by obtain ⟨g', c', e1, e2, e3, e4⟩ := LentIAt.full (((((HV.out).below (HBW1.out)).below (HB3.out)).below (HB4.out)).below (HBW2.out)); injection e1 with e1 _ _; injection e1 with e1; injection e1 with e1 _; subst e1; exact e3
  have HLC := Aside0.mk hlc
  clear hlc
  go_wp2_with fail
  clear hwx hbx
  have HE := Aside0.mk (((((((HE.out).below (HB1.out)).below (HB2.out)).below (HBW1.out)).below (HB3.out)).below (HB4.out)).below (HBW2.out))
  have HR := Aside0.mk (Kd.C_below (Kd.C_below (Kd.C_below (Kd.C_below (Kd.C_below (Kd.C_below (HR.out) (HB1.out)) (HB2.out)) (HBW1.out)) (HB3.out)) (HB4.out)) (HBW2.out))
  have HLC := Aside0.mk (HLC.out)
  have HV := Aside0.mk (((((HV.out).below (HBW1.out)).below (HB3.out)).below (HB4.out)).below (HBW2.out))
  have HRX := Aside0.mk ((((((HRX.out).below (HB2.out)).below (HBW1.out)).below (HB3.out)).below (HB4.out)).below (HBW2.out))
  have HBR1 := Aside0.mk ((((HBR1.out).below (HB3.out)).below (HB4.out)).below (HBW2.out))
  have HBE2 := Aside0.mk (HBE2.out)
  have HU := Aside0.mk (((HU.out).below (HB4.out)).below (HBW2.out))
  have HW := Aside0.mk ((HW.out).below (HBW2.out))
  have HB := Aside0.mk (below_step (below_step (below_step (below_step (below_step (HB1.out) HB2.out) HBW1.out) HB3.out) HB4.out) HBW2.out)
  have hb := below_drew (Below.refl (wx2).heap.size wx2)
  (try have HE := Aside0.mk ((HE.out).below (hb))); (try have HR := Aside0.mk (Kd.C_below (HR.out) (hb))); (try have HLC := Aside0.mk (Kd.C_below (HLC.out) (hb))); (try have HV := Aside0.mk ((HV.out).below (hb))); (try have HRX := Aside0.mk ((HRX.out).below (hb))); (try have HBR1 := Aside0.mk ((HBR1.out).below (hb))); (try have HBE2 := Aside0.mk ((HBE2.out).below (hb))); (try have HU := Aside0.mk ((HU.out).below (hb))); (try have HW := Aside0.mk ((HW.out).below (hb))); (try have HV34 := Aside0.mk ((HV34.out).below (hb))); (try have HV35 := Aside0.mk ((HV35.out).below (hb))); (try have HV36 := Aside0.mk ((HV36.out).below (hb))); (try have HV37 := Aside0.mk ((HV37.out).below (hb))); have HB := Aside0.mk (below_step HB.out hb); clear hb
  rcases hform with rfl | ⟨ut, ux, rfl⟩
  all_goals
    go_region_held3 (fun w' => w'.cell? ⟨w.heap.size, 0, none⟩ = some (.int .i64 k) ∧ w'.cell? ⟨w.heap.size, 1, none⟩ = some (.int .i64 r) ∧ w'.cell? ⟨w.heap.size, 2, none⟩ = some (.slice A t.length c) ∧ w'.cell? ⟨bx1, 0, none⟩ = some (.int .i64 k) ∧ w'.cell? ⟨bx1, 1, none⟩ = some (.int .i64 r) ∧ w'.cell? ⟨bx1, 2, none⟩ = some (.slice (some ⟨G, 0, none⟩) t.length cv) ∧ w'.cell? ⟨bx2, 0, none⟩ = some (.int .i64 zn) ∧ w'.cell? ⟨bx2, 1, none⟩ = some (.slice zA1 zn1 zc1) ∧ w'.cell? ⟨bx2, 2, none⟩ = some (.slice zA2 zn2 zc2))
      (exact ⟨HRX.out.cells.1, HRX.out.cells.2.1, HRX.out.cells.2.2, HBR1.out.cells.1, HBR1.out.cells.2.1, HBR1.out.cells.2.2, HBE2.out.cells.1, HBE2.out.cells.2.1, HBE2.out.cells.2.2.1⟩)
      ((first | (go_at_call 34; (with_reducible refine (chkR_calls S k r (some ⟨G, 0, none⟩) cv t _ HE.out HLC.out).mono ?_); rintro e wz ⟨v34, rfl, hv, hb⟩; (try have HE := Aside0.mk ((HE.out).below (hb))); (try have HR := Aside0.mk (Kd.C_below (HR.out) (hb))); (try have HLC := Aside0.mk (Kd.C_below (HLC.out) (hb))); (try have HV := Aside0.mk ((HV.out).below (hb))); (try have HRX := Aside0.mk ((HRX.out).below (hb))); (try have HBR1 := Aside0.mk ((HBR1.out).below (hb))); (try have HBE2 := Aside0.mk ((HBE2.out).below (hb))); (try have HU := Aside0.mk ((HU.out).below (hb))); (try have HW := Aside0.mk ((HW.out).below (hb))); (try have HV34 := Aside0.mk ((HV34.out).below (hb))); (try have HV35 := Aside0.mk ((HV35.out).below (hb))); (try have HV36 := Aside0.mk ((HV36.out).below (hb))); (try have HV37 := Aside0.mk ((HV37.out).below (hb))); have HB := Aside0.mk (below_step HB.out hb); clear hb; have HV34 := Aside0.mk hv; clear hv) | (go_at_call 35; (with_reducible refine (rchkR_calls k r A c t _ HR.out).mono ?_); rintro e wz ⟨v35, rfl, hv, hb⟩; (try have HE := Aside0.mk ((HE.out).below (hb))); (try have HR := Aside0.mk (Kd.C_below (HR.out) (hb))); (try have HLC := Aside0.mk (Kd.C_below (HLC.out) (hb))); (try have HV := Aside0.mk ((HV.out).below (hb))); (try have HRX := Aside0.mk ((HRX.out).below (hb))); (try have HBR1 := Aside0.mk ((HBR1.out).below (hb))); (try have HBE2 := Aside0.mk ((HBE2.out).below (hb))); (try have HU := Aside0.mk ((HU.out).below (hb))); (try have HW := Aside0.mk ((HW.out).below (hb))); (try have HV34 := Aside0.mk ((HV34.out).below (hb))); (try have HV35 := Aside0.mk ((HV35.out).below (hb))); (try have HV36 := Aside0.mk ((HV36.out).below (hb))); (try have HV37 := Aside0.mk ((HV37.out).below (hb))); have HB := Aside0.mk (below_step HB.out hb); clear hb; have HV35 := Aside0.mk hv; clear hv) | (go_at_call 36; (with_reducible refine (smallR_calls S k r (some ⟨G, 0, none⟩) cv t _ HE.out HLC.out).mono ?_); rintro e wz ⟨v36, rfl, hv, hb⟩; (try have HE := Aside0.mk ((HE.out).below (hb))); (try have HR := Aside0.mk (Kd.C_below (HR.out) (hb))); (try have HLC := Aside0.mk (Kd.C_below (HLC.out) (hb))); (try have HV := Aside0.mk ((HV.out).below (hb))); (try have HRX := Aside0.mk ((HRX.out).below (hb))); (try have HBR1 := Aside0.mk ((HBR1.out).below (hb))); (try have HBE2 := Aside0.mk ((HBE2.out).below (hb))); (try have HU := Aside0.mk ((HU.out).below (hb))); (try have HW := Aside0.mk ((HW.out).below (hb))); (try have HV34 := Aside0.mk ((HV34.out).below (hb))); (try have HV35 := Aside0.mk ((HV35.out).below (hb))); (try have HV36 := Aside0.mk ((HV36.out).below (hb))); (try have HV37 := Aside0.mk ((HV37.out).below (hb))); have HB := Aside0.mk (below_step HB.out hb); clear hb; have HV36 := Aside0.mk hv; clear hv) | (go_at_call 37; (with_reducible refine (rsmallR_calls k r A c t _ HR.out).mono ?_); rintro e wz ⟨v37, rfl, hv, hb⟩; (try have HE := Aside0.mk ((HE.out).below (hb))); (try have HR := Aside0.mk (Kd.C_below (HR.out) (hb))); (try have HLC := Aside0.mk (Kd.C_below (HLC.out) (hb))); (try have HV := Aside0.mk ((HV.out).below (hb))); (try have HRX := Aside0.mk ((HRX.out).below (hb))); (try have HBR1 := Aside0.mk ((HBR1.out).below (hb))); (try have HBE2 := Aside0.mk ((HBE2.out).below (hb))); (try have HU := Aside0.mk ((HU.out).below (hb))); (try have HW := Aside0.mk ((HW.out).below (hb))); (try have HV34 := Aside0.mk ((HV34.out).below (hb))); (try have HV35 := Aside0.mk ((HV35.out).below (hb))); (try have HV36 := Aside0.mk ((HV36.out).below (hb))); (try have HV37 := Aside0.mk ((HV37.out).below (hb))); have HB := Aside0.mk (below_step HB.out hb); clear hb; have HV37 := Aside0.mk hv; clear hv) | (go_at_call 19; (with_reducible refine (keptR_true k r _ A _ c t _ HV.out HR.out HT.out).mono ?_); rintro e wz ⟨rfl, hb⟩; (try have HE := Aside0.mk ((HE.out).below (hb))); (try have HR := Aside0.mk (Kd.C_below (HR.out) (hb))); (try have HLC := Aside0.mk (Kd.C_below (HLC.out) (hb))); (try have HV := Aside0.mk ((HV.out).below (hb))); (try have HRX := Aside0.mk ((HRX.out).below (hb))); (try have HBR1 := Aside0.mk ((HBR1.out).below (hb))); (try have HBE2 := Aside0.mk ((HBE2.out).below (hb))); (try have HU := Aside0.mk ((HU.out).below (hb))); (try have HW := Aside0.mk ((HW.out).below (hb))); (try have HV34 := Aside0.mk ((HV34.out).below (hb))); (try have HV35 := Aside0.mk ((HV35.out).below (hb))); (try have HV36 := Aside0.mk ((HV36.out).below (hb))); (try have HV37 := Aside0.mk ((HV37.out).below (hb))); have HB := Aside0.mk (below_step HB.out hb); clear hb) | (go_at_call 18; (first | (with_reducible refine (both_is S (smallR k r t) v36 v37 _ HE.out HV36.out HV37.out.now).mono ?_) | (with_reducible refine (both_is S (chkR k r t) v34 v35 _ HE.out HV34.out HV35.out.now).mono ?_) | (with_reducible refine (both_is S o _ _ _ HE.out HU.out HW.out.now).mono ?_)); rintro e wz ⟨rfl, hb⟩; (try have HE := Aside0.mk ((HE.out).below (hb))); (try have HR := Aside0.mk (Kd.C_below (HR.out) (hb))); (try have HLC := Aside0.mk (Kd.C_below (HLC.out) (hb))); (try have HV := Aside0.mk ((HV.out).below (hb))); (try have HRX := Aside0.mk ((HRX.out).below (hb))); (try have HBR1 := Aside0.mk ((HBR1.out).below (hb))); (try have HBE2 := Aside0.mk ((HBE2.out).below (hb))); (try have HU := Aside0.mk ((HU.out).below (hb))); (try have HW := Aside0.mk ((HW.out).below (hb))); (try have HV34 := Aside0.mk ((HV34.out).below (hb))); (try have HV35 := Aside0.mk ((HV35.out).below (hb))); (try have HV36 := Aside0.mk ((HV36.out).below (hb))); (try have HV37 := Aside0.mk ((HV37.out).below (hb))); have HB := Aside0.mk (below_step HB.out hb); clear hb)))
    go_wp2_with fail
    go_ret
    exact ⟨rfl, HB.out⟩
end Go.Proofs.YtefhlonipglboaaDoor

/- rule.head: the first of the four bytes ahead of the number that isn't what it must be. -/
namespace Go.Proofs.YtefhlonipglboaaDoor
open Go.RowKit Go.Extern.Stop Go.Stop Go.Extern Go.Proofs.YtefhlonipglboaaDoorW.PrintWords Go.Proofs.YtefhlonipglboaaDoorW.PrintLast Go.Proofs.YtefhlonipglboaaDoorW.PrintMore
set_option linter.unusedVariables false
set_option linter.unusedSimpArgs false

/-- byte i of s lies between two bounds -/
def rngB (s : ByteArray) (i : Nat) (lo hi : Int) : Bool := decide (i < s.size) && decide (lo ≤ bt s (i : Int)) && decide (bt s (i : Int) ≤ hi)
/-- byte j is what it must be -/
def inB (s : ByteArray) : Nat → Bool
  | 0 => rngB s 0 49 52
  | 1 => rngB s 1 46 46
  | 2 => rngB s 2 48 51
  | _ => rngB s 3 46 46
def headV (s : ByteArray) : Int := if inB s 0 = false then 0 else if inB s 1 = false then 1 else if inB s 2 = false then 2 else if inB s 3 = false then 3 else 4
theorem headV_at {s : ByteArray} {i : Nat} (hi : i < 4) (h : inB s i = false) (hb : ∀ j, j < i → inB s j = true) : headV s = i := by
  have h1 : i = 0 ∨ i = 1 ∨ i = 2 ∨ i = 3 := by omega
  unfold headV
  rcases h1 with rfl | rfl | rfl | rfl
  · rw [if_pos h]; rfl
  · rw [if_neg (by rw [hb 0 (by omega)]; simp), if_pos h]; rfl
  · rw [if_neg (by rw [hb 0 (by omega)]; simp), if_neg (by rw [hb 1 (by omega)]; simp), if_pos h]; rfl
  · rw [if_neg (by rw [hb 0 (by omega)]; simp), if_neg (by rw [hb 1 (by omega)]; simp), if_neg (by rw [hb 2 (by omega)]; simp), if_pos h]; rfl
theorem headV_all {s : ByteArray} (hb : ∀ j, j < 4 → inB s j = true) : headV s = 4 := by
  unfold headV
  rw [if_neg (by rw [hb 0 (by omega)]; simp), if_neg (by rw [hb 1 (by omega)]; simp), if_neg (by rw [hb 2 (by omega)]; simp), if_neg (by rw [hb 3 (by omega)]; simp)]

set_option maxHeartbeats 2000000 in
set_option maxRecDepth 100000 in
theorem at_calls (s : ByteArray) (i : Nat) (lo hi : Int) (b : Nat) (w : World) (hc : w.cell? ⟨b, 0, none⟩ = some (.string s)) (hi4 : i < 4) :
    Calls Tryd.prog 167 #[.int .i64 i, .int .u8 lo, .int .u8 hi, .pointer (some ⟨b, 0, none⟩)] w fun e w' => e = .returned (.bool (rngB s i lo hi)) ∧ w = w' := by
  by_cases h1 : i < s.size
  · have hb := bt_range s (i : Int)
    have hbt := bt_at s (i : Int) (by simpa using h1)
    simp only [Int.toNat_natCast] at hbt
    obtain ⟨x, hx⟩ : ∃ x, bt s (i : Int) = x := ⟨_, rfl⟩
    rw [hx] at hb hbt
    have d1 : decide ((i : Int) < s.size) = true := decide_eq_true (by omega)
    have d1' : decide (i < s.size) = true := decide_eq_true h1
    by_cases h2 : lo ≤ x
    · have d2 : decide (lo ≤ x) = true := decide_eq_true h2
      by_cases h3 : x ≤ hi
      · have d3 : decide (x ≤ hi) = true := decide_eq_true h3
        have HQ : Aside0 (rngB s i lo hi = true) := ⟨by unfold rngB; rw [hx]; simp [h1, h2, h3]⟩
        clear hx
        go_enter Tryd.func167, Tryd.ntmps167
        go_wp2_with fail
        go_ret
        exact ⟨by rw [HQ.out]; first | done | rfl, rfl⟩
      · have d3 : decide (x ≤ hi) = false := decide_eq_false h3
        have HQ : Aside0 (rngB s i lo hi = false) := ⟨by unfold rngB; rw [hx]; simp [h1, h2, h3]⟩
        clear hx
        go_enter Tryd.func167, Tryd.ntmps167
        go_wp2_with fail
        go_ret
        exact ⟨by rw [HQ.out]; first | done | rfl, rfl⟩
    · have d2 : decide (lo ≤ x) = false := decide_eq_false h2
      have HQ : Aside0 (rngB s i lo hi = false) := ⟨by unfold rngB; rw [hx]; simp [h1, h2]⟩
      clear hx
      go_enter Tryd.func167, Tryd.ntmps167
      go_wp2_with fail
      go_ret
      exact ⟨by rw [HQ.out]; first | done | rfl, rfl⟩
  · have d1 : decide ((i : Int) < s.size) = false := decide_eq_false (by omega)
    have d1' : decide (i < s.size) = false := decide_eq_false h1
    have HQ : Aside0 (rngB s i lo hi = false) := ⟨by unfold rngB; simp [h1]⟩
    go_enter Tryd.func167, Tryd.ntmps167
    go_wp2_with fail
    go_ret
    exact ⟨by rw [HQ.out]; first | done | rfl, rfl⟩
set_option maxHeartbeats 4000000 in
set_option maxRecDepth 100000 in
theorem head_calls (s : ByteArray) (w : World) :
    Calls Tryd.prog 139 #[.string s] w fun e w' => e = .returned (.int .i64 (headV s)) ∧ Below w.heap.size w w' := by
  obtain ⟨w0, hw0⟩ : ∃ w0, w.alloc (.cells #[.string s] 9) = w0 := ⟨_, rfl⟩
  obtain ⟨b, hb0⟩ : ∃ b, w.heap.size = b := ⟨_, rfl⟩
  have HB0 := Aside0.mk (show Below w.heap.size w w0 by rw [← hw0]; exact below_alloc (Below.refl _ _) _)
  have hc : w0.cell? ⟨b, 0, none⟩ = some (.string s) := by rw [← hw0, ← hb0]; simp
  have HC := Aside0.mk hc
  clear hc
  go_enter Tryd.func139, Tryd.ntmps139
  go_wp2_with fail
  clear hw0 hb0
  go_loopg [6] 4 (fun kq v6 w' => ∃ i : Nat, v6 = .int .i64 i ∧ i + kq = 4 ∧ Aside0 (∀ j, j < i → inB s j = true) ∧ w0 = w')
  case atStart => exact ⟨0, rfl, rfl, ⟨fun j h => by omega⟩, rfl⟩
  case round =>
    obtain ⟨i, rfl, hk, HA, rfl⟩ := hrel
    have h1 : i = 0 ∨ i = 1 ∨ i = 2 ∨ i = 3 ∨ i = 4 := by omega
    rcases h1 with rfl | rfl | rfl | rfl | rfl
    · have hcl := at_calls s 0 49 52 b w0 HC.out (by decide)
      have hcl' : Calls Tryd.prog 167 #[.int .i64 (0 : Int), .int .u8 49, .int .u8 52, .pointer (some ⟨b, 0, none⟩)] w0 fun e w' => e = .returned (.bool (inB s 0)) ∧ w0 = w' := hcl
      clear hcl
      cases hq : inB s 0 with
      | true =>
        rw [hq] at hcl'
        have HCL := Aside0.mk hcl'
        have HQ := Aside0.mk hq
        obtain rfl : gk = 4 := by omega
        clear hcl' hq hk
        go_wp2_with fail
        refine HCL.out.mono ?_
        rintro e w1 ⟨rfl, rfl⟩
        go_wp2_with fail
        go_roundg 3
        case measure => omega
        case rel => exact ⟨1, by go_num, by omega, ⟨fun j hj => by
          by_cases e : j = 0
          · subst e; exact HQ.out
          · exact HA.out j (by omega)⟩, rfl⟩
      | false =>
        rw [hq] at hcl'
        have HCL := Aside0.mk hcl'
        have HV := Aside0.mk (headV_at (s := s) (i := 0) (by decide) hq HA.out)
        clear hcl' hq hk
        go_wp2_with fail
        refine HCL.out.mono ?_
        rintro e w1 ⟨rfl, rfl⟩
        go_wp2_with fail
        go_ret
        exact ⟨by rw [HV.out]; first | done | rfl, HB0.out⟩
    · have hcl := at_calls s 1 46 46 b w0 HC.out (by decide)
      have hcl' : Calls Tryd.prog 167 #[.int .i64 (1 : Int), .int .u8 46, .int .u8 46, .pointer (some ⟨b, 0, none⟩)] w0 fun e w' => e = .returned (.bool (inB s 1)) ∧ w0 = w' := hcl
      clear hcl
      cases hq : inB s 1 with
      | true =>
        rw [hq] at hcl'
        have HCL := Aside0.mk hcl'
        have HQ := Aside0.mk hq
        obtain rfl : gk = 3 := by omega
        clear hcl' hq hk
        go_wp2_with fail
        refine HCL.out.mono ?_
        rintro e w1 ⟨rfl, rfl⟩
        go_wp2_with fail
        go_roundg 2
        case measure => omega
        case rel => exact ⟨2, by go_num, by omega, ⟨fun j hj => by
          by_cases e : j = 1
          · subst e; exact HQ.out
          · exact HA.out j (by omega)⟩, rfl⟩
      | false =>
        rw [hq] at hcl'
        have HCL := Aside0.mk hcl'
        have HV := Aside0.mk (headV_at (s := s) (i := 1) (by decide) hq HA.out)
        clear hcl' hq hk
        go_wp2_with fail
        refine HCL.out.mono ?_
        rintro e w1 ⟨rfl, rfl⟩
        go_wp2_with fail
        go_ret
        exact ⟨by rw [HV.out]; first | done | rfl, HB0.out⟩
    · have hcl := at_calls s 2 48 51 b w0 HC.out (by decide)
      have hcl' : Calls Tryd.prog 167 #[.int .i64 (2 : Int), .int .u8 48, .int .u8 51, .pointer (some ⟨b, 0, none⟩)] w0 fun e w' => e = .returned (.bool (inB s 2)) ∧ w0 = w' := hcl
      clear hcl
      cases hq : inB s 2 with
      | true =>
        rw [hq] at hcl'
        have HCL := Aside0.mk hcl'
        have HQ := Aside0.mk hq
        obtain rfl : gk = 2 := by omega
        clear hcl' hq hk
        go_wp2_with fail
        refine HCL.out.mono ?_
        rintro e w1 ⟨rfl, rfl⟩
        go_wp2_with fail
        go_roundg 1
        case measure => omega
        case rel => exact ⟨3, by go_num, by omega, ⟨fun j hj => by
          by_cases e : j = 2
          · subst e; exact HQ.out
          · exact HA.out j (by omega)⟩, rfl⟩
      | false =>
        rw [hq] at hcl'
        have HCL := Aside0.mk hcl'
        have HV := Aside0.mk (headV_at (s := s) (i := 2) (by decide) hq HA.out)
        clear hcl' hq hk
        go_wp2_with fail
        refine HCL.out.mono ?_
        rintro e w1 ⟨rfl, rfl⟩
        go_wp2_with fail
        go_ret
        exact ⟨by rw [HV.out]; first | done | rfl, HB0.out⟩
    · have hcl := at_calls s 3 46 46 b w0 HC.out (by decide)
      have hcl' : Calls Tryd.prog 167 #[.int .i64 (3 : Int), .int .u8 46, .int .u8 46, .pointer (some ⟨b, 0, none⟩)] w0 fun e w' => e = .returned (.bool (inB s 3)) ∧ w0 = w' := hcl
      clear hcl
      cases hq : inB s 3 with
      | true =>
        rw [hq] at hcl'
        have HCL := Aside0.mk hcl'
        have HQ := Aside0.mk hq
        obtain rfl : gk = 1 := by omega
        clear hcl' hq hk
        go_wp2_with fail
        refine HCL.out.mono ?_
        rintro e w1 ⟨rfl, rfl⟩
        go_wp2_with fail
        go_roundg 0
        case measure => omega
        case rel => exact ⟨4, by go_num, by omega, ⟨fun j hj => by
          by_cases e : j = 3
          · subst e; exact HQ.out
          · exact HA.out j (by omega)⟩, rfl⟩
      | false =>
        rw [hq] at hcl'
        have HCL := Aside0.mk hcl'
        have HV := Aside0.mk (headV_at (s := s) (i := 3) (by decide) hq HA.out)
        clear hcl' hq hk
        go_wp2_with fail
        refine HCL.out.mono ?_
        rintro e w1 ⟨rfl, rfl⟩
        go_wp2_with fail
        go_ret
        exact ⟨by rw [HV.out]; first | done | rfl, HB0.out⟩
    · have HV := Aside0.mk (headV_all (s := s) HA.out)
      clear hk
      go_wp2_with fail
      go_ret
      exact ⟨by rw [HV.out]; first | done | rfl, HB0.out⟩
end Go.Proofs.YtefhlonipglboaaDoor

/- What nat.Add computes: the sum of two numbers, normal. -/
namespace Go.Proofs.YtefhlonipglboaaDoor
open Go.RowKit Go.Proofs.YtefhlonipglboaaDoorW.PrintWords Go.Proofs.YtefhlonipglboaaDoorW.PrintLast Go.Proofs.YtefhlonipglboaaDoorW.PrintMore
set_option linter.unusedVariables false
set_option linter.unusedSimpArgs false

/-- after i rounds: the digits so far, and the carry -/
def AddInv (l0 l1 : List Int) (i : Nat) (c : Int) (s : List Int) : Prop :=
  i ≤ l0.length ∧ s.length = i ∧ Limbs s ∧ 0 ≤ c ∧ c ≤ 1 ∧ val s + 4294967296 ^ i * c = val (l0.take i) + val (l1.take i)
def limb (l : List Int) (i : Nat) : Int := if i < l.length then rd l (i : Int) else 0
theorem rd_nat (l : List Int) (i : Nat) : rd l (i : Int) = l.getD i 0 := by simp [rd]
theorem limb_eq (l : List Int) (i : Nat) : limb l i = l.getD i 0 := by
  unfold limb
  split
  · exact rd_nat l i
  · rename_i h
    rw [List.getD_eq_getElem?_getD, List.getElem?_eq_none (by omega)]; rfl
theorem val_take_limb (l : List Int) (i : Nat) : val (l.take (i + 1)) = val (l.take i) + 4294967296 ^ i * limb l i := by
  by_cases h : i < l.length
  · rw [val_take_succ l i h, limb_eq]
  · rw [List.take_of_length_le (by omega), List.take_of_length_le (by omega)]
    simp [limb, h]
theorem AddInv.step {l0 l1 : List Int} {i : Nat} {c : Int} {s : List Int} (h : AddInv l0 l1 i c s) (hi : i < l0.length) (h0 : Limbs l0) (h1 : Limbs l1) :
    AddInv l0 l1 (i + 1) ((limb l0 i + limb l1 i + c) / 4294967296) (s ++ [(limb l0 i + limb l1 i + c) % 4294967296]) := by
  obtain ⟨a1, a2, a3, a4, a5, a6⟩ := h
  have b0 := h0.getD i
  have b1 := h1.getD i
  rw [← limb_eq] at b0 b1
  refine ⟨by omega, by simp [a2], a3.append (Limbs.cons ⟨by omega, by omega⟩ Limbs.nil), by omega, by omega, ?_⟩
  rw [val_snoc, a2, val_take_limb, val_take_limb, Int.pow_succ]
  have e : limb l0 i + limb l1 i + c = (limb l0 i + limb l1 i + c) % 4294967296 + 4294967296 * ((limb l0 i + limb l1 i + c) / 4294967296) := by omega
  generalize (limb l0 i + limb l1 i + c) / 4294967296 = q at *
  generalize (limb l0 i + limb l1 i + c) % 4294967296 = m at *
  generalize (4294967296 : Int) ^ i = p at *
  grind
theorem AddInv.done {l0 l1 : List Int} {c : Int} {s : List Int} (h : AddInv l0 l1 l0.length c s) (hge : l1.length ≤ l0.length) : val (s ++ [c]) = val l0 + val l1 ∧ Limbs (s ++ [c]) := by
  obtain ⟨a1, a2, a3, a4, a5, a6⟩ := h
  rw [List.take_length, List.take_of_length_le hge] at a6
  exact ⟨by rw [val_snoc, a2, a6], a3.append (Limbs.cons ⟨a4, by omega⟩ Limbs.nil)⟩
theorem set_zeros (s : List Int) (n : Nat) (x : Int) (i : Nat) (hi : s.length = i) (hn : 0 < n) : (s ++ List.replicate n 0).set i x = (s ++ [x]) ++ List.replicate (n - 1) 0 := by
  obtain ⟨m, rfl⟩ : ∃ m, n = m + 1 := ⟨n - 1, by omega⟩
  rw [List.set_append_right _ _ (by omega), List.replicate_succ, hi]
  simp

set_option maxHeartbeats 8000000 in
set_option maxRecDepth 100000 in
theorem add_ge (A0 A1 : Option Addr) (c0 c1 : Nat) (l0 l1 : List Int) (w : World) (hr0 : Kd.C (Kd.int .u32) w A0 l0.length l0) (hc0 : l0.length ≤ c0) (hr1 : Kd.C (Kd.int .u32) w A1 l1.length l1) (hc1 : l1.length ≤ c1)
    (hL0 : Limbs l0) (hL1 : Limbs l1) (hm : l0.length + 1 ≤ 70368744177664) (hge : l1.length ≤ l0.length) :
    Calls Tryd.prog 89 #[.slice A0 l0.length c0, .slice A1 l1.length c1] w (NatRes w (val l0 + val l1)) := by
  have HR0 := Aside0.mk hr0
  have HC0 := Aside0.mk hc0
  have HR1 := Aside0.mk hr1
  have HC1 := Aside0.mk hc1
  have HL0 := Aside0.mk hL0
  have HL1 := Aside0.mk hL1
  have HM := Aside0.mk hm
  have hd : decide (l0.length < l1.length) = false := decide_eq_false (by omega)
  obtain ⟨n1, hn1⟩ : ∃ n1 : Int, IntKind.i64.wrap ((l0.length : Int) + 1) = n1 := ⟨_, rfl⟩
  have hn1' : n1 = (l0.length : Int) + 1 := by rw [← hn1]; exact IntWalk.i64_in _ (by omega)
  have HN1 := Aside0.mk hn1'
  have p0 : 0 ≤ n1 := by omega
  have P0 := Aside0.mk p0
  have HB := Aside0.mk (Below.refl w.heap.size w)
  clear hr0 hc0 hr1 hc1 hL0 hL1 hm hn1' p0
  go_enter Tryd.func89, Tryd.ntmps89
  go_wp2_with (first | ((with_reducible refine gate_dst (N := 20) rfl ?_); refine Kd.R_make (Kd.int .u32) _ 152 rfl (N := 20) rfl 78 _ _ rfl n1 rfl rfl Tryd.underlying78 (.int .u32 0) 4 info_u32 rfl (by decide) (by omega) 0 (ok := fun _ => True) (okp := fun _ => True) rfl (fun _ hk => hk) trivial P0.out (by have := HM.out; have := HN1.out; omega) HB.out (Nat.le_refl _) ?_; intro vo w1 ho hb hg_ hnew_; clear hg_ hnew_ HB; have HB := Aside0.mk hb; have HO := Aside0.mk ho; clear hb ho))
  obtain ⟨n2, hn2⟩ : ∃ n2 : Nat, n2 = n1.toNat := ⟨_, rfl⟩
  have hn2' : n2 = l0.length + 1 := by have := HN1.out; omega
  rw [← hn2] at HO
  clear hn2
  subst hn2'
  clear hd
  obtain ⟨g, co, eo, gb, gl, cl, HG⟩ := Kd.R_form HO.out (by simp)
  rw [List.length_replicate] at eo
  subst eo
  have GB := Aside0.mk gb
  clear gb gl cl HG hn1
  go_loopg [6, 23] (l0.length + 1) (fun kq v6 v23 w' => ∃ (i : Nat) (c : Int) (s : List Int), v6 = .int .u32 c ∧ v23 = .int .i64 i ∧ Aside0 (AddInv l0 l1 i c s) ∧ Aside0 (kq + i = l0.length + 1) ∧ Aside0 (Kd.R (Kd.int .u32) 152 w' w.heap.size (fun _ => True) (.slice (some ⟨g, 0, none⟩) (l0.length + 1) co) (s ++ List.replicate (l0.length + 1 - i) 0)) ∧ Aside0 (Below w.heap.size w w'))
  case atStart => exact ⟨0, 0, [], rfl, rfl, ⟨⟨Nat.zero_le _, rfl, Limbs.nil, by decide, by decide, by simp [val]⟩⟩, ⟨rfl⟩, ⟨by simpa using HO.out⟩, HB⟩
  case round =>
    clear HO HB
    obtain ⟨i, c, s, rfl, rfl, HA, HK, HO, HB⟩ := hrel
    by_cases hlt : i < l0.length
    · obtain ⟨k1, rfl⟩ : ∃ k1, gk = k1 + 1 := ⟨gk - 1, by have := HK.out; omega⟩
      obtain ⟨ad0, e0, hx0⟩ := Kd.at_int HR0.out (i : Int) (by omega) (by omega)
      cases e0
      replace hx0 := (HB.out.cell (World.block_lt_of_cell? w _ hx0)).trans hx0
      simp only [Int.toNat_natCast] at hx0
      have hib : i < 9223372036854775807 := by have := HM.out; omega
      have BX := Aside0.mk (HL0.out.getD i)
      have BY := Aside0.mk (HL1.out.getD i)
      have BC : Aside0 (0 ≤ c ∧ c ≤ 1) := ⟨⟨HA.out.2.2.2.1, HA.out.2.2.2.2.1⟩⟩
      have HS := Aside0.mk (HA.out.step hlt HL0.out HL1.out)
      have hrep := set_zeros s (l0.length + 1 - i) ((limb l0 i + limb l1 i + c) % 4294967296) i HA.out.2.1 (by omega)
      have HX : Aside0 (limb l0 i = rd l0 (i : Int)) := ⟨by rw [limb, if_pos hlt]⟩
      by_cases hl1 : i < l1.length
      · obtain ⟨ad1, e1, hx1⟩ := Kd.at_int HR1.out (i : Int) (by omega) (by omega)
        cases e1
        replace hx1 := (HB.out.cell (World.block_lt_of_cell? w _ hx1)).trans hx1
        simp only [Int.toNat_natCast] at hx1
        have hl1b : decide (i < l1.length) = true := decide_eq_true hl1
        have HY : Aside0 (limb l1 i = rd l1 (i : Int)) := ⟨by rw [limb, if_pos hl1]⟩
        have HE : Aside0 ((limb l0 i + limb l1 i + c) % 4294967296 = ((rd l0 (i : Int) + rd l1 (i : Int) + c) % 4294967296)) := ⟨by rw [HX.out, HY.out]⟩
        have HPP : Aside0 (Kd.R (Kd.int .u32) 152 (wr.setCell ⟨g, i, none⟩ (.int .u32 ((rd l0 (i : Int) + rd l1 (i : Int) + c) % 4294967296))) w.heap.size (fun _ => True) (.slice (some ⟨g, 0, none⟩) (l0.length + 1) co) ((s ++ [(limb l0 i + limb l1 i + c) % 4294967296]) ++ List.replicate (l0.length + 1 - i - 1) 0)) :=
          ⟨by have h := (Kd.R_putg HO.out (i : Int) ((limb l0 i + limb l1 i + c) % 4294967296)).1; rw [Int.toNat_natCast, hrep] at h; rw [← HE.out]; exact h⟩
        obtain ⟨hc, hf⟩ := Kd.R_celln 0 HO.out (i : Int) (by omega) (by omega)
        rw [Int.toNat_natCast] at hc hf
        have HBS := Aside0.mk (fun v => below_set (g := g) (j := i) HB.out GB.out (v := v))
        clear hrep
        go_wp2_with (go_at_call 150; refine (add32_calls _ _ _ _ (by have := BX.out; rw [rd_nat]; omega) (by have := BX.out; rw [rd_nat]; omega) (by have := BY.out; rw [rd_nat]; omega) (by have := BY.out; rw [rd_nat]; omega) BC.out.1 BC.out.2).mono ?_; rintro e w' ⟨rfl, rfl⟩)
        go_roundg k1
        case measure => omega
        case rel => exact ⟨i + 1, _, _, by rw [HX.out, HY.out], by go_num, HS, ⟨by have := HK.out; omega⟩, ⟨by rw [show l0.length + 1 - (i + 1) = l0.length + 1 - i - 1 by omega]; exact HPP.out⟩, ⟨HBS.out _⟩⟩
      · have hl1b : decide (i < l1.length) = false := decide_eq_false hl1
        have HY : Aside0 (limb l1 i = 0) := ⟨by rw [limb, if_neg hl1]⟩
        have HE : Aside0 ((limb l0 i + limb l1 i + c) % 4294967296 = ((rd l0 (i : Int) + c) % 4294967296)) := ⟨by rw [HX.out, HY.out, Int.add_zero]⟩
        have HPP : Aside0 (Kd.R (Kd.int .u32) 152 (wr.setCell ⟨g, i, none⟩ (.int .u32 ((rd l0 (i : Int) + c) % 4294967296))) w.heap.size (fun _ => True) (.slice (some ⟨g, 0, none⟩) (l0.length + 1) co) ((s ++ [(limb l0 i + limb l1 i + c) % 4294967296]) ++ List.replicate (l0.length + 1 - i - 1) 0)) :=
          ⟨by have h := (Kd.R_putg HO.out (i : Int) ((limb l0 i + limb l1 i + c) % 4294967296)).1; rw [Int.toNat_natCast, hrep] at h; rw [← HE.out]; exact h⟩
        obtain ⟨hc, hf⟩ := Kd.R_celln 0 HO.out (i : Int) (by omega) (by omega)
        rw [Int.toNat_natCast] at hc hf
        have HBS := Aside0.mk (fun v => below_set (g := g) (j := i) HB.out GB.out (v := v))
        clear hrep
        go_wp2_with (go_at_call 150; refine (add32_calls _ _ _ _ (by have := BX.out; rw [rd_nat]; omega) (by have := BX.out; rw [rd_nat]; omega) (by have := BY.out; omega) (by have := BY.out; omega) BC.out.1 BC.out.2).mono ?_; rintro e w' ⟨rfl, rfl⟩)
        go_roundg k1
        case measure => omega
        case rel => exact ⟨i + 1, _, _, by rw [HX.out, HY.out, Int.add_zero], by go_num, HS, ⟨by have := HK.out; omega⟩, ⟨by rw [show l0.length + 1 - (i + 1) = l0.length + 1 - i - 1 by omega]; exact HPP.out⟩, ⟨HBS.out _⟩⟩
    · obtain rfl : i = l0.length := by have := HA.out.1; omega
      have hib : l0.length < 9223372036854775807 := by have := HM.out; omega
      have hrep := set_zeros s (l0.length + 1 - l0.length) c l0.length HA.out.2.1 (by omega)
      have hz : l0.length + 1 - l0.length - 1 = 0 := by omega
      rw [hz, List.replicate_zero, List.append_nil] at hrep
      have hd2 := HA.out.done hge
      have hl2 : (s ++ [c]).length = l0.length + 1 := by rw [List.length_append, HA.out.2.1]; rfl
      have HPP : Aside0 (Kd.R (Kd.int .u32) 152 (wr.setCell ⟨g, l0.length, none⟩ (.int .u32 c)) w.heap.size (fun _ => True) (.slice (some ⟨g, 0, none⟩) (l0.length + 1) co) (s ++ [c])) :=
        ⟨by have h := (Kd.R_putg HO.out (l0.length : Int) c).1; rw [Int.toNat_natCast, hrep] at h; exact h⟩
      obtain ⟨hc, hf⟩ := Kd.R_celln 0 HO.out (l0.length : Int) (by omega) (by omega)
      rw [Int.toNat_natCast] at hc hf
      have HBS := Aside0.mk (below_set (g := g) (j := l0.length) HB.out GB.out (v := .int .u32 c))
      have HD2 := Aside0.mk hd2
      obtain ⟨t, ht⟩ : ∃ t, t = s ++ [c] := ⟨_, rfl⟩
      rw [← ht] at HPP HD2 hl2
      have HRR := Aside0.mk (Kd.R_reads' HPP.out)
      have HL2 := Aside0.mk hl2
      clear hrep hz hd2 ht hl2 hge
      go_wp2_with (go_at_call 101; (refine calls_of_args ?_ ((norm_calls (some ⟨g, 0, none⟩) co t _ HRR.out.2.2 (by have := HRR.out; omega)).mono ?_)); (case refine_1 => rw [HL2.out]); rintro e w' ⟨rfl, rfl⟩)
      go_ret
      exact ⟨_, trim t, rfl, (FrN.of_R HPP.out GB.out).trimmed, trim_nrm HD2.out.2, by rw [trim_val]; exact HD2.out.1, HBS.out⟩

set_option maxHeartbeats 8000000 in
set_option maxRecDepth 100000 in
theorem add_lt (A0 A1 : Option Addr) (c0 c1 : Nat) (l0 l1 : List Int) (w : World) (hr0 : Kd.C (Kd.int .u32) w A0 l0.length l0) (hc0 : l0.length ≤ c0) (hr1 : Kd.C (Kd.int .u32) w A1 l1.length l1) (hc1 : l1.length ≤ c1)
    (hL0 : Limbs l0) (hL1 : Limbs l1) (hm : l0.length + 1 ≤ 70368744177664) (hge' : l1.length < l0.length) :
    Calls Tryd.prog 89 #[.slice A1 l1.length c1, .slice A0 l0.length c0] w (NatRes w (val l0 + val l1)) := by
  have HR0 := Aside0.mk hr0
  have HC0 := Aside0.mk hc0
  have HR1 := Aside0.mk hr1
  have HC1 := Aside0.mk hc1
  have HL0 := Aside0.mk hL0
  have HL1 := Aside0.mk hL1
  have HM := Aside0.mk hm
  have hge : l1.length ≤ l0.length := by omega
  have hd : decide (l1.length < l0.length) = true := decide_eq_true hge'
  clear hge'
  obtain ⟨n1, hn1⟩ : ∃ n1 : Int, IntKind.i64.wrap ((l0.length : Int) + 1) = n1 := ⟨_, rfl⟩
  have hn1' : n1 = (l0.length : Int) + 1 := by rw [← hn1]; exact IntWalk.i64_in _ (by omega)
  have HN1 := Aside0.mk hn1'
  have p0 : 0 ≤ n1 := by omega
  have P0 := Aside0.mk p0
  have HB := Aside0.mk (Below.refl w.heap.size w)
  clear hr0 hc0 hr1 hc1 hL0 hL1 hm hn1' p0
  go_enter Tryd.func89, Tryd.ntmps89
  go_wp2_with (first | ((with_reducible refine gate_dst (N := 20) rfl ?_); refine Kd.R_make (Kd.int .u32) _ 152 rfl (N := 20) rfl 78 _ _ rfl n1 rfl rfl Tryd.underlying78 (.int .u32 0) 4 info_u32 rfl (by decide) (by omega) 0 (ok := fun _ => True) (okp := fun _ => True) rfl (fun _ hk => hk) trivial P0.out (by have := HM.out; have := HN1.out; omega) HB.out (Nat.le_refl _) ?_; intro vo w1 ho hb hg_ hnew_; clear hg_ hnew_ HB; have HB := Aside0.mk hb; have HO := Aside0.mk ho; clear hb ho))
  obtain ⟨n2, hn2⟩ : ∃ n2 : Nat, n2 = n1.toNat := ⟨_, rfl⟩
  have hn2' : n2 = l0.length + 1 := by have := HN1.out; omega
  rw [← hn2] at HO
  clear hn2
  subst hn2'
  clear hd
  obtain ⟨g, co, eo, gb, gl, cl, HG⟩ := Kd.R_form HO.out (by simp)
  rw [List.length_replicate] at eo
  subst eo
  have GB := Aside0.mk gb
  clear gb gl cl HG hn1
  go_loopg [6, 23] (l0.length + 1) (fun kq v6 v23 w' => ∃ (i : Nat) (c : Int) (s : List Int), v6 = .int .u32 c ∧ v23 = .int .i64 i ∧ Aside0 (AddInv l0 l1 i c s) ∧ Aside0 (kq + i = l0.length + 1) ∧ Aside0 (Kd.R (Kd.int .u32) 152 w' w.heap.size (fun _ => True) (.slice (some ⟨g, 0, none⟩) (l0.length + 1) co) (s ++ List.replicate (l0.length + 1 - i) 0)) ∧ Aside0 (Below w.heap.size w w'))
  case atStart => exact ⟨0, 0, [], rfl, rfl, ⟨⟨Nat.zero_le _, rfl, Limbs.nil, by decide, by decide, by simp [val]⟩⟩, ⟨rfl⟩, ⟨by simpa using HO.out⟩, HB⟩
  case round =>
    clear HO HB
    obtain ⟨i, c, s, rfl, rfl, HA, HK, HO, HB⟩ := hrel
    by_cases hlt : i < l0.length
    · obtain ⟨k1, rfl⟩ : ∃ k1, gk = k1 + 1 := ⟨gk - 1, by have := HK.out; omega⟩
      obtain ⟨ad0, e0, hx0⟩ := Kd.at_int HR0.out (i : Int) (by omega) (by omega)
      cases e0
      replace hx0 := (HB.out.cell (World.block_lt_of_cell? w _ hx0)).trans hx0
      simp only [Int.toNat_natCast] at hx0
      have hib : i < 9223372036854775807 := by have := HM.out; omega
      have BX := Aside0.mk (HL0.out.getD i)
      have BY := Aside0.mk (HL1.out.getD i)
      have BC : Aside0 (0 ≤ c ∧ c ≤ 1) := ⟨⟨HA.out.2.2.2.1, HA.out.2.2.2.2.1⟩⟩
      have HS := Aside0.mk (HA.out.step hlt HL0.out HL1.out)
      have hrep := set_zeros s (l0.length + 1 - i) ((limb l0 i + limb l1 i + c) % 4294967296) i HA.out.2.1 (by omega)
      have HX : Aside0 (limb l0 i = rd l0 (i : Int)) := ⟨by rw [limb, if_pos hlt]⟩
      by_cases hl1 : i < l1.length
      · obtain ⟨ad1, e1, hx1⟩ := Kd.at_int HR1.out (i : Int) (by omega) (by omega)
        cases e1
        replace hx1 := (HB.out.cell (World.block_lt_of_cell? w _ hx1)).trans hx1
        simp only [Int.toNat_natCast] at hx1
        have hl1b : decide (i < l1.length) = true := decide_eq_true hl1
        have HY : Aside0 (limb l1 i = rd l1 (i : Int)) := ⟨by rw [limb, if_pos hl1]⟩
        have HE : Aside0 ((limb l0 i + limb l1 i + c) % 4294967296 = ((rd l0 (i : Int) + rd l1 (i : Int) + c) % 4294967296)) := ⟨by rw [HX.out, HY.out]⟩
        have HPP : Aside0 (Kd.R (Kd.int .u32) 152 (wr.setCell ⟨g, i, none⟩ (.int .u32 ((rd l0 (i : Int) + rd l1 (i : Int) + c) % 4294967296))) w.heap.size (fun _ => True) (.slice (some ⟨g, 0, none⟩) (l0.length + 1) co) ((s ++ [(limb l0 i + limb l1 i + c) % 4294967296]) ++ List.replicate (l0.length + 1 - i - 1) 0)) :=
          ⟨by have h := (Kd.R_putg HO.out (i : Int) ((limb l0 i + limb l1 i + c) % 4294967296)).1; rw [Int.toNat_natCast, hrep] at h; rw [← HE.out]; exact h⟩
        obtain ⟨hc, hf⟩ := Kd.R_celln 0 HO.out (i : Int) (by omega) (by omega)
        rw [Int.toNat_natCast] at hc hf
        have HBS := Aside0.mk (fun v => below_set (g := g) (j := i) HB.out GB.out (v := v))
        clear hrep
        go_wp2_with (go_at_call 150; refine (add32_calls _ _ _ _ (by have := BX.out; rw [rd_nat]; omega) (by have := BX.out; rw [rd_nat]; omega) (by have := BY.out; rw [rd_nat]; omega) (by have := BY.out; rw [rd_nat]; omega) BC.out.1 BC.out.2).mono ?_; rintro e w' ⟨rfl, rfl⟩)
        go_roundg k1
        case measure => omega
        case rel => exact ⟨i + 1, _, _, by rw [HX.out, HY.out], by go_num, HS, ⟨by have := HK.out; omega⟩, ⟨by rw [show l0.length + 1 - (i + 1) = l0.length + 1 - i - 1 by omega]; exact HPP.out⟩, ⟨HBS.out _⟩⟩
      · have hl1b : decide (i < l1.length) = false := decide_eq_false hl1
        have HY : Aside0 (limb l1 i = 0) := ⟨by rw [limb, if_neg hl1]⟩
        have HE : Aside0 ((limb l0 i + limb l1 i + c) % 4294967296 = ((rd l0 (i : Int) + c) % 4294967296)) := ⟨by rw [HX.out, HY.out, Int.add_zero]⟩
        have HPP : Aside0 (Kd.R (Kd.int .u32) 152 (wr.setCell ⟨g, i, none⟩ (.int .u32 ((rd l0 (i : Int) + c) % 4294967296))) w.heap.size (fun _ => True) (.slice (some ⟨g, 0, none⟩) (l0.length + 1) co) ((s ++ [(limb l0 i + limb l1 i + c) % 4294967296]) ++ List.replicate (l0.length + 1 - i - 1) 0)) :=
          ⟨by have h := (Kd.R_putg HO.out (i : Int) ((limb l0 i + limb l1 i + c) % 4294967296)).1; rw [Int.toNat_natCast, hrep] at h; rw [← HE.out]; exact h⟩
        obtain ⟨hc, hf⟩ := Kd.R_celln 0 HO.out (i : Int) (by omega) (by omega)
        rw [Int.toNat_natCast] at hc hf
        have HBS := Aside0.mk (fun v => below_set (g := g) (j := i) HB.out GB.out (v := v))
        clear hrep
        go_wp2_with (go_at_call 150; refine (add32_calls _ _ _ _ (by have := BX.out; rw [rd_nat]; omega) (by have := BX.out; rw [rd_nat]; omega) (by have := BY.out; omega) (by have := BY.out; omega) BC.out.1 BC.out.2).mono ?_; rintro e w' ⟨rfl, rfl⟩)
        go_roundg k1
        case measure => omega
        case rel => exact ⟨i + 1, _, _, by rw [HX.out, HY.out, Int.add_zero], by go_num, HS, ⟨by have := HK.out; omega⟩, ⟨by rw [show l0.length + 1 - (i + 1) = l0.length + 1 - i - 1 by omega]; exact HPP.out⟩, ⟨HBS.out _⟩⟩
    · obtain rfl : i = l0.length := by have := HA.out.1; omega
      have hib : l0.length < 9223372036854775807 := by have := HM.out; omega
      have hrep := set_zeros s (l0.length + 1 - l0.length) c l0.length HA.out.2.1 (by omega)
      have hz : l0.length + 1 - l0.length - 1 = 0 := by omega
      rw [hz, List.replicate_zero, List.append_nil] at hrep
      have hd2 := HA.out.done hge
      have hl2 : (s ++ [c]).length = l0.length + 1 := by rw [List.length_append, HA.out.2.1]; rfl
      have HPP : Aside0 (Kd.R (Kd.int .u32) 152 (wr.setCell ⟨g, l0.length, none⟩ (.int .u32 c)) w.heap.size (fun _ => True) (.slice (some ⟨g, 0, none⟩) (l0.length + 1) co) (s ++ [c])) :=
        ⟨by have h := (Kd.R_putg HO.out (l0.length : Int) c).1; rw [Int.toNat_natCast, hrep] at h; exact h⟩
      obtain ⟨hc, hf⟩ := Kd.R_celln 0 HO.out (l0.length : Int) (by omega) (by omega)
      rw [Int.toNat_natCast] at hc hf
      have HBS := Aside0.mk (below_set (g := g) (j := l0.length) HB.out GB.out (v := .int .u32 c))
      have HD2 := Aside0.mk hd2
      obtain ⟨t, ht⟩ : ∃ t, t = s ++ [c] := ⟨_, rfl⟩
      rw [← ht] at HPP HD2 hl2
      have HRR := Aside0.mk (Kd.R_reads' HPP.out)
      have HL2 := Aside0.mk hl2
      clear hrep hz hd2 ht hl2 hge
      go_wp2_with (go_at_call 101; (refine calls_of_args ?_ ((norm_calls (some ⟨g, 0, none⟩) co t _ HRR.out.2.2 (by have := HRR.out; omega)).mono ?_)); (case refine_1 => rw [HL2.out]); rintro e w' ⟨rfl, rfl⟩)
      go_ret
      exact ⟨_, trim t, rfl, (FrN.of_R HPP.out GB.out).trimmed, trim_nrm HD2.out.2, by rw [trim_val]; exact HD2.out.1, HBS.out⟩

set_option maxHeartbeats 400000 in
theorem add_calls (A0 A1 : Option Addr) (c0 c1 : Nat) (l0 l1 : List Int) (w : World) (hr0 : Kd.C (Kd.int .u32) w A0 l0.length l0) (hc0 : l0.length ≤ c0) (hr1 : Kd.C (Kd.int .u32) w A1 l1.length l1) (hc1 : l1.length ≤ c1)
    (hL0 : Limbs l0) (hL1 : Limbs l1) (hm0 : l0.length + 1 ≤ 70368744177664) (hm1 : l1.length + 1 ≤ 70368744177664) :
    Calls Tryd.prog 89 #[.slice A0 l0.length c0, .slice A1 l1.length c1] w (NatRes w (val l0 + val l1)) := by
  by_cases h : l1.length ≤ l0.length
  · exact add_ge A0 A1 c0 c1 l0 l1 w hr0 hc0 hr1 hc1 hL0 hL1 hm0 h
  · rw [Int.add_comm]
    exact add_lt A1 A0 c1 c0 l1 l0 w hr1 hc1 hr0 hc0 hL1 hL0 hm1 (by omega)
end Go.Proofs.YtefhlonipglboaaDoor

/- What nat.Mul computes: the product of two numbers, normal. -/
namespace Go.Proofs.YtefhlonipglboaaDoor
open Go.RowKit Go.Proofs.YtefhlonipglboaaDoorW.PrintWords Go.Proofs.YtefhlonipglboaaDoorW.PrintLast Go.Proofs.YtefhlonipglboaaDoorW.PrintMore
set_option linter.unusedVariables false
set_option linter.unusedSimpArgs false

theorem val_set : ∀ (l : List Int) (i : Nat) (v : Int), i < l.length → val (l.set i v) = val l + 4294967296 ^ i * (v - l.getD i 0)
  | x :: xs, 0, v, _ => by simp [val]; omega
  | x :: xs, i + 1, v, h => by
    have ih := val_set xs i v (by simpa using h)
    simp only [List.set_cons_succ, val, ih, List.getD_cons_succ]
    rw [Int.pow_succ]; grind
theorem Limbs.set {l : List Int} (h : Limbs l) (i : Nat) {v : Int} (hv : 0 ≤ v ∧ v < 4294967296) : Limbs (l.set i v) := by
  intro x hx
  rcases List.mem_or_eq_of_mem_set hx with hx | rfl
  · exact h x hx
  · exact hv
theorem getD_set_ne_ (l : List Int) (i m : Nat) (v : Int) (h : i ≠ m) : (l.set i v).getD m 0 = l.getD m 0 := by
  rw [List.getD_eq_getElem?_getD, List.getD_eq_getElem?_getD, List.getElem?_set_ne h]

def MulInv (l0 l1 : List Int) (i : Nat) (o : List Int) : Prop :=
  i ≤ l0.length ∧ o.length = l0.length + l1.length ∧ Limbs o ∧ val o = val (l0.take i) * val l1 ∧ ∀ m, i + l1.length ≤ m → o.getD m 0 = 0
def MulIn (l0 l1 : List Int) (i : Nat) (o : List Int) (j : Nat) (c : Int) (o2 : List Int) : Prop :=
  j ≤ l1.length ∧ o2.length = l0.length + l1.length ∧ Limbs o2 ∧ 0 ≤ c ∧ c < 4294967296 ∧ val o2 + 4294967296 ^ (i + j) * c = val o + 4294967296 ^ i * (rd l0 (i : Int) * val (l1.take j)) ∧ ∀ m, i + l1.length ≤ m → o2.getD m 0 = 0
theorem MulInv.start (l0 l1 : List Int) : MulInv l0 l1 0 (List.replicate (l0.length + l1.length) 0) :=
  ⟨Nat.zero_le _, by simp, Limbs.replicate _, by rw [val_replicate]; simp [val], fun m _ => by
    rw [List.getD_eq_getElem?_getD, List.getElem?_replicate]
    split <;> rfl⟩
theorem MulInv.inner {l0 l1 o : List Int} {i : Nat} (h : MulInv l0 l1 i o) : MulIn l0 l1 i o 0 0 o :=
  ⟨Nat.zero_le _, h.2.1, h.2.2.1, by decide, by decide, by simp [val], h.2.2.2.2⟩
theorem mul_bd {x y : Int} (hx : 0 ≤ x ∧ x < 4294967296) (hy : 0 ≤ y ∧ y < 4294967296) : 0 ≤ x * y ∧ x * y ≤ 18446744065119617025 := by
  refine ⟨Int.mul_nonneg hx.1 hy.1, ?_⟩
  have := Int.mul_le_mul (show x ≤ 4294967295 by omega) (show y ≤ 4294967295 by omega) hy.1 (by omega)
  omega
theorem MulIn.step {l0 l1 o o2 : List Int} {i j : Nat} {c t : Int} (h : MulIn l0 l1 i o j c o2) (hi : i < l0.length) (hj : j < l1.length) (h0 : Limbs l0) (h1 : Limbs l1) (ht : t = rd l0 (i : Int) * rd l1 (j : Int) + rd o2 ((i + j : Nat) : Int) + c) :
    0 ≤ t ∧ t < 18446744073709551616 ∧ MulIn l0 l1 i o (j + 1) (t / 4294967296) (o2.set (i + j) (t % 4294967296)) := by
  obtain ⟨a1, a2, a3, a4, a5, a6, a7⟩ := h
  have b0 := h0.getD i
  have b1 := h1.getD j
  have b2 := a3.getD (i + j)
  rw [← rd_nat] at b0 b1 b2
  have hm := mul_bd b0 b1
  have hb : 0 ≤ t ∧ t < 18446744073709551616 := by omega
  refine ⟨hb.1, hb.2, by omega, by simp [a2], a3.set _ ⟨by omega, by omega⟩, by omega, by omega, ?_, fun m hm => ?_⟩
  · rw [val_set _ _ _ (by omega), val_take_succ l1 j hj, ← rd_nat, ← rd_nat l1 j]
    have e : t = t % 4294967296 + 4294967296 * (t / 4294967296) := by omega
    generalize t / 4294967296 = q at *
    generalize t % 4294967296 = r at *
    rw [show i + (j + 1) = (i + j) + 1 by omega, Int.pow_succ]
    have e2 : (4294967296 : Int) ^ (i + j) = 4294967296 ^ i * 4294967296 ^ j := Int.pow_add _ _ _
    generalize (4294967296 : Int) ^ (i + j) = p at *
    generalize (4294967296 : Int) ^ i = pi at *
    generalize (4294967296 : Int) ^ j = pj at *
    subst ht
    generalize rd l0 (i : Int) = x at *
    generalize rd l1 (j : Int) = y at *
    generalize rd o2 ((i + j : Nat) : Int) = z at *
    grind
  · rw [getD_set_ne_ _ _ _ _ (by omega)]
    exact a7 m hm
theorem MulIn.done {l0 l1 o o2 : List Int} {i : Nat} {c : Int} (h : MulIn l0 l1 i o l1.length c o2) (hI : MulInv l0 l1 i o) (hi : i < l0.length) :
    MulInv l0 l1 (i + 1) (o2.set (i + l1.length) (c % 4294967296)) := by
  obtain ⟨a1, a2, a3, a4, a5, a6, a7⟩ := h
  obtain ⟨b1, b2, b3, b4, b5⟩ := hI
  have hc : c % 4294967296 = c := by omega
  rw [hc]
  refine ⟨hi, by simp [a2], a3.set _ ⟨a4, a5⟩, ?_, fun m hm => ?_⟩
  · rw [val_set _ _ _ (by omega), a7 _ (Nat.le_refl _), val_take_succ l0 i hi, ← rd_nat]
    rw [List.take_length] at a6
    rw [b4] at a6
    generalize (4294967296 : Int) ^ (i + l1.length) = p at *
    generalize (4294967296 : Int) ^ i = pi at *
    generalize rd l0 (i : Int) = x at *
    generalize val (l0.take i) = u at *
    generalize val l1 = y at *
    grind
  · rw [getD_set_ne_ _ _ _ _ (by omega)]
    exact a7 m (by omega)

theorem FrN.of_R' {base : Nat} {w0 w : World} {ok : Nat → Prop} {A : Option Addr} {n c : Nat} {l : List Int} (h : Kd.R (Kd.int .u32) 152 w base ok (.slice A n c) l) (_hb : Below base w0 w) : FrN base w (.slice A n c) l :=
  Kd.V_mono (Kd.R_V (Kd.R_tight rfl h)) (fun k hk => Kd.R_base h k hk.symm)
theorem u64_in (x : Int) (h0 : 0 ≤ x) (h1 : x < 18446744073709551616) : IntKind.u64.wrap x = x := by
  simp [IntKind.wrap, IntKind.bits, IntKind.signed]
  omega
set_option maxHeartbeats 8000000 in
set_option maxRecDepth 100000 in
theorem mul_calls (A0 A1 : Option Addr) (c0 c1 : Nat) (l0 l1 : List Int) (w : World) (hr0 : Kd.C (Kd.int .u32) w A0 l0.length l0) (hc0 : l0.length ≤ c0) (hr1 : Kd.C (Kd.int .u32) w A1 l1.length l1) (hc1 : l1.length ≤ c1)
    (hL0 : Limbs l0) (hL1 : Limbs l1) (hm : l0.length + l1.length ≤ 70368744177664) :
    Calls Tryd.prog 90 #[.slice A0 l0.length c0, .slice A1 l1.length c1] w (NatRes w (val l0 * val l1)) := by
  have HR0 := Aside0.mk hr0
  have HC0 := Aside0.mk hc0
  have HR1 := Aside0.mk hr1
  have HC1 := Aside0.mk hc1
  have HL0 := Aside0.mk hL0
  have HL1 := Aside0.mk hL1
  have HM := Aside0.mk hm
  obtain ⟨n1, hn1⟩ : ∃ n1 : Int, IntKind.i64.wrap ((l0.length : Int) + (l1.length : Int)) = n1 := ⟨_, rfl⟩
  have hn1' : n1 = (l0.length : Int) + (l1.length : Int) := by rw [← hn1]; exact IntWalk.i64_in _ (by omega)
  have HN1 := Aside0.mk hn1'
  have p0 : 0 ≤ n1 := by omega
  have P0 := Aside0.mk p0
  have HB := Aside0.mk (Below.refl w.heap.size w)
  clear hr0 hc0 hr1 hc1 hL0 hL1 hm hn1' p0
  go_enter Tryd.func90, Tryd.ntmps90
  go_wp2_with (first | ((with_reducible refine gate_dst (N := 17) rfl ?_); refine Kd.R_make (Kd.int .u32) _ 152 rfl (N := 17) rfl 78 _ _ rfl n1 rfl rfl Tryd.underlying78 (.int .u32 0) 4 info_u32 rfl (by decide) (by omega) 0 (ok := fun _ => True) (okp := fun _ => True) rfl (fun _ hk => hk) trivial P0.out (by have := HM.out; have := HN1.out; omega) HB.out (Nat.le_refl _) ?_; intro vo w1 ho hb hg_ hnew_; clear hg_ hnew_ HB; have HB := Aside0.mk hb; have HO := Aside0.mk ho; clear hb ho))
  obtain ⟨n2, hn2⟩ : ∃ n2 : Nat, n2 = n1.toNat := ⟨_, rfl⟩
  have hn2' : n2 = l0.length + l1.length := by have := HN1.out; omega
  rw [← hn2] at HO
  clear hn2 hn1
  subst hn2'
  obtain ⟨Ao, co, eo⟩ := Kd.R_slice HO.out
  rw [List.length_replicate] at eo
  subst eo
  go_loopg [20] (l0.length + 1) (fun kq v20 w' => ∃ (i : Nat) (o : List Int), v20 = .int .i64 i ∧ Aside0 (MulInv l0 l1 i o) ∧ Aside0 (kq + i = l0.length + 1) ∧ Aside0 (Kd.R (Kd.int .u32) 152 w' w.heap.size (fun _ => True) (.slice Ao (l0.length + l1.length) co) o) ∧ Aside0 (Below w.heap.size w w'))
  case atStart => exact ⟨0, _, rfl, ⟨MulInv.start l0 l1⟩, ⟨rfl⟩, HO, HB⟩
  case round =>
    clear HO HB
    obtain ⟨i, o, rfl, HI, HK, HO, HB⟩ := hrel
    by_cases hlt : i < l0.length
    · obtain ⟨k1, rfl⟩ : ∃ k1, gk = k1 + 1 := ⟨gk - 1, by have := HK.out; omega⟩
      obtain ⟨ad0, e0, hx0⟩ := Kd.at_int HR0.out (i : Int) (by omega) (by omega)
      cases e0
      replace hx0 := (HB.out.cell (World.block_lt_of_cell? w _ hx0)).trans hx0
      simp only [Int.toNat_natCast] at hx0
      have hib : i + l1.length < 9223372036854775807 := by have := HM.out; omega
      obtain ⟨g, cq, eo, gb, gl, cl, HG⟩ := Kd.R_form HO.out (by have := HI.out.2.1; omega)
      injection eo with e1 e2 e3
      subst e1
      subst e3
      clear e2
      have GB := Aside0.mk gb
      clear gb gl cl HG
      go_wp2
      go_loopg [8, 27] (l1.length + 1) (fun kq v8 v27 w' => ∃ (j : Nat) (c : Int) (o2 : List Int), v8 = .int .u64 c ∧ v27 = .int .i64 j ∧ Aside0 (MulIn l0 l1 i o j c o2) ∧ Aside0 (kq + j = l1.length + 1) ∧ Aside0 (Kd.R (Kd.int .u32) 152 w' w.heap.size (fun _ => True) (.slice (some ⟨g, 0, none⟩) (l0.length + l1.length) co) o2) ∧ Aside0 (Below w.heap.size w w'))
      case atStart => exact ⟨0, 0, o, rfl, rfl, ⟨HI.out.inner⟩, ⟨rfl⟩, HO, HB⟩
      case round =>
        clear HO HB hx0
        obtain ⟨j, c, o2, rfl, rfl, HJ, HKJ, HO, HB⟩ := hrel
        by_cases hjt : j < l1.length
        · obtain ⟨k2, rfl⟩ : ∃ k2, gk = k2 + 1 := ⟨gk - 1, by have := HKJ.out; omega⟩
          obtain ⟨ad1, e1, hx1⟩ := Kd.at_int HR1.out (j : Int) (by omega) (by omega)
          cases e1
          replace hx1 := (HB.out.cell (World.block_lt_of_cell? w _ hx1)).trans hx1
          simp only [Int.toNat_natCast] at hx1
          have hst := HJ.out.step hlt hjt HL0.out HL1.out rfl
          have hbx := HL0.out.getD i
          have hby := HL1.out.getD j
          have hbz := HJ.out.2.2.1.getD (i + j)
          have hbc := And.intro HJ.out.2.2.2.1 HJ.out.2.2.2.2.1
          rw [← rd_nat] at hbx hby hbz
          have hmd := mul_bd hbx hby
          obtain ⟨hz, hzf⟩ := Kd.R_celln 0 HO.out ((i + j : Nat) : Int) (by omega) (by omega)
          rw [Int.toNat_natCast] at hz hzf
          have hz' : wr.cell? ⟨g, i + j, none⟩ = some (.int .u32 (rd o2 ((i + j : Nat) : Int))) := hz
          clear hz
          obtain ⟨y, hy⟩ : ∃ y, rd l1 (j : Int) = y := ⟨_, rfl⟩
          obtain ⟨z, hz⟩ : ∃ z, rd o2 ((i + j : Nat) : Int) = z := ⟨_, rfl⟩
          rw [hy, hz] at hst
          rw [hy] at hby hx1 hmd
          rw [hz] at hbz hz'
          clear hy hz
          have q1 : IntKind.u64.wrap (rd l0 (i : Int)) = rd l0 (i : Int) := u64_in _ hbx.1 (by omega)
          have q2 : IntKind.u64.wrap y = y := u64_in _ hby.1 (by omega)
          have q3 : IntKind.u64.wrap z = z := u64_in _ hbz.1 (by omega)
          have q4 : IntKind.u64.wrap (rd l0 (i : Int) * y) = rd l0 (i : Int) * y := u64_in _ hmd.1 (by omega)
          have q5 : IntKind.u64.wrap (rd l0 (i : Int) * y + z) = rd l0 (i : Int) * y + z := u64_in _ (by omega) (by omega)
          have q6 : IntKind.u64.wrap (rd l0 (i : Int) * y + z + c) = rd l0 (i : Int) * y + z + c := u64_in _ (by omega) (by omega)
          have HPP : Aside0 (Kd.R (Kd.int .u32) 152 (wr.setCell ⟨g, i + j, none⟩ (.int .u32 ((rd l0 (i : Int) * y + z + c) % 4294967296))) w.heap.size (fun _ => True) (.slice (some ⟨g, 0, none⟩) (l0.length + l1.length) co) (o2.set (i + j) ((rd l0 (i : Int) * y + z + c) % 4294967296))) :=
            ⟨by have h := (Kd.R_putg HO.out ((i + j : Nat) : Int) ((rd l0 (i : Int) * y + z + c) % 4294967296)).1; rw [Int.toNat_natCast] at h; exact h⟩
          have HBS := Aside0.mk (fun v => below_set (g := g) (j := i + j) HB.out GB.out (v := v))
          have HST := Aside0.mk hst.2.2
          have hq7 : (rd l0 (i : Int) * y + z + c) / 4294967296 % 4294967296 = (rd l0 (i : Int) * y + z + c) / 4294967296 := by have := hst.1; have := hst.2.1; omega
          have HQ := Aside0.mk hq7
          have hij : i + j < 9223372036854775807 := by omega
          clear hst hbx hby hbz hbc hmd hq7
          go_wp2_with fail
          go_roundg k2
          case measure => omega
          case rel => exact ⟨j + 1, _, _, by first | rfl | rw [HQ.out], by go_num, HST, ⟨by have := HKJ.out; omega⟩, HPP, ⟨HBS.out _⟩⟩
        · obtain rfl : j = l1.length := by have := HJ.out.1; omega
          have hxz := HJ.out.done HI.out hlt
          obtain ⟨hz, hzf⟩ := Kd.R_celln 0 HO.out ((i + l1.length : Nat) : Int) (by omega) (by omega)
          rw [Int.toNat_natCast] at hz hzf
          have HPP : Aside0 (Kd.R (Kd.int .u32) 152 (wr.setCell ⟨g, i + l1.length, none⟩ (.int .u32 (c % 4294967296))) w.heap.size (fun _ => True) (.slice (some ⟨g, 0, none⟩) (l0.length + l1.length) co) (o2.set (i + l1.length) (c % 4294967296))) :=
            ⟨by have h := (Kd.R_putg HO.out ((i + l1.length : Nat) : Int) (c % 4294967296)).1; rw [Int.toNat_natCast] at h; exact h⟩
          have HBS := Aside0.mk (fun v => below_set (g := g) (j := i + l1.length) HB.out GB.out (v := v))
          have HXZ := Aside0.mk hxz
          clear hxz
          go_wp2_with fail
          go_roundg k1
          case measure => omega
          case rel => exact ⟨i + 1, _, by go_num, HXZ, ⟨by have := HK.out; omega⟩, HPP, ⟨HBS.out _⟩⟩
    · obtain rfl : i = l0.length := by have := HI.out.1; omega
      have hrr := Kd.R_reads' HO.out
      have HRR := Aside0.mk hrr
      have hl2 := HI.out.2.1
      have HL2 := Aside0.mk hl2
      have hv := HI.out.2.2.2.1
      rw [List.take_length] at hv
      have HV := Aside0.mk hv
      clear hrr hl2 hv
      go_wp2_with (go_at_call 101; (refine calls_of_args ?_ ((norm_calls Ao co o _ HRR.out.2.2 (by have := HRR.out; omega)).mono ?_)); (case refine_1 => rw [HL2.out]); rintro e w' ⟨rfl, rfl⟩)
      go_ret
      exact ⟨_, trim o, rfl, (FrN.of_R' HO.out HB.out).trimmed, trim_nrm HI.out.2.2.1, by rw [trim_val]; exact HV.out, HB.out⟩
end Go.Proofs.YtefhlonipglboaaDoor

/- What nat.Cmp computes: -1, 0, 1, as the numbers are. -/
namespace Go.Proofs.YtefhlonipglboaaDoor
open Go.RowKit Go.Proofs.YtefhlonipglboaaDoorW.PrintWords Go.Proofs.YtefhlonipglboaaDoorW.PrintLast Go.Proofs.YtefhlonipglboaaDoorW.PrintMore
set_option linter.unusedVariables false
set_option linter.unusedSimpArgs false

/-- -1, 0, 1 -/
def cmpI (x y : Int) : Int := if x < y then -1 else if x = y then 0 else 1
theorem cmpI_lt {x y : Int} (h : x < y) : cmpI x y = -1 := by simp [cmpI, h]
theorem cmpI_gt {x y : Int} (h : y < x) : cmpI x y = 1 := by
  unfold cmpI
  rw [if_neg (by omega), if_neg (by omega)]
theorem cmpI_eq {x y : Int} (h : x = y) : cmpI x y = 0 := by simp [cmpI, h]
theorem Nrm.ge : ∀ {l : List Int}, Nrm l → l ≠ [] → 4294967296 ^ (l.length - 1) ≤ val l
  | [], _, h => absurd rfl h
  | [x], h, _ => by
    have h1 := h.1.head
    have := h.2
    simp only [Tip, val, List.length_cons, List.length_nil] at this ⊢
    simp
    omega
  | x :: y :: ys, h, _ => by
    have ih := Nrm.ge h.tail (by simp)
    have h1 := h.1.head
    simp only [List.length_cons, Nat.add_sub_cancel] at ih ⊢
    rw [Int.pow_succ]
    simp only [val] at ih ⊢
    omega
theorem pow_mono_ {m n : Nat} (h : m ≤ n) : (4294967296 : Int) ^ m ≤ 4294967296 ^ n := by
  obtain ⟨k, rfl⟩ := Nat.le.dest h
  rw [Int.pow_add]
  have h1 : (1 : Int) ≤ 4294967296 ^ k := Int.pow_pos (by decide)
  have h2 : (0 : Int) < 4294967296 ^ m := Int.pow_pos (by decide)
  have := Int.mul_le_mul_of_nonneg_left h1 (Int.le_of_lt h2)
  simpa using this
theorem val_lt_of_length {a b : List Int} (ha : Nrm a) (hb : Nrm b) (h : a.length < b.length) : val a < val b := by
  have h1 := val_lt ha.1
  have h2 := hb.ge (by intro e; subst e; simp at h)
  have h3 := pow_mono_ (show a.length ≤ b.length - 1 by omega)
  omega
theorem val_split (l : List Int) (i : Nat) (h : i < l.length) : val l = val (l.take i) + 4294967296 ^ i * (rd l (i : Int) + 4294967296 * val (l.drop (i + 1))) := by
  have h1 := val_append (l.take (i + 1)) (l.drop (i + 1))
  rw [List.take_append_drop, List.length_take, Nat.min_eq_left (by omega), val_take_succ l i h, ← rd_nat, Int.pow_succ] at h1
  rw [h1]; grind
theorem val_lt_at {a b : List Int} (ha : Limbs a) (hb : Limbs b) (i : Nat) (h1 : i < a.length) (h2 : i < b.length) (he : a.drop (i + 1) = b.drop (i + 1)) (hlt : rd a (i : Int) < rd b (i : Int)) : val a < val b := by
  rw [val_split a i h1, val_split b i h2, he]
  have h3 := val_lt (ha.take i)
  have h4 := val_nonneg (hb.take i)
  rw [List.length_take, Nat.min_eq_left (by omega)] at h3
  have hp : (0 : Int) < 4294967296 ^ i := Int.pow_pos (by decide)
  generalize (4294967296 : Int) ^ i = p at *
  generalize val (b.drop (i + 1)) = D at *
  obtain ⟨d, hd⟩ : ∃ d : Int, rd b (i : Int) = rd a (i : Int) + 1 + d := ⟨rd b (i : Int) - rd a (i : Int) - 1, by omega⟩
  have hd0 : 0 ≤ d := by omega
  rw [hd]
  have hpd := Int.mul_nonneg (Int.le_of_lt hp) hd0
  have e : p * (rd a (i : Int) + 1 + d + 4294967296 * D) = p * (rd a (i : Int) + 4294967296 * D) + p + p * d := by grind
  rw [e]
  omega

set_option maxHeartbeats 4000000 in
set_option maxRecDepth 100000 in
theorem cmp_calls (A0 A1 : Option Addr) (c0 c1 : Nat) (l0 l1 : List Int) (w : World) (hr0 : Kd.C (Kd.int .u32) w A0 l0.length l0) (hc0 : l0.length ≤ c0) (hr1 : Kd.C (Kd.int .u32) w A1 l1.length l1) (hc1 : l1.length ≤ c1)
    (hL0 : Limbs l0) (hL1 : Limbs l1) :
    Calls Tryd.prog 52 #[.slice A0 l0.length c0, .slice A1 l1.length c1] w fun e w' => e = .returned (.int .i64 (cmpI (val l0) (val l1))) ∧ Drawn0 w w' := by
  have HR0 := Aside0.mk hr0
  have HR1 := Aside0.mk hr1
  have HC0 := Aside0.mk hc0
  have HC1 := Aside0.mk hc1
  have ht0 := Kd.C_take (m := (trim l0).length) hr0 (trim_length_le l0)
  have ht1 := Kd.C_take (m := (trim l1).length) hr1 (trim_length_le l1)
  rw [trim_take] at ht0 ht1
  have HN0 := Aside0.mk (trim_nrm hL0)
  have HN1 := Aside0.mk (trim_nrm hL1)
  rw [← trim_val l0, ← trim_val l1]
  have hk0 : (trim l0).length ≤ c0 := Nat.le_trans (trim_length_le l0) hc0
  have hk1 : (trim l1).length ≤ c1 := Nat.le_trans (trim_length_le l1) hc1
  obtain ⟨t0, e0⟩ : ∃ t, trim l0 = t := ⟨_, rfl⟩
  obtain ⟨t1, e1⟩ : ∃ t, trim l1 = t := ⟨_, rfl⟩
  rw [e0] at ht0 hk0 HN0 ⊢
  rw [e1] at ht1 hk1 HN1 ⊢
  have E0 := Aside0.mk e0
  have E1 := Aside0.mk e1
  have HT0 := Aside0.mk ht0
  have HT1 := Aside0.mk ht1
  have hm0 := Kd.C_max ht0
  clear hr0 hr1 hc0 hc1 e0 e1 ht0 ht1 hL0 hL1
  have harm0 : Calls Tryd.prog 101 #[.slice A0 l0.length c0] w fun e w' => e = .returned (.slice A0 t0.length c0) ∧ w = w' := by
    have h := norm_calls A0 c0 l0 w HR0.out HC0.out
    rw [E0.out] at h
    exact h
  have harm1 : Calls Tryd.prog 101 #[.slice A1 l1.length c1] w fun e w' => e = .returned (.slice A1 t1.length c1) ∧ w = w' := by
    have h := norm_calls A1 c1 l1 w HR1.out HC1.out
    rw [E1.out] at h
    exact h
  have HA0 := Aside0.mk harm0
  have HA1 := Aside0.mk harm1
  clear harm0 harm1
  rcases Nat.lt_trichotomy t0.length t1.length with hlt | heq | hgt
  · have hne : ((t0.length : Int) != (t1.length : Int)) = true := by rw [bne_iff_ne]; omega
    have hd : decide (t0.length < t1.length) = true := decide_eq_true hlt
    have HV := Aside0.mk (val_lt_of_length HN0.out HN1.out hlt)
    clear hlt
    go_enter Tryd.func52, Tryd.ntmps52
    go_wp2_with fail
    refine HA0.out.mono ?_
    rintro e w' ⟨rfl, rfl⟩
    go_wp2_with fail
    refine HA1.out.mono ?_
    rintro e w' ⟨rfl, rfl⟩
    go_wp2_with fail
    go_ret
    exact ⟨by rw [cmpI_lt HV.out]; rfl, Drawn0.refl _⟩
  · have hne : ((t0.length : Int) != (t1.length : Int)) = false := by rw [bne_eq_false_iff_eq]; omega
    have HQ := Aside0.mk heq
    have hle : t0.length ≤ t1.length := by omega
    clear heq
    go_enter Tryd.func52, Tryd.ntmps52
    go_wp2_with fail
    refine HA0.out.mono ?_
    rintro e w' ⟨rfl, rfl⟩
    go_wp2_with fail
    refine HA1.out.mono ?_
    rintro e w' ⟨rfl, rfl⟩
    go_wp2_with fail
    go_loopg [5] (t0.length) (fun kq v5 w' => v5 = .int .i64 ((kq : Int) - 1) ∧ kq ≤ t0.length ∧ Aside0 (t0.drop kq = t1.drop kq) ∧ Aside0 (Drawn0 w w'))
    case atStart => exact ⟨rfl, Nat.le_refl _, ⟨by rw [List.drop_length, HQ.out, List.drop_length]⟩, ⟨Drawn0.refl _⟩⟩
    case round =>
      obtain ⟨rfl, hk, HD, HW⟩ := hrel
      cases gk with
      | zero =>
        go_wp2_with fail
        go_ret
        refine ⟨?_, HW.out⟩
        have h0 : t0 = t1 := by simpa using HD.out
        rw [cmpI_eq (by rw [h0])]
        rfl
      | succ k =>
        rw [show ((k + 1 : Nat) : Int) - 1 = (k : Int) by omega]
        have hb := HW.out.below
        obtain ⟨ad0, e0, hx0⟩ := Kd.at_int (Kd.C_below HT0.out hb) (k : Int) (by omega) (by omega)
        obtain ⟨ad1, e1, hx1⟩ := Kd.at_int (Kd.C_below HT1.out hb) (k : Int) (by omega) (by omega)
        subst e0
        subst e1
        simp only [Int.toNat_natCast] at hx0 hx1
        have hk' : k < t0.length := by omega
        have hk1' : k < t1.length := by omega
        rcases Int.lt_trichotomy (rd t0 (k : Int)) (rd t1 (k : Int)) with hlt | heq | hgt
        · have hd : decide (rd t0 (k : Int) < rd t1 (k : Int)) = true := decide_eq_true hlt
          have HV := Aside0.mk (val_lt_at HN0.out.1 HN1.out.1 k hk' hk1' HD.out hlt)
          clear hlt hb
          go_wp2_with fail
          go_quiet (fail)
          go_wp2_with fail
          go_ret
          exact ⟨by rw [cmpI_lt HV.out]; rfl, by repeat (first | exact HW.out | apply Drawn0.step)⟩
        · have hd : decide (rd t0 (k : Int) < rd t1 (k : Int)) = false := decide_eq_false (by omega)
          have hd2 : decide (rd t1 (k : Int) < rd t0 (k : Int)) = false := decide_eq_false (by omega)
          have HE : Aside0 (t0.drop k = t1.drop k) := ⟨by
            rw [List.drop_eq_getElem_cons hk', List.drop_eq_getElem_cons hk1', HD.out]
            rw [rd_nat, rd_nat, List.getD_eq_getElem?_getD, List.getD_eq_getElem?_getD, List.getElem?_eq_getElem hk', List.getElem?_eq_getElem hk1'] at heq
            simp only [Option.getD_some] at heq
            rw [heq]⟩
          clear heq hb
          go_wp2_with fail
          go_quiet (fail)
          go_wp2_with fail
          go_quiet (fail)
          go_wp2_with fail
          go_roundg k
          case measure => omega
          case rel => exact ⟨rfl, by omega, HE, ⟨by repeat (first | exact HW.out | apply Drawn0.step)⟩⟩
        · have hd : decide (rd t0 (k : Int) < rd t1 (k : Int)) = false := decide_eq_false (by omega)
          have hd2 : decide (rd t1 (k : Int) < rd t0 (k : Int)) = true := decide_eq_true hgt
          have HV := Aside0.mk (val_lt_at HN1.out.1 HN0.out.1 k hk1' hk' HD.out.symm hgt)
          clear hgt hb
          go_wp2_with fail
          go_quiet (fail)
          go_wp2_with fail
          go_quiet (fail)
          go_wp2_with fail
          go_ret
          exact ⟨by rw [cmpI_gt HV.out]; rfl, by repeat (first | exact HW.out | apply Drawn0.step)⟩
  · have hne : ((t0.length : Int) != (t1.length : Int)) = true := by rw [bne_iff_ne]; omega
    have hd : decide (t0.length < t1.length) = false := decide_eq_false (by omega)
    have HV := Aside0.mk (val_lt_of_length HN1.out HN0.out hgt)
    clear hgt
    go_enter Tryd.func52, Tryd.ntmps52
    go_wp2_with fail
    refine HA0.out.mono ?_
    rintro e w' ⟨rfl, rfl⟩
    go_wp2_with fail
    refine HA1.out.mono ?_
    rintro e w' ⟨rfl, rfl⟩
    go_wp2_with fail
    go_ret
    exact ⟨by rw [cmpI_gt HV.out]; rfl, Drawn0.refl _⟩
end Go.Proofs.YtefhlonipglboaaDoor

/- What bits.Div32 and nat.Over compute: quotient and rest. -/
namespace Go.Proofs.YtefhlonipglboaaDoor
open Go.RowKit Go.Proofs.YtefhlonipglboaaDoorW.PrintWords Go.Proofs.YtefhlonipglboaaDoorW.PrintLast Go.Proofs.YtefhlonipglboaaDoorW.PrintMore
set_option linter.unusedVariables false
set_option linter.unusedSimpArgs false

set_option maxHeartbeats 2000000 in
set_option maxRecDepth 100000 in
theorem div32_calls (h l d : Int) (w : World) (h0 : 0 ≤ h) (hd : h < d) (hd1 : d < 4294967296) (l0 : 0 ≤ l) (l1 : l < 4294967296) :
    Calls Tryd.prog 153 #[.int .u32 h, .int .u32 l, .int .u32 d] w fun e w' => e = .returned (.tuple #[.int .u32 ((h * 4294967296 + l) / d), .int .u32 ((h * 4294967296 + l) % d)]) ∧ Drawn0 w w' := by
  have hdb : (d != 0) = true := by rw [bne_iff_ne]; omega
  have hle : decide (d ≤ h) = false := decide_eq_false (by omega)
  have q1 : IntKind.u64.wrap h = h := u64_in _ h0 (by omega)
  have q2 : IntKind.u64.wrap l = l := u64_in _ l0 (by omega)
  have q3 : IntKind.u64.wrap d = d := u64_in _ (by omega) (by omega)
  have hor : bits .or .u64 (h * 4294967296) l = h * 4294967296 + l :=
    bits_join .u64 64 (by decide) (fun n a b => u64_in n a (by omega)) 32 (h * 4294967296) l (by omega) (by omega) (by omega) l0 (by omega) (by omega)
  obtain ⟨n, hn⟩ : ∃ n, h * 4294967296 + l = n := ⟨_, rfl⟩
  rw [hn] at hor ⊢
  have hn0 : 0 ≤ n := by omega
  have hq0 : 0 ≤ n / d := Int.ediv_nonneg hn0 (by omega)
  have hq1 : n / d < 4294967296 := by
    rw [Int.ediv_lt_iff_lt_mul (by omega)]
    have : h * 4294967296 + 4294967296 ≤ 4294967296 * d := by omega
    omega
  have hr0 : 0 ≤ n % d := Int.emod_nonneg _ (by omega)
  have hr1 : n % d < d := Int.emod_lt_of_pos _ (by omega)
  have q4 : n / d % 4294967296 = n / d := by omega
  have q5 : n % d % 4294967296 = n % d := by omega
  have hdp : 1 ≤ d := by omega
  have HQ : Aside0 (IntKind.u64.wrap (n.tdiv d) % 4294967296 = n / d) := ⟨by rw [Int.tdiv_eq_ediv_of_nonneg hn0, u64_in _ hq0 (by omega), q4]⟩
  clear hn hq0 hq1 hr0 hr1
  go_enter Tryd.func153, Tryd.ntmps153
  go_wp2_with fail
  go_quiet (fail)
  go_wp2_with fail
  go_ret2
  refine ⟨?_, by repeat (first | exact Drawn0.refl _ | apply Drawn0.step)⟩
  show Ending.returned (.tuple #[.int .u32 (IntKind.u64.wrap (n.tdiv d) % 4294967296), .int .u32 (n % d)]) = _
  rw [HQ.out]

/-- the quotient's upper digits, and the rest so far -/
def OverInv (l : List Int) (d : Int) (k : Nat) (r : Int) (q : List Int) : Prop :=
  q.length + k = l.length ∧ Limbs q ∧ 0 ≤ r ∧ r < d ∧ val (l.drop k) = d * val q + r
theorem OverInv.start (l : List Int) {d : Int} (hd : 0 < d) : OverInv l d l.length 0 [] := ⟨by simp, Limbs.nil, by decide, hd, by simp [val]⟩
theorem OverInv.step {l q : List Int} {d r : Int} {k : Nat} (h : OverInv l d (k + 1) r q) (hl : Limbs l) (hd : d < 4294967296) :
    OverInv l d k ((r * 4294967296 + rd l (k : Int)) % d) ((r * 4294967296 + rd l (k : Int)) / d :: q) := by
  obtain ⟨a1, a2, a3, a4, a5⟩ := h
  have hk : k < l.length := by omega
  have b0 := hl.getD k
  rw [← rd_nat] at b0
  obtain ⟨n, hn⟩ : ∃ n, r * 4294967296 + rd l (k : Int) = n := ⟨_, rfl⟩
  have hn0 : 0 ≤ n := by omega
  have hq0 : 0 ≤ n / d := Int.ediv_nonneg hn0 (by omega)
  have hq1 : n / d < 4294967296 := by
    rw [Int.ediv_lt_iff_lt_mul (by omega)]
    have : r * 4294967296 + 4294967296 ≤ 4294967296 * d := by omega
    omega
  rw [hn]
  refine ⟨by simp only [List.length_cons]; omega, Limbs.cons ⟨hq0, hq1⟩ a2, Int.emod_nonneg _ (by omega), Int.emod_lt_of_pos _ (by omega), ?_⟩
  rw [List.drop_eq_getElem_cons hk]
  have hg : l[k] = rd l (k : Int) := by rw [rd_nat, List.getD_eq_getElem?_getD, List.getElem?_eq_getElem hk]; rfl
  simp only [val, hg, a5]
  have hdm := Int.mul_ediv_add_emod n d
  generalize n / d = qq at *
  generalize n % d = rr at *
  generalize val q = V at *
  generalize rd l (k : Int) = x at *
  subst hn
  grind
theorem OverInv.done {l q : List Int} {d r : Int} (h : OverInv l d 0 r q) : val q = val l / d ∧ r = val l % d ∧ Limbs q := by
  obtain ⟨a1, a2, a3, a4, a5⟩ := h
  rw [List.drop_zero] at a5
  have h1 : (d * val q + r) / d = val q := by
    rw [Int.add_comm, Int.add_mul_ediv_left _ _ (by omega), Int.ediv_eq_zero_of_lt a3 a4]; omega
  have h2 : (d * val q + r) % d = r := by
    rw [Int.add_comm, Int.add_mul_emod_self_left, Int.emod_eq_of_lt a3 a4]
  rw [a5, h1, h2]
  exact ⟨rfl, rfl, a2⟩

/-- what nat.Over leaves -/
def OverRes (w : World) (q r : Int) (e : Ending) (w' : World) : Prop := ∃ v l, e = .returned (.tuple #[v, .int .u32 r, .nilIface]) ∧ FrN w.heap.size w' v l ∧ Nrm l ∧ val l = q ∧ Below w.heap.size w w'
set_option maxHeartbeats 8000000 in
set_option maxRecDepth 100000 in
theorem over_calls (A0 : Option Addr) (c0 : Nat) (l0 : List Int) (d : Int) (w : World) (hr0 : Kd.C (Kd.int .u32) w A0 l0.length l0) (hc0 : l0.length ≤ c0)
    (hL0 : Limbs l0) (hm : l0.length ≤ 70368744177664) (hd0 : 0 < d) (hd1 : d < 4294967296) :
    Calls Tryd.prog 95 #[.slice A0 l0.length c0, .int .u32 d] w (OverRes w (val l0 / d) (val l0 % d)) := by
  have HR0 := Aside0.mk hr0
  have HC0 := Aside0.mk hc0
  have HL0 := Aside0.mk hL0
  have HM := Aside0.mk hm
  have HD := Aside0.mk (And.intro hd0 hd1)
  have hdb : (d == 0) = false := by rw [beq_eq_false_iff_ne]; omega
  have P0 : Aside0 (0 ≤ (l0.length : Int)) := ⟨by omega⟩
  have hlm : l0.length ≤ 9223372036854775807 := by omega
  have HB := Aside0.mk (Below.refl w.heap.size w)
  clear hr0 hc0 hL0 hm hd0 hd1
  go_enter Tryd.func95, Tryd.ntmps95
  go_wp2_with (first | ((with_reducible refine gate_dst (N := 15) rfl ?_); refine Kd.R_make (Kd.int .u32) _ 152 rfl (N := 15) rfl 78 _ _ rfl (l0.length : Int) rfl rfl Tryd.underlying78 (.int .u32 0) 4 info_u32 rfl (by decide) (by omega) 0 (ok := fun _ => True) (okp := fun _ => True) rfl (fun _ hk => hk) trivial P0.out (by have := HM.out; omega) HB.out (Nat.le_refl _) ?_; intro vo w1 ho hb hg_ hnew_; clear hg_ hnew_ HB; have HB := Aside0.mk hb; have HO := Aside0.mk ho; clear hb ho))
  obtain ⟨Ao, co, eo⟩ := Kd.R_slice HO.out
  rw [List.length_replicate, Int.toNat_natCast] at eo
  rw [Int.toNat_natCast] at HO
  subst eo
  go_loopg [8, 9] (l0.length) (fun kq v8 v9 w' => ∃ (r : Int) (q : List Int), v8 = .int .u32 r ∧ v9 = .int .i64 ((kq : Int) - 1) ∧ Aside0 (OverInv l0 d kq r q) ∧ Aside0 (Kd.R (Kd.int .u32) 152 w' w.heap.size (fun _ => True) (.slice Ao l0.length co) (List.replicate kq 0 ++ q)) ∧ Aside0 (Below w.heap.size w w'))
  case atStart => exact ⟨0, [], rfl, rfl, ⟨OverInv.start l0 HD.out.1⟩, ⟨by rw [List.append_nil]; exact HO.out⟩, HB⟩
  case round =>
    clear HO HB
    obtain ⟨r, q, rfl, rfl, HI, HO, HB⟩ := hrel
    cases gk with
    | zero =>
      have hd := HI.out.done
      have HDn := Aside0.mk hd
      rw [List.replicate_zero, List.nil_append] at HO
      have hrr := Kd.R_reads' HO.out
      have HRR := Aside0.mk hrr
      have HLQ : Aside0 (q.length = l0.length) := ⟨by have := HI.out.1; omega⟩
      clear hd hrr
      go_wp2_with (go_at_call 101; (refine calls_of_args ?_ ((norm_calls Ao co q _ HRR.out.2.2 (by have := HRR.out; omega)).mono ?_)); (case refine_1 => rw [HLQ.out]); rintro e w' ⟨rfl, rfl⟩)
      go_ret3
      exact ⟨_, trim q, by rw [HDn.out.2.1]; rfl, (FrN.of_R' HO.out HB.out).trimmed, trim_nrm HDn.out.2.2, by rw [trim_val]; exact HDn.out.1, HB.out⟩
    | succ k =>
      rw [show ((k + 1 : Nat) : Int) - 1 = (k : Int) by omega]
      have hk : k < l0.length := by have := HI.out.1; omega
      obtain ⟨ad0, e0, hx0⟩ := Kd.at_int HR0.out (k : Int) (by omega) (by omega)
      cases e0
      replace hx0 := (HB.out.cell (World.block_lt_of_cell? w _ hx0)).trans hx0
      simp only [Int.toNat_natCast] at hx0
      have HS := Aside0.mk (HI.out.step HL0.out HD.out.2)
      have BX := Aside0.mk (HL0.out.getD k)
      obtain ⟨g, cq, eo, gb, gl, cl, HG⟩ := Kd.R_form HO.out (by simp; omega)
      injection eo with e1 e2 e3
      subst e1
      subst e3
      clear e2
      have GB := Aside0.mk gb
      clear gb gl cl HG
      obtain ⟨hz, hzf⟩ := Kd.R_celln 0 HO.out (k : Int) (by omega) (by omega)
      rw [Int.toNat_natCast] at hz hzf
      have hset : (List.replicate (k + 1) 0 ++ q).set k ((r * 4294967296 + rd l0 (k : Int)) / d) = List.replicate k 0 ++ ((r * 4294967296 + rd l0 (k : Int)) / d :: q) := by
        rw [List.replicate_succ', List.append_assoc, List.set_append_right _ _ (by simp)]
        simp
      have HPP : Aside0 (Kd.R (Kd.int .u32) 152 (wr.setCell ⟨g, k, none⟩ (.int .u32 ((r * 4294967296 + rd l0 (k : Int)) / d))) w.heap.size (fun _ => True) (.slice (some ⟨g, 0, none⟩) l0.length co) (List.replicate k 0 ++ ((r * 4294967296 + rd l0 (k : Int)) / d :: q))) :=
        ⟨by have h := (Kd.R_putg HO.out (k : Int) ((r * 4294967296 + rd l0 (k : Int)) / d)).1; rw [Int.toNat_natCast, hset] at h; exact h⟩
      have HBS := Aside0.mk (fun v => below_set (g := g) (j := k) HB.out GB.out (v := v))
      have HRB := Aside0.mk (And.intro HI.out.2.2.1 HI.out.2.2.2.1)
      clear hset
      go_wp2_with (go_at_call 153; refine (div32_calls _ _ _ _ HRB.out.1 HRB.out.2 HD.out.2 (by have := BX.out; rw [rd_nat]; omega) (by have := BX.out; rw [rd_nat]; omega)).mono ?_; rintro e w' ⟨rfl, ⟨nd, rfl⟩⟩)
      go_roundg k
      case measure => omega
      case rel => exact ⟨_, _, rfl, rfl, HS, ⟨by first | exact HPP.out | exact Kd.R_drewN HPP.out _⟩, ⟨by first | exact HBS.out _ | exact pw_below_drewN (HBS.out _) _⟩⟩

theorem over_zero (S : Nat → Addr) (A0 : Option Addr) (c0 : Nat) (l0 : List Int) (w : World) (hE : Env S w) :
    Calls Tryd.prog 95 #[.slice A0 l0.length c0, .int .u32 0] w fun e w' => ∃ v, e = .returned (.tuple #[.slice none 0 0, .int .u32 0, v]) ∧ ErrAt S w' 3 [(⟨#[110, 97, 116]⟩, 0)] v ∧ Below w.heap.size w w' := by
  have HE := Aside0.mk hE
  clear hE
  go_enter Tryd.func95, Tryd.ntmps95
  go_wp2_with (go_at_call 126; refine (fnew_calls S _ 0 3 (by unfold Num; omega) _ HE.out).mono ?_; rintro e w' ⟨v, rfl, hv, hb⟩; have HV := Aside0.mk hv; have HB := Aside0.mk hb; clear hv hb)
  go_ret3
  exact ⟨_, rfl, HV.out, HB.out⟩
end Go.Proofs.YtefhlonipglboaaDoor

/- What nat.Bits computes: the count of binary digits. -/
namespace Go.Proofs.YtefhlonipglboaaDoor
open Go.RowKit Go.Proofs.YtefhlonipglboaaDoorW.PrintWords Go.Proofs.YtefhlonipglboaaDoorW.PrintLast Go.Proofs.YtefhlonipglboaaDoorW.PrintMore
set_option linter.unusedVariables false
set_option linter.unusedSimpArgs false

/-- how many binary digits a normal list has -/
def nbits (l : List Int) : Int := if l = [] then 0 else 32 * ((l.length : Int) - 1) + (Lib.bitLen (l.getD (l.length - 1) 0).toNat : Int)
theorem pow32 (n : Nat) : (4294967296 : Int) ^ n = 2 ^ (32 * n) := by
  rw [Int.pow_mul]; rfl
theorem val_last {l : List Int} (h : l ≠ []) : val l = val (l.take (l.length - 1)) + 4294967296 ^ (l.length - 1) * l.getD (l.length - 1) 0 := by
  have hp : 0 < l.length := List.length_pos_iff.2 h
  have h1 := val_take_succ l (l.length - 1) (by omega)
  rw [show l.length - 1 + 1 = l.length by omega, List.take_length] at h1
  exact h1
theorem nbits_spec {l : List Int} (h : Nrm l) (h0 : l ≠ []) : ∃ b : Nat, nbits l = (b : Int) + 1 ∧ (2 : Int) ^ b ≤ val l ∧ val l < 2 ^ (b + 1) := by
  have hp : 0 < l.length := List.length_pos_iff.2 h0
  have hl := tip_last h.2 h0
  have hb := h.1.getD (l.length - 1)
  obtain ⟨x, hx⟩ : ∃ x : Nat, l.getD (l.length - 1) 0 = (x : Int) := ⟨(l.getD (l.length - 1) 0).toNat, by omega⟩
  rw [hx] at hl hb
  have hx0 : x ≠ 0 := by omega
  obtain ⟨b1, b2, b3⟩ := Lib.bitLenAux_bounds 64 x (by omega) hx0
  have hbl : Lib.bitLen x = Lib.bitLenAux 64 x := rfl
  obtain ⟨k, hk⟩ : ∃ k, Lib.bitLen x = k + 1 := ⟨Lib.bitLen x - 1, by omega⟩
  rw [← hbl, hk] at b2 b3
  rw [Nat.add_sub_cancel] at b2
  refine ⟨32 * (l.length - 1) + k, ?_, ?_, ?_⟩
  · unfold nbits
    rw [if_neg h0, hx, Int.toNat_natCast, hk]
    omega
  · rw [val_last h0, hx, pow32, Int.pow_add]
    have h2 := val_nonneg (h.1.take (l.length - 1))
    have h3 : ((2 : Int) ^ k) ≤ (x : Int) := by exact_mod_cast b2
    have h4 : (0 : Int) ≤ 2 ^ (32 * (l.length - 1)) := Int.le_of_lt (Int.pow_pos (by decide))
    have h5 := Int.mul_le_mul_of_nonneg_left h3 h4
    omega
  · rw [val_last h0, hx, pow32, show 32 * (l.length - 1) + k + 1 = 32 * (l.length - 1) + (k + 1) by omega, Int.pow_add]
    have h2 := val_lt (h.1.take (l.length - 1))
    rw [List.length_take, Nat.min_eq_left (by omega), pow32] at h2
    have h3 : (x : Int) + 1 ≤ (2 : Int) ^ (k + 1) := by exact_mod_cast b3
    have h4 : (0 : Int) ≤ 2 ^ (32 * (l.length - 1)) := Int.le_of_lt (Int.pow_pos (by decide))
    have h5 := Int.mul_le_mul_of_nonneg_left h3 h4
    rw [Int.mul_add] at h5
    omega
theorem two_pow_lt {a b : Nat} (h : (2 : Int) ^ a < 2 ^ b) : a < b := by
  rcases Nat.lt_or_ge a b with h1 | h1
  · exact h1
  · exfalso
    have : (2 : Nat) ^ b ≤ 2 ^ a := Nat.pow_le_pow_right (by decide) h1
    have h2 : ((2 : Int) ^ b) ≤ 2 ^ a := by exact_mod_cast this
    omega
theorem nbits_pow {l : List Int} (h : Nrm l) (m : Nat) (hv : val l = 2 ^ m) : nbits l = (m : Int) + 1 := by
  have h0 : l ≠ [] := by
    intro e
    subst e
    have : (0 : Int) < 2 ^ m := Int.pow_pos (by decide)
    simp only [val] at hv
    omega
  obtain ⟨b, h1, h2, h3⟩ := nbits_spec h h0
  rw [hv] at h2 h3
  have h4 := two_pow_lt h3
  have h5 : b < m + 1 := two_pow_lt (by rw [Int.pow_succ]; have : (0 : Int) < 2 ^ m := Int.pow_pos (by decide); omega)
  omega

set_option maxHeartbeats 2000000 in
set_option maxRecDepth 100000 in
theorem bits_calls (A : Option Addr) (c : Nat) (l : List Int) (w : World) (hr : Kd.C (Kd.int .u32) w A l.length l) (hc : l.length ≤ c) (hL : Limbs l) (hm : l.length ≤ 70368744177664) :
    Calls Tryd.prog 96 #[.slice A l.length c] w fun e w' => e = .returned (.int .i64 (nbits (trim l))) ∧ w = w' := by
  have ht := Kd.C_take (m := (trim l).length) hr (trim_length_le l)
  rw [trim_take] at ht
  have hm' : (trim l).length ≤ 70368744177664 := Nat.le_trans (trim_length_le l) hm
  have hcalls := norm_calls A c l w hr hc
  have hN := trim_nrm hL
  have hcc : (trim l).length ≤ c := Nat.le_trans (trim_length_le l) hc
  obtain ⟨t, e0⟩ : ∃ t, trim l = t := ⟨_, rfl⟩
  rw [e0] at ht hm' hcalls hN hcc ⊢
  have HC := Aside0.mk hcalls
  have HN := Aside0.mk hN
  clear hcalls hN hr hc hL hm e0
  by_cases h0 : t = []
  · subst h0
    clear ht hm'
    go_enter Tryd.func96, Tryd.ntmps96
    go_wp2_with fail
    refine HC.out.mono ?_
    rintro e w' ⟨rfl, rfl⟩
    go_wp2_with fail
    go_ret
    exact ⟨rfl, rfl⟩
  · have hp : 0 < t.length := List.length_pos_iff.2 h0
    obtain ⟨n, hn⟩ : ∃ n, t.length = n + 1 := ⟨t.length - 1, by omega⟩
    obtain ⟨ad, e, hx⟩ := Kd.at_int ht (n : Int) (by omega) (by omega)
    subst e
    rw [Int.toNat_natCast] at hx
    have hg : nbits t = 32 * (n : Int) + (Lib.bitLen (rd t (n : Int)).toNat : Int) := by
      unfold nbits
      rw [if_neg h0, hn, Nat.add_sub_cancel, rd_nat]
      omega
    have hb := HN.out.1.getD n
    rw [← rd_nat] at hb
    have HB := Aside0.mk hb
    have hble := Any.bitLen_le32 (rd t (n : Int)) hb.1 (by omega)
    have hLen : (t.length == 0) = false := by rw [beq_eq_false_iff_ne]; omega
    have HG := Aside0.mk hg
    rw [hn] at HC hcc hm' hLen
    obtain ⟨q, hq⟩ : ∃ q, Lib.bitLen (rd t (n : Int)).toNat = q := ⟨_, rfl⟩
    rw [hq] at hble HG
    have w1 : IntKind.i64.wrap ((n : Int) + 1 - 1) = (n : Int) := by rw [IntWalk.i64_in _ (by omega)]; omega
    have w2 : IntKind.i64.wrap (32 * (n : Int)) = 32 * (n : Int) := IntWalk.i64_in _ (by omega)
    have w3 : IntKind.i64.wrap (32 * (n : Int) + (q : Int)) = 32 * (n : Int) + (q : Int) := IntWalk.i64_in _ (by omega)
    have HQ := Aside0.mk hq
    clear hq hg hb ht h0 hp hn
    go_enter Tryd.func96, Tryd.ntmps96
    go_wp2_with fail
    refine HC.out.mono ?_
    rintro e w' ⟨rfl, rfl⟩
    go_wp2_with fail
    refine (Tryd.bits_Len32 _ _ HB.out.1 (by have := HB.out.2; omega)).mono ?_
    rintro e w' ⟨rfl, rfl⟩
    rw [HQ.out]
    go_wp2_with fail
    go_ret
    refine ⟨?_, rfl⟩
    first | rw [HG.out]; rfl | (rw [HG.out]; simp [w1, w2, w3])

end Go.Proofs.YtefhlonipglboaaDoor

/- rule.From: the small rule of a number. -/
namespace Go.Proofs.YtefhlonipglboaaDoor
open Go.RowKit Go.Extern.Stop Go.Stop Go.Extern Go.Proofs.YtefhlonipglboaaDoorW.PrintWords Go.Proofs.YtefhlonipglboaaDoorW.PrintLast Go.Proofs.YtefhlonipglboaaDoorW.PrintMore
set_option linter.unusedVariables false
set_option linter.unusedSimpArgs false

/-- the i lowest digits in base k, the lowest first -/
def dgs (k x : Int) : Nat → List Int
  | 0 => []
  | i + 1 => dgs k x i ++ [x / k ^ i % k]
theorem dgs_len (k x : Int) : ∀ i, (dgs k x i).length = i
  | 0 => rfl
  | i + 1 => by rw [dgs, List.length_append, dgs_len k x i]; rfl
/-- what rule.From says of a number -/
def fromO (k r x : Int) : Fr := if KR k r then (if 256 < nwin k r then some (4, [(ruleS, 0)]) else if 0 < x / k ^ (nwin k r).toNat then some (3, [(ruleS, 1)]) else none) else some (3, [(ruleS, 0)])
def fromV (k r x : Int) : Int × Int × List Int := match fromO k r x with
  | some _ => (0, 0, [])
  | none => (k, r, dgs k x (nwin k r).toNat)
/-- an answer that is a rule, and an error -/
def AnsR (S : Nat → Addr) (w : World) (o : Fr) (q : Int × Int × List Int) (e : Ending) (w' : World) : Prop :=
  ∃ A c u, e = .returned (.tuple #[.agg #[.int .i64 q.1, .int .i64 q.2.1, .slice A q.2.2.length c], u]) ∧ q.2.2.length ≤ c ∧ Kd.F (Kd.int .i64) w' (fun k => w.heap.size ≤ k) A q.2.2.length q.2.2 ∧ ErrV S w' u o ∧ Below w.heap.size w w'
theorem resR2 {fn : Func} {p q : Tmp} {tmps : Array Value} {w : World} {b : Nat} {k r : Int} {s : Value} (hB : BoxR w b k r s) (h : fn.results = #[.cell p tRule, .tmp q]) (hp : tmps.getD p undef = .pointer (some ⟨b, 0, none⟩)) :
    (results fn tmps).run Tryd.prog w = .ok (.tuple #[.agg #[.int .i64 k, .int .i64 r, s], tmps.getD q undef]) w := by
  have hp' : tmps[p]?.getD undef = .pointer (some ⟨b, 0, none⟩) := by simpa using hp
  simp [results, h, hp', asAddr, run_loadVar_row w b tRule tRule #[.int .i64 k, .int .i64 r, s] (0, 0) _ hB Tryd.underlying24 rfl info_rule]
theorem BoxR.far {w : World} {b : Nat} {k r : Int} {s : Value} (h : BoxR w b k r s) {p : Addr} (hp : p.block ≠ b) (u : Value) : BoxR (w.setCell p u) b k r s := (Below.heap_setCell w p u b (Ne.symm hp)).trans h
theorem cell_put3 {w : World} {b c i : Nat} (h : c ≠ b) (x y z : Value) : (put3 w b x y z).cell? ⟨c, i, none⟩ = w.cell? ⟨c, i, none⟩ := by
  have hne : ∀ j, (⟨b, j, none⟩ : Addr) ≠ ⟨c, i, none⟩ := fun j e => h (by injection e with e1; exact e1.symm)
  show (((w.setCell ⟨b, 0, none⟩ x).setCell ⟨b, 1, none⟩ y).setCell ⟨b, 2, none⟩ z).cell? ⟨c, i, none⟩ = _
  rw [sc_other (hne 2), sc_other (hne 1), sc_other (hne 0)]
/-- an error isn't touched by a store into a box that holds a number in its first cell -/
theorem ErrAt.put3 {S : Nat → Addr} {w : World} {n b : Nat} {q : Int} (hc : w.cell? ⟨b, 0, none⟩ = some (.int .i64 q)) (x y z : Value) : ∀ {l : List (ByteArray × Int)} {v : Value}, ErrAt S w n l v → ErrAt S (Go.Proofs.YtefhlonipglboaaDoor.put3 w b x y z) n l v
  | [], _, h => h
  | p :: rest, v, ⟨g, v', h1, h2, h3, h4, h5⟩ => by
    have hne : g ≠ b := by
      intro e
      subst e
      rw [hc] at h2
      cases h2
    exact ⟨g, v', h1, by rw [cell_put3 hne]; exact h2, by rw [cell_put3 hne]; exact h3, by rw [cell_put3 hne]; exact h4, ErrAt.put3 hc x y z h5⟩
theorem ErrV.put3 {S : Nat → Addr} {w : World} {b : Nat} {q : Int} {v : Value} {o : Fr} (h : ErrV S w v o) (hc : w.cell? ⟨b, 0, none⟩ = some (.int .i64 q)) (x y z : Value) : ErrV S (Go.Proofs.YtefhlonipglboaaDoor.put3 w b x y z) v o := by
  cases o with
  | none => exact h
  | some p => exact ⟨h.1, h.2.1, h.2.2.put3 hc x y z⟩
theorem F_put3 {α : Type} {d : Kd α} {w : World} {b n : Nat} {A : Option Addr} {xs : List α} {ok : Nat → Prop} (h : Kd.F d w ok A n xs) (hk : ∀ k, ok k → k ≠ b) (x y z : Value) : Kd.F d (put3 w b x y z) ok A n xs :=
  Kd.F_far (Kd.F_far (Kd.F_far h (p := ⟨b, 0, none⟩) hk x) (p := ⟨b, 1, none⟩) hk y) (p := ⟨b, 2, none⟩) hk z
theorem div_pow_succ (x k : Int) (i : Nat) (hk : 0 < k) : x / k ^ i / k = x / k ^ (i + 1) := by
  rw [Int.pow_succ, Int.ediv_ediv_of_nonneg (Int.le_of_lt (Int.pow_pos hk))]
theorem div_le_self' (x k : Int) (i : Nat) (hx : 0 ≤ x) (hk : 0 < k) : 0 ≤ x / k ^ i ∧ x / k ^ i ≤ x := by
  have hp : 0 < k ^ i := Int.pow_pos hk
  exact ⟨Int.ediv_nonneg hx (Int.le_of_lt hp), Int.ediv_le_self _ hx⟩
theorem set_dgs (k x : Int) (n i : Nat) (hi : i < n) : (dgs k x i ++ List.replicate (n - i) 0).set i (x / k ^ i % k) = dgs k x (i + 1) ++ List.replicate (n - (i + 1)) 0 := by
  have h := dgs_len k x i
  rw [List.set_append_right _ _ (by omega), h, Nat.sub_self, show n - i = (n - (i + 1)) + 1 by omega, List.replicate_succ, List.set_cons_zero, dgs, List.append_assoc]
  rfl
theorem nbits_iff {l : List Int} (h : Nrm l) : (0 < nbits l) ↔ 0 < val l := by
  by_cases h0 : l = []
  · subst h0; simp [nbits, val]
  · obtain ⟨b, h1, h2, _⟩ := nbits_spec h h0
    have : (0 : Int) < 2 ^ b := Int.pow_pos (by decide)
    omega

set_option maxHeartbeats 8000000 in
set_option maxRecDepth 100000 in
theorem from_bad (S : Nat → Addr) (k r : Int) (A : Option Addr) (c : Nat) (l : List Int) (w : World) (hE : Env S w) (h : ¬ KR k r) :
    Calls Tryd.prog 47 #[.int .i64 k, .int .i64 r, .slice A l.length c] w (AnsR S w (some (3, [(ruleS, 0)])) (0, 0, [])) := by
  have HK := Aside0.mk h
  have HE := Aside0.mk hE
  clear hE
  clear h
  obtain ⟨w0, hw0⟩ : ∃ w0, w.alloc (.cells #[.int .i64 0, .int .i64 0, .slice none 0 0] tRule) = w0 := ⟨_, rfl⟩
  obtain ⟨b, hb0⟩ : ∃ b, w.heap.size = b := ⟨_, rfl⟩
  have HB0 := Aside0.mk (show Below w.heap.size w w0 by rw [← hw0]; exact below_alloc (Below.refl _ _) _)
  have HBX := Aside0.mk (show BoxR w0 b 0 0 (.slice none 0 0) by rw [← hw0, ← hb0]; exact BoxR.new _ _ _ _)
  have HLE := Aside0.mk (show w.heap.size ≤ b by omega)
  go_enter Tryd.func47, Tryd.ntmps47
  go_wp2_with fail
  clear hw0 hb0
  refine (size_calls S k r w0 ((HE.out).below (HB0.out))).mono ?_
  rintro e w1 ⟨n, u, rfl, hu, hn, hb⟩
  have HB1 := Aside0.mk (hb)
  clear hb
  rw [if_neg HK.out] at hu hn
  subst hn
  obtain ⟨ut, ux, rfl⟩ := hu.2.2.form
  have HU := Aside0.mk hu
  clear hu
  obtain ⟨k0, k1, k2⟩ := (((HBX.out).below (HB1.out))).cells
  obtain ⟨z0, z1, z2⟩ := (((HBX.out).below (HB1.out))).fr
  have HX2 := Aside0.mk ((((HBX.out).below (HB1.out))).put 0 0 (.slice none 0 0))
  go_wp2_with fail
  (try simp only [Exit.inBlock, Exit.then]); refine bodyPost_ret (resR2 HX2.out rfl rfl) rfl ?_
  exact ⟨none, 0, _, rfl, Nat.le_refl _, Kd.F_nil _ _ _, ErrV.put3 (HU.out) k0 _ _ _, below_put3 (below_step (HB0.out) HB1.out) HLE.out _ _ _⟩
set_option maxHeartbeats 8000000 in
set_option maxRecDepth 100000 in
theorem from_big (S : Nat → Addr) (k r : Int) (A : Option Addr) (c : Nat) (l : List Int) (w : World) (hE : Env S w) (h : KR k r) (hbig : 256 < nwin k r) :
    Calls Tryd.prog 47 #[.int .i64 k, .int .i64 r, .slice A l.length c] w (AnsR S w (some (4, [(ruleS, 0)])) (0, 0, [])) := by
  have hwin := h.win
  obtain ⟨nw, hnw⟩ : ∃ nw, nwin k r = nw := ⟨_, rfl⟩
  rw [hnw] at hbig hwin
  have d1 : decide (256 < nw) = true := decide_eq_true hbig
  have HK := Aside0.mk h
  have HNW := Aside0.mk hnw
  have HE := Aside0.mk hE
  clear hE
  clear h hnw
  obtain ⟨w0, hw0⟩ : ∃ w0, w.alloc (.cells #[.int .i64 0, .int .i64 0, .slice none 0 0] tRule) = w0 := ⟨_, rfl⟩
  obtain ⟨b, hb0⟩ : ∃ b, w.heap.size = b := ⟨_, rfl⟩
  have HB0 := Aside0.mk (show Below w.heap.size w w0 by rw [← hw0]; exact below_alloc (Below.refl _ _) _)
  have HBX := Aside0.mk (show BoxR w0 b 0 0 (.slice none 0 0) by rw [← hw0, ← hb0]; exact BoxR.new _ _ _ _)
  have HLE := Aside0.mk (show w.heap.size ≤ b by omega)
  go_enter Tryd.func47, Tryd.ntmps47
  go_wp2_with fail
  clear hw0 hb0
  refine (size_calls S k r w0 ((HE.out).below (HB0.out))).mono ?_
  rintro e w1 ⟨n, u, rfl, hu, hn, hb⟩
  have HB1 := Aside0.mk (hb)
  clear hb
  rw [if_pos HK.out] at hu hn
  rw [HNW.out] at hn
  subst hn
  have hu' : u = .nilIface := hu
  subst hu'
  clear hu
  go_wp2_with fail
  refine (wrongRule_calls S 0 4 (by unfold Num; omega) w1 (((HE.out).below (HB0.out)).below (HB1.out))).mono ?_
  rintro e w2 ⟨v, rfl, hv, hb⟩
  have HB2 := Aside0.mk (hb)
  have HV := Aside0.mk hv
  clear hb hv
  obtain ⟨k0, k1, k2⟩ := ((((HBX.out).below (HB1.out)).below (HB2.out))).cells
  obtain ⟨z0, z1, z2⟩ := ((((HBX.out).below (HB1.out)).below (HB2.out))).fr
  have HX2 := Aside0.mk (((((HBX.out).below (HB1.out)).below (HB2.out))).put 0 0 (.slice none 0 0))
  go_wp2_with fail
  (try simp only [Exit.inBlock, Exit.then]); refine bodyPost_ret (resR2 HX2.out rfl rfl) rfl ?_
  exact ⟨none, 0, _, rfl, Nat.le_refl _, Kd.F_nil _ _ _, ErrV.put3 (HV.out) k0 _ _ _, below_put3 (below_step (below_step (HB0.out) HB1.out) HB2.out) HLE.out _ _ _⟩

set_option maxHeartbeats 8000000 in
set_option maxRecDepth 100000 in
theorem from_ok (S : Nat → Addr) (k r : Int) (A : Option Addr) (c : Nat) (l : List Int) (w : World) (hE : Env S w) (hr : Kd.C (Kd.int .u32) w A l.length l) (hc : l.length ≤ c) (hL : Limbs l) (hml : l.length ≤ 1000000) (h : KR k r) (hsm : nwin k r ≤ 256) :
    Calls Tryd.prog 47 #[.int .i64 k, .int .i64 r, .slice A l.length c] w (AnsR S w (fromO k r (val l)) (fromV k r (val l))) := by
  have hwin := h.win
  have hfo : fromO k r (val l) = if 0 < val l / k ^ (nwin k r).toNat then some (3, [(ruleS, 1)]) else none := by unfold fromO; rw [if_pos h, if_neg (by omega)]
  obtain ⟨n, hn⟩ : ∃ n : Nat, (nwin k r).toNat = n := ⟨_, rfl⟩
  have hnw : nwin k r = (n : Int) := by omega
  have hfv : fromV k r (val l) = match fromO k r (val l) with | some _ => (0, 0, []) | none => (k, r, dgs k (val l) n) := by unfold fromV; rw [hn]
  rw [hn] at hfo
  have d1 : decide ((256 : Int) < n) = false := decide_eq_false (by omega)
  have hn1 : 1 ≤ n := by omega
  have hn2 : n ≤ 256 := by omega
  have hk := h
  obtain ⟨k1, k2, r1, r2⟩ := hk
  have hx0 := val_nonneg hL
  have HK := Aside0.mk h
  have HNW := Aside0.mk hnw
  have HFO := Aside0.mk hfo
  have HFV := Aside0.mk hfv
  have HE := Aside0.mk hE
  have HR := Aside0.mk hr
  have HC0 := Aside0.mk hc
  have HL0 := Aside0.mk hL
  have HML := Aside0.mk hml
  clear hE hr hc hL hml
  clear h hnw hfo hfv hn hwin hsm
  obtain ⟨w0, hw0⟩ : ∃ w0, w.alloc (.cells #[.int .i64 0, .int .i64 0, .slice none 0 0] tRule) = w0 := ⟨_, rfl⟩
  obtain ⟨b, hb0⟩ : ∃ b, w.heap.size = b := ⟨_, rfl⟩
  have HB0 := Aside0.mk (show Below w.heap.size w w0 by rw [← hw0]; exact below_alloc (Below.refl _ _) _)
  have HBX := Aside0.mk (show BoxR w0 b 0 0 (.slice none 0 0) by rw [← hw0, ← hb0]; exact BoxR.new _ _ _ _)
  have HLE := Aside0.mk (show w.heap.size ≤ b by omega)
  go_enter Tryd.func47, Tryd.ntmps47
  go_wp2_with fail
  clear hw0 hb0
  refine (size_calls S k r w0 ((HE.out).below (HB0.out))).mono ?_
  rintro e w1 ⟨nn, u, rfl, hu, hn, hb⟩
  have HB1 := Aside0.mk (hb)
  clear hb
  rw [if_pos HK.out] at hu hn
  rw [HNW.out] at hn
  subst hn
  have hu' : u = .nilIface := hu
  subst hu'
  clear hu
  have HBM := Aside0.mk (below_step (HB0.out) HB1.out)
  go_wp2_with ((with_reducible refine gate_dst (N := 32) rfl ?_); refine print_hold ?_)
  unfold Hold
  refine Kd.R_make (Kd.int .i64) _ 3 rfl (N := 32) rfl 22 _ _ rfl (n : Int) rfl rfl Tryd.underlying22 (.int .i64 0) 8 info_i64 rfl (by decide) (by omega) 0 (ok := fun _ => True) (okp := fun _ => False) rfl (fun _ hk => hk.elim) trivial (by omega) (by rw [Int.toNat_natCast]; omega) HBM.out HBM.out.size ?_
  intro vo w2 ho hb hg_ hnew_
  rw [Int.toNat_natCast] at ho
  obtain ⟨g, co, eo, gb, gl, cl, HG⟩ := Kd.R_form ho (by simp; omega)
  rw [List.length_replicate] at eo
  subst eo
  have hb2 := (Below.refl _ _).grown hg_ (Nat.le_refl _) (fun k hk => by cases hk)
  have HO := Aside0.mk ho
  have HBO := Aside0.mk hb2
  have GB := Aside0.mk gb
  have GL := Aside0.mk gl
  have HGB := Aside0.mk HG
  clear ho hb hb2 hg_ hnew_ gb gl HG
  obtain ⟨wx1, hwx⟩ : ∃ wx, (w2).alloc (.cells #[.int .i64 k, .int .i64 r, .slice (some ⟨g, 0, none⟩) n co] tRule) = wx := ⟨_, rfl⟩
  obtain ⟨bx1, hbx⟩ : ∃ bx, (w2).heap.size = bx := ⟨_, rfl⟩
  have HBW1 := Aside0.mk (show Below (w2).heap.size w2 wx1 by rw [← hwx]; exact below_alloc (Below.refl _ _) _)
  have HBR1 := Aside0.mk (show BoxR wx1 bx1 k r (.slice (some ⟨g, 0, none⟩) n co) by rw [← hwx, ← hbx]; exact BoxR.new _ _ _ _)
  obtain ⟨q0, q1, q2⟩ := HBR1.out.cells
  go_wp2_with fail
  clear hwx hbx
  have hgx : g ≠ bx1 := by
    have h1 : wx1.heap[bx1]? = _ := HBR1.out
    have h2 := HGB.out
    exact blk_ne ((HBW1.out.block g GL.out).trans h2) h1 (by decide)
  have hgb : g ≠ b := by
    have h2 := HGB.out
    have h1 := (((((HBX.out).below (HB1.out)).below (HBO.out)).below (HBW1.out)))
    exact blk_ne ((HBW1.out.block g GL.out).trans h2) h1 (by decide)
  have HGX := Aside0.mk hgx
  have GB0 := Aside0.mk (show w.heap.size ≤ g from GB.out)
  have HCO : Aside0 (n ≤ co) := ⟨by have := (Kd.R_reads' HO.out).2.1; simpa using this⟩
  have HGBN := Aside0.mk hgb
  have HO2 := Aside0.mk (Kd.R_below HO.out HBW1.out)
  have HBX2 := Aside0.mk (((((HBX.out).below (HB1.out)).below (HBO.out)).below (HBW1.out)))
  have HB2 := Aside0.mk (below_step (below_step (below_step (HB0.out) HB1.out) HBO.out) HBW1.out)
  clear hgx hgb q0 q1 q2
  go_loopg [37, 2] n (fun kq v37 v2 w' => ∃ (i : Nat) (Ac : Option Addr) (cc : Nat) (lc : List Int), v37 = .int .i64 i ∧ v2 = .slice Ac lc.length cc ∧ i + kq = n ∧ Aside0 (lc.length ≤ cc ∧ Kd.C (Kd.int .u32) w' Ac lc.length lc) ∧ Aside0 (Limbs lc ∧ val lc = val l / k ^ i ∧ lc.length ≤ 1000000)
    ∧ Aside0 (Kd.R (Kd.int .i64) 3 w' w.heap.size (fun _ => True) (.slice (some ⟨g, 0, none⟩) n co) (dgs k (val l) i ++ List.replicate (n - i) 0)) ∧ Aside0 (BoxR w' bx1 k r (.slice (some ⟨g, 0, none⟩) n co)) ∧ Aside0 (BoxR w' b 0 0 (.slice none 0 0)) ∧ Aside0 (Below w.heap.size w w' ∧ g < w'.heap.size))
  case atStart => exact ⟨0, A, c, l, rfl, rfl, by omega, ⟨HC0.out, Kd.C_below HR.out HB2.out⟩, ⟨HL0.out, by simp, HML.out⟩, ⟨by simpa [dgs] using HO2.out⟩, HBR1, HBX2, ⟨HB2.out, by have := GL.out; have := HBW1.out.size; omega⟩⟩
  case round =>
    obtain ⟨i, Ac, cc, lc, rfl, rfl, hk, HLC, HLV, HOO, HRR, HXX, HBG⟩ := hrel
    have HBB := Aside0.mk HBG.out.1
    have GLW := Aside0.mk HBG.out.2
    by_cases hlt : i < n
    · obtain ⟨kq, rfl⟩ : ∃ kq, gk = kq + 1 := ⟨gk - 1, by omega⟩
      go_wp2_with fail
      refine (over_calls Ac cc lc k wr HLC.out.2 HLC.out.1 HLV.out.1 (by have := HLV.out.2.2; omega) (by omega) (by omega)).mono ?_
      rintro e w4 ⟨v, lq, rfl, hf, hnq, hvq, hb⟩
      obtain ⟨Aq, cq, rfl⟩ := Kd.V_slice hf
      have HQ := Aside0.mk (Kd.V_reads' hf)
      have HQFF := Aside0.mk (Kd.F_below (Kd.V_at hf).2.2 (below_drew (Below.refl _ _)))
      have HQN := Aside0.mk hnq
      have HQV := Aside0.mk hvq
      have hq0 : 0 ≤ val lc % k := Int.emod_nonneg _ (by omega)
      have hq1 : val lc % k < k := Int.emod_lt_of_pos _ (by omega)
      have HD : Aside0 (val lc % k = val l / k ^ i % k) := ⟨by rw [HLV.out.2.1]⟩
      obtain ⟨d, hd⟩ : ∃ d, val lc % k = d := ⟨_, rfl⟩
      rw [hd] at hq0 hq1 HD ⊢
      have HOO4 := Aside0.mk (Kd.R_below HOO.out hb)
      have HRR4 := Aside0.mk (HRR.out.below hb)
      have HXX4 := Aside0.mk (HXX.out.below hb)
      have HBB4 := Aside0.mk (below_step HBB.out hb)
      have HBW4 := Aside0.mk hb
      clear hf hnq hvq hb hd
      go_wp2_with fail
      have hbq : Below w4.heap.size w4 w4.drew := below_drew (Below.refl _ _)
      have HOO5 := Aside0.mk (Kd.R_below HOO4.out hbq)
      have HRR5 := Aside0.mk (HRR4.out.below hbq)
      have HXX5 := Aside0.mk (HXX4.out.below hbq)
      have HBB5 := Aside0.mk (below_step HBB4.out hbq)
      have HQ5 := Aside0.mk (Kd.C_below HQ.out.2.2 hbq)
      obtain ⟨hc, hf⟩ := Kd.R_celln 0 HOO5.out (i : Int) (by omega) (by omega)
      rw [Int.toNat_natCast] at hc hf
      have HS1 := Aside0.mk HRR5.out.cells.2.2
      have HS2 : Aside0 (∀ v, (w4.drew.setCell ⟨g, i, none⟩ v).cell? ⟨bx1, 2, none⟩ = some (.slice (some ⟨g, 0, none⟩) n co)) := ⟨fun v => (HRR5.out.far HGX.out v).cells.2.2⟩
      have hbs : ∀ v, Below w.heap.size w (w4.drew.setCell ⟨g, i, none⟩ v) := fun v => HBB5.out.setCell (p := ⟨g, i, none⟩) (by exact GB0.out) v
      have HBS := Aside0.mk hbs
      have GL5 : Aside0 (∀ v, g < (w4.drew.setCell ⟨g, i, none⟩ v).heap.size) := ⟨fun v => by have h1 := GLW.out; have h2 := HBW4.out.size; have h3 : (w4.drew.setCell ⟨g, i, none⟩ v).heap.size = w4.heap.size := (by simp [World.setCell]); omega⟩
      have hpt := (Kd.R_putg HOO5.out (i : Int) (val l / k ^ i % k)).1
      rw [Int.toNat_natCast, set_dgs k (val l) n i hlt, ← HD.out] at hpt
      have HPT := Aside0.mk hpt
      have hlen : lq.length ≤ lc.length := nrm_length HQN.out (by rw [HQV.out]; exact Int.lt_of_le_of_lt (Int.ediv_le_self _ (val_nonneg HLV.out.1)) (val_lt HLV.out.1))
      have HLQ : Aside0 (Limbs lq ∧ val lq = val l / k ^ (i + 1) ∧ lq.length ≤ 1000000) := ⟨⟨HQN.out.1, by rw [HQV.out, HLV.out.2.1, div_pow_succ _ _ _ (by omega)], by have := HLV.out.2.2; omega⟩⟩
      have HQF : Aside0 (∀ v, Kd.C (Kd.int .u32) (w4.drew.setCell ⟨g, i, none⟩ v) Aq lq.length lq) := ⟨fun v => Kd.F_now (Kd.F_far HQFF.out (p := ⟨g, i, none⟩) (fun q hq => by have h1 : wr.heap.size ≤ q := hq; have := GLW.out; show q ≠ g; omega) v)⟩
      clear hbq hbs hpt hlen
      go_region_held3 (fun w' => w'.cell? ⟨bx1, 2, none⟩ = some (.slice (some ⟨g, 0, none⟩) n co)) (first | exact HS1.out | exact HS2.out _) (fail)
      go_wp2_with fail
      go_roundg kq
      case measure => omega
      case rel => exact ⟨i + 1, Aq, cq, lq, by go_num, rfl, by omega, ⟨HQ.out.2.1, HQF.out _⟩, HLQ, HPT, ⟨HRR5.out.far HGX.out _⟩, ⟨HXX5.out.far HGBN.out _⟩, ⟨HBS.out _, GL5.out _⟩⟩
    · obtain rfl : i = n := by omega
      have hv0 := val_nonneg HLV.out.1
      have hnb := nbits_iff (trim_nrm HLV.out.1)
      rw [trim_val] at hnb
      obtain ⟨nb, hnbe⟩ : ∃ nb, nbits (trim lc) = nb := ⟨_, rfl⟩
      rw [hnbe, HLV.out.2.1] at hnb
      have HNBE := Aside0.mk hnbe
      obtain ⟨k0, k1', k2'⟩ := HXX.out.cells
      obtain ⟨z0, z1, z2⟩ := HXX.out.fr
      by_cases hpos : 0 < val l / k ^ i
      · have hnp := hnb.2 hpos
        have d3 : decide (0 < nb) = true := decide_eq_true hnp
        have hfo : fromO k r (val l) = some (3, [(ruleS, 1)]) := by rw [HFO.out, if_pos hpos]
        have hfv : fromV k r (val l) = (0, 0, []) := by rw [HFV.out, hfo]
        have HF1 := Aside0.mk hfo
        have HF2 := Aside0.mk hfv
        clear hnb hnp hpos hfo hfv hnbe hv0
        go_wp2_with fail
        refine (bits_calls Ac cc lc wr HLC.out.2 HLC.out.1 HLV.out.1 (by have := HLV.out.2.2; omega)).mono ?_
        rintro e w4 ⟨rfl, rfl⟩
        rw [HNBE.out]
        go_wp2_with fail
        refine (wrongRule_calls S 1 3 (by unfold Num; omega) wr (HE.out.below HBB.out)).mono ?_
        rintro e w4 ⟨v, rfl, hv, hb⟩
        have HV := Aside0.mk hv
        have HX4 := Aside0.mk (HXX.out.below hb)
        have HX2 := Aside0.mk ((HXX.out.below hb).put 0 0 (.slice none 0 0))
        have HB4 := Aside0.mk (below_step HBB.out hb)
        obtain ⟨k0, k1', k2'⟩ := HX4.out.cells
        obtain ⟨z0, z1, z2⟩ := HX4.out.fr
        clear hv hb
        go_wp2_with fail
        (try simp only [Exit.inBlock, Exit.then]); refine bodyPost_ret (resR2 HX2.out rfl rfl) rfl ?_
        rw [HF2.out, HF1.out]
        exact ⟨none, 0, _, rfl, Nat.le_refl _, Kd.F_nil _ _ _, ErrV.put3 HV.out k0 _ _ _, below_put3 HB4.out HLE.out _ _ _⟩
      · have hnp : ¬ 0 < nb := fun h => hpos (hnb.1 h)
        have d3 : decide (0 < nb) = false := decide_eq_false hnp
        have hfo : fromO k r (val l) = none := by rw [HFO.out, if_neg hpos]
        have hfv : fromV k r (val l) = (k, r, dgs k (val l) i) := by rw [HFV.out, hfo]
        have HF1 := Aside0.mk hfo
        have HF2 := Aside0.mk hfv
        obtain ⟨q0, q1, q2⟩ := HRR.out.cells
        have HX2 := Aside0.mk (HXX.out.put k r (.slice (some ⟨g, 0, none⟩) i co))
        clear hnb hnp hpos hfo hfv hnbe hv0
        go_wp2_with fail
        refine (bits_calls Ac cc lc wr HLC.out.2 HLC.out.1 HLV.out.1 (by have := HLV.out.2.2; omega)).mono ?_
        rintro e w4 ⟨rfl, rfl⟩
        rw [HNBE.out]
        go_wp2_with fail
        (try simp only [Exit.inBlock, Exit.then]); refine bodyPost_ret (resR2 HX2.out rfl rfl) rfl ?_
        rw [HF2.out, HF1.out]
        refine ⟨some ⟨g, 0, none⟩, co, _, ?_, ?_, ?_, rfl, below_put3 HBB.out HLE.out _ _ _⟩
        · show _ = Ending.returned (.tuple #[.agg #[.int .i64 k, .int .i64 r, .slice (some ⟨g, 0, none⟩) (dgs k (val l) i).length co], .nilIface])
          rw [dgs_len]; rfl
        · show (dgs k (val l) i).length ≤ co
          rw [dgs_len]; exact HCO.out
        · show Kd.F (Kd.int .i64) _ _ (some ⟨g, 0, none⟩) (dgs k (val l) i).length (dgs k (val l) i)
          rw [dgs_len]
          have hho := HOO.out
          rw [Nat.sub_self, List.replicate_zero, List.append_nil] at hho
          have htg := Kd.R_F (Kd.R_tight rfl hho)
          have hkg : ∀ q, some q = (Value.slice (some ⟨g, 0, none⟩) i co).ownBlock → q = g := fun q hq => by simpa [Value.ownBlock] using hq
          exact Kd.F_mono (F_put3 htg (fun q hq => by have h1 := hkg q hq; have h2 := HGBN.out; omega) _ _ _) (fun q hq => by have h1 := hkg q hq; have h2 := GB0.out; omega)
theorem from_calls (S : Nat → Addr) (k r : Int) (A : Option Addr) (c : Nat) (l : List Int) (w : World) (hE : Env S w) (hr : Kd.C (Kd.int .u32) w A l.length l) (hc : l.length ≤ c) (hL : Limbs l) (hml : l.length ≤ 1000000) :
    Calls Tryd.prog 47 #[.int .i64 k, .int .i64 r, .slice A l.length c] w (AnsR S w (fromO k r (val l)) (fromV k r (val l))) := by
  by_cases h : KR k r
  · by_cases hb : 256 < nwin k r
    · have h1 : fromO k r (val l) = some (4, [(ruleS, 0)]) := by unfold fromO; rw [if_pos h, if_pos hb]
      have h2 : fromV k r (val l) = (0, 0, []) := by unfold fromV; rw [h1]
      rw [h2, h1]
      exact from_big S k r A c l w hE h hb
    · exact from_ok S k r A c l w hE hr hc hL hml h (by omega)
  · have h1 : fromO k r (val l) = some (3, [(ruleS, 0)]) := by unfold fromO; rw [if_neg h]
    have h2 : fromV k r (val l) = (0, 0, []) := by unfold fromV; rw [h1]
    rw [h2, h1]
    exact from_bad S k r A c l w hE h
end Go.Proofs.YtefhlonipglboaaDoor
