/- edenlaw04.RuleSteps returns true whatever rule and words are handed in. (Part 2 of 3: LentR, Step, Img, RuleRef, RuleRef2, StepRef, Local, LocalRef, RuleSize, StepsWalk, Head.) -/
import Derived.Deep.RegionHeld3
import Derived.Test.YtefhlonipglboaaDoorPedenref04Image
import Derived.Deep.QuietTactic
import Derived.BigQuiet
import Derived.Test.YtefhlonipglboaaDoorBRuleSteps1
/- edenraw.LentRule, KeptRule, Rules. -/
namespace Go.Proofs.YtefhlonipglboaaDoor
open Go.RowKit Go.Extern.Stop Go.Stop Go.Extern Go.Proofs.YtefhlonipglboaaDoorW.PrintWords Go.Proofs.YtefhlonipglboaaDoorW.PrintLast Go.Proofs.YtefhlonipglboaaDoorW.PrintMore
set_option linter.unusedVariables false
set_option linter.unusedSimpArgs false

theorem sz_alloc' (W : World) (o : Obj) : (W.alloc o).heap.size = W.heap.size + 1 := by simp
theorem info_rule : (Tryd.prog.info? tRule).map (·.size) = some 3 := by kernel_rfl
theorem BoxR.fr {w : World} {b : Nat} {k r : Int} {s : Value} (h : BoxR w b k r s) : w.frozen? ⟨b, 0, none⟩ = false ∧ w.frozen? ⟨b, 1, none⟩ = false ∧ w.frozen? ⟨b, 2, none⟩ = false := by
  unfold BoxR at h
  refine ⟨?_, ?_, ?_⟩ <;> simp [World.frozen?, h]
theorem BoxR.lt {w : World} {b : Nat} {k r : Int} {s : Value} (h : BoxR w b k r s) : b < w.heap.size := blk_lt h
theorem BoxR.put {w : World} {b : Nat} {k r : Int} {s : Value} (h : BoxR w b k r s) (k' r' : Int) (s' : Value) : BoxR (Go.Proofs.YtefhlonipglboaaDoor.put3 w b (.int .i64 k') (.int .i64 r') s') b k' r' s' := by
  have h1 : (w.setCell ⟨b, 0, none⟩ (.int .i64 k')).heap[b]? = some (.cells #[.int .i64 k', .int .i64 r, s] tRule (0, 0)) := blk_set h 0 (.int .i64 k')
  have h2 : ((w.setCell ⟨b, 0, none⟩ (.int .i64 k')).setCell ⟨b, 1, none⟩ (.int .i64 r')).heap[b]? = some (.cells #[.int .i64 k', .int .i64 r', s] tRule (0, 0)) := blk_set h1 1 (.int .i64 r')
  exact blk_set h2 2 s'
theorem resR1 {fn : Func} {p : Tmp} {tmps : Array Value} {w : World} {b : Nat} {k r : Int} {s : Value} (hB : BoxR w b k r s) (h : fn.results = #[.cell p tRule]) (hp : tmps.getD p undef = .pointer (some ⟨b, 0, none⟩)) :
    (results fn tmps).run Tryd.prog w = .ok (.agg #[.int .i64 k, .int .i64 r, s]) w :=
  results_cell_row h tmps w b tRule #[.int .i64 k, .int .i64 r, s] (0, 0) _ hp hB Tryd.underlying24 rfl info_rule

set_option maxHeartbeats 4000000 in
set_option maxRecDepth 100000 in
theorem lentR_calls (k r : Int) (A : Option Addr) (c : Nat) (t : List Int) (w : World) (hr : Kd.C (Kd.int .i64) w A t.length t) (ht : t.length + 2 ≤ 17592186044416) :
    Calls Tryd.prog 13 #[.agg #[.int .i64 k, .int .i64 r, .slice A t.length c]] w fun e w' => ∃ v, e = .returned (.agg #[.int .i64 k, .int .i64 r, v]) ∧ LentIAt w' w.heap.size v t ∧ Below w.heap.size w w' := by
  have hm := Kd.C_max hr
  have HT := Aside0.mk ht
  obtain ⟨w0, hw0⟩ : ∃ w0, (w.alloc (.cells #[.int .i64 k, .int .i64 r, .slice A t.length c] tRule)).alloc (.cells #[.int .i64 0, .int .i64 0, .slice none 0 0] tRule) = w0 := ⟨_, rfl⟩
  obtain ⟨a, ha⟩ : ∃ a, w.heap.size = a := ⟨_, rfl⟩
  obtain ⟨b, hb0⟩ : ∃ b, a + 1 = b := ⟨_, rfl⟩
  have HB0 := Aside0.mk (show Below w.heap.size w w0 by rw [← hw0]; exact below_alloc (below_alloc (Below.refl _ _) _) _)
  have HBX := Aside0.mk (show BoxR w0 b 0 0 (.slice none 0 0) by rw [← hw0, ← hb0, ← ha]; have h := BoxR.new (w.alloc (.cells #[.int .i64 k, .int .i64 r, .slice A t.length c] tRule)) 0 0 (.slice none 0 0); rw [sz_alloc'] at h; exact h)
  have HRX := Aside0.mk (show BoxR w0 a k r (.slice A t.length c) by rw [← hw0, ← ha]; exact (BoxR.new _ _ _ _).below (below_alloc (Below.refl _ _) _))
  have HLE := Aside0.mk (show w.heap.size ≤ b by omega)
  have HAB := Aside0.mk (show b ≠ a by omega)
  have HR := Aside0.mk (Kd.C_below hr HB0.out)
  have HBLT := Aside0.mk (show b < w0.heap.size from HBX.out.lt)
  clear hr ht
  go_enter Tryd.func13, Tryd.ntmps13
  go_wp2_with fail
  clear hw0 ha hb0
  obtain ⟨q0, q1, q2⟩ := HRX.out.cells
  go_region_held3 (fun w' => w'.cell? ⟨a, 0, none⟩ = some (.int .i64 k) ∧ w'.cell? ⟨a, 1, none⟩ = some (.int .i64 r) ∧ w'.cell? ⟨a, 2, none⟩ = some (.slice A t.length c)) (first | exact (HRX2.out.put3 HAB.out _ _ _).cells | go_keep | exact ⟨q0, q1, q2⟩) ((go_at_call 14; (refine (LentI_calls A c t _ (by exact Kd.C_below HR.out (by repeat (first | exact Below.refl _ _ | apply below_alloc | apply below_drew | apply pw_below_drewN))) HT.out).mono ?_); rintro e w2 ⟨v, rfl, hv, hb⟩; have HV := Aside0.mk (hv.lower (b' := w0.heap.size) (by exact Nat.le_of_eq rfl)); obtain ⟨G, cv, rfl, _, _, _⟩ := hv; have HRX2 := Aside0.mk (HRX.out.below (below_step (below_drew (Below.refl w0.heap.size w0)) hb)); have HBX2 := Aside0.mk (HBX.out.below (below_step (below_drew (Below.refl w0.heap.size w0)) hb)); have HB2 := Aside0.mk (below_step (below_drew (Below.refl w0.heap.size w0)) hb); obtain ⟨q0, q1, q2⟩ := (HRX.out.below (below_step (below_drew (Below.refl w0.heap.size w0)) hb)).cells; obtain ⟨x0, x1, x2⟩ := (HBX.out.below (below_step (below_drew (Below.refl w0.heap.size w0)) hb)).cells; obtain ⟨y0, y1, y2⟩ := (HBX.out.below (below_step (below_drew (Below.refl w0.heap.size w0)) hb)).fr; clear hb))
  go_wp2_with fail
  have HX2 := Aside0.mk (HBX2.out.put k r (.slice (some ⟨G, 0, none⟩) t.length cv))
  (try simp only [Exit.inBlock, Exit.then]); refine bodyPost_ret (resR1 HX2.out rfl rfl) rfl ?_
  exact ⟨_, rfl, (HV.out.put3 HBLT.out _ _ _).lower HB0.out.size, below_put3 (below_step HB0.out HB2.out) HLE.out _ _ _⟩

set_option maxHeartbeats 4000000 in
set_option maxRecDepth 100000 in
theorem keptR_true (k r : Int) (v : Value) (A : Option Addr) (b c : Nat) (t : List Int) (w : World) (h : LentIAt w b v t) (hr : Kd.C (Kd.int .i64) w A t.length t) (ht : t.length + 2 ≤ 17592186044416) :
    Calls Tryd.prog 19 #[.agg #[.int .i64 k, .int .i64 r, v], .agg #[.int .i64 k, .int .i64 r, .slice A t.length c]] w fun e w' => e = .returned (.bool true) ∧ Below w.heap.size w w' := by
  have HT := Aside0.mk ht
  obtain ⟨G, cv, e1, e2, e3, e4⟩ := h
  subst e1
  have hh : LentIAt w b (.slice (some ⟨G, 0, none⟩) t.length cv) t := ⟨G, cv, rfl, e2, e3, e4⟩
  have HH := Aside0.mk hh
  have HR := Aside0.mk hr
  clear hh hr
  have hk : (k == k) = true := beq_self_eq_true k
  have hrr : (r == r) = true := beq_self_eq_true r
  clear ht e2 e3 e4
  go_enter Tryd.func19, Tryd.ntmps19
  go_wp2_with fail
  refine (kept_true A b c _ t _ ((HH.out).below (below_alloc (below_alloc (Below.refl _ _) _) _)) (Kd.C_below (HR.out) (below_alloc (below_alloc (Below.refl _ _) _) _)) HT.out).mono ?_
  rintro e w1 ⟨rfl, hd⟩
  have hb := hd.below
  clear hd
  have HB1 := Aside0.mk (below_step (below_alloc (below_alloc (Below.refl _ _) _) _) hb)
  clear hb
  go_wp2_with fail
  go_ret
  exact ⟨rfl, (HB1.out)⟩
set_option maxHeartbeats 4000000 in
set_option maxRecDepth 100000 in
theorem rules_true (k r : Int) (A0 A1 : Option Addr) (c0 c1 : Nat) (t : List Int) (w : World) (hr0 : Kd.C (Kd.int .i64) w A0 t.length t) (hr1 : Kd.C (Kd.int .i64) w A1 t.length t) :
    Calls Tryd.prog 50 #[.agg #[.int .i64 k, .int .i64 r, .slice A0 t.length c0], .agg #[.int .i64 k, .int .i64 r, .slice A1 t.length c1]] w fun e w' => e = .returned (.bool true) ∧ Below w.heap.size w w' := by
  have HA := Aside0.mk hr0
  have HR := Aside0.mk hr1
  clear hr0 hr1
  have hk : (k == k) = true := beq_self_eq_true k
  have hrr : (r == r) = true := beq_self_eq_true r
  go_enter Tryd.func50, Tryd.ntmps50
  go_wp2_with fail
  refine (ints_true A0 A1 c0 c1 t _ (Kd.C_below (HA.out) (below_alloc (below_alloc (Below.refl _ _) _) _)) (Kd.C_below (HR.out) (below_alloc (below_alloc (Below.refl _ _) _) _))).mono ?_
  rintro e w1 ⟨rfl, hd⟩
  have hb := hd.below
  clear hd
  have HB1 := Aside0.mk (below_step (below_alloc (below_alloc (Below.refl _ _) _) _) hb)
  clear hb
  go_wp2_with fail
  go_ret
  exact ⟨rfl, (HB1.out)⟩
end Go.Proofs.YtefhlonipglboaaDoor

/- rule.Step: the image of a word. -/
namespace Go.Proofs.YtefhlonipglboaaDoor
open Go.RowKit Go.Extern.Stop Go.Stop Go.Extern Go.Proofs.YtefhlonipglboaaDoorW.PrintWords Go.Proofs.YtefhlonipglboaaDoorW.PrintLast Go.Proofs.YtefhlonipglboaaDoorW.PrintMore
set_option linter.unusedVariables false
set_option linter.unusedSimpArgs false

/-- an answer of whole numbers, and an error -/
def AnsI (S : Nat → Addr) (w : World) (o : Fr) (xs : List Int) (e : Ending) (w' : World) : Prop :=
  ∃ A c u, e = .returned (.tuple #[.slice A xs.length c, u]) ∧ xs.length ≤ c ∧ Kd.C (Kd.int .i64) w' A xs.length xs ∧ ErrV S w' u o ∧ Below w.heap.size w w'
/-- the number of the window that ends a word, modulo L -/
def wnum (k L : Int) : List Int → Int := fun l => l.foldl (fun n x => (n * k + x) % L) 0
theorem wnum_snoc (k L : Int) (l : List Int) (x : Int) : wnum k L (l ++ [x]) = (wnum k L l * k + x) % L := by simp [wnum]
theorem wnum_lt {k L : Int} (hL : 0 < L) (l : List Int) : 0 ≤ wnum k L l ∧ wnum k L l < L := by
  rcases List.eq_nil_or_concat l with rfl | ⟨l', x, rfl⟩
  · exact ⟨Int.le_refl _, hL⟩
  · rw [List.concat_eq_append, wnum_snoc]
    exact ⟨Int.emod_nonneg _ (by omega), Int.emod_lt_of_pos _ hL⟩
/-- the symbols of the image that the first n symbols give -/
def imgN (k : Int) (t : List Int) (r2 : Nat) (l : List Int) : Nat → List Int
  | 0 => []
  | i + 1 => imgN k t r2 l i ++ (if r2 ≤ i then [rd t (wnum k t.length (l.take (i + 1)))] else [])
theorem imgN_len (k : Int) (t : List Int) (r2 : Nat) (l : List Int) : ∀ i, (imgN k t r2 l i).length = i - r2
  | 0 => by simp [imgN]
  | i + 1 => by
    rw [imgN, List.length_append, imgN_len k t r2 l i]
    by_cases h : r2 ≤ i
    · rw [if_pos h]; simp; omega
    · rw [if_neg h]; simp; omega
/-- what rule.Step says -/
def stepO (k r : Int) (t l : List Int) : Fr := match chkR k r t with
  | some e => some e
  | none => if 4096 < l.length then some (4, [(ruleS, 0)]) else if 0 ≤ fstIx (badB k) l then some (2, [(ruleS, fstIx (badB k) l)]) else none
def stepL (k r : Int) (t l : List Int) : List Int := match stepO k r t l with
  | some _ => []
  | none => imgN k t (2 * r).toNat l l.length

set_option maxHeartbeats 4000000 in
set_option maxRecDepth 100000 in
theorem step_calls (S : Nat → Addr) (k r : Int) (A : Option Addr) (c : Nat) (t : List Int) (Ax : Option Addr) (cx : Nat) (x : List Int) (w : World) (hE : Env S w) (hr : Kd.C (Kd.int .i64) w A t.length t) (hx : Kd.C (Kd.int .i64) w Ax x.length x) :
    Calls Tryd.prog 30 #[.agg #[.int .i64 k, .int .i64 r, .slice A t.length c], .slice Ax x.length cx] w (AnsI S w (stepO k r t x) (stepL k r t x)) := by
  have hm := Kd.C_max hr
  have hmx := Kd.C_max hx
  have HE := Aside0.mk hE
  have HR := Aside0.mk hr
  have HX := Aside0.mk hx
  clear hE hr hx
  cases hc : chkR k r t with
  | some y =>
    have ho : stepO k r t x = some y := by unfold stepO; rw [hc]
    have hl : stepL k r t x = [] := by unfold stepL; rw [ho]
    rw [ho, hl]
    have HCK := Aside0.mk hc
    clear hc ho hl
    go_enter Tryd.func30, Tryd.ntmps30
    go_wp2_with fail
    refine (chkR_calls S k r A c t _ ((HE.out).below (below_alloc (Below.refl _ _) _)) (Kd.C_below (HR.out) (below_alloc (Below.refl _ _) _))).mono ?_
    rintro e w1 ⟨v, rfl, hv, hb⟩
    have HB1 := Aside0.mk (below_step (below_alloc (Below.refl _ _) _) hb)
    clear hb
    rw [HCK.out] at hv
    obtain ⟨vt, vx, rfl⟩ := hv.2.2.form
    have HV := Aside0.mk hv
    clear hv
    go_wp2_with fail
    go_ret2
    exact ⟨none, 0, _, rfl, Nat.le_refl _, Kd.C_nil _ _, (HV.out), (HB1.out)⟩
  | none =>
    by_cases h1 : 4096 < x.length
    · have ho : stepO k r t x = some (4, [(ruleS, 0)]) := by unfold stepO; rw [hc]; simp [h1]
      have hl : stepL k r t x = [] := by unfold stepL; rw [ho]
      rw [ho, hl]
      have HCK := Aside0.mk hc
      have d1 : decide ((4096 : Int) < x.length) = true := decide_eq_true (by omega)
      clear hc ho hl
      go_enter Tryd.func30, Tryd.ntmps30
      go_wp2_with fail
      refine (chkR_calls S k r A c t _ ((HE.out).below (below_alloc (Below.refl _ _) _)) (Kd.C_below (HR.out) (below_alloc (Below.refl _ _) _))).mono ?_
      rintro e w1 ⟨v, rfl, hv, hb⟩
      have HB1 := Aside0.mk (below_step (below_alloc (Below.refl _ _) _) hb)
      clear hb
      rw [HCK.out] at hv
      have hv' : v = .nilIface := hv
      subst hv'
      clear hv
      go_wp2_with fail
      refine (wrongRule_calls S 0 4 (by unfold Num; omega) w1 ((HE.out).below (HB1.out))).mono ?_
      rintro e w2 ⟨v, rfl, hv, hb⟩
      have HB2 := Aside0.mk (hb)
      have HV := Aside0.mk hv
      clear hb hv
      go_wp2_with fail
      go_ret2
      exact ⟨none, 0, _, rfl, Nat.le_refl _, Kd.C_nil _ _, (HV.out), (below_step (HB1.out) HB2.out)⟩
    have d1 : decide ((4096 : Int) < x.length) = false := decide_eq_false (by omega)
    obtain ⟨b, hb0⟩ : ∃ b, fstIx (badB k) x = b := ⟨_, rfl⟩
    by_cases h2 : 0 ≤ b
    · have ho : stepO k r t x = some (2, [(ruleS, b)]) := by unfold stepO; rw [hc]; simp only [if_neg h1, hb0, if_pos h2]
      have hl : stepL k r t x = [] := by unfold stepL; rw [ho]
      rw [ho, hl]
      have HCK := Aside0.mk hc
      have HBB := Aside0.mk hb0
      have hbx : b ≤ 4096 := by
        rcases fstIx_cases (badB k) x with ⟨h7, _⟩ | ⟨i, hi, h7, _⟩ <;> omega
      clear hc ho hl hb0
      go_enter Tryd.func30, Tryd.ntmps30
      go_wp2_with fail
      refine (chkR_calls S k r A c t _ ((HE.out).below (below_alloc (Below.refl _ _) _)) (Kd.C_below (HR.out) (below_alloc (Below.refl _ _) _))).mono ?_
      rintro e w1 ⟨v, rfl, hv, hb⟩
      have HB1 := Aside0.mk (below_step (below_alloc (Below.refl _ _) _) hb)
      have HRX := Aside0.mk ((BoxR.new _ _ _ _).below hb)
      clear hb
      rw [HCK.out] at hv
      have hv' : v = .nilIface := hv
      subst hv'
      clear hv
      obtain ⟨q0, q1, q2⟩ := BoxR.cells (HRX.out)
      go_wp2_with fail
      refine (odd_calls k Ax cx x w1 (Kd.C_below (HX.out) (HB1.out))).mono ?_
      rintro e w2 ⟨rfl, hb⟩
      have HB2 := Aside0.mk (hb)
      clear hb
      rw [HBB.out]
      go_wp2_with fail
      refine (wrongRule_calls S b 2 (by unfold Num; omega) w2 (((HE.out).below (HB1.out)).below (HB2.out))).mono ?_
      rintro e w3 ⟨v, rfl, hv, hb⟩
      have HB3 := Aside0.mk (hb)
      have HV := Aside0.mk hv
      clear hb hv
      go_wp2_with fail
      go_ret2
      exact ⟨none, 0, _, rfl, Nat.le_refl _, Kd.C_nil _ _, (HV.out), (below_step (below_step (HB1.out) HB2.out) HB3.out)⟩
    · have ho : stepO k r t x = none := by unfold stepO; rw [hc]; simp only [if_neg h1, hb0, if_neg h2]
      have hl : stepL k r t x = imgN k t (2 * r).toNat x x.length := by unfold stepL; rw [ho]
      rw [ho, hl]
      have HCK := Aside0.mk hc
      have HBB := Aside0.mk hb0
      obtain ⟨hK, hlen, hsym⟩ := chkR_ok hc
      have hwin := hK.win
      have hall : ∀ j (hj : j < x.length), 0 ≤ x[j] ∧ x[j] < k := by
        rcases fstIx_cases (badB k) x with ⟨h7, h8⟩ | ⟨i, hi, h7, _⟩
        · exact fun j hj => badB_false.1 (h8 j hj)
        · omega
      have HALL := Aside0.mk hall
      have hLt : t.length ≤ 16384 := by omega
      have hLp : 0 < t.length := by omega
      obtain ⟨k1, k2, r1, r2⟩ := hK
      obtain ⟨m, hm2⟩ : ∃ m : Nat, (2 * r).toNat = m := ⟨_, rfl⟩
      have hmr : 2 * r = (m : Int) := by omega
      have s1 : IntKind.i64.wrap (2 * r) = (m : Int) := by rw [← hmr]; exact IntWalk.i64_in _ (by omega)
      rw [hm2]
      clear hc ho hl hb0 hlen hsym hwin hall hm2 hmr
      go_enter Tryd.func30, Tryd.ntmps30
      go_wp2_with fail
      refine (chkR_calls S k r A c t _ ((HE.out).below (below_alloc (Below.refl _ _) _)) (Kd.C_below (HR.out) (below_alloc (Below.refl _ _) _))).mono ?_
      rintro e w1 ⟨v, rfl, hv, hb⟩
      have HB1 := Aside0.mk (below_step (below_alloc (Below.refl _ _) _) hb)
      have HRX := Aside0.mk ((BoxR.new _ _ _ _).below hb)
      clear hb
      rw [HCK.out] at hv
      have hv' : v = .nilIface := hv
      subst hv'
      clear hv
      obtain ⟨q0, q1, q2⟩ := BoxR.cells (HRX.out)
      go_wp2_with fail
      refine (odd_calls k Ax cx x w1 (Kd.C_below (HX.out) (HB1.out))).mono ?_
      rintro e w2 ⟨rfl, hb⟩
      have HB2 := Aside0.mk (hb)
      clear hb
      rw [HBB.out]
      go_wp2_with fail
      have HX2 := Aside0.mk (Kd.C_below (Kd.C_below (HX.out) (HB1.out)) (HB2.out))
      have HR2 := Aside0.mk (Kd.C_below (Kd.C_below (HR.out) (HB1.out)) (HB2.out))
      have HRX2 := Aside0.mk ((HRX.out).below (HB2.out))
      have HBW := Aside0.mk (below_step (HB1.out) HB2.out)
      go_loopg [31, 8, 9] x.length (fun kq v31 v8 v9 w' => ∃ i : Nat, v31 = .int .i64 i ∧ i + kq = x.length ∧ v9 = .int .i64 (wnum k t.length (x.take i)) ∧ Aside0 (Kd.R (Kd.int .i64) 3 w' w2.heap.size (fun _ => True) v8 (imgN k t m x i)) ∧ Aside0 (Below w2.heap.size w2 w'))
      case atStart => exact ⟨0, rfl, by omega, rfl, ⟨Kd.R_nil _ _ _ _ _⟩, ⟨Below.refl _ _⟩⟩
      case round =>
        obtain ⟨i, rfl, hk, rfl, HO, HB⟩ := hrel
        by_cases hlt : i < x.length
        · obtain ⟨kq, rfl⟩ : ∃ kq, gk = kq + 1 := ⟨gk - 1, by omega⟩
          have hxi := HALL.out i hlt
          obtain ⟨ad, e, hxc⟩ := Kd.at_int (Kd.C_below HX2.out HB.out) (i : Int) (by omega) (by omega)
          subst e
          simp only [Int.toNat_natCast] at hxc
          rw [rd_at hlt] at hxc
          have hsn : wnum k t.length (x.take (i + 1)) = (wnum k t.length (x.take i) * k + x[i]) % t.length := by rw [List.take_succ_eq_append_getElem hlt, wnum_snoc]
          have hnb := wnum_lt (k := k) (L := t.length) (by omega) (x.take i)
          have hnb' := wnum_lt (k := k) (L := t.length) (by omega) (x.take (i + 1))
          have himg : imgN k t m x (i + 1) = imgN k t m x i ++ (if m ≤ i then [rd t (wnum k t.length (x.take (i + 1)))] else []) := rfl
          obtain ⟨y, hy⟩ : ∃ y, x[i] = y := ⟨_, rfl⟩
          obtain ⟨n, hn⟩ : ∃ n, wnum k t.length (x.take i) = n := ⟨_, rfl⟩
          obtain ⟨n', hn'⟩ : ∃ n', wnum k t.length (x.take (i + 1)) = n' := ⟨_, rfl⟩
          rw [hy] at hxi hxc hsn
          rw [hn] at hnb hsn ⊢
          rw [hn'] at hsn hnb' himg
          obtain ⟨m1, hm1⟩ : ∃ m1, n * k = m1 := ⟨_, rfl⟩
          have hm1b : 0 ≤ m1 ∧ m1 ≤ 65536 := by
            have h1 : k = 1 ∨ k = 2 ∨ k = 3 ∨ k = 4 := by omega
            rcases h1 with rfl | rfl | rfl | rfl <;> omega
          have hw1 : IntKind.i64.wrap (n * k) = m1 := by rw [hm1]; exact IntWalk.i64_in _ (by omega)
          rw [hm1] at hsn
          have hmod : (m1 + y) % (t.length : Int) = n' := hsn.symm
          have htmod : (m1 + y).tmod (t.length : Int) = n' := by rw [Int.tmod_eq_emod_of_nonneg (by omega)]; exact hmod
          obtain ⟨q0, q1, q2⟩ := (HRX2.out.below HB.out).cells
          have HN := Aside0.mk hn'
          have HIM := Aside0.mk himg
          have HLEN := imgN_len k t m x i
          have hlb : ((imgN k t m x i).length + 1) * 8 ≤ 140737488355328 := by rw [HLEN]; omega
          have HL := Aside0.mk hlb
          clear hy hn hn' hm1 hsn himg HLEN hlb
          by_cases hmi : m ≤ i
          · have d2 : decide (m ≤ i) = true := decide_eq_true hmi
            have d2' : decide ((m : Int) ≤ (i : Int)) = true := decide_eq_true (by omega)
            obtain ⟨ad', e, htc⟩ := Kd.at_int (Kd.C_below HR2.out HB.out) n' (by omega) (by omega)
            subst e
            obtain ⟨n2, hn2⟩ : ∃ n2 : Nat, n' = (n2 : Int) := ⟨n'.toNat, by omega⟩
            subst hn2
            simp only [Int.toNat_natCast] at htc
            obtain ⟨l, hl⟩ : ∃ l, imgN k t m x i = l := ⟨_, rfl⟩
            rw [hl] at HO HL HIM
            clear hl
            go_wp2_with (first | ((with_reducible refine gate_builtin (b := .append) (xs := #[.tmp 51, .tmp 57]) rfl ?_); (try (refine gate_guard (by rfl) ?_; dsimp only)); at_builtin; refine Kd.R_append (Kd.int .i64) (w0 := w2) w2.heap.size rfl (.tmp 51) (.tmp 57) 22 3 (.int .i64 0) 8 rfl Tryd.underlying22 info_i64 rfl (by decide) (by omega) u8 l _ [.int .i64 _] (ok := fun _ => True) (okp := fun _ => False) rfl rfl rfl (fun _ hk => hk.elim) (fun _ _ => trivial) HO.out HB.out HB.out.size HL.out ?_; intro v1 wa ho hb hg hat; have HO1 := Aside0.mk ho; have HBa := Aside0.mk hb; clear ho hb hg hat))
            go_roundg kq
            case measure => omega
            case rel => exact ⟨i + 1, by go_num, by omega, by rw [HN.out], ⟨by rw [HIM.out, if_pos hmi]; exact HO1.out⟩, HBa⟩
          · have d2 : decide (m ≤ i) = false := decide_eq_false hmi
            have d2' : decide ((m : Int) ≤ (i : Int)) = false := decide_eq_false (by omega)
            go_wp2_with fail
            go_roundg kq
            case measure => omega
            case rel => exact ⟨i + 1, by go_num, by omega, by rw [HN.out], ⟨by rw [HIM.out, if_neg hmi, List.append_nil]; exact HO.out⟩, HB⟩
        · obtain rfl : i = x.length := by omega
          obtain ⟨Ao, co, eo⟩ := Kd.R_slice HO.out
          subst eo
          have HRD := Aside0.mk (Kd.R_reads' HO.out)
          clear HO
          go_wp2_with fail
          go_ret2
          exact ⟨Ao, co, _, rfl, HRD.out.2.1, HRD.out.2.2, rfl, below_step HBW.out HB.out⟩
end Go.Proofs.YtefhlonipglboaaDoor

/- edenref04.Image: the image of a word, by windows; it is rule.Step's. -/
namespace Go.Proofs.YtefhlonipglboaaDoor
open Go.RowKit Go.Proofs.YtefhlonipglboaaDoorW.PrintWords Go.Proofs.YtefhlonipglboaaDoorW.PrintLast Go.Proofs.YtefhlonipglboaaDoorW.PrintMore
set_option linter.unusedVariables false
set_option linter.unusedSimpArgs false

/-- the number that symbols write in base k -/
def valK (k : Int) (l : List Int) : Int := l.foldl (fun n x => n * k + x) 0
theorem valK_snoc (k : Int) (l : List Int) (x : Int) : valK k (l ++ [x]) = valK k l * k + x := by simp [valK]
/-- all are symbols below k -/
def Syms (k : Int) (l : List Int) : Prop := ∀ x ∈ l, 0 ≤ x ∧ x < k
theorem Syms.of {k : Int} {l : List Int} (h : ∀ j (hj : j < l.length), 0 ≤ l[j] ∧ l[j] < k) : Syms k l := by
  intro x hx
  obtain ⟨j, hj, rfl⟩ := List.mem_iff_getElem.1 hx
  exact h j hj
theorem Syms.take {k : Int} {l : List Int} (h : Syms k l) (n : Nat) : Syms k (l.take n) := fun x hx => h x (List.mem_of_mem_take hx)
theorem Syms.drop {k : Int} {l : List Int} (h : Syms k l) (n : Nat) : Syms k (l.drop n) := fun x hx => h x (List.mem_of_mem_drop hx)
theorem snoc_ind {P : List Int → Prop} (h0 : P []) (h1 : ∀ l x, P l → P (l ++ [x])) (l : List Int) : P l := by
  have h : ∀ n (l : List Int), l.length = n → P l := by
    intro n
    induction n with
    | zero => intro l hl; rw [List.length_eq_zero_iff.1 hl]; exact h0
    | succ n ih =>
      intro l hl
      rcases List.eq_nil_or_concat l with rfl | ⟨l', x, rfl⟩
      · exact h0
      · rw [List.concat_eq_append] at hl ⊢
        exact h1 _ _ (ih l' (by simpa using hl))
  exact h _ l rfl
theorem valK_lt {k : Int} (hk : 1 ≤ k) (l : List Int) : Syms k l → 0 ≤ valK k l ∧ valK k l < k ^ l.length := by
  induction l using snoc_ind with
  | h0 => intro _; simp [valK]
  | h1 l x ih =>
    intro hs
    have h1 := ih (fun y hy => hs y (List.mem_append_left _ hy))
    have h2 := hs x (by simp)
    rw [valK_snoc, List.length_append, List.length_singleton, Int.pow_succ]
    have h3 : 0 ≤ valK k l * k := Int.mul_nonneg h1.1 (by omega)
    have h4 : valK k l * k ≤ (k ^ l.length - 1) * k := Int.mul_le_mul_of_nonneg_right (by omega) (by omega)
    rw [Int.sub_mul] at h4
    omega
theorem valK_append (k : Int) (a b : List Int) : valK k (a ++ b) = valK k a * k ^ b.length + valK k b := by
  induction b using snoc_ind with
  | h0 => simp [valK]
  | h1 b x ih =>
    rw [← List.append_assoc, valK_snoc, valK_snoc, ih, List.length_append, List.length_singleton, Int.pow_succ, Int.add_mul, Int.mul_assoc]
    omega
theorem wnum_eq {k L : Int} (hL : 0 < L) (l : List Int) : wnum k L l = valK k l % L := by
  induction l using snoc_ind with
  | h0 => simp [wnum, valK]
  | h1 l x ih => rw [wnum_snoc, valK_snoc, ih, Int.add_emod, Int.mul_emod, Int.emod_emod_of_dvd _ (Int.dvd_refl L), ← Int.mul_emod, ← Int.add_emod]
theorem wnum_win {k : Int} (hk : 1 ≤ k) {l : List Int} (hs : Syms k l) (i m : Nat) (h : i + m + 1 ≤ l.length) : wnum k (k ^ (m + 1)) (l.take (i + m + 1)) = valK k ((l.take (i + m + 1)).drop i) := by
  have hp : 0 < k ^ (m + 1) := Int.pow_pos (by omega)
  have hb := valK_lt hk _ ((hs.take (i + m + 1)).drop i)
  have hlen : ((l.take (i + m + 1)).drop i).length = m + 1 := by rw [List.length_drop, List.length_take]; omega
  have he : l.take (i + m + 1) = (l.take (i + m + 1)).take i ++ (l.take (i + m + 1)).drop i := (List.take_append_drop _ _).symm
  rw [hlen] at hb
  rw [wnum_eq hp]
  conv => lhs; rw [he, valK_append, hlen]
  rw [Int.add_comm, Int.add_mul_emod_self_right, Int.emod_eq_of_lt hb.1 hb.2]

theorem wrap64_id {x : Int} (h0 : -9223372036854775808 ≤ x) (h1 : x ≤ 9223372036854775807) : wrap64 x = x := by
  unfold wrap64; omega
theorem kpow12' {k : Int} {n : Nat} (hk0 : 1 ≤ k) (hk : k ≤ 4) (hn : n ≤ 12) : k ^ n ≤ 16777216 := by
  have h1 : k = 1 ∨ k = 2 ∨ k = 3 ∨ k = 4 := by omega
  have h2 : n = 0 ∨ n = 1 ∨ n = 2 ∨ n = 3 ∨ n = 4 ∨ n = 5 ∨ n = 6 ∨ n = 7 ∨ n = 8 ∨ n = 9 ∨ n = 10 ∨ n = 11 ∨ n = 12 := by omega
  rcases h1 with rfl | rfl | rfl | rfl <;> rcases h2 with rfl | rfl | rfl | rfl | rfl | rfl | rfl | rfl | rfl | rfl | rfl | rfl | rfl <;> decide
theorem value_l {k : Int} {l : List Int} (hk0 : 1 ≤ k) (hk : k ≤ 4) (hs : Syms k l) (hl : l.length ≤ 12) : ∀ (d i K : Nat), i ≤ l.length → l.length - i = d → d < K → GImg.edenref04_Value.l0 K k l (valK k (l.take i)) i = some (valK k l) := by
  intro d
  induction d with
  | zero =>
    intro i K hi hd hK
    obtain ⟨K, rfl⟩ : ∃ m, K = m + 1 := ⟨K - 1, by omega⟩
    obtain rfl : i = l.length := by omega
    simp only [GImg.edenref04_Value.l0]
    rw [if_neg (by omega), List.take_length]
  | succ d ih =>
    intro i K hi hd hK
    obtain ⟨K, rfl⟩ : ∃ m, K = m + 1 := ⟨K - 1, by omega⟩
    have hlt : i < l.length := by omega
    have hb := valK_lt hk0 _ (hs.take i)
    have hb2 := valK_lt hk0 _ (hs.take (i + 1))
    have hp := kpow12' (n := (l.take i).length) hk0 hk (by rw [List.length_take]; omega)
    have hp2 := kpow12' (n := (l.take (i + 1)).length) hk0 hk (by rw [List.length_take]; omega)
    have hx := hs l[i] (List.getElem_mem hlt)
    have hst : valK k (l.take (i + 1)) = valK k (l.take i) * k + l[i] := by rw [List.take_succ_eq_append_getElem hlt, valK_snoc]
    simp only [GImg.edenref04_Value.l0]
    rw [if_pos (by omega), if_pos (by omega), rd_at hlt, wrap64_id (x := valK k (l.take i) * k) (by omega) (by omega), wrap64_id (by omega) (by omega), wrap64_id (by omega) (by omega), ← hst]
    exact ih (i + 1) K (by omega) (by omega) (by omega)
theorem value_f {k : Int} {l : List Int} (hk0 : 1 ≤ k) (hk : k ≤ 4) (hs : Syms k l) (hl : l.length ≤ 12) (K : Nat) (hK : l.length < K) : GImg.edenref04_Value.f K k l = some (valK k l) := by
  have := value_l hk0 hk hs hl l.length 0 K (by omega) (by omega) hK
  unfold GImg.edenref04_Value.f
  simpa [valK] using this
theorem image_l {k r : Int} {t l : List Int} (m : Nat) (hm : 2 * r = m) (hm6 : m ≤ 6) (hk0 : 1 ≤ k) (hk : k ≤ 4) (hs : Syms k l) (ht : (t.length : Int) = k ^ (m + 1)) (hl : l.length ≤ 4096) :
    ∀ (d i K : Nat), i + m ≤ l.length → l.length - (i + m) = d → d + 20 < K → GImg.edenref04_Image.l0 K l (imgN k t m l (i + m)) i k r t = some (imgN k t m l l.length) := by
  intro d
  induction d with
  | zero =>
    intro i K hi hd hK
    obtain ⟨K, rfl⟩ : ∃ m, K = m + 1 := ⟨K - 1, by omega⟩
    simp only [GImg.edenref04_Image.l0]
    rw [wrap64_id (x := 2 * r) (by omega) (by omega), hm, wrap64_id (by omega) (by omega), if_neg (by omega), show i + m = l.length by omega]
  | succ d ih =>
    intro i K hi hd hK
    obtain ⟨K, rfl⟩ : ∃ m, K = m + 1 := ⟨K - 1, by omega⟩
    have e1 : ((i : Int) + m + 1).toNat = i + m + 1 := by omega
    have hwin := wnum_win hk0 hs i m (by omega)
    rw [← ht] at hwin
    have hlen : ((l.take (i + m + 1)).drop i).length = m + 1 := by rw [List.length_drop, List.length_take]; omega
    have hv := value_f hk0 hk ((hs.take (i + m + 1)).drop i) (by rw [hlen]; omega) K (by rw [hlen]; omega)
    have hb := valK_lt hk0 _ ((hs.take (i + m + 1)).drop i)
    rw [hlen, ← ht] at hb
    have hstep : imgN k t m l (i + m + 1) = imgN k t m l (i + m) ++ [rd t (wnum k t.length (l.take (i + m + 1)))] := by
      show _ ++ (if m ≤ i + m then _ else _) = _
      rw [if_pos (by omega)]
    simp only [GImg.edenref04_Image.l0]
    rw [wrap64_id (x := 2 * r) (by omega) (by omega), hm, wrap64_id (x := (i : Int) + m) (by omega) (by omega), wrap64_id (x := (i : Int) + m + 1) (by omega) (by omega), wrap64_id (x := (i : Int) + 1) (by omega) (by omega), if_pos (by omega), if_pos (by omega), if_pos (by omega), if_pos (by omega), e1, Int.toNat_natCast, hv]
    simp only [Option.bind_some]
    rw [if_pos hb.1, if_pos hb.2, if_pos (by rw [imgN_len]; omega), ← hwin, ← hstep, show i + m + 1 = (i + 1) + m by omega]
    exact ih (i + 1) K (by omega) (by omega) (by omega)
theorem image_f {k r : Int} {t l : List Int} (hK : KR k r) (hs : Syms k l) (ht : (t.length : Int) = nwin k r) (hl : l.length ≤ 4096) : GImg.edenref04_Image.f (l.length + 21) k r t l = some (imgN k t (2 * r).toNat l l.length) := by
  obtain ⟨k1, k2, r1, r2⟩ := hK
  obtain ⟨m, hm⟩ : ∃ m : Nat, (2 * r).toNat = m := ⟨_, rfl⟩
  have hmr : 2 * r = (m : Int) := by omega
  have ht' : (t.length : Int) = k ^ (m + 1) := by rw [ht]; unfold nwin; rw [show (2 * r + 1).toNat = m + 1 by omega]
  rw [hm]
  unfold GImg.edenref04_Image.f
  have h0 : imgN k t m l m = [] := List.length_eq_zero_iff.1 (by rw [imgN_len]; omega)
  by_cases h : m ≤ l.length
  · have := image_l m hmr (by omega) k1 k2 hs ht' hl (l.length - m) 0 (l.length + 21) (by omega) (by omega) (by omega)
    rw [Nat.zero_add, h0] at this
    exact this
  · have h1 : imgN k t m l l.length = [] := List.length_eq_zero_iff.1 (by rw [imgN_len]; omega)
    simp only [GImg.edenref04_Image.l0]
    rw [wrap64_id (x := 2 * r) (by omega) (by omega), hmr, wrap64_id (by omega) (by omega), if_neg (by omega), h1]

theorem image_calls (k r : Int) (A : Option Addr) (c : Nat) (t : List Int) (Ax : Option Addr) (cx : Nat) (l : List Int) (w : World) (hr : Kd.C (Kd.int .i64) w A t.length t) (hc : t.length ≤ c) (hx : Kd.C (Kd.int .i64) w Ax l.length l) (hcx : l.length ≤ cx)
    (hK : KR k r) (hs : Syms k l) (ht : (t.length : Int) = nwin k r) (hl : l.length ≤ 4096) :
    Calls Tryd.prog 78 #[.agg #[.int .i64 k, .int .i64 r, .slice A t.length c], .slice Ax l.length cx] w fun e w' => ∃ Ao co, e = .returned (.slice Ao (imgN k t (2 * r).toNat l l.length).length co) ∧ (imgN k t (2 * r).toNat l l.length).length ≤ co ∧ Kd.F (Kd.int .i64) w' (fun k => w.heap.size ≤ k) Ao (imgN k t (2 * r).toNat l l.length).length (imgN k t (2 * r).toNat l l.length) ∧ Below w.heap.size w w' := by
  refine (GImg.edenref04_Image.calls (l.length + 21) k r A c t Ax cx l _ w hr hc hx hcx (image_f hK hs ht hl)).mono ?_
  rintro e w' ⟨v, rfl, hR, hb⟩
  obtain ⟨Ao, co, rfl⟩ := Kd.R_slice hR
  have h := Kd.R_reads' hR
  exact ⟨Ao, co, rfl, h.2.1, Kd.R_F (Kd.R_mono (Kd.R_bound hR) (fun k hk => hk.2.1)), hb⟩
end Go.Proofs.YtefhlonipglboaaDoor

/- edenref04's Power, Check, Small, Size; edenref03.Bad: the document's word on what is a rule. -/
namespace Go.Proofs.YtefhlonipglboaaDoor
open Go.RowKit Go.Extern.Stop Go.Stop Go.Extern Go.Proofs.YtefhlonipglboaaDoorW.PrintWords Go.Proofs.YtefhlonipglboaaDoorW.PrintLast Go.Proofs.YtefhlonipglboaaDoorW.PrintMore
set_option linter.unusedVariables false
set_option linter.unusedSimpArgs false

set_option maxHeartbeats 2000000 in
set_option maxRecDepth 100000 in
theorem rbad_calls (k : Int) (A : Option Addr) (c : Nat) (l : List Int) (w : World) (hr : Kd.C (Kd.int .i64) w A l.length l) :
    Calls Tryd.prog 84 #[.int .i64 k, .slice A l.length c] w fun e w' => e = .returned (.int .i64 (fstIx (badB k) l)) ∧ w = w' := by
  have hm := Kd.C_max hr
  have HR := Aside0.mk hr
  clear hr
  go_enter Tryd.func84, Tryd.ntmps84
  go_wp2_with fail
  go_loop [5] (fun v5 => ∃ i : Nat, v5 = .int .i64 i ∧ i ≤ l.length ∧ Aside0 (∀ j (hj : j < l.length), j < i → badB k l[j] = false)) (fun v5 => l.length - (intOf v5).toNat)
  case atStart => exact ⟨0, rfl, Nat.zero_le _, ⟨fun j _ h => by omega⟩⟩
  case round =>
    obtain ⟨i, rfl, hi, HA⟩ := hrel
    by_cases hlt : i < l.length
    · obtain ⟨ad, e, hx⟩ := Kd.at_int HR.out (i : Int) (by omega) (by omega)
      subst e
      simp only [Int.toNat_natCast] at hx
      rw [rd_at hlt] at hx
      obtain ⟨x, hxe⟩ : ∃ x, l[i] = x := ⟨_, rfl⟩
      rw [hxe] at hx
      have HX := Aside0.mk hxe
      clear hxe
      by_cases h1 : x < 0
      · have d1 : decide (x < 0) = true := decide_eq_true h1
        have HB := Aside0.mk (fstIx_hit hlt (p := badB k) (by rw [HX.out]; exact badB_true.2 (Or.inl h1)) HA.out)
        clear h1
        go_wp2_with fail
        go_ret
        exact ⟨by rw [HB.out]; first | done | rfl, rfl⟩
      · have d1 : decide (x < 0) = false := decide_eq_false h1
        by_cases h2 : k ≤ x
        · have d2 : decide (k ≤ x) = true := decide_eq_true h2
          have HB := Aside0.mk (fstIx_hit hlt (p := badB k) (by rw [HX.out]; exact badB_true.2 (Or.inr h2)) HA.out)
          clear h1 h2
          go_wp2_with fail
          go_ret
          exact ⟨by rw [HB.out]; first | done | rfl, rfl⟩
        · have d2 : decide (k ≤ x) = false := decide_eq_false h2
          have HB := Aside0.mk (badB_false.2 (⟨by omega, by omega⟩ : 0 ≤ x ∧ x < k))
          clear h1 h2
          go_wp2_with fail
          go_round
          case rel => exact ⟨i + 1, by go_num, by omega, ⟨fun j hj hji => by
            by_cases e : j = i
            · subst e; rw [HX.out]; exact HB.out
            · exact HA.out j hj (by omega)⟩⟩
          case measure => simp [intOf]; omega
    · have HB := Aside0.mk (fstIx_none (p := badB k) (fun j hj => HA.out j hj (by omega)))
      go_wp2_with fail
      go_ret
      exact ⟨by rw [HB.out]; first | done | rfl, rfl⟩

theorem kpow12 {k : Int} {n : Nat} (hk0 : 1 ≤ k) (hk : k ≤ 4) (hn : n ≤ 13) : 1 ≤ k ^ n ∧ k ^ n ≤ 67108864 := by
  have h1 : k = 1 ∨ k = 2 ∨ k = 3 ∨ k = 4 := by omega
  have h2 : n = 0 ∨ n = 1 ∨ n = 2 ∨ n = 3 ∨ n = 4 ∨ n = 5 ∨ n = 6 ∨ n = 7 ∨ n = 8 ∨ n = 9 ∨ n = 10 ∨ n = 11 ∨ n = 12 ∨ n = 13 := by omega
  rcases h1 with rfl | rfl | rfl | rfl <;> rcases h2 with rfl | rfl | rfl | rfl | rfl | rfl | rfl | rfl | rfl | rfl | rfl | rfl | rfl | rfl <;> decide
set_option maxHeartbeats 2000000 in
set_option maxRecDepth 100000 in
theorem power_calls (k n : Int) (w : World) (k1 : 1 ≤ k) (k2 : k ≤ 4) (n0 : 0 ≤ n) (n1 : n ≤ 12) :
    Calls Tryd.prog 83 #[.int .i64 k, .int .i64 n] w fun e w' => e = .returned (.int .i64 (k ^ n.toNat)) ∧ w = w' := by
  obtain ⟨m, rfl⟩ := Int.eq_ofNat_of_zero_le n0
  rw [Int.toNat_natCast]
  go_enter Tryd.func83, Tryd.ntmps83
  go_wp2_with fail
  go_loop [6, 5] (fun v6 v5 => ∃ i : Nat, v6 = .int .i64 i ∧ i ≤ m ∧ v5 = .int .i64 (k ^ i)) (fun v6 _ => m - (intOf v6).toNat)
  case atStart => exact ⟨0, rfl, Nat.zero_le _, by simp⟩
  case round =>
    obtain ⟨i, rfl, hi, rfl⟩ := hrel
    by_cases hlt : i < m
    · have hp := kpow12 (n := i) k1 k2 (by omega)
      have hq := kpow12 (n := i + 1) k1 k2 (by omega)
      obtain ⟨x, hx⟩ : ∃ x, k ^ i = x := ⟨_, rfl⟩
      have hs : k ^ (i + 1) = x * k := by rw [Int.pow_succ, hx]
      rw [hs] at hq
      rw [hx] at hp ⊢
      have hw : IntKind.i64.wrap (x * k) = x * k := IntWalk.i64_in _ (by omega)
      have HS := Aside0.mk hs
      clear hs hx
      go_wp2_with fail
      go_round
      case rel => exact ⟨i + 1, by go_num, by omega, by rw [HS.out]⟩
      case measure => simp [intOf]; omega
    · obtain rfl : i = m := by omega
      go_wp2_with fail
      go_ret
      exact ⟨rfl, rfl⟩
end Go.Proofs.YtefhlonipglboaaDoor

/- edenref04.Check, Small, Size: the document's word on what is a rule. -/
namespace Go.Proofs.YtefhlonipglboaaDoor
open Go.RowKit Go.Extern.Stop Go.Stop Go.Extern Go.Proofs.YtefhlonipglboaaDoorW.PrintWords Go.Proofs.YtefhlonipglboaaDoorW.PrintLast Go.Proofs.YtefhlonipglboaaDoorW.PrintMore
set_option linter.unusedVariables false
set_option linter.unusedSimpArgs false

set_option maxHeartbeats 4000000 in
set_option maxRecDepth 100000 in
theorem rchkR_calls (k r : Int) (A : Option Addr) (c : Nat) (t : List Int) (w : World) (hr : Kd.C (Kd.int .i64) w A t.length t) :
    Calls Tryd.prog 35 #[.agg #[.int .i64 k, .int .i64 r, .slice A t.length c]] w (WantO w (chkR k r t)) := by
  have hm := Kd.C_max hr
  have HR := Aside0.mk hr
  clear hr
  obtain ⟨w0, hw0⟩ : ∃ w0, (w.alloc (.cells #[.int .i64 k, .int .i64 r, .slice A t.length c] tRule)).alloc (.cells #[.int .i64 0, .slice none 0 0, .slice none 0 0] tErr) = w0 := ⟨_, rfl⟩
  obtain ⟨a, ha⟩ : ∃ a, w.heap.size = a := ⟨_, rfl⟩
  obtain ⟨b, hb0⟩ : ∃ b, a + 1 = b := ⟨_, rfl⟩
  have HB0 := Aside0.mk (show Below w.heap.size w w0 by rw [← hw0]; exact below_alloc (below_alloc (Below.refl _ _) _) _)
  have HBX := Aside0.mk (show Box3 w0 b (.int .i64 0) (.slice none 0 0) (.slice none 0 0) by rw [← hw0, ← hb0, ← ha]; have h := Box3.new (w.alloc (.cells #[.int .i64 k, .int .i64 r, .slice A t.length c] tRule)) (.int .i64 0) (.slice none 0 0) (.slice none 0 0); rw [sz_alloc'] at h; exact h)
  have HRX := Aside0.mk (show BoxR w0 a k r (.slice A t.length c) by rw [← hw0, ← ha]; exact (BoxR.new _ _ _ _).below (below_alloc (Below.refl _ _) _))
  have HLE := Aside0.mk (show w.heap.size ≤ b by omega)
  obtain ⟨q0, q1, q2⟩ := HRX.out.cells
  by_cases h1 : k < 1
  · have ho : chkR k r t = some (1, [(ruleS, 0)]) := by unfold chkR; rw [if_pos (Or.inl h1)]
    rw [ho]
    have d1 : decide (k < 1) = true := decide_eq_true h1
    clear ho
    go_enter Tryd.func35, Tryd.ntmps35
    go_wp2_with fail
    clear hw0 ha hb0
    refine (new_F _ (0) (1) w0).mono ?_
    rintro e wz ⟨zv, rfl, hf, hb⟩
    obtain ⟨zn, zA1, zn1, zc1, zA2, zn2, zc2, rfl, hn⟩ := hf.now.form
    have HXC := Aside0.mk (((HBX.out)).below hb)
    obtain ⟨k0, k1, k2, z0, z1, z2⟩ := HXC.out.cells
    have HX2 := Aside0.mk (HXC.out.put (.int .i64 zn) (.slice zA1 zn1 zc1) (.slice zA2 zn2 zc2))
    have HFZ := Aside0.mk ((hf.put3 (b := b) ((HBX.out)).lt (.int .i64 zn) (.slice zA1 zn1 zc1) (.slice zA2 zn2 zc2)).lower (b' := w.heap.size) ((HB0.out)).size)
    have HBZ := Aside0.mk (below_put3 (below_step (HB0.out) hb) HLE.out (.int .i64 zn) (.slice zA1 zn1 zc1) (.slice zA2 zn2 zc2))
    clear hf hb hn
    go_wp2_with fail
    (try simp only [Exit.inBlock, Exit.then]); refine bodyPost_ret (res1 HX2.out rfl rfl) rfl ?_
    exact ⟨_, rfl, HFZ.out, HBZ.out⟩
  have d1 : decide (k < 1) = false := decide_eq_false h1
  by_cases h2 : 4 < k
  · have ho : chkR k r t = some (1, [(ruleS, 0)]) := by unfold chkR; rw [if_pos (Or.inr h2)]
    rw [ho]
    have d2 : decide (4 < k) = true := decide_eq_true h2
    clear ho
    go_enter Tryd.func35, Tryd.ntmps35
    go_wp2_with fail
    clear hw0 ha hb0
    refine (new_F _ (0) (1) w0).mono ?_
    rintro e wz ⟨zv, rfl, hf, hb⟩
    obtain ⟨zn, zA1, zn1, zc1, zA2, zn2, zc2, rfl, hn⟩ := hf.now.form
    have HXC := Aside0.mk (((HBX.out)).below hb)
    obtain ⟨k0, k1, k2, z0, z1, z2⟩ := HXC.out.cells
    have HX2 := Aside0.mk (HXC.out.put (.int .i64 zn) (.slice zA1 zn1 zc1) (.slice zA2 zn2 zc2))
    have HFZ := Aside0.mk ((hf.put3 (b := b) ((HBX.out)).lt (.int .i64 zn) (.slice zA1 zn1 zc1) (.slice zA2 zn2 zc2)).lower (b' := w.heap.size) ((HB0.out)).size)
    have HBZ := Aside0.mk (below_put3 (below_step (HB0.out) hb) HLE.out (.int .i64 zn) (.slice zA1 zn1 zc1) (.slice zA2 zn2 zc2))
    clear hf hb hn
    go_wp2_with fail
    (try simp only [Exit.inBlock, Exit.then]); refine bodyPost_ret (res1 HX2.out rfl rfl) rfl ?_
    exact ⟨_, rfl, HFZ.out, HBZ.out⟩
  have d2 : decide (4 < k) = false := decide_eq_false h2
  by_cases h3 : r < 0
  · have ho : chkR k r t = some (1, [(ruleS, 1)]) := by unfold chkR; rw [if_neg (by omega), if_pos (Or.inl h3)]
    rw [ho]
    have d3 : decide (r < 0) = true := decide_eq_true h3
    clear ho
    go_enter Tryd.func35, Tryd.ntmps35
    go_wp2_with fail
    clear hw0 ha hb0
    refine (new_F _ (1) (1) w0).mono ?_
    rintro e wz ⟨zv, rfl, hf, hb⟩
    obtain ⟨zn, zA1, zn1, zc1, zA2, zn2, zc2, rfl, hn⟩ := hf.now.form
    have HXC := Aside0.mk (((HBX.out)).below hb)
    obtain ⟨k0, k1, k2, z0, z1, z2⟩ := HXC.out.cells
    have HX2 := Aside0.mk (HXC.out.put (.int .i64 zn) (.slice zA1 zn1 zc1) (.slice zA2 zn2 zc2))
    have HFZ := Aside0.mk ((hf.put3 (b := b) ((HBX.out)).lt (.int .i64 zn) (.slice zA1 zn1 zc1) (.slice zA2 zn2 zc2)).lower (b' := w.heap.size) ((HB0.out)).size)
    have HBZ := Aside0.mk (below_put3 (below_step (HB0.out) hb) HLE.out (.int .i64 zn) (.slice zA1 zn1 zc1) (.slice zA2 zn2 zc2))
    clear hf hb hn
    go_wp2_with fail
    (try simp only [Exit.inBlock, Exit.then]); refine bodyPost_ret (res1 HX2.out rfl rfl) rfl ?_
    exact ⟨_, rfl, HFZ.out, HBZ.out⟩
  have d3 : decide (r < 0) = false := decide_eq_false h3
  by_cases h4 : 3 < r
  · have ho : chkR k r t = some (1, [(ruleS, 1)]) := by unfold chkR; rw [if_neg (by omega), if_pos (Or.inr h4)]
    rw [ho]
    have d4 : decide (3 < r) = true := decide_eq_true h4
    clear ho
    go_enter Tryd.func35, Tryd.ntmps35
    go_wp2_with fail
    clear hw0 ha hb0
    refine (new_F _ (1) (1) w0).mono ?_
    rintro e wz ⟨zv, rfl, hf, hb⟩
    obtain ⟨zn, zA1, zn1, zc1, zA2, zn2, zc2, rfl, hn⟩ := hf.now.form
    have HXC := Aside0.mk (((HBX.out)).below hb)
    obtain ⟨k0, k1, k2, z0, z1, z2⟩ := HXC.out.cells
    have HX2 := Aside0.mk (HXC.out.put (.int .i64 zn) (.slice zA1 zn1 zc1) (.slice zA2 zn2 zc2))
    have HFZ := Aside0.mk ((hf.put3 (b := b) ((HBX.out)).lt (.int .i64 zn) (.slice zA1 zn1 zc1) (.slice zA2 zn2 zc2)).lower (b' := w.heap.size) ((HB0.out)).size)
    have HBZ := Aside0.mk (below_put3 (below_step (HB0.out) hb) HLE.out (.int .i64 zn) (.slice zA1 zn1 zc1) (.slice zA2 zn2 zc2))
    clear hf hb hn
    go_wp2_with fail
    (try simp only [Exit.inBlock, Exit.then]); refine bodyPost_ret (res1 HX2.out rfl rfl) rfl ?_
    exact ⟨_, rfl, HFZ.out, HBZ.out⟩
  have d4 : decide (3 < r) = false := decide_eq_false h4
  have hK : KR k r := by unfold KR; omega
  have hw := hK.win
  have s1 : IntKind.i64.wrap (2 * r) = 2 * r := IntWalk.i64_in _ (by omega)
  have s2 : IntKind.i64.wrap (2 * r + 1) = 2 * r + 1 := IntWalk.i64_in _ (by omega)
  have hpow := fun W => power_calls k (2 * r + 1) W (by omega) (by omega) (by omega) (by omega)
  obtain ⟨nw, hnw⟩ : ∃ nw, nwin k r = nw := ⟨_, rfl⟩
  have hpn : k ^ (2 * r + 1).toNat = nw := hnw
  rw [hpn] at hpow
  have HPW := Aside0.mk hpow
  clear hpow hpn
  by_cases h5 : (t.length : Int) = nw
  · have d5 : ((t.length : Int) != nw) = false := by rw [bne_eq_false_iff_eq]; exact h5
    obtain ⟨x, hx⟩ : ∃ x, fstIx (badB k) t = x := ⟨_, rfl⟩
    have HX := Aside0.mk hx
    by_cases h6 : 0 ≤ x
    · have ho : chkR k r t = some (1, [(ruleS, 3 + x)]) := by unfold chkR; rw [if_neg (by omega), if_neg (by omega), if_neg (by omega), hx, if_pos h6]
      rw [ho]
      have hmx : x ≤ 16384 := by
        rcases fstIx_cases (badB k) t with ⟨h7, _⟩ | ⟨i, hi, h7, _⟩ <;> omega
      have h5' := Aside0.mk h5
      have hnw' := Aside0.mk hnw
      clear ho h5 hnw hx
      go_enter Tryd.func35, Tryd.ntmps35
      go_wp2_with fail
      clear hw0 ha hb0
      go_quiet ((go_at_call 83; (with_reducible refine (HPW.out _).mono ?_); rintro e w' ⟨rfl, rfl⟩; exact ⟨rfl, _, rfl⟩))
      go_wp2_with fail
      refine (rbad_calls k A c t (w0.drewN nq) (Kd.C_below (Kd.C_below (HR.out) (HB0.out)) (pw_below_drewN (Below.refl _ _) nq))).mono ?_
      rintro e w1 ⟨rfl, rfl⟩
      rw [HX.out]
      go_wp2_with fail
      refine (new_F _ (3 + x) (1) (w0.drewN nq)).mono ?_
      rintro e wz ⟨zv, rfl, hf, hb⟩
      obtain ⟨zn, zA1, zn1, zc1, zA2, zn2, zc2, rfl, hn⟩ := hf.now.form
      have HXC := Aside0.mk ((((HBX.out).below (pw_below_drewN (Below.refl _ _) nq))).below hb)
      obtain ⟨k0, k1, k2, z0, z1, z2⟩ := HXC.out.cells
      have HX2 := Aside0.mk (HXC.out.put (.int .i64 zn) (.slice zA1 zn1 zc1) (.slice zA2 zn2 zc2))
      have HFZ := Aside0.mk ((hf.put3 (b := b) (((HBX.out).below (pw_below_drewN (Below.refl _ _) nq))).lt (.int .i64 zn) (.slice zA1 zn1 zc1) (.slice zA2 zn2 zc2)).lower (b' := w.heap.size) ((pw_below_drewN (HB0.out) nq)).size)
      have HBZ := Aside0.mk (below_put3 (below_step (pw_below_drewN (HB0.out) nq) hb) HLE.out (.int .i64 zn) (.slice zA1 zn1 zc1) (.slice zA2 zn2 zc2))
      clear hf hb hn
      go_wp2_with fail
      (try simp only [Exit.inBlock, Exit.then]); refine bodyPost_ret (res1 HX2.out rfl rfl) rfl ?_
      exact ⟨_, rfl, HFZ.out, HBZ.out⟩
    · have ho : chkR k r t = none := by unfold chkR; rw [if_neg (by omega), if_neg (by omega), if_neg (by omega), hx, if_neg h6]
      rw [ho]
      have h5' := Aside0.mk h5
      have hnw' := Aside0.mk hnw
      clear ho h5 hnw hx
      go_enter Tryd.func35, Tryd.ntmps35
      go_wp2_with fail
      clear hw0 ha hb0
      go_quiet ((go_at_call 83; (with_reducible refine (HPW.out _).mono ?_); rintro e w' ⟨rfl, rfl⟩; exact ⟨rfl, _, rfl⟩))
      go_wp2_with fail
      refine (rbad_calls k A c t (w0.drewN nq) (Kd.C_below (Kd.C_below (HR.out) (HB0.out)) (pw_below_drewN (Below.refl _ _) nq))).mono ?_
      rintro e w1 ⟨rfl, rfl⟩
      rw [HX.out]
      obtain ⟨k0, k1, k2, z0, z1, z2⟩ := (((HBX.out).below (pw_below_drewN (Below.refl _ _) nq))).cells
      have HX2 := Aside0.mk ((((HBX.out).below (pw_below_drewN (Below.refl _ _) nq))).put (.int .i64 0) (.slice none 0 0) (.slice none 0 0))
      have HBZ := Aside0.mk (below_put3 (pw_below_drewN (HB0.out) nq) HLE.out (.int .i64 0) (.slice none 0 0) (.slice none 0 0))
      go_wp2_with fail
      (try simp only [Exit.inBlock, Exit.then]); refine bodyPost_ret (res1 HX2.out rfl rfl) rfl ?_
      exact ⟨_, rfl, WantF.nil _ _, HBZ.out⟩
  · have ho : chkR k r t = some (1, [(ruleS, 2)]) := by unfold chkR; rw [if_neg (by omega), if_neg (by omega), if_pos (by omega)]
    rw [ho]
    have d5 : ((t.length : Int) != nw) = true := by rw [bne_iff_ne]; exact h5
    have hnw' := Aside0.mk hnw
    clear ho h5 hnw
    go_enter Tryd.func35, Tryd.ntmps35
    go_wp2_with fail
    clear hw0 ha hb0
    go_quiet ((go_at_call 83; (with_reducible refine (HPW.out _).mono ?_); rintro e w' ⟨rfl, rfl⟩; exact ⟨rfl, _, rfl⟩))
    go_wp2_with fail
    refine (new_F _ (2) (1) (w0.drewN nq)).mono ?_
    rintro e wz ⟨zv, rfl, hf, hb⟩
    obtain ⟨zn, zA1, zn1, zc1, zA2, zn2, zc2, rfl, hn⟩ := hf.now.form
    have HXC := Aside0.mk ((((HBX.out).below (pw_below_drewN (Below.refl _ _) nq))).below hb)
    obtain ⟨k0, k1, k2, z0, z1, z2⟩ := HXC.out.cells
    have HX2 := Aside0.mk (HXC.out.put (.int .i64 zn) (.slice zA1 zn1 zc1) (.slice zA2 zn2 zc2))
    have HFZ := Aside0.mk ((hf.put3 (b := b) (((HBX.out).below (pw_below_drewN (Below.refl _ _) nq))).lt (.int .i64 zn) (.slice zA1 zn1 zc1) (.slice zA2 zn2 zc2)).lower (b' := w.heap.size) ((pw_below_drewN (HB0.out) nq)).size)
    have HBZ := Aside0.mk (below_put3 (below_step (pw_below_drewN (HB0.out) nq) hb) HLE.out (.int .i64 zn) (.slice zA1 zn1 zc1) (.slice zA2 zn2 zc2))
    clear hf hb hn
    go_wp2_with fail
    (try simp only [Exit.inBlock, Exit.then]); refine bodyPost_ret (res1 HX2.out rfl rfl) rfl ?_
    exact ⟨_, rfl, HFZ.out, HBZ.out⟩

set_option maxHeartbeats 4000000 in
set_option maxRecDepth 100000 in
theorem rsmallR_calls (k r : Int) (A : Option Addr) (c : Nat) (t : List Int) (w : World) (hr : Kd.C (Kd.int .i64) w A t.length t) :
    Calls Tryd.prog 37 #[.agg #[.int .i64 k, .int .i64 r, .slice A t.length c]] w (WantO w (smallR k r t)) := by
  have hm := Kd.C_max hr
  have HR := Aside0.mk hr
  clear hr
  obtain ⟨w0, hw0⟩ : ∃ w0, (w.alloc (.cells #[.int .i64 k, .int .i64 r, .slice A t.length c] tRule)).alloc (.cells #[.int .i64 0, .slice none 0 0, .slice none 0 0] tErr) = w0 := ⟨_, rfl⟩
  obtain ⟨a, ha⟩ : ∃ a, w.heap.size = a := ⟨_, rfl⟩
  obtain ⟨b, hb0⟩ : ∃ b, a + 1 = b := ⟨_, rfl⟩
  have HB0 := Aside0.mk (show Below w.heap.size w w0 by rw [← hw0]; exact below_alloc (below_alloc (Below.refl _ _) _) _)
  have HBX := Aside0.mk (show Box3 w0 b (.int .i64 0) (.slice none 0 0) (.slice none 0 0) by rw [← hw0, ← hb0, ← ha]; have h := Box3.new (w.alloc (.cells #[.int .i64 k, .int .i64 r, .slice A t.length c] tRule)) (.int .i64 0) (.slice none 0 0) (.slice none 0 0); rw [sz_alloc'] at h; exact h)
  have HRX := Aside0.mk (show BoxR w0 a k r (.slice A t.length c) by rw [← hw0, ← ha]; exact (BoxR.new _ _ _ _).below (below_alloc (Below.refl _ _) _))
  have HLE := Aside0.mk (show w.heap.size ≤ b by omega)
  obtain ⟨q0, q1, q2⟩ := HRX.out.cells
  have hf := chkR_few k r t
  cases hc : chkR k r t with
  | some x =>
    have ho : smallR k r t = some x := by unfold smallR; rw [hc]
    rw [ho]
    rw [hc] at hf
    have HCK := Aside0.mk hc
    have HFW := Aside0.mk (hf.mono (by decide : 1 ≤ 1000))
    clear ho hc hf
    go_enter Tryd.func37, Tryd.ntmps37
    go_wp2_with fail
    clear hw0 ha hb0
    refine (rchkR_calls k r A c t w0 (Kd.C_below (HR.out) (HB0.out))).mono ?_
    rintro e w1 ⟨v, rfl, hv, hb⟩
    have HB1 := Aside0.mk (hb)
    clear hb
    rw [HCK.out] at hv
    obtain ⟨zn, zA1, zn1, zc1, zA2, zn2, zc2, rfl, hn⟩ := hv.now.form
    have HV := Aside0.mk hv
    clear hv hn
    obtain ⟨wx1, hwx⟩ : ∃ wx, (w1).alloc (.cells #[.int .i64 zn, .slice zA1 zn1 zc1, .slice zA2 zn2 zc2] tErr) = wx := ⟨_, rfl⟩
    obtain ⟨bx1, hbx⟩ : ∃ bx, (w1).heap.size = bx := ⟨_, rfl⟩
    have HBW1 := Aside0.mk (show Below (w1).heap.size w1 wx1 by rw [← hwx]; exact below_alloc (Below.refl _ _) _)
    have HBE1 := Aside0.mk (show Box3 wx1 bx1 (.int .i64 zn) (.slice zA1 zn1 zc1) (.slice zA2 zn2 zc2) by rw [← hwx, ← hbx]; exact Box3.new _ _ _ _)
    obtain ⟨e0, e1, e2, y0, y1, y2⟩ := HBE1.out.cells
    go_wp2_with fail
    clear hwx hbx
    refine (ebad_want (some x) HFW.out _ wx1 (((HV.out).below (HBW1.out))).now).mono ?_
    rintro e w2 ⟨rfl, hb⟩
    have HB2 := Aside0.mk (hb)
    clear hb
    obtain ⟨e0, e1, e2, y0, y1, y2⟩ := (((HBE1.out).below (HB2.out))).cells
    obtain ⟨k0, k1, k2, z0, z1, z2⟩ := (((((HBX.out).below (HB1.out)).below (HBW1.out)).below (HB2.out))).cells
    have HX2 := Aside0.mk ((((((HBX.out).below (HB1.out)).below (HBW1.out)).below (HB2.out))).put (.int .i64 zn) (.slice zA1 zn1 zc1) (.slice zA2 zn2 zc2))
    have HFZ := Aside0.mk ((((((HV.out).below (HBW1.out)).below (HB2.out))).put3 (b := b) HBX.out.lt (.int .i64 zn) (.slice zA1 zn1 zc1) (.slice zA2 zn2 zc2)).lower (b' := w.heap.size) HB0.out.size)
    have HBZ := Aside0.mk (below_put3 (below_step (below_step (below_step (HB0.out) HB1.out) HBW1.out) HB2.out) HLE.out (.int .i64 zn) (.slice zA1 zn1 zc1) (.slice zA2 zn2 zc2))
    go_wp2_with fail
    (try simp only [Exit.inBlock, Exit.then]); refine bodyPost_ret (res1 HX2.out rfl rfl) rfl ?_
    exact ⟨_, rfl, HFZ.out, HBZ.out⟩
  | none =>
    rw [hc] at hf
    by_cases h5 : 256 < t.length
    · have ho : smallR k r t = some (4, [(ruleS, 0)]) := by unfold smallR; rw [hc]; simp [h5]
      rw [ho]
      have HCK := Aside0.mk hc
      have HFW := Aside0.mk (hf.mono (by decide : 1 ≤ 1000))
      have d5 : decide ((256 : Int) < t.length) = true := decide_eq_true (by omega)
      clear ho hc hf
      go_enter Tryd.func37, Tryd.ntmps37
      go_wp2_with fail
      clear hw0 ha hb0
      refine (rchkR_calls k r A c t w0 (Kd.C_below (HR.out) (HB0.out))).mono ?_
      rintro e w1 ⟨v, rfl, hv, hb⟩
      have HB1 := Aside0.mk (hb)
      clear hb
      rw [HCK.out] at hv
      obtain ⟨zn, zA1, zn1, zc1, zA2, zn2, zc2, rfl, hn⟩ := hv.now.form
      have HV := Aside0.mk hv
      clear hv hn
      obtain ⟨wx1, hwx⟩ : ∃ wx, (w1).alloc (.cells #[.int .i64 zn, .slice zA1 zn1 zc1, .slice zA2 zn2 zc2] tErr) = wx := ⟨_, rfl⟩
      obtain ⟨bx1, hbx⟩ : ∃ bx, (w1).heap.size = bx := ⟨_, rfl⟩
      have HBW1 := Aside0.mk (show Below (w1).heap.size w1 wx1 by rw [← hwx]; exact below_alloc (Below.refl _ _) _)
      have HBE1 := Aside0.mk (show Box3 wx1 bx1 (.int .i64 zn) (.slice zA1 zn1 zc1) (.slice zA2 zn2 zc2) by rw [← hwx, ← hbx]; exact Box3.new _ _ _ _)
      obtain ⟨e0, e1, e2, y0, y1, y2⟩ := HBE1.out.cells
      go_wp2_with fail
      clear hwx hbx
      refine (ebad_want none HFW.out _ wx1 (((HV.out).below (HBW1.out))).now).mono ?_
      rintro e w2 ⟨rfl, hb⟩
      have HB2 := Aside0.mk (hb)
      clear hb
      obtain ⟨e0, e1, e2, y0, y1, y2⟩ := (((HBE1.out).below (HB2.out))).cells
      obtain ⟨q0, q1, q2⟩ := BoxR.cells ((((HRX.out).below (HB1.out)).below (HBW1.out)).below (HB2.out))
      go_wp2_with fail
      refine (new_F _ (0) (4) w2).mono ?_
      rintro e wz ⟨zv, rfl, hf, hb⟩
      obtain ⟨zn, zA1, zn1, zc1, zA2, zn2, zc2, rfl, hn⟩ := hf.now.form
      have HXC := Aside0.mk ((((((HBX.out).below (HB1.out)).below (HBW1.out)).below (HB2.out))).below hb)
      obtain ⟨k0, k1, k2, z0, z1, z2⟩ := HXC.out.cells
      have HX2 := Aside0.mk (HXC.out.put (.int .i64 zn) (.slice zA1 zn1 zc1) (.slice zA2 zn2 zc2))
      have HFZ := Aside0.mk ((hf.put3 (b := b) (((((HBX.out).below (HB1.out)).below (HBW1.out)).below (HB2.out))).lt (.int .i64 zn) (.slice zA1 zn1 zc1) (.slice zA2 zn2 zc2)).lower (b' := w.heap.size) ((below_step (below_step (below_step (HB0.out) HB1.out) HBW1.out) HB2.out)).size)
      have HBZ := Aside0.mk (below_put3 (below_step (below_step (below_step (below_step (HB0.out) HB1.out) HBW1.out) HB2.out) hb) HLE.out (.int .i64 zn) (.slice zA1 zn1 zc1) (.slice zA2 zn2 zc2))
      clear hf hb hn
      go_wp2_with fail
      (try simp only [Exit.inBlock, Exit.then]); refine bodyPost_ret (res1 HX2.out rfl rfl) rfl ?_
      exact ⟨_, rfl, HFZ.out, HBZ.out⟩
    · have ho : smallR k r t = none := by unfold smallR; rw [hc]; simp [h5]
      rw [ho]
      have HCK := Aside0.mk hc
      have HFW := Aside0.mk (hf.mono (by decide : 1 ≤ 1000))
      have d5 : decide ((256 : Int) < t.length) = false := decide_eq_false (by omega)
      clear ho hc hf
      go_enter Tryd.func37, Tryd.ntmps37
      go_wp2_with fail
      clear hw0 ha hb0
      refine (rchkR_calls k r A c t w0 (Kd.C_below (HR.out) (HB0.out))).mono ?_
      rintro e w1 ⟨v, rfl, hv, hb⟩
      have HB1 := Aside0.mk (hb)
      clear hb
      rw [HCK.out] at hv
      obtain ⟨zn, zA1, zn1, zc1, zA2, zn2, zc2, rfl, hn⟩ := hv.now.form
      have HV := Aside0.mk hv
      clear hv hn
      obtain ⟨wx1, hwx⟩ : ∃ wx, (w1).alloc (.cells #[.int .i64 zn, .slice zA1 zn1 zc1, .slice zA2 zn2 zc2] tErr) = wx := ⟨_, rfl⟩
      obtain ⟨bx1, hbx⟩ : ∃ bx, (w1).heap.size = bx := ⟨_, rfl⟩
      have HBW1 := Aside0.mk (show Below (w1).heap.size w1 wx1 by rw [← hwx]; exact below_alloc (Below.refl _ _) _)
      have HBE1 := Aside0.mk (show Box3 wx1 bx1 (.int .i64 zn) (.slice zA1 zn1 zc1) (.slice zA2 zn2 zc2) by rw [← hwx, ← hbx]; exact Box3.new _ _ _ _)
      obtain ⟨e0, e1, e2, y0, y1, y2⟩ := HBE1.out.cells
      go_wp2_with fail
      clear hwx hbx
      refine (ebad_want none HFW.out _ wx1 (((HV.out).below (HBW1.out))).now).mono ?_
      rintro e w2 ⟨rfl, hb⟩
      have HB2 := Aside0.mk (hb)
      clear hb
      obtain ⟨e0, e1, e2, y0, y1, y2⟩ := (((HBE1.out).below (HB2.out))).cells
      obtain ⟨q0, q1, q2⟩ := BoxR.cells ((((HRX.out).below (HB1.out)).below (HBW1.out)).below (HB2.out))
      obtain ⟨k0, k1, k2, z0, z1, z2⟩ := (((((HBX.out).below (HB1.out)).below (HBW1.out)).below (HB2.out))).cells
      have HX2 := Aside0.mk ((((((HBX.out).below (HB1.out)).below (HBW1.out)).below (HB2.out))).put (.int .i64 zn) (.slice zA1 zn1 zc1) (.slice zA2 zn2 zc2))
      have HFZ := Aside0.mk ((((((HV.out).below (HBW1.out)).below (HB2.out))).put3 (b := b) HBX.out.lt (.int .i64 zn) (.slice zA1 zn1 zc1) (.slice zA2 zn2 zc2)).lower (b' := w.heap.size) HB0.out.size)
      have HBZ := Aside0.mk (below_put3 (below_step (below_step (below_step (HB0.out) HB1.out) HBW1.out) HB2.out) HLE.out (.int .i64 zn) (.slice zA1 zn1 zc1) (.slice zA2 zn2 zc2))
      go_wp2_with fail
      (try simp only [Exit.inBlock, Exit.then]); refine bodyPost_ret (res1 HX2.out rfl rfl) rfl ?_
      exact ⟨_, rfl, HFZ.out, HBZ.out⟩
end Go.Proofs.YtefhlonipglboaaDoor

/- edenref04.Step: the document's image of a word. -/
namespace Go.Proofs.YtefhlonipglboaaDoor
open Go.RowKit Go.Extern.Stop Go.Stop Go.Extern Go.Proofs.YtefhlonipglboaaDoorW.PrintWords Go.Proofs.YtefhlonipglboaaDoorW.PrintLast Go.Proofs.YtefhlonipglboaaDoorW.PrintMore
set_option linter.unusedVariables false
set_option linter.unusedSimpArgs false

/-- an answer of whole numbers, and a document's error -/
def RAnsI (w : World) (o : Fr) (xs : List Int) (e : Ending) (w' : World) : Prop :=
  ∃ A c u, e = .returned (.tuple #[.slice A xs.length c, u]) ∧ xs.length ≤ c ∧ Kd.C (Kd.int .i64) w' A xs.length xs ∧ WantF w' w.heap.size u o ∧ Below w.heap.size w w'
theorem CI_put3 {w : World} {b n : Nat} {A : Option Addr} {xs : List Int} {ok : Nat → Prop} (h : Kd.F (Kd.int .i64) w ok A n xs) (hk : ∀ k, ok k → k ≠ b) (x y z : Value) : Kd.C (Kd.int .i64) (put3 w b x y z) A n xs :=
  Kd.F_now (Kd.F_far (Kd.F_far (Kd.F_far h (p := ⟨b, 0, none⟩) hk x) (p := ⟨b, 1, none⟩) hk y) (p := ⟨b, 2, none⟩) hk z)

theorem Box3.put3 {w : World} {b g : Nat} {x y z : Value} (h : Box3 w b x y z) (hne : g ≠ b) (x' y' z' : Value) : Box3 (Go.Proofs.YtefhlonipglboaaDoor.put3 w g x' y' z') b x y z :=
  ((h.far (p := ⟨g, 0, none⟩) hne x').far (p := ⟨g, 1, none⟩) hne y').far (p := ⟨g, 2, none⟩) hne z'
theorem Box3.c3 {w : World} {b : Nat} {x y z : Value} (h : Box3 w b x y z) : w.cell? ⟨b, 0, none⟩ = some x ∧ w.cell? ⟨b, 1, none⟩ = some y ∧ w.cell? ⟨b, 2, none⟩ = some z := ⟨h.cells.1, h.cells.2.1, h.cells.2.2.1⟩
set_option maxHeartbeats 1000000 in
set_option maxRecDepth 100000 in
theorem rstep_calls (k r : Int) (A : Option Addr) (c : Nat) (t : List Int) (Ax : Option Addr) (cx : Nat) (x : List Int) (w : World) (hr : Kd.C (Kd.int .i64) w A t.length t) (hc : t.length ≤ c) (hx : Kd.C (Kd.int .i64) w Ax x.length x) (hcx : x.length ≤ cx) :
    Calls Tryd.prog 38 #[.agg #[.int .i64 k, .int .i64 r, .slice A t.length c], .slice Ax x.length cx] w (RAnsI w (stepO k r t x) (stepL k r t x)) := by
  have hm := Kd.C_max hr
  have hmx := Kd.C_max hx
  have hf := chkR_few k r t
  have HR := Aside0.mk hr
  have HX := Aside0.mk hx
  have HC0 := Aside0.mk hc
  have HCX := Aside0.mk hcx
  clear hr hx hc hcx
  obtain ⟨w0, hw0⟩ : ∃ w0, (w.alloc (.cells #[.int .i64 k, .int .i64 r, .slice A t.length c] tRule)).alloc (.cells #[.int .i64 0, .slice none 0 0, .slice none 0 0] tErr) = w0 := ⟨_, rfl⟩
  obtain ⟨a, ha⟩ : ∃ a, w.heap.size = a := ⟨_, rfl⟩
  obtain ⟨b, hb0⟩ : ∃ b, a + 1 = b := ⟨_, rfl⟩
  have HB0 := Aside0.mk (show Below w.heap.size w w0 by rw [← hw0]; exact below_alloc (below_alloc (Below.refl _ _) _) _)
  have HBX := Aside0.mk (show Box3 w0 b (.int .i64 0) (.slice none 0 0) (.slice none 0 0) by rw [← hw0, ← hb0, ← ha]; have h := Box3.new (w.alloc (.cells #[.int .i64 k, .int .i64 r, .slice A t.length c] tRule)) (.int .i64 0) (.slice none 0 0) (.slice none 0 0); rw [sz_alloc'] at h; exact h)
  have HRX := Aside0.mk (show BoxR w0 a k r (.slice A t.length c) by rw [← hw0, ← ha]; exact (BoxR.new _ _ _ _).below (below_alloc (Below.refl _ _) _))
  have HLE := Aside0.mk (show w.heap.size ≤ b by omega)
  obtain ⟨q0, q1, q2⟩ := HRX.out.cells
  cases hck : chkR k r t with
  | some y =>
    have ho : stepO k r t x = some y := by unfold stepO; rw [hck]
    have hl : stepL k r t x = [] := by unfold stepL; rw [ho]
    rw [ho, hl]
    rw [hck] at hf
    have HCK := Aside0.mk hck
    have HFW := Aside0.mk (hf.mono (by decide : 1 ≤ 1000))
    clear hck ho hl hf
    go_enter Tryd.func38, Tryd.ntmps38
    go_wp2_with fail
    clear hw0 ha hb0
    refine (rchkR_calls k r A c t w0 (Kd.C_below (HR.out) (HB0.out))).mono ?_
    rintro e w1 ⟨v, rfl, hv, hb⟩
    have HB1 := Aside0.mk (hb)
    clear hb
    rw [HCK.out] at hv
    obtain ⟨zn, zA1, zn1, zc1, zA2, zn2, zc2, rfl, hn⟩ := hv.now.form
    have HV := Aside0.mk hv
    clear hv hn
    have hltb := (((HBX.out).below (HB1.out))).lt
    obtain ⟨wx1, hwx⟩ : ∃ wx, (w1).alloc (.cells #[.int .i64 zn, .slice zA1 zn1 zc1, .slice zA2 zn2 zc2] tErr) = wx := ⟨_, rfl⟩
    obtain ⟨bx1, hbx⟩ : ∃ bx, (w1).heap.size = bx := ⟨_, rfl⟩
    have HBW1 := Aside0.mk (show Below (w1).heap.size w1 wx1 by rw [← hwx]; exact below_alloc (Below.refl _ _) _)
    have HBE1 := Aside0.mk (show Box3 wx1 bx1 (.int .i64 zn) (.slice zA1 zn1 zc1) (.slice zA2 zn2 zc2) by rw [← hwx, ← hbx]; exact Box3.new _ _ _ _)
    obtain ⟨e0, e1, e2, y0, y1, y2⟩ := HBE1.out.cells
    rw [hbx] at hltb
    have HNB := Aside0.mk (show b ≠ bx1 by omega)
    clear hltb
    go_wp2_with fail
    clear hwx hbx
    refine (ebad_want (some y) HFW.out _ wx1 (((HV.out).below (HBW1.out))).now).mono ?_
    rintro e w2 ⟨rfl, hb⟩
    have HB2 := Aside0.mk (hb)
    clear hb
    obtain ⟨e0, e1, e2, y0, y1, y2⟩ := (((HBE1.out).below (HB2.out))).cells
    obtain ⟨q0, q1, q2⟩ := BoxR.cells ((((HRX.out).below (HB1.out)).below (HBW1.out)).below (HB2.out))
    obtain ⟨k0, k1, k2, z0, z1, z2⟩ := (((((HBX.out).below (HB1.out)).below (HBW1.out)).below (HB2.out))).cells
    have HXE := Aside0.mk (((HBE1.out).below (HB2.out)))
    have HX2 := Aside0.mk (Box3.below ((((((HBX.out).below (HB1.out)).below (HBW1.out)).below (HB2.out))).put (.int .i64 zn) (.slice zA1 zn1 zc1) (.slice zA2 zn2 zc2)) (below_drew (Below.refl _ _)))
    have HFZ := Aside0.mk (((((((HV.out).below (HBW1.out)).below (HB2.out))).put3 (b := b) HBX.out.lt (.int .i64 zn) (.slice zA1 zn1 zc1) (.slice zA2 zn2 zc2)).lower (b' := w.heap.size) HB0.out.size).below (below_drew (Below.refl _ _)))
    have HBZ := Aside0.mk (below_drew (below_put3 (below_step (below_step (below_step (HB0.out) HB1.out) HBW1.out) HB2.out) HLE.out (.int .i64 zn) (.slice zA1 zn1 zc1) (.slice zA2 zn2 zc2)))
    go_wp2_with fail
    go_region_held3 (fun w' => w'.cell? ⟨bx1, 0, none⟩ = some (.int .i64 zn) ∧ w'.cell? ⟨bx1, 1, none⟩ = some (.slice zA1 zn1 zc1) ∧ w'.cell? ⟨bx1, 2, none⟩ = some (.slice zA2 zn2 zc2)) (first | exact (HXE.out.put3 HNB.out _ _ _).c3 | exact ⟨e0, e1, e2⟩ | go_keep) (fail)
    go_wp2_with fail
    (try simp only [Exit.inBlock, Exit.then]); refine bodyPost_ret (res2 HX2.out rfl rfl) rfl ?_
    exact ⟨none, 0, _, rfl, Nat.le_refl _, Kd.C_nil _ _, HFZ.out, HBZ.out⟩
  | none =>
    rw [hck] at hf
    have HFW := Aside0.mk (hf.mono (by decide : 1 ≤ 1000))
    have HCK := Aside0.mk hck
    clear hf
    by_cases h1 : 4096 < x.length
    · have ho : stepO k r t x = some (4, [(ruleS, 0)]) := by unfold stepO; rw [hck]; simp [h1]
      have hl : stepL k r t x = [] := by unfold stepL; rw [ho]
      rw [ho, hl]
      have d1 : decide ((4096 : Int) < x.length) = true := decide_eq_true (by omega)
      clear hck ho hl
      go_enter Tryd.func38, Tryd.ntmps38
      go_wp2_with fail
      clear hw0 ha hb0
      refine (rchkR_calls k r A c t w0 (Kd.C_below (HR.out) (HB0.out))).mono ?_
      rintro e w1 ⟨v, rfl, hv, hb⟩
      have HB1 := Aside0.mk (hb)
      clear hb
      rw [HCK.out] at hv
      obtain ⟨zn, zA1, zn1, zc1, zA2, zn2, zc2, rfl, hn⟩ := hv.now.form
      have HV := Aside0.mk hv
      clear hv hn
      have hltb := (((HBX.out).below (HB1.out))).lt
      obtain ⟨wx1, hwx⟩ : ∃ wx, (w1).alloc (.cells #[.int .i64 zn, .slice zA1 zn1 zc1, .slice zA2 zn2 zc2] tErr) = wx := ⟨_, rfl⟩
      obtain ⟨bx1, hbx⟩ : ∃ bx, (w1).heap.size = bx := ⟨_, rfl⟩
      have HBW1 := Aside0.mk (show Below (w1).heap.size w1 wx1 by rw [← hwx]; exact below_alloc (Below.refl _ _) _)
      have HBE1 := Aside0.mk (show Box3 wx1 bx1 (.int .i64 zn) (.slice zA1 zn1 zc1) (.slice zA2 zn2 zc2) by rw [← hwx, ← hbx]; exact Box3.new _ _ _ _)
      obtain ⟨e0, e1, e2, y0, y1, y2⟩ := HBE1.out.cells
      rw [hbx] at hltb
      have HNB := Aside0.mk (show b ≠ bx1 by omega)
      clear hltb
      go_wp2_with fail
      clear hwx hbx
      refine (ebad_want (none) HFW.out _ wx1 (((HV.out).below (HBW1.out))).now).mono ?_
      rintro e w2 ⟨rfl, hb⟩
      have HB2 := Aside0.mk (hb)
      clear hb
      obtain ⟨e0, e1, e2, y0, y1, y2⟩ := (((HBE1.out).below (HB2.out))).cells
      obtain ⟨q0, q1, q2⟩ := BoxR.cells ((((HRX.out).below (HB1.out)).below (HBW1.out)).below (HB2.out))
      go_wp2_with fail
      refine (new_F _ (0) (4) w2).mono ?_
      rintro e wz ⟨zv, rfl, hf, hb⟩
      obtain ⟨zn, zA1, zn1, zc1, zA2, zn2, zc2, rfl, hn⟩ := hf.now.form
      have HXC := Aside0.mk ((((((HBX.out).below (HB1.out)).below (HBW1.out)).below (HB2.out))).below hb)
      obtain ⟨k0, k1, k2, z0, z1, z2⟩ := HXC.out.cells
      have HX2 := Aside0.mk (HXC.out.put (.int .i64 zn) (.slice zA1 zn1 zc1) (.slice zA2 zn2 zc2))
      have HFZ := Aside0.mk ((hf.put3 (b := b) (((((HBX.out).below (HB1.out)).below (HBW1.out)).below (HB2.out))).lt (.int .i64 zn) (.slice zA1 zn1 zc1) (.slice zA2 zn2 zc2)).lower (b' := w.heap.size) ((below_step (below_step (below_step (HB0.out) HB1.out) HBW1.out) HB2.out)).size)
      have HBZ := Aside0.mk (below_put3 (below_step (below_step (below_step (below_step (HB0.out) HB1.out) HBW1.out) HB2.out) hb) HLE.out (.int .i64 zn) (.slice zA1 zn1 zc1) (.slice zA2 zn2 zc2))
      clear hf hb hn
      go_wp2_with fail
      (try simp only [Exit.inBlock, Exit.then]); refine bodyPost_ret (res2 HX2.out rfl rfl) rfl ?_
      exact ⟨none, 0, _, rfl, Nat.le_refl _, Kd.C_nil _ _, HFZ.out, HBZ.out⟩
    have d1 : decide ((4096 : Int) < x.length) = false := decide_eq_false (by omega)
    obtain ⟨bd, hbd⟩ : ∃ bd, fstIx (badB k) x = bd := ⟨_, rfl⟩
    have HBB := Aside0.mk hbd
    by_cases h2 : 0 ≤ bd
    · have ho : stepO k r t x = some (2, [(ruleS, bd)]) := by unfold stepO; rw [hck]; simp only [if_neg h1, hbd, if_pos h2]
      have hl : stepL k r t x = [] := by unfold stepL; rw [ho]
      rw [ho, hl]
      have hbx : bd ≤ 4096 := by
        rcases fstIx_cases (badB k) x with ⟨h7, _⟩ | ⟨i, hi, h7, _⟩ <;> omega
      have d2 : decide (0 ≤ bd) = true := decide_eq_true h2
      have HBD := Aside0.mk (And.intro h2 hbx)
      clear hck ho hl hbd hbx
      go_enter Tryd.func38, Tryd.ntmps38
      go_wp2_with fail
      clear hw0 ha hb0
      refine (rchkR_calls k r A c t w0 (Kd.C_below (HR.out) (HB0.out))).mono ?_
      rintro e w1 ⟨v, rfl, hv, hb⟩
      have HB1 := Aside0.mk (hb)
      clear hb
      rw [HCK.out] at hv
      obtain ⟨zn, zA1, zn1, zc1, zA2, zn2, zc2, rfl, hn⟩ := hv.now.form
      have HV := Aside0.mk hv
      clear hv hn
      have hltb := (((HBX.out).below (HB1.out))).lt
      obtain ⟨wx1, hwx⟩ : ∃ wx, (w1).alloc (.cells #[.int .i64 zn, .slice zA1 zn1 zc1, .slice zA2 zn2 zc2] tErr) = wx := ⟨_, rfl⟩
      obtain ⟨bx1, hbx⟩ : ∃ bx, (w1).heap.size = bx := ⟨_, rfl⟩
      have HBW1 := Aside0.mk (show Below (w1).heap.size w1 wx1 by rw [← hwx]; exact below_alloc (Below.refl _ _) _)
      have HBE1 := Aside0.mk (show Box3 wx1 bx1 (.int .i64 zn) (.slice zA1 zn1 zc1) (.slice zA2 zn2 zc2) by rw [← hwx, ← hbx]; exact Box3.new _ _ _ _)
      obtain ⟨e0, e1, e2, y0, y1, y2⟩ := HBE1.out.cells
      rw [hbx] at hltb
      have HNB := Aside0.mk (show b ≠ bx1 by omega)
      clear hltb
      go_wp2_with fail
      clear hwx hbx
      refine (ebad_want (none) HFW.out _ wx1 (((HV.out).below (HBW1.out))).now).mono ?_
      rintro e w2 ⟨rfl, hb⟩
      have HB2 := Aside0.mk (hb)
      clear hb
      obtain ⟨e0, e1, e2, y0, y1, y2⟩ := (((HBE1.out).below (HB2.out))).cells
      obtain ⟨q0, q1, q2⟩ := BoxR.cells ((((HRX.out).below (HB1.out)).below (HBW1.out)).below (HB2.out))
      go_wp2_with fail
      refine (rbad_calls k Ax cx x w2 (Kd.C_below (Kd.C_below (Kd.C_below (Kd.C_below (HX.out) (HB0.out)) (HB1.out)) (HBW1.out)) (HB2.out))).mono ?_
      rintro e w3 ⟨rfl, rfl⟩
      rw [HBB.out]
      go_wp2_with fail
      refine (new_F _ (bd) (2) w2).mono ?_
      rintro e wz ⟨zv, rfl, hf, hb⟩
      obtain ⟨zn, zA1, zn1, zc1, zA2, zn2, zc2, rfl, hn⟩ := hf.now.form
      have HXC := Aside0.mk ((((((HBX.out).below (HB1.out)).below (HBW1.out)).below (HB2.out))).below hb)
      obtain ⟨k0, k1, k2, z0, z1, z2⟩ := HXC.out.cells
      have HX2 := Aside0.mk (HXC.out.put (.int .i64 zn) (.slice zA1 zn1 zc1) (.slice zA2 zn2 zc2))
      have HFZ := Aside0.mk ((hf.put3 (b := b) (((((HBX.out).below (HB1.out)).below (HBW1.out)).below (HB2.out))).lt (.int .i64 zn) (.slice zA1 zn1 zc1) (.slice zA2 zn2 zc2)).lower (b' := w.heap.size) ((below_step (below_step (below_step (HB0.out) HB1.out) HBW1.out) HB2.out)).size)
      have HBZ := Aside0.mk (below_put3 (below_step (below_step (below_step (below_step (HB0.out) HB1.out) HBW1.out) HB2.out) hb) HLE.out (.int .i64 zn) (.slice zA1 zn1 zc1) (.slice zA2 zn2 zc2))
      clear hf hb hn
      go_wp2_with fail
      (try simp only [Exit.inBlock, Exit.then]); refine bodyPost_ret (res2 HX2.out rfl rfl) rfl ?_
      exact ⟨none, 0, _, rfl, Nat.le_refl _, Kd.C_nil _ _, HFZ.out, HBZ.out⟩
    · have ho : stepO k r t x = none := by unfold stepO; rw [hck]; simp only [if_neg h1, hbd, if_neg h2]
      have hl : stepL k r t x = imgN k t (2 * r).toNat x x.length := by unfold stepL; rw [ho]
      rw [ho, hl]
      have d2 : decide (0 ≤ bd) = false := decide_eq_false h2
      obtain ⟨hK, hlen, hsym⟩ := chkR_ok hck
      have hall : ∀ j (hj : j < x.length), 0 ≤ x[j] ∧ x[j] < k := by
        rcases fstIx_cases (badB k) x with ⟨h7, h8⟩ | ⟨i, hi, h7, _⟩
        · exact fun j hj => badB_false.1 (h8 j hj)
        · omega
      have HSY := Aside0.mk (Syms.of hall)
      have HKR := Aside0.mk hK
      have HLN := Aside0.mk hlen
      have H96 := Aside0.mk (show x.length ≤ 4096 by omega)
      clear hck ho hl hbd hall hlen hsym hK
      go_enter Tryd.func38, Tryd.ntmps38
      go_wp2_with fail
      clear hw0 ha hb0
      refine (rchkR_calls k r A c t w0 (Kd.C_below (HR.out) (HB0.out))).mono ?_
      rintro e w1 ⟨v, rfl, hv, hb⟩
      have HB1 := Aside0.mk (hb)
      clear hb
      rw [HCK.out] at hv
      obtain ⟨zn, zA1, zn1, zc1, zA2, zn2, zc2, rfl, hn⟩ := hv.now.form
      have HV := Aside0.mk hv
      clear hv hn
      have hltb := (((HBX.out).below (HB1.out))).lt
      obtain ⟨wx1, hwx⟩ : ∃ wx, (w1).alloc (.cells #[.int .i64 zn, .slice zA1 zn1 zc1, .slice zA2 zn2 zc2] tErr) = wx := ⟨_, rfl⟩
      obtain ⟨bx1, hbx⟩ : ∃ bx, (w1).heap.size = bx := ⟨_, rfl⟩
      have HBW1 := Aside0.mk (show Below (w1).heap.size w1 wx1 by rw [← hwx]; exact below_alloc (Below.refl _ _) _)
      have HBE1 := Aside0.mk (show Box3 wx1 bx1 (.int .i64 zn) (.slice zA1 zn1 zc1) (.slice zA2 zn2 zc2) by rw [← hwx, ← hbx]; exact Box3.new _ _ _ _)
      obtain ⟨e0, e1, e2, y0, y1, y2⟩ := HBE1.out.cells
      rw [hbx] at hltb
      have HNB := Aside0.mk (show b ≠ bx1 by omega)
      clear hltb
      go_wp2_with fail
      clear hwx hbx
      refine (ebad_want (none) HFW.out _ wx1 (((HV.out).below (HBW1.out))).now).mono ?_
      rintro e w2 ⟨rfl, hb⟩
      have HB2 := Aside0.mk (hb)
      clear hb
      obtain ⟨e0, e1, e2, y0, y1, y2⟩ := (((HBE1.out).below (HB2.out))).cells
      obtain ⟨q0, q1, q2⟩ := BoxR.cells ((((HRX.out).below (HB1.out)).below (HBW1.out)).below (HB2.out))
      go_wp2_with fail
      refine (rbad_calls k Ax cx x w2 (Kd.C_below (Kd.C_below (Kd.C_below (Kd.C_below (HX.out) (HB0.out)) (HB1.out)) (HBW1.out)) (HB2.out))).mono ?_
      rintro e w3 ⟨rfl, rfl⟩
      rw [HBB.out]
      go_wp2_with fail
      have hltb := (((((HBX.out).below (HB1.out)).below (HBW1.out)).below (HB2.out))).lt
      refine (image_calls k r A c t Ax cx x w2 (Kd.C_below (Kd.C_below (Kd.C_below (Kd.C_below (HR.out) (HB0.out)) (HB1.out)) (HBW1.out)) (HB2.out)) HC0.out (Kd.C_below (Kd.C_below (Kd.C_below (Kd.C_below (HX.out) (HB0.out)) (HB1.out)) (HBW1.out)) (HB2.out)) HCX.out HKR.out HSY.out HLN.out H96.out).mono ?_
      rintro e w4 ⟨Ao, co, rfl, hoc, hoR, hb⟩
      have HB4 := Aside0.mk (hb)
      have HO := Aside0.mk hoR
      clear hb hoR
      have HOC := Aside0.mk hoc
      clear hoc
      have HO2 := Aside0.mk (CI_put3 (b := b) (HO.out) (fun k hk => by omega) (.int .i64 0) (.slice none 0 0) (.slice none 0 0))
      clear hltb
      obtain ⟨k0, k1, k2, z0, z1, z2⟩ := ((((((HBX.out).below (HB1.out)).below (HBW1.out)).below (HB2.out)).below (HB4.out))).cells
      have HX2 := Aside0.mk (((((((HBX.out).below (HB1.out)).below (HBW1.out)).below (HB2.out)).below (HB4.out))).put (.int .i64 0) (.slice none 0 0) (.slice none 0 0))
      have HBZ := Aside0.mk (below_put3 (below_step (below_step (below_step (below_step (HB0.out) HB1.out) HBW1.out) HB2.out) HB4.out) HLE.out (.int .i64 0) (.slice none 0 0) (.slice none 0 0))
      go_wp2_with fail
      (try simp only [Exit.inBlock, Exit.then]); refine bodyPost_ret (res2 HX2.out rfl rfl) rfl ?_
      exact ⟨Ao, co, _, rfl, HOC.out, HO2.out, WantF.nil _ _, HBZ.out⟩
end Go.Proofs.YtefhlonipglboaaDoor

/- rule.Local. -/
namespace Go.Proofs.YtefhlonipglboaaDoor
open Go.RowKit Go.Extern.Stop Go.Stop Go.Extern Go.Proofs.YtefhlonipglboaaDoorW.PrintWords Go.Proofs.YtefhlonipglboaaDoorW.PrintLast Go.Proofs.YtefhlonipglboaaDoorW.PrintMore
set_option linter.unusedVariables false
set_option linter.unusedSimpArgs false

/-- what Local says of a rule and a word -/
def localO (k r : Int) (t l : List Int) : Fr := match chkR k r t with
  | some e => some e
  | none => if (l.length : Int) ≠ 2 * r + 1 then some (3, [(ruleS, 0)]) else if 0 ≤ fstIx (badB k) l then some (2, [(ruleS, fstIx (badB k) l)]) else none
/-- .. and answers -/
def localV (k r : Int) (t l : List Int) : Int := match localO k r t l with
  | some _ => 0
  | none => rd t (valK k l)
/-- a number and an error -/
def AnsC (S : Nat → Addr) (w : World) (o : Fr) (n : Int) (e : Ending) (w' : World) : Prop :=
  ∃ u, e = .returned (.tuple #[.int .i64 n, u]) ∧ ErrV S w' u o ∧ Below w.heap.size w w'

set_option maxHeartbeats 1000000 in
set_option maxRecDepth 100000 in
theorem local_calls (S : Nat → Addr) (k r : Int) (A : Option Addr) (c : Nat) (t : List Int) (Ax : Option Addr) (cx : Nat) (x : List Int) (w : World) (hE : Env S w) (hr : Kd.C (Kd.int .i64) w A t.length t) (hx : Kd.C (Kd.int .i64) w Ax x.length x) :
    Calls Tryd.prog 39 #[.agg #[.int .i64 k, .int .i64 r, .slice A t.length c], .slice Ax x.length cx] w (AnsC S w (localO k r t x) (localV k r t x)) := by
  have hm := Kd.C_max hr
  have hmx := Kd.C_max hx
  have HE := Aside0.mk hE
  have HR := Aside0.mk hr
  have HX := Aside0.mk hx
  clear hE hr hx
  cases hc : chkR k r t with
  | some y =>
    have ho : localO k r t x = some y := by unfold localO; rw [hc]
    have hl : localV k r t x = 0 := by unfold localV; rw [ho]
    rw [ho, hl]
    have HCK := Aside0.mk hc
    clear hc ho hl
    go_enter Tryd.func39, Tryd.ntmps39
    go_wp2_with fail
    refine (chkR_calls S k r A c t _ ((HE.out).below (below_alloc (Below.refl _ _) _)) (Kd.C_below (HR.out) (below_alloc (Below.refl _ _) _))).mono ?_
    rintro e w1 ⟨v, rfl, hv, hb⟩
    have HB1 := Aside0.mk (below_step (below_alloc (Below.refl _ _) _) hb)
    clear hb
    rw [HCK.out] at hv
    obtain ⟨vt, vx, rfl⟩ := hv.2.2.form
    have HV := Aside0.mk hv
    clear hv
    go_wp2_with fail
    go_ret2
    exact ⟨_, rfl, (HV.out), (HB1.out)⟩
  | none =>
    obtain ⟨hK, hlen, hsym⟩ := chkR_ok hc
    have HKR := Aside0.mk hK
    have HLN := Aside0.mk hlen
    obtain ⟨k1, k2, r1, r2⟩ := hK
    have s1 : IntKind.i64.wrap (2 * r) = 2 * r := IntWalk.i64_in _ (by omega)
    have s2 : IntKind.i64.wrap (2 * r + 1) = 2 * r + 1 := IntWalk.i64_in _ (by omega)
    have HCK := Aside0.mk hc
    clear hlen hsym
    by_cases h1 : (x.length : Int) ≠ 2 * r + 1
    · have ho : localO k r t x = some (3, [(ruleS, 0)]) := by unfold localO; rw [hc]; simp [h1]
      have hl : localV k r t x = 0 := by unfold localV; rw [ho]
      rw [ho, hl]
      have d1 : ((x.length : Int) != 2 * r + 1) = true := by rw [bne_iff_ne]; exact h1
      clear hc ho hl
      go_enter Tryd.func39, Tryd.ntmps39
      go_wp2_with fail
      refine (chkR_calls S k r A c t _ ((HE.out).below (below_alloc (Below.refl _ _) _)) (Kd.C_below (HR.out) (below_alloc (Below.refl _ _) _))).mono ?_
      rintro e w1 ⟨v, rfl, hv, hb⟩
      have HB1 := Aside0.mk (below_step (below_alloc (Below.refl _ _) _) hb)
      have HRX := Aside0.mk ((BoxR.new _ _ _ _).below hb)
      clear hb
      rw [HCK.out] at hv
      have hv' : v = .nilIface := hv
      subst hv'
      clear hv
      obtain ⟨q0, q1, q2⟩ := BoxR.cells (HRX.out)
      go_wp2_with fail
      refine (wrongRule_calls S 0 3 (by unfold Num; omega) w1 ((HE.out).below (HB1.out))).mono ?_
      rintro e w2 ⟨v, rfl, hv, hb⟩
      have HB2 := Aside0.mk (hb)
      have HV := Aside0.mk hv
      clear hb hv
      go_wp2_with fail
      go_ret2
      exact ⟨_, rfl, (HV.out), (below_step (HB1.out) HB2.out)⟩
    have hxl : (x.length : Int) = 2 * r + 1 := Classical.not_not.1 h1
    have d1 : ((x.length : Int) != 2 * r + 1) = false := by rw [bne_eq_false_iff_eq]; exact hxl
    obtain ⟨bd, hbd⟩ : ∃ bd, fstIx (badB k) x = bd := ⟨_, rfl⟩
    have HBB := Aside0.mk hbd
    have HXL := Aside0.mk hxl
    by_cases h2 : 0 ≤ bd
    · have ho : localO k r t x = some (2, [(ruleS, bd)]) := by unfold localO; rw [hc]; simp only [if_neg h1, hbd, if_pos h2]
      have hl : localV k r t x = 0 := by unfold localV; rw [ho]
      rw [ho, hl]
      have hbx : bd ≤ 4096 := by
        rcases fstIx_cases (badB k) x with ⟨h7, _⟩ | ⟨i, hi, h7, _⟩ <;> omega
      clear hc ho hl hbd
      go_enter Tryd.func39, Tryd.ntmps39
      go_wp2_with fail
      refine (chkR_calls S k r A c t _ ((HE.out).below (below_alloc (Below.refl _ _) _)) (Kd.C_below (HR.out) (below_alloc (Below.refl _ _) _))).mono ?_
      rintro e w1 ⟨v, rfl, hv, hb⟩
      have HB1 := Aside0.mk (below_step (below_alloc (Below.refl _ _) _) hb)
      have HRX := Aside0.mk ((BoxR.new _ _ _ _).below hb)
      clear hb
      rw [HCK.out] at hv
      have hv' : v = .nilIface := hv
      subst hv'
      clear hv
      obtain ⟨q0, q1, q2⟩ := BoxR.cells (HRX.out)
      go_wp2_with fail
      refine (odd_calls k Ax cx x w1 (Kd.C_below (HX.out) (HB1.out))).mono ?_
      rintro e w2 ⟨rfl, hb⟩
      have HB2 := Aside0.mk (hb)
      clear hb
      rw [HBB.out]
      go_wp2_with fail
      refine (wrongRule_calls S bd 2 (by unfold Num; omega) w2 (((HE.out).below (HB1.out)).below (HB2.out))).mono ?_
      rintro e w3 ⟨v, rfl, hv, hb⟩
      have HB3 := Aside0.mk (hb)
      have HV := Aside0.mk hv
      clear hb hv
      go_wp2_with fail
      go_ret2
      exact ⟨_, rfl, (HV.out), (below_step (below_step (HB1.out) HB2.out) HB3.out)⟩
    · have ho : localO k r t x = none := by unfold localO; rw [hc]; simp only [if_neg h1, hbd, if_neg h2]
      have hl : localV k r t x = rd t (valK k x) := by unfold localV; rw [ho]
      rw [ho, hl]
      have hall : ∀ j (hj : j < x.length), 0 ≤ x[j] ∧ x[j] < k := by
        rcases fstIx_cases (badB k) x with ⟨h7, h8⟩ | ⟨i, hi, h7, _⟩
        · exact fun j hj => badB_false.1 (h8 j hj)
        · omega
      have HALL := Aside0.mk hall
      have HSY := Aside0.mk (Syms.of hall)
      clear hc ho hl hbd hall
      go_enter Tryd.func39, Tryd.ntmps39
      go_wp2_with fail
      refine (chkR_calls S k r A c t _ ((HE.out).below (below_alloc (Below.refl _ _) _)) (Kd.C_below (HR.out) (below_alloc (Below.refl _ _) _))).mono ?_
      rintro e w1 ⟨v, rfl, hv, hb⟩
      have HB1 := Aside0.mk (below_step (below_alloc (Below.refl _ _) _) hb)
      have HRX := Aside0.mk ((BoxR.new _ _ _ _).below hb)
      clear hb
      rw [HCK.out] at hv
      have hv' : v = .nilIface := hv
      subst hv'
      clear hv
      obtain ⟨q0, q1, q2⟩ := BoxR.cells (HRX.out)
      go_wp2_with fail
      refine (odd_calls k Ax cx x w1 (Kd.C_below (HX.out) (HB1.out))).mono ?_
      rintro e w2 ⟨rfl, hb⟩
      have HB2 := Aside0.mk (hb)
      clear hb
      rw [HBB.out]
      go_wp2_with fail
      have HX2 := Aside0.mk (Kd.C_below (Kd.C_below (HX.out) (HB1.out)) (HB2.out))
      have HR2 := Aside0.mk (Kd.C_below (Kd.C_below (HR.out) (HB1.out)) (HB2.out))
      have HRX2 := Aside0.mk ((HRX.out).below (HB2.out))
      have HBW := Aside0.mk (below_step (HB1.out) HB2.out)
      go_loopg [34, 8] x.length (fun kq v34 v8 w' => ∃ i : Nat, v34 = .int .i64 i ∧ i + kq = x.length ∧ v8 = .int .i64 (valK k (x.take i)) ∧ Aside0 (Below w2.heap.size w2 w'))
      case atStart => exact ⟨0, rfl, by omega, rfl, ⟨Below.refl _ _⟩⟩
      case round =>
        obtain ⟨i, rfl, hk, rfl, HB⟩ := hrel
        obtain ⟨q0, q1, q2⟩ := (HRX2.out.below HB.out).cells
        by_cases hlt : i < x.length
        · obtain ⟨kq, rfl⟩ : ∃ kq, gk = kq + 1 := ⟨gk - 1, by omega⟩
          have hxi := HALL.out i hlt
          obtain ⟨ad, e, hxc⟩ := Kd.at_int (Kd.C_below HX2.out HB.out) (i : Int) (by omega) (by omega)
          subst e
          simp only [Int.toNat_natCast] at hxc
          rw [rd_at hlt] at hxc
          have hb := valK_lt (by omega) _ (HSY.out.take i)
          have hp := kpow12' (k := k) (n := (x.take i).length) (by omega) (by omega) (by rw [List.length_take]; omega)
          have hst : valK k (x.take (i + 1)) = valK k (x.take i) * k + x[i] := by rw [List.take_succ_eq_append_getElem hlt, valK_snoc]
          obtain ⟨y, hy⟩ : ∃ y, x[i] = y := ⟨_, rfl⟩
          obtain ⟨n, hn⟩ : ∃ n, valK k (x.take i) = n := ⟨_, rfl⟩
          rw [hy] at hxi hxc hst
          rw [hn] at hb hst ⊢
          obtain ⟨m1, hm1⟩ : ∃ m1, n * k = m1 := ⟨_, rfl⟩
          have hm1b : 0 ≤ m1 ∧ m1 ≤ 67108864 := by
            have h1 : k = 1 ∨ k = 2 ∨ k = 3 ∨ k = 4 := by omega
            rcases h1 with rfl | rfl | rfl | rfl <;> omega
          have hw1 : IntKind.i64.wrap (n * k) = m1 := by rw [hm1]; exact IntWalk.i64_in _ (by omega)
          have hw2 : IntKind.i64.wrap (m1 + y) = m1 + y := IntWalk.i64_in _ (by omega)
          rw [hm1] at hst
          have HST := Aside0.mk hst
          clear hy hn hm1 hst hp hb
          go_wp2_with fail
          go_roundg kq
          case measure => omega
          case rel => exact ⟨i + 1, by go_num, by omega, by rw [HST.out], HB⟩
        · obtain rfl : i = x.length := by omega
          have hb := valK_lt (by omega) _ HSY.out
          have hwn : (t.length : Int) = k ^ x.length := by rw [HLN.out]; unfold nwin; rw [← HXL.out, Int.toNat_natCast]
          rw [List.take_length]
          obtain ⟨n, hn⟩ : ∃ n, valK k x = n := ⟨_, rfl⟩
          rw [hn] at hb ⊢
          obtain ⟨ad', e, htc⟩ := Kd.at_int (Kd.C_below HR2.out HB.out) n (by omega) (by omega)
          subst e
          have HN := Aside0.mk hn
          have hn0 : 0 ≤ n := hb.1
          have hn1 : n < (t.length : Int) := by omega
          have hn2 : decide (0 ≤ n) = true := decide_eq_true hn0
          have hn3 : decide (n < (t.length : Int)) = true := decide_eq_true hn1
          clear hn hwn hb
          go_wp2_with fail
          go_ret2
          exact ⟨.nilIface, by rw [HN.out]; rfl, rfl, below_step HBW.out HB.out⟩
end Go.Proofs.YtefhlonipglboaaDoor

/- edenref04.Local. -/
namespace Go.Proofs.YtefhlonipglboaaDoor
open Go.RowKit Go.Extern.Stop Go.Stop Go.Extern Go.Proofs.YtefhlonipglboaaDoorW.PrintWords Go.Proofs.YtefhlonipglboaaDoorW.PrintLast Go.Proofs.YtefhlonipglboaaDoorW.PrintMore
set_option linter.unusedVariables false
set_option linter.unusedSimpArgs false

theorem value_calls (k : Int) (A : Option Addr) (c : Nat) (l : List Int) (w : World) (hr : Kd.C (Kd.int .i64) w A l.length l) (hc : l.length ≤ c) (hk0 : 1 ≤ k) (hk : k ≤ 4) (hs : Syms k l) (hl : l.length ≤ 12) :
    Calls Tryd.prog 77 #[.int .i64 k, .slice A l.length c] w fun e w' => e = .returned (.int .i64 (valK k l)) ∧ Below w.heap.size w w' := by
  refine (GImg.edenref04_Value.calls (l.length + 1) k A c l _ w hr hc (value_f hk0 hk hs hl _ (by omega))).mono ?_
  rintro e w' ⟨rfl, hd⟩
  exact ⟨rfl, hd.below⟩
/-- a number, and a document's error -/
def RAnsC (w : World) (o : Fr) (n : Int) (e : Ending) (w' : World) : Prop :=
  ∃ u, e = .returned (.tuple #[.int .i64 n, u]) ∧ WantF w' w.heap.size u o ∧ Below w.heap.size w w'
theorem BoxR.c3 {w : World} {b : Nat} {k r : Int} {s : Value} (h : BoxR w b k r s) : w.cell? ⟨b, 0, none⟩ = some (.int .i64 k) ∧ w.cell? ⟨b, 1, none⟩ = some (.int .i64 r) ∧ w.cell? ⟨b, 2, none⟩ = some s := h.cells

set_option maxHeartbeats 1000000 in
set_option maxRecDepth 100000 in
theorem rlocal_calls (k r : Int) (A : Option Addr) (c : Nat) (t : List Int) (Ax : Option Addr) (cx : Nat) (x : List Int) (w : World) (hr : Kd.C (Kd.int .i64) w A t.length t) (hx : Kd.C (Kd.int .i64) w Ax x.length x) (hcx : x.length ≤ cx) :
    Calls Tryd.prog 40 #[.agg #[.int .i64 k, .int .i64 r, .slice A t.length c], .slice Ax x.length cx] w (RAnsC w (localO k r t x) (localV k r t x)) := by
  have hm := Kd.C_max hr
  have hmx := Kd.C_max hx
  have hf := chkR_few k r t
  have HR := Aside0.mk hr
  have HX := Aside0.mk hx
  have HCX := Aside0.mk hcx
  clear hr hx hcx
  obtain ⟨w0, hw0⟩ : ∃ w0, (w.alloc (.cells #[.int .i64 k, .int .i64 r, .slice A t.length c] tRule)).alloc (.cells #[.int .i64 0, .slice none 0 0, .slice none 0 0] tErr) = w0 := ⟨_, rfl⟩
  obtain ⟨a, ha⟩ : ∃ a, w.heap.size = a := ⟨_, rfl⟩
  obtain ⟨b, hb0⟩ : ∃ b, a + 1 = b := ⟨_, rfl⟩
  have HB0 := Aside0.mk (show Below w.heap.size w w0 by rw [← hw0]; exact below_alloc (below_alloc (Below.refl _ _) _) _)
  have HBX := Aside0.mk (show Box3 w0 b (.int .i64 0) (.slice none 0 0) (.slice none 0 0) by rw [← hw0, ← hb0, ← ha]; have h := Box3.new (w.alloc (.cells #[.int .i64 k, .int .i64 r, .slice A t.length c] tRule)) (.int .i64 0) (.slice none 0 0) (.slice none 0 0); rw [sz_alloc'] at h; exact h)
  have HRX := Aside0.mk (show BoxR w0 a k r (.slice A t.length c) by rw [← hw0, ← ha]; exact (BoxR.new _ _ _ _).below (below_alloc (Below.refl _ _) _))
  have HLE := Aside0.mk (show w.heap.size ≤ b by omega)
  obtain ⟨q0, q1, q2⟩ := HRX.out.cells
  have HAB := Aside0.mk (show b ≠ a by omega)
  cases hck : chkR k r t with
  | some y =>
    have ho : localO k r t x = some y := by unfold localO; rw [hck]
    have hl : localV k r t x = 0 := by unfold localV; rw [ho]
    rw [ho, hl]
    rw [hck] at hf
    have HCK := Aside0.mk hck
    have HFW := Aside0.mk (hf.mono (by decide : 1 ≤ 1000))
    clear hck ho hl hf
    go_enter Tryd.func40, Tryd.ntmps40
    go_wp2_with fail
    clear hw0 ha hb0
    refine (rchkR_calls k r A c t w0 (Kd.C_below (HR.out) (HB0.out))).mono ?_
    rintro e w1 ⟨v, rfl, hv, hb⟩
    have HB1 := Aside0.mk (hb)
    clear hb
    rw [HCK.out] at hv
    obtain ⟨zn, zA1, zn1, zc1, zA2, zn2, zc2, rfl, hn⟩ := hv.now.form
    have HV := Aside0.mk hv
    clear hv hn
    have hltb := (((HBX.out).below (HB1.out))).lt
    obtain ⟨wx1, hwx⟩ : ∃ wx, (w1).alloc (.cells #[.int .i64 zn, .slice zA1 zn1 zc1, .slice zA2 zn2 zc2] tErr) = wx := ⟨_, rfl⟩
    obtain ⟨bx1, hbx⟩ : ∃ bx, (w1).heap.size = bx := ⟨_, rfl⟩
    have HBW1 := Aside0.mk (show Below (w1).heap.size w1 wx1 by rw [← hwx]; exact below_alloc (Below.refl _ _) _)
    have HBE1 := Aside0.mk (show Box3 wx1 bx1 (.int .i64 zn) (.slice zA1 zn1 zc1) (.slice zA2 zn2 zc2) by rw [← hwx, ← hbx]; exact Box3.new _ _ _ _)
    obtain ⟨e0, e1, e2, y0, y1, y2⟩ := HBE1.out.cells
    rw [hbx] at hltb
    have HNB := Aside0.mk (show b ≠ bx1 by omega)
    clear hltb
    go_wp2_with fail
    clear hwx hbx
    refine (ebad_want (some y) HFW.out _ wx1 (((HV.out).below (HBW1.out))).now).mono ?_
    rintro e w2 ⟨rfl, hb⟩
    have HB2 := Aside0.mk (hb)
    clear hb
    obtain ⟨e0, e1, e2, y0, y1, y2⟩ := (((HBE1.out).below (HB2.out))).cells
    obtain ⟨q0, q1, q2⟩ := BoxR.cells ((((HRX.out).below (HB1.out)).below (HBW1.out)).below (HB2.out))
    obtain ⟨k0, k1, k2, z0, z1, z2⟩ := (((((HBX.out).below (HB1.out)).below (HBW1.out)).below (HB2.out))).cells
    have HXE := Aside0.mk (((HBE1.out).below (HB2.out)))
    have HX2 := Aside0.mk (Box3.below ((((((HBX.out).below (HB1.out)).below (HBW1.out)).below (HB2.out))).put (.int .i64 zn) (.slice zA1 zn1 zc1) (.slice zA2 zn2 zc2)) (below_drew (Below.refl _ _)))
    have HFZ := Aside0.mk (((((((HV.out).below (HBW1.out)).below (HB2.out))).put3 (b := b) HBX.out.lt (.int .i64 zn) (.slice zA1 zn1 zc1) (.slice zA2 zn2 zc2)).lower (b' := w.heap.size) HB0.out.size).below (below_drew (Below.refl _ _)))
    have HBZ := Aside0.mk (below_drew (below_put3 (below_step (below_step (below_step (HB0.out) HB1.out) HBW1.out) HB2.out) HLE.out (.int .i64 zn) (.slice zA1 zn1 zc1) (.slice zA2 zn2 zc2)))
    go_wp2_with fail
    go_region_held3 (fun w' => w'.cell? ⟨bx1, 0, none⟩ = some (.int .i64 zn) ∧ w'.cell? ⟨bx1, 1, none⟩ = some (.slice zA1 zn1 zc1) ∧ w'.cell? ⟨bx1, 2, none⟩ = some (.slice zA2 zn2 zc2)) (first | exact (HXE.out.put3 HNB.out _ _ _).c3 | exact ⟨e0, e1, e2⟩ | go_keep) (fail)
    go_wp2_with fail
    (try simp only [Exit.inBlock, Exit.then]); refine bodyPost_ret (res2 HX2.out rfl rfl) rfl ?_
    exact ⟨_, rfl, HFZ.out, HBZ.out⟩
  | none =>
    rw [hck] at hf
    have HFW := Aside0.mk (hf.mono (by decide : 1 ≤ 1000))
    have HCK := Aside0.mk hck
    obtain ⟨hK, hlen, hsym⟩ := chkR_ok hck
    have HLN := Aside0.mk hlen
    obtain ⟨k1, k2, r1, r2⟩ := hK
    have s1 : IntKind.i64.wrap (2 * r) = 2 * r := IntWalk.i64_in _ (by omega)
    have s2 : IntKind.i64.wrap (2 * r + 1) = 2 * r + 1 := IntWalk.i64_in _ (by omega)
    clear hf hlen hsym
    by_cases h1 : (x.length : Int) ≠ 2 * r + 1
    · have ho : localO k r t x = some (3, [(ruleS, 0)]) := by unfold localO; rw [hck]; simp [h1]
      have hl : localV k r t x = 0 := by unfold localV; rw [ho]
      rw [ho, hl]
      have d1 : ((x.length : Int) != 2 * r + 1) = true := by rw [bne_iff_ne]; exact h1
      clear hck ho hl
      go_enter Tryd.func40, Tryd.ntmps40
      go_wp2_with fail
      clear hw0 ha hb0
      refine (rchkR_calls k r A c t w0 (Kd.C_below (HR.out) (HB0.out))).mono ?_
      rintro e w1 ⟨v, rfl, hv, hb⟩
      have HB1 := Aside0.mk (hb)
      clear hb
      rw [HCK.out] at hv
      obtain ⟨zn, zA1, zn1, zc1, zA2, zn2, zc2, rfl, hn⟩ := hv.now.form
      have HV := Aside0.mk hv
      clear hv hn
      have hltb := (((HBX.out).below (HB1.out))).lt
      obtain ⟨wx1, hwx⟩ : ∃ wx, (w1).alloc (.cells #[.int .i64 zn, .slice zA1 zn1 zc1, .slice zA2 zn2 zc2] tErr) = wx := ⟨_, rfl⟩
      obtain ⟨bx1, hbx⟩ : ∃ bx, (w1).heap.size = bx := ⟨_, rfl⟩
      have HBW1 := Aside0.mk (show Below (w1).heap.size w1 wx1 by rw [← hwx]; exact below_alloc (Below.refl _ _) _)
      have HBE1 := Aside0.mk (show Box3 wx1 bx1 (.int .i64 zn) (.slice zA1 zn1 zc1) (.slice zA2 zn2 zc2) by rw [← hwx, ← hbx]; exact Box3.new _ _ _ _)
      obtain ⟨e0, e1, e2, y0, y1, y2⟩ := HBE1.out.cells
      rw [hbx] at hltb
      have HNB := Aside0.mk (show b ≠ bx1 by omega)
      clear hltb
      go_wp2_with fail
      clear hwx hbx
      refine (ebad_want (none) HFW.out _ wx1 (((HV.out).below (HBW1.out))).now).mono ?_
      rintro e w2 ⟨rfl, hb⟩
      have HB2 := Aside0.mk (hb)
      clear hb
      obtain ⟨e0, e1, e2, y0, y1, y2⟩ := (((HBE1.out).below (HB2.out))).cells
      obtain ⟨q0, q1, q2⟩ := BoxR.cells ((((HRX.out).below (HB1.out)).below (HBW1.out)).below (HB2.out))
      go_wp2_with fail
      refine (new_F _ (0) (3) w2).mono ?_
      rintro e wz ⟨zv, rfl, hf, hb⟩
      obtain ⟨zn, zA1, zn1, zc1, zA2, zn2, zc2, rfl, hn⟩ := hf.now.form
      have HXC := Aside0.mk ((((((HBX.out).below (HB1.out)).below (HBW1.out)).below (HB2.out))).below hb)
      obtain ⟨k0, k1, k2, z0, z1, z2⟩ := HXC.out.cells
      have HX2 := Aside0.mk (HXC.out.put (.int .i64 zn) (.slice zA1 zn1 zc1) (.slice zA2 zn2 zc2))
      have HFZ := Aside0.mk ((hf.put3 (b := b) (((((HBX.out).below (HB1.out)).below (HBW1.out)).below (HB2.out))).lt (.int .i64 zn) (.slice zA1 zn1 zc1) (.slice zA2 zn2 zc2)).lower (b' := w.heap.size) ((below_step (below_step (below_step (HB0.out) HB1.out) HBW1.out) HB2.out)).size)
      have HBZ := Aside0.mk (below_put3 (below_step (below_step (below_step (below_step (HB0.out) HB1.out) HBW1.out) HB2.out) hb) HLE.out (.int .i64 zn) (.slice zA1 zn1 zc1) (.slice zA2 zn2 zc2))
      clear hf hb hn
      go_wp2_with fail
      (try simp only [Exit.inBlock, Exit.then]); refine bodyPost_ret (res2 HX2.out rfl rfl) rfl ?_
      exact ⟨_, rfl, HFZ.out, HBZ.out⟩
    have hxl : (x.length : Int) = 2 * r + 1 := Classical.not_not.1 h1
    have d1 : ((x.length : Int) != 2 * r + 1) = false := by rw [bne_eq_false_iff_eq]; exact hxl
    obtain ⟨bd, hbd⟩ : ∃ bd, fstIx (badB k) x = bd := ⟨_, rfl⟩
    have HBB := Aside0.mk hbd
    have HXL := Aside0.mk hxl
    by_cases h2 : 0 ≤ bd
    · have ho : localO k r t x = some (2, [(ruleS, bd)]) := by unfold localO; rw [hck]; simp only [if_neg h1, hbd, if_pos h2]
      have hl : localV k r t x = 0 := by unfold localV; rw [ho]
      rw [ho, hl]
      have hbx : bd ≤ 4096 := by
        rcases fstIx_cases (badB k) x with ⟨h7, _⟩ | ⟨i, hi, h7, _⟩ <;> omega
      have d2 : decide (0 ≤ bd) = true := decide_eq_true h2
      have HBD := Aside0.mk (And.intro h2 hbx)
      clear hck ho hl hbd hbx
      go_enter Tryd.func40, Tryd.ntmps40
      go_wp2_with fail
      clear hw0 ha hb0
      refine (rchkR_calls k r A c t w0 (Kd.C_below (HR.out) (HB0.out))).mono ?_
      rintro e w1 ⟨v, rfl, hv, hb⟩
      have HB1 := Aside0.mk (hb)
      clear hb
      rw [HCK.out] at hv
      obtain ⟨zn, zA1, zn1, zc1, zA2, zn2, zc2, rfl, hn⟩ := hv.now.form
      have HV := Aside0.mk hv
      clear hv hn
      have hltb := (((HBX.out).below (HB1.out))).lt
      obtain ⟨wx1, hwx⟩ : ∃ wx, (w1).alloc (.cells #[.int .i64 zn, .slice zA1 zn1 zc1, .slice zA2 zn2 zc2] tErr) = wx := ⟨_, rfl⟩
      obtain ⟨bx1, hbx⟩ : ∃ bx, (w1).heap.size = bx := ⟨_, rfl⟩
      have HBW1 := Aside0.mk (show Below (w1).heap.size w1 wx1 by rw [← hwx]; exact below_alloc (Below.refl _ _) _)
      have HBE1 := Aside0.mk (show Box3 wx1 bx1 (.int .i64 zn) (.slice zA1 zn1 zc1) (.slice zA2 zn2 zc2) by rw [← hwx, ← hbx]; exact Box3.new _ _ _ _)
      obtain ⟨e0, e1, e2, y0, y1, y2⟩ := HBE1.out.cells
      rw [hbx] at hltb
      have HNB := Aside0.mk (show b ≠ bx1 by omega)
      clear hltb
      go_wp2_with fail
      clear hwx hbx
      refine (ebad_want (none) HFW.out _ wx1 (((HV.out).below (HBW1.out))).now).mono ?_
      rintro e w2 ⟨rfl, hb⟩
      have HB2 := Aside0.mk (hb)
      clear hb
      obtain ⟨e0, e1, e2, y0, y1, y2⟩ := (((HBE1.out).below (HB2.out))).cells
      obtain ⟨q0, q1, q2⟩ := BoxR.cells ((((HRX.out).below (HB1.out)).below (HBW1.out)).below (HB2.out))
      go_wp2_with fail
      refine (rbad_calls k Ax cx x w2 (Kd.C_below (Kd.C_below (Kd.C_below (Kd.C_below (HX.out) (HB0.out)) (HB1.out)) (HBW1.out)) (HB2.out))).mono ?_
      rintro e w3 ⟨rfl, rfl⟩
      rw [HBB.out]
      go_wp2_with fail
      refine (new_F _ (bd) (2) w2).mono ?_
      rintro e wz ⟨zv, rfl, hf, hb⟩
      obtain ⟨zn, zA1, zn1, zc1, zA2, zn2, zc2, rfl, hn⟩ := hf.now.form
      have HXC := Aside0.mk ((((((HBX.out).below (HB1.out)).below (HBW1.out)).below (HB2.out))).below hb)
      obtain ⟨k0, k1, k2, z0, z1, z2⟩ := HXC.out.cells
      have HX2 := Aside0.mk (HXC.out.put (.int .i64 zn) (.slice zA1 zn1 zc1) (.slice zA2 zn2 zc2))
      have HFZ := Aside0.mk ((hf.put3 (b := b) (((((HBX.out).below (HB1.out)).below (HBW1.out)).below (HB2.out))).lt (.int .i64 zn) (.slice zA1 zn1 zc1) (.slice zA2 zn2 zc2)).lower (b' := w.heap.size) ((below_step (below_step (below_step (HB0.out) HB1.out) HBW1.out) HB2.out)).size)
      have HBZ := Aside0.mk (below_put3 (below_step (below_step (below_step (below_step (HB0.out) HB1.out) HBW1.out) HB2.out) hb) HLE.out (.int .i64 zn) (.slice zA1 zn1 zc1) (.slice zA2 zn2 zc2))
      clear hf hb hn
      go_wp2_with fail
      (try simp only [Exit.inBlock, Exit.then]); refine bodyPost_ret (res2 HX2.out rfl rfl) rfl ?_
      exact ⟨_, rfl, HFZ.out, HBZ.out⟩
    · have ho : localO k r t x = none := by unfold localO; rw [hck]; simp only [if_neg h1, hbd, if_neg h2]
      have hl : localV k r t x = rd t (valK k x) := by unfold localV; rw [ho]
      rw [ho, hl]
      have d2 : decide (0 ≤ bd) = false := decide_eq_false h2
      have hall : ∀ j (hj : j < x.length), 0 ≤ x[j] ∧ x[j] < k := by
        rcases fstIx_cases (badB k) x with ⟨h7, h8⟩ | ⟨i, hi, h7, _⟩
        · exact fun j hj => badB_false.1 (h8 j hj)
        · omega
      have HSY := Aside0.mk (Syms.of hall)
      have hb := valK_lt (by omega) _ HSY.out
      have hwn : (t.length : Int) = k ^ x.length := by rw [HLN.out]; unfold nwin; rw [← hxl, Int.toNat_natCast]
      have HVC := Aside0.mk (fun W hW => value_calls k Ax cx x W hW HCX.out (by omega) (by omega) HSY.out (by omega))
      obtain ⟨n, hn⟩ : ∃ n, valK k x = n := ⟨_, rfl⟩
      rw [hn] at hb ⊢
      rw [hn] at HVC
      have hn0 : 0 ≤ n := hb.1
      have hn1 : n < (t.length : Int) := by omega
      have hn2 : decide (0 ≤ n) = true := decide_eq_true hn0
      have hn3 : decide (n < (t.length : Int)) = true := decide_eq_true hn1
      obtain ⟨ad, ea, htc⟩ := Kd.at_int HR.out n hn0 hn1
      have HEA := Aside0.mk ea
      have HTC := Aside0.mk htc
      clear hck ho hl hbd hall hb hwn hn htc ea
      go_enter Tryd.func40, Tryd.ntmps40
      go_wp2_with fail
      clear hw0 ha hb0
      refine (rchkR_calls k r A c t w0 (Kd.C_below (HR.out) (HB0.out))).mono ?_
      rintro e w1 ⟨v, rfl, hv, hb⟩
      have HB1 := Aside0.mk (hb)
      clear hb
      rw [HCK.out] at hv
      obtain ⟨zn, zA1, zn1, zc1, zA2, zn2, zc2, rfl, hn⟩ := hv.now.form
      have HV := Aside0.mk hv
      clear hv hn
      have hltb := (((HBX.out).below (HB1.out))).lt
      obtain ⟨wx1, hwx⟩ : ∃ wx, (w1).alloc (.cells #[.int .i64 zn, .slice zA1 zn1 zc1, .slice zA2 zn2 zc2] tErr) = wx := ⟨_, rfl⟩
      obtain ⟨bx1, hbx⟩ : ∃ bx, (w1).heap.size = bx := ⟨_, rfl⟩
      have HBW1 := Aside0.mk (show Below (w1).heap.size w1 wx1 by rw [← hwx]; exact below_alloc (Below.refl _ _) _)
      have HBE1 := Aside0.mk (show Box3 wx1 bx1 (.int .i64 zn) (.slice zA1 zn1 zc1) (.slice zA2 zn2 zc2) by rw [← hwx, ← hbx]; exact Box3.new _ _ _ _)
      obtain ⟨e0, e1, e2, y0, y1, y2⟩ := HBE1.out.cells
      rw [hbx] at hltb
      have HNB := Aside0.mk (show b ≠ bx1 by omega)
      clear hltb
      go_wp2_with fail
      clear hwx hbx
      refine (ebad_want (none) HFW.out _ wx1 (((HV.out).below (HBW1.out))).now).mono ?_
      rintro e w2 ⟨rfl, hb⟩
      have HB2 := Aside0.mk (hb)
      clear hb
      obtain ⟨e0, e1, e2, y0, y1, y2⟩ := (((HBE1.out).below (HB2.out))).cells
      obtain ⟨q0, q1, q2⟩ := BoxR.cells ((((HRX.out).below (HB1.out)).below (HBW1.out)).below (HB2.out))
      go_wp2_with fail
      refine (rbad_calls k Ax cx x w2 (Kd.C_below (Kd.C_below (Kd.C_below (Kd.C_below (HX.out) (HB0.out)) (HB1.out)) (HBW1.out)) (HB2.out))).mono ?_
      rintro e w3 ⟨rfl, rfl⟩
      rw [HBB.out]
      go_wp2_with fail
      have ea := HEA.out
      clear HEA
      subst ea
      have HXW := Aside0.mk (Kd.C_below (Kd.C_below (Kd.C_below (Kd.C_below (HX.out) (HB0.out)) (HB1.out)) (HBW1.out)) (HB2.out))
      have HBX2 := Aside0.mk (((((HBX.out).below (HB1.out)).below (HBW1.out)).below (HB2.out)))
      have HRX2 := Aside0.mk ((((HRX.out).below (HB1.out)).below (HBW1.out)).below (HB2.out))
      have HBW := Aside0.mk (below_step (below_step (below_step (HB0.out) HB1.out) HBW1.out) HB2.out)
      have t0 := (((below_step (below_step (below_step (HB0.out) HB1.out) HBW1.out) HB2.out)).cell (World.block_lt_of_cell? w _ HTC.out)).trans HTC.out
      go_region_held3 (fun w' => w'.cell? ⟨a, 0, none⟩ = some (.int .i64 k) ∧ w'.cell? ⟨a, 2, none⟩ = some (.slice (some ad) t.length c) ∧ w'.cell? (ad.add n.toNat) = some (.int .i64 (rd t n))) (first | exact ⟨(HRX3.out.put3 HAB.out _ _ _).cells.1, (HRX3.out.put3 HAB.out _ _ _).cells.2.2, ((below_put3 HB3.out HLE.out _ _ _).cell (World.block_lt_of_cell? w _ HTC.out)).trans HTC.out⟩ | exact ⟨q0, q2, t0⟩ | go_keep) ((go_at_call 77; (with_reducible refine (HVC.out _ (by exact Kd.C_below HXW.out (by repeat (first | exact Below.refl _ _ | apply below_alloc | apply below_drew | apply pw_below_drewN)))).mono ?_); rintro e w3 ⟨rfl, hb⟩; have HBX3 := Aside0.mk (HBX2.out.below (below_step (below_drew (Below.refl (w2).heap.size w2)) hb)); have HRX3 := Aside0.mk (HRX2.out.below (below_step (below_drew (Below.refl (w2).heap.size w2)) hb)); have HB3 := Aside0.mk (below_step HBW.out (below_step (below_drew (Below.refl (w2).heap.size w2)) hb)); have t0 := (HB3.out.cell (World.block_lt_of_cell? w _ HTC.out)).trans HTC.out; obtain ⟨q0, q1, q2⟩ := HRX3.out.cells; obtain ⟨x0, x1, x2, v0, v1, v2⟩ := HBX3.out.cells; clear hb))
      go_wp2_with fail
      have HXZ := Aside0.mk (HBX3.out.put (.int .i64 0) (.slice none 0 0) (.slice none 0 0))
      (try simp only [Exit.inBlock, Exit.then]); refine bodyPost_ret (res2 HXZ.out rfl rfl) rfl ?_
      exact ⟨_, rfl, WantF.nil _ _, below_put3 HB3.out HLE.out _ _ _⟩
end Go.Proofs.YtefhlonipglboaaDoor

/- edenref04.Size. -/
namespace Go.Proofs.YtefhlonipglboaaDoor
open Go.RowKit Go.Extern.Stop Go.Stop Go.Extern Go.Proofs.YtefhlonipglboaaDoorW.PrintWords Go.Proofs.YtefhlonipglboaaDoorW.PrintLast Go.Proofs.YtefhlonipglboaaDoorW.PrintMore
set_option linter.unusedVariables false
set_option linter.unusedSimpArgs false
/-- what edenref04.Size leaves -/
def RSizeRes (k r : Int) (w : World) (e : Ending) (w' : World) : Prop :=
  ∃ n u, e = .returned (.tuple #[.int .i64 n, u]) ∧ WantF w' w.heap.size u (if KR k r then none else some (3, [(ruleS, 0)])) ∧ n = (if KR k r then nwin k r else 0) ∧ Below w.heap.size w w'
set_option maxHeartbeats 4000000 in
set_option maxRecDepth 100000 in
theorem rsize_calls (k r : Int) (w : World) : Calls Tryd.prog 33 #[.int .i64 k, .int .i64 r] w (RSizeRes k r w) := by
  by_cases hK : KR k r
  · unfold RSizeRes
    rw [if_pos hK, if_pos hK]
    obtain ⟨k1, k2, r1, r2⟩ := hK
    have d1 : decide (k < 1) = false := decide_eq_false (by omega)
    have d2 : decide (4 < k) = false := decide_eq_false (by omega)
    have d3 : decide (r < 0) = false := decide_eq_false (by omega)
    have d4 : decide (3 < r) = false := decide_eq_false (by omega)
    have s1 : IntKind.i64.wrap (2 * r) = 2 * r := IntWalk.i64_in _ (by omega)
    have s2 : IntKind.i64.wrap (2 * r + 1) = 2 * r + 1 := IntWalk.i64_in _ (by omega)
    have hpow := fun W => power_calls k (2 * r + 1) W (by omega) (by omega) (by omega) (by omega)
    obtain ⟨nw, hnw⟩ : ∃ nw, nwin k r = nw := ⟨_, rfl⟩
    have hpn : k ^ (2 * r + 1).toNat = nw := hnw
    rw [hpn] at hpow
    rw [hnw]
    have HPW := Aside0.mk hpow
    clear hpow hpn hnw
    obtain ⟨w0, hw0⟩ : ∃ w0, w.alloc (.cells #[.int .i64 0, .slice none 0 0, .slice none 0 0] tErr) = w0 := ⟨_, rfl⟩
    obtain ⟨b, hb0⟩ : ∃ b, w.heap.size = b := ⟨_, rfl⟩
    have HB0 := Aside0.mk (show Below w.heap.size w w0 by rw [← hw0]; exact below_alloc (Below.refl _ _) _)
    have HBX := Aside0.mk (show Box3 w0 b (.int .i64 0) (.slice none 0 0) (.slice none 0 0) by rw [← hw0, ← hb0]; exact Box3.new _ _ _ _)
    have HLE := Aside0.mk (show w.heap.size ≤ b by omega)
    go_enter Tryd.func33, Tryd.ntmps33
    go_wp2_with fail
    clear hw0 hb0
    refine (HPW.out _).mono ?_
    rintro e w1 ⟨rfl, rfl⟩
    obtain ⟨k0, k1, k2, z0, z1, z2⟩ := ((HBX.out)).cells
    have HX2 := Aside0.mk (((HBX.out)).put (.int .i64 0) (.slice none 0 0) (.slice none 0 0))
    have HBZ := Aside0.mk (below_put3 (HB0.out) HLE.out (.int .i64 0) (.slice none 0 0) (.slice none 0 0))
    go_wp2_with fail
    (try simp only [Exit.inBlock, Exit.then]); refine bodyPost_ret (res2 HX2.out rfl rfl) rfl ?_
    exact ⟨nw, _, rfl, WantF.nil _ _, rfl, HBZ.out⟩
  · have h' : k < 1 ∨ 4 < k ∨ r < 0 ∨ 3 < r := by unfold KR at hK; omega
    unfold RSizeRes
    rw [if_neg hK, if_neg hK]
    clear hK
    obtain ⟨w0, hw0⟩ : ∃ w0, w.alloc (.cells #[.int .i64 0, .slice none 0 0, .slice none 0 0] tErr) = w0 := ⟨_, rfl⟩
    obtain ⟨b, hb0⟩ : ∃ b, w.heap.size = b := ⟨_, rfl⟩
    have HB0 := Aside0.mk (show Below w.heap.size w w0 by rw [← hw0]; exact below_alloc (Below.refl _ _) _)
    have HBX := Aside0.mk (show Box3 w0 b (.int .i64 0) (.slice none 0 0) (.slice none 0 0) by rw [← hw0, ← hb0]; exact Box3.new _ _ _ _)
    have HLE := Aside0.mk (show w.heap.size ≤ b by omega)
    by_cases h1 : k < 1
    · have d1 : decide (k < 1) = true := decide_eq_true h1
      clear h'
      go_enter Tryd.func33, Tryd.ntmps33
      go_wp2_with fail
      clear hw0 hb0
      refine (new_F _ (0) (3) w0).mono ?_
      rintro e wz ⟨zv, rfl, hf, hb⟩
      obtain ⟨zn, zA1, zn1, zc1, zA2, zn2, zc2, rfl, hn⟩ := hf.now.form
      have HXC := Aside0.mk (((HBX.out)).below hb)
      obtain ⟨k0, k1, k2, z0, z1, z2⟩ := HXC.out.cells
      have HX2 := Aside0.mk (HXC.out.put (.int .i64 zn) (.slice zA1 zn1 zc1) (.slice zA2 zn2 zc2))
      have HFZ := Aside0.mk ((hf.put3 (b := b) ((HBX.out)).lt (.int .i64 zn) (.slice zA1 zn1 zc1) (.slice zA2 zn2 zc2)).lower (b' := w.heap.size) ((HB0.out)).size)
      have HBZ := Aside0.mk (below_put3 (below_step (HB0.out) hb) HLE.out (.int .i64 zn) (.slice zA1 zn1 zc1) (.slice zA2 zn2 zc2))
      clear hf hb hn
      go_wp2_with fail
      (try simp only [Exit.inBlock, Exit.then]); refine bodyPost_ret (res2 HX2.out rfl rfl) rfl ?_
      exact ⟨0, _, rfl, HFZ.out, rfl, HBZ.out⟩
    · have d1 : decide (k < 1) = false := decide_eq_false h1
      by_cases h2 : 4 < k
      · have d2 : decide (4 < k) = true := decide_eq_true h2
        clear h'
        go_enter Tryd.func33, Tryd.ntmps33
        go_wp2_with fail
        clear hw0 hb0
        refine (new_F _ (0) (3) w0).mono ?_
        rintro e wz ⟨zv, rfl, hf, hb⟩
        obtain ⟨zn, zA1, zn1, zc1, zA2, zn2, zc2, rfl, hn⟩ := hf.now.form
        have HXC := Aside0.mk (((HBX.out)).below hb)
        obtain ⟨k0, k1, k2, z0, z1, z2⟩ := HXC.out.cells
        have HX2 := Aside0.mk (HXC.out.put (.int .i64 zn) (.slice zA1 zn1 zc1) (.slice zA2 zn2 zc2))
        have HFZ := Aside0.mk ((hf.put3 (b := b) ((HBX.out)).lt (.int .i64 zn) (.slice zA1 zn1 zc1) (.slice zA2 zn2 zc2)).lower (b' := w.heap.size) ((HB0.out)).size)
        have HBZ := Aside0.mk (below_put3 (below_step (HB0.out) hb) HLE.out (.int .i64 zn) (.slice zA1 zn1 zc1) (.slice zA2 zn2 zc2))
        clear hf hb hn
        go_wp2_with fail
        (try simp only [Exit.inBlock, Exit.then]); refine bodyPost_ret (res2 HX2.out rfl rfl) rfl ?_
        exact ⟨0, _, rfl, HFZ.out, rfl, HBZ.out⟩
      · have d2 : decide (4 < k) = false := decide_eq_false h2
        by_cases h3 : r < 0
        · have d3 : decide (r < 0) = true := decide_eq_true h3
          clear h'
          go_enter Tryd.func33, Tryd.ntmps33
          go_wp2_with fail
          clear hw0 hb0
          refine (new_F _ (0) (3) w0).mono ?_
          rintro e wz ⟨zv, rfl, hf, hb⟩
          obtain ⟨zn, zA1, zn1, zc1, zA2, zn2, zc2, rfl, hn⟩ := hf.now.form
          have HXC := Aside0.mk (((HBX.out)).below hb)
          obtain ⟨k0, k1, k2, z0, z1, z2⟩ := HXC.out.cells
          have HX2 := Aside0.mk (HXC.out.put (.int .i64 zn) (.slice zA1 zn1 zc1) (.slice zA2 zn2 zc2))
          have HFZ := Aside0.mk ((hf.put3 (b := b) ((HBX.out)).lt (.int .i64 zn) (.slice zA1 zn1 zc1) (.slice zA2 zn2 zc2)).lower (b' := w.heap.size) ((HB0.out)).size)
          have HBZ := Aside0.mk (below_put3 (below_step (HB0.out) hb) HLE.out (.int .i64 zn) (.slice zA1 zn1 zc1) (.slice zA2 zn2 zc2))
          clear hf hb hn
          go_wp2_with fail
          (try simp only [Exit.inBlock, Exit.then]); refine bodyPost_ret (res2 HX2.out rfl rfl) rfl ?_
          exact ⟨0, _, rfl, HFZ.out, rfl, HBZ.out⟩
        · have d3 : decide (r < 0) = false := decide_eq_false h3
          have d4 : decide (3 < r) = true := decide_eq_true (by omega)
          clear h'
          go_enter Tryd.func33, Tryd.ntmps33
          go_wp2_with fail
          clear hw0 hb0
          refine (new_F _ (0) (3) w0).mono ?_
          rintro e wz ⟨zv, rfl, hf, hb⟩
          obtain ⟨zn, zA1, zn1, zc1, zA2, zn2, zc2, rfl, hn⟩ := hf.now.form
          have HXC := Aside0.mk (((HBX.out)).below hb)
          obtain ⟨k0, k1, k2, z0, z1, z2⟩ := HXC.out.cells
          have HX2 := Aside0.mk (HXC.out.put (.int .i64 zn) (.slice zA1 zn1 zc1) (.slice zA2 zn2 zc2))
          have HFZ := Aside0.mk ((hf.put3 (b := b) ((HBX.out)).lt (.int .i64 zn) (.slice zA1 zn1 zc1) (.slice zA2 zn2 zc2)).lower (b' := w.heap.size) ((HB0.out)).size)
          have HBZ := Aside0.mk (below_put3 (below_step (HB0.out) hb) HLE.out (.int .i64 zn) (.slice zA1 zn1 zc1) (.slice zA2 zn2 zc2))
          clear hf hb hn
          go_wp2_with fail
          (try simp only [Exit.inBlock, Exit.then]); refine bodyPost_ret (res2 HX2.out rfl rfl) rfl ?_
          exact ⟨0, _, rfl, HFZ.out, rfl, HBZ.out⟩
end Go.Proofs.YtefhlonipglboaaDoor

/- The law RuleSteps returns true, whatever the rule and the words. -/
namespace Go.Proofs.YtefhlonipglboaaDoor
open Go.RowKit Go.Extern.Stop Go.Stop Go.Extern Go.Proofs.YtefhlonipglboaaDoorW.PrintWords Go.Proofs.YtefhlonipglboaaDoorW.PrintLast Go.Proofs.YtefhlonipglboaaDoorW.PrintMore
set_option linter.unusedVariables false
set_option linter.unusedSimpArgs false

set_option maxHeartbeats 8000000 in
set_option maxRecDepth 100000 in
theorem steps_calls (S : Nat → Addr) (k r : Int) (A : Option Addr) (c : Nat) (t : List Int) (Ax : Option Addr) (cx : Nat) (x : List Int) (Ay : Option Addr) (cy : Nat) (y : List Int) (w : World) (hE : Env S w) (hr : Kd.C (Kd.int .i64) w A t.length t) (ht : t.length + 2 ≤ 17592186044416) (hc : t.length ≤ c)
    (hx : Kd.C (Kd.int .i64) w Ax x.length x) (hxl : x.length + 2 ≤ 17592186044416) (hcx : x.length ≤ cx) (hy : Kd.C (Kd.int .i64) w Ay y.length y) (hyl : y.length + 2 ≤ 17592186044416) (hcy : y.length ≤ cy)
    (haw : ∀ W, Env S W → Calls Tryd.prog 31 #[] W fun e w' => e = .returned (.bool true) ∧ Below W.heap.size W w') :
    Calls Tryd.prog 7 #[.agg #[.int .i64 k, .int .i64 r, .slice A t.length c], .slice Ax x.length cx, .slice Ay y.length cy] w fun e w' => e = .returned (.bool true) ∧ Below w.heap.size w w' := by
  have hm := Kd.C_max hr
  have HE := Aside0.mk hE
  have HR := Aside0.mk hr
  have HX := Aside0.mk hx
  have HY := Aside0.mk hy
  have HT := Aside0.mk ht
  have HXL := Aside0.mk hxl
  have HYL := Aside0.mk hyl
  have HC0 := Aside0.mk hc
  have HCX := Aside0.mk hcx
  have HCY := Aside0.mk hcy
  have HAW := Aside0.mk haw
  clear hE hr hx hy ht hxl hyl hc hcx hcy haw
  go_enter Tryd.func7, Tryd.ntmps7
  go_wp2_with fail
  refine (HAW.out _ ((HE.out).below (below_alloc (Below.refl _ _) _))).mono ?_
  rintro e w1 ⟨rfl, hb⟩
  have HB1 := Aside0.mk (below_step (below_alloc (Below.refl _ _) _) hb)
  have HRX := Aside0.mk ((BoxR.new _ _ _ _).below hb)
  clear hb
  obtain ⟨q0, q1, q2⟩ := BoxR.cells (HRX.out)
  go_wp2_with fail
  refine (lentR_calls k r A c t w1 (Kd.C_below (HR.out) (HB1.out)) HT.out).mono ?_
  rintro e w2 ⟨v, rfl, hv, hb⟩
  have HB2 := Aside0.mk (hb)
  clear hb
  obtain ⟨G, cv, e1, e2, e3, e4⟩ := hv
  subst e1
  have hv : LentIAt w2 w1.heap.size (.slice (some ⟨G, 0, none⟩) t.length cv) t := ⟨G, cv, rfl, e2, e3, e4⟩
  have HV := Aside0.mk hv
  clear hv e2 e3 e4
  obtain ⟨wx1, hwx⟩ : ∃ wx, (w2).alloc (.cells #[.int .i64 k, .int .i64 r, .slice (some ⟨G, 0, none⟩) t.length cv] tRule) = wx := ⟨_, rfl⟩
  obtain ⟨bx1, hbx⟩ : ∃ bx, (w2).heap.size = bx := ⟨_, rfl⟩
  have HBW1 := Aside0.mk (show Below (w2).heap.size w2 wx1 by rw [← hwx]; exact below_alloc (Below.refl _ _) _)
  have HBR1 := Aside0.mk (show BoxR wx1 bx1 k r (.slice (some ⟨G, 0, none⟩) t.length cv) by rw [← hwx, ← hbx]; exact BoxR.new _ _ _ _)
  have hlc : Kd.C (Kd.int .i64) wx1 (some ⟨G, 0, none⟩) t.length t := by obtain ⟨g', c', e1, e2, e3, e4⟩ := LentIAt.full ((HV.out).below (HBW1.out)); injection e1 with e1 _ _; injection e1 with e1; injection e1 with e1 _; subst e1; exact e3
  have HLC := Aside0.mk hlc
  clear hlc
  go_wp2_with fail
  clear hwx hbx
  refine (LentI_calls Ax cx x wx1 (Kd.C_below (Kd.C_below (Kd.C_below (HX.out) (HB1.out)) (HB2.out)) (HBW1.out)) HXL.out).mono ?_
  rintro e w3 ⟨v, rfl, hv, hb⟩
  have HB3 := Aside0.mk (hb)
  have HVX := Aside0.mk hv
  clear hb hv
  obtain ⟨Gx, cvx, e1, e2, e3, e4⟩ := LentIAt.full (HVX.out)
  subst e1
  have HLX := Aside0.mk e3
  clear e2 e3 e4
  go_wp2_with fail
  refine (LentI_calls Ay cy y w3 (Kd.C_below (Kd.C_below (Kd.C_below (Kd.C_below (HY.out) (HB1.out)) (HB2.out)) (HBW1.out)) (HB3.out)) HYL.out).mono ?_
  rintro e w4 ⟨v, rfl, hv, hb⟩
  have HB4 := Aside0.mk (hb)
  have HVY := Aside0.mk hv
  clear hb hv
  obtain ⟨Gy, cvy, e1, e2, e3, e4⟩ := LentIAt.full (HVY.out)
  subst e1
  have HLY := Aside0.mk e3
  clear e2 e3 e4
  obtain ⟨p0, p1, p2⟩ := BoxR.cells (((HBR1.out).below (HB3.out)).below (HB4.out))
  go_wp2_with fail
  refine (step_calls S k r (some ⟨G, 0, none⟩) cv t (some ⟨Gx, 0, none⟩) cvx x w4 ((((((HE.out).below (HB1.out)).below (HB2.out)).below (HBW1.out)).below (HB3.out)).below (HB4.out)) (Kd.C_below (Kd.C_below (HLC.out) (HB3.out)) (HB4.out)) (Kd.C_below (HLX.out) (HB4.out))).mono ?_
  rintro e w5 ⟨Aa, ca, u, rfl, ha1, ha2, hu, hb⟩
  have HB5 := Aside0.mk (hb)
  have HA := Aside0.mk ha2
  have HU := Aside0.mk hu
  clear hb ha2 hu
  clear ha1
  have hform := ErrV.form (HU.out)
  obtain ⟨q0, q1, q2⟩ := BoxR.cells ((((((HRX.out).below (HB2.out)).below (HBW1.out)).below (HB3.out)).below (HB4.out)).below (HB5.out))
  go_wp2_with fail
  refine (rstep_calls k r A c t Ax cx x w5 (Kd.C_below (Kd.C_below (Kd.C_below (Kd.C_below (Kd.C_below (Kd.C_below (HR.out) (HB1.out)) (HB2.out)) (HBW1.out)) (HB3.out)) (HB4.out)) (HB5.out)) HC0.out (Kd.C_below (Kd.C_below (Kd.C_below (Kd.C_below (Kd.C_below (Kd.C_below (HX.out) (HB1.out)) (HB2.out)) (HBW1.out)) (HB3.out)) (HB4.out)) (HB5.out)) HCX.out).mono ?_
  rintro e w6 ⟨Ab, cb, u', rfl, hb1, hb2, hu', hb⟩
  have HB6 := Aside0.mk (hb)
  have HB_ := Aside0.mk hb2
  clear hb hb2
  clear hb1
  obtain ⟨zn, zA1, zn1, zc1, zA2, zn2, zc2, rfl, hz⟩ := hu'.now.form
  have HW := Aside0.mk hu'
  clear hu' hz
  obtain ⟨wx2, hwx⟩ : ∃ wx, (w6).alloc (.cells #[.int .i64 zn, .slice zA1 zn1 zc1, .slice zA2 zn2 zc2] tErr) = wx := ⟨_, rfl⟩
  obtain ⟨bx2, hbx⟩ : ∃ bx, (w6).heap.size = bx := ⟨_, rfl⟩
  have HBW2 := Aside0.mk (show Below (w6).heap.size w6 wx2 by rw [← hwx]; exact below_alloc (Below.refl _ _) _)
  have HBE2 := Aside0.mk (show Box3 wx2 bx2 (.int .i64 zn) (.slice zA1 zn1 zc1) (.slice zA2 zn2 zc2) by rw [← hwx, ← hbx]; exact Box3.new _ _ _ _)
  obtain ⟨e0, e1, e2, y0, y1, y2⟩ := HBE2.out.cells
  obtain ⟨p0, p1, p2⟩ := BoxR.cells ((((((HBR1.out).below (HB3.out)).below (HB4.out)).below (HB5.out)).below (HB6.out)).below (HBW2.out))
  go_wp2_with fail
  clear hwx hbx
  refine (local_calls S k r (some ⟨G, 0, none⟩) cv t (some ⟨Gy, 0, none⟩) cvy y wx2 (((((((((HE.out).below (HB1.out)).below (HB2.out)).below (HBW1.out)).below (HB3.out)).below (HB4.out)).below (HB5.out)).below (HB6.out)).below (HBW2.out)) (Kd.C_below (Kd.C_below (Kd.C_below (Kd.C_below (Kd.C_below (HLC.out) (HB3.out)) (HB4.out)) (HB5.out)) (HB6.out)) (HBW2.out)) (Kd.C_below (Kd.C_below (Kd.C_below (HLY.out) (HB5.out)) (HB6.out)) (HBW2.out))).mono ?_
  rintro e w7 ⟨u2, rfl, hu, hb⟩
  have HB7 := Aside0.mk (hb)
  have HU2 := Aside0.mk hu
  clear hb hu
  have hform2 := ErrV.form (HU2.out)
  obtain ⟨q0, q1, q2⟩ := BoxR.cells (((((((((HRX.out).below (HB2.out)).below (HBW1.out)).below (HB3.out)).below (HB4.out)).below (HB5.out)).below (HB6.out)).below (HBW2.out)).below (HB7.out))
  go_wp2_with fail
  refine (rlocal_calls k r A c t Ay cy y w7 (Kd.C_below (Kd.C_below (Kd.C_below (Kd.C_below (Kd.C_below (Kd.C_below (Kd.C_below (Kd.C_below (Kd.C_below (HR.out) (HB1.out)) (HB2.out)) (HBW1.out)) (HB3.out)) (HB4.out)) (HB5.out)) (HB6.out)) (HBW2.out)) (HB7.out)) (Kd.C_below (Kd.C_below (Kd.C_below (Kd.C_below (Kd.C_below (Kd.C_below (Kd.C_below (Kd.C_below (Kd.C_below (HY.out) (HB1.out)) (HB2.out)) (HBW1.out)) (HB3.out)) (HB4.out)) (HB5.out)) (HB6.out)) (HBW2.out)) (HB7.out)) HCY.out).mono ?_
  rintro e w8 ⟨u3, rfl, hu', hb⟩
  have HB8 := Aside0.mk (hb)
  clear hb
  obtain ⟨yn, yA1, yn1, yc1, yA2, yn2, yc2, rfl, hz⟩ := hu'.now.form
  have HW2 := Aside0.mk hu'
  clear hu' hz
  obtain ⟨wx3, hwx⟩ : ∃ wx, (w8).alloc (.cells #[.int .i64 yn, .slice yA1 yn1 yc1, .slice yA2 yn2 yc2] tErr) = wx := ⟨_, rfl⟩
  obtain ⟨bx3, hbx⟩ : ∃ bx, (w8).heap.size = bx := ⟨_, rfl⟩
  have HBW3 := Aside0.mk (show Below (w8).heap.size w8 wx3 by rw [← hwx]; exact below_alloc (Below.refl _ _) _)
  have HBE3 := Aside0.mk (show Box3 wx3 bx3 (.int .i64 yn) (.slice yA1 yn1 yc1) (.slice yA2 yn2 yc2) by rw [← hwx, ← hbx]; exact Box3.new _ _ _ _)
  obtain ⟨g0, g1, g2, _, _, _⟩ := HBE3.out.cells
  have hnn : (localV k r t y == localV k r t y) = true := beq_self_eq_true _
  go_wp2_with fail
  clear hwx hbx
  refine (ints_true Aa Ab ca cb (stepL k r t x) wx3 (Kd.C_below (Kd.C_below (Kd.C_below (Kd.C_below (Kd.C_below (HA.out) (HB6.out)) (HBW2.out)) (HB7.out)) (HB8.out)) (HBW3.out)) (Kd.C_below (Kd.C_below (Kd.C_below (Kd.C_below (HB_.out) (HBW2.out)) (HB7.out)) (HB8.out)) (HBW3.out))).mono ?_
  rintro e w9 ⟨rfl, hd⟩
  have hb := hd.below
  clear hd
  have HB9 := Aside0.mk (hb)
  clear hb
  obtain ⟨e0, e1, e2, y0, y1, y2⟩ := ((((((HBE2.out).below (HB7.out)).below (HB8.out)).below (HBW3.out)).below (HB9.out))).cells
  go_wp2_with fail
  refine (both_is S (stepO k r t x) u _ w9 (((((((((((((HE.out).below (HB1.out)).below (HB2.out)).below (HBW1.out)).below (HB3.out)).below (HB4.out)).below (HB5.out)).below (HB6.out)).below (HBW2.out)).below (HB7.out)).below (HB8.out)).below (HBW3.out)).below (HB9.out)) (((((((HU.out).below (HB6.out)).below (HBW2.out)).below (HB7.out)).below (HB8.out)).below (HBW3.out)).below (HB9.out)) (((((((HW.out).below (HBW2.out)).below (HB7.out)).below (HB8.out)).below (HBW3.out)).below (HB9.out))).now).mono ?_
  rintro e w10 ⟨rfl, hb⟩
  have HB10 := Aside0.mk (hb)
  clear hb
  obtain ⟨g0, g1, g2, f0, f1, f2⟩ := ((((HBE3.out).below (HB9.out)).below (HB10.out))).cells
  go_wp2_with fail
  refine (both_is S (localO k r t y) u2 _ w10 ((((((((((((((HE.out).below (HB1.out)).below (HB2.out)).below (HBW1.out)).below (HB3.out)).below (HB4.out)).below (HB5.out)).below (HB6.out)).below (HBW2.out)).below (HB7.out)).below (HB8.out)).below (HBW3.out)).below (HB9.out)).below (HB10.out)) (((((HU2.out).below (HB8.out)).below (HBW3.out)).below (HB9.out)).below (HB10.out)) (((((HW2.out).below (HBW3.out)).below (HB9.out)).below (HB10.out))).now).mono ?_
  rintro e w11 ⟨rfl, hb⟩
  have HB11 := Aside0.mk (hb)
  clear hb
  obtain ⟨q0, q1, q2⟩ := BoxR.cells ((((((((((((((HRX.out).below (HB2.out)).below (HBW1.out)).below (HB3.out)).below (HB4.out)).below (HB5.out)).below (HB6.out)).below (HBW2.out)).below (HB7.out)).below (HB8.out)).below (HBW3.out)).below (HB9.out)).below (HB10.out)).below (HB11.out))
  obtain ⟨p0, p1, p2⟩ := BoxR.cells ((((((((((((HBR1.out).below (HB3.out)).below (HB4.out)).below (HB5.out)).below (HB6.out)).below (HBW2.out)).below (HB7.out)).below (HB8.out)).below (HBW3.out)).below (HB9.out)).below (HB10.out)).below (HB11.out))
  go_wp2_with fail
  refine (keptR_true k r _ A _ c t w11 (((((((((((((HV.out).below (HBW1.out)).below (HB3.out)).below (HB4.out)).below (HB5.out)).below (HB6.out)).below (HBW2.out)).below (HB7.out)).below (HB8.out)).below (HBW3.out)).below (HB9.out)).below (HB10.out)).below (HB11.out)) (Kd.C_below (Kd.C_below (Kd.C_below (Kd.C_below (Kd.C_below (Kd.C_below (Kd.C_below (Kd.C_below (Kd.C_below (Kd.C_below (Kd.C_below (Kd.C_below (Kd.C_below (Kd.C_below (HR.out) (HB1.out)) (HB2.out)) (HBW1.out)) (HB3.out)) (HB4.out)) (HB5.out)) (HB6.out)) (HBW2.out)) (HB7.out)) (HB8.out)) (HBW3.out)) (HB9.out)) (HB10.out)) (HB11.out)) HT.out).mono ?_
  rintro e w12 ⟨rfl, hb⟩
  have HB12 := Aside0.mk (hb)
  clear hb
  go_wp2_with fail
  refine (kept_true Ax _ cx _ x w12 ((((((((((((HVX.out).below (HB4.out)).below (HB5.out)).below (HB6.out)).below (HBW2.out)).below (HB7.out)).below (HB8.out)).below (HBW3.out)).below (HB9.out)).below (HB10.out)).below (HB11.out)).below (HB12.out)) (Kd.C_below (Kd.C_below (Kd.C_below (Kd.C_below (Kd.C_below (Kd.C_below (Kd.C_below (Kd.C_below (Kd.C_below (Kd.C_below (Kd.C_below (Kd.C_below (Kd.C_below (Kd.C_below (Kd.C_below (HX.out) (HB1.out)) (HB2.out)) (HBW1.out)) (HB3.out)) (HB4.out)) (HB5.out)) (HB6.out)) (HBW2.out)) (HB7.out)) (HB8.out)) (HBW3.out)) (HB9.out)) (HB10.out)) (HB11.out)) (HB12.out)) HXL.out).mono ?_
  rintro e w13 ⟨rfl, hd⟩
  have hb := hd.below
  clear hd
  have HB13 := Aside0.mk (hb)
  clear hb
  go_wp2_with fail
  refine (kept_true Ay _ cy _ y w13 ((((((((((((HVY.out).below (HB5.out)).below (HB6.out)).below (HBW2.out)).below (HB7.out)).below (HB8.out)).below (HBW3.out)).below (HB9.out)).below (HB10.out)).below (HB11.out)).below (HB12.out)).below (HB13.out)) (Kd.C_below (Kd.C_below (Kd.C_below (Kd.C_below (Kd.C_below (Kd.C_below (Kd.C_below (Kd.C_below (Kd.C_below (Kd.C_below (Kd.C_below (Kd.C_below (Kd.C_below (Kd.C_below (Kd.C_below (Kd.C_below (HY.out) (HB1.out)) (HB2.out)) (HBW1.out)) (HB3.out)) (HB4.out)) (HB5.out)) (HB6.out)) (HBW2.out)) (HB7.out)) (HB8.out)) (HBW3.out)) (HB9.out)) (HB10.out)) (HB11.out)) (HB12.out)) (HB13.out)) HYL.out).mono ?_
  rintro e w14 ⟨rfl, hd⟩
  have hb := hd.below
  clear hd
  have HB14 := Aside0.mk (hb)
  clear hb
  go_wp2_with fail
  go_ret
  exact ⟨rfl, (below_step (below_step (below_step (below_step (below_step (below_step (below_step (below_step (below_step (below_step (below_step (below_step (below_step (below_step (below_step (below_step (HB1.out) HB2.out) HBW1.out) HB3.out) HB4.out) HB5.out) HB6.out) HBW2.out) HB7.out) HB8.out) HBW3.out) HB9.out) HB10.out) HB11.out) HB12.out) HB13.out) HB14.out)⟩
end Go.Proofs.YtefhlonipglboaaDoor

/- rule.head: the first of the four bytes ahead of the number that isn't what it must be. -/
namespace Go.Proofs.YtefhlonipglboaaDoor
open Go.RowKit Go.Extern.Stop Go.Stop Go.Extern Go.Proofs.YtefhlonipglboaaDoorW.PrintWords Go.Proofs.YtefhlonipglboaaDoorW.PrintLast Go.Proofs.YtefhlonipglboaaDoorW.PrintMore
set_option linter.unusedVariables false
set_option linter.unusedSimpArgs false

/-- byte i of s lies between two bounds -/
def rngB (s : ByteArray) (i : Nat) (lo hi : Int) : Bool := decide (i < s.size) && decide (lo ≤ bt s (i : Int)) && decide (bt s (i : Int) ≤ hi)
/-- byte j is what it must be -/
def inB (s : ByteArray) : Nat → Bool
  | 0 => rngB s 0 49 52
  | 1 => rngB s 1 46 46
  | 2 => rngB s 2 48 51
  | _ => rngB s 3 46 46
def headV (s : ByteArray) : Int := if inB s 0 = false then 0 else if inB s 1 = false then 1 else if inB s 2 = false then 2 else if inB s 3 = false then 3 else 4
theorem headV_at {s : ByteArray} {i : Nat} (hi : i < 4) (h : inB s i = false) (hb : ∀ j, j < i → inB s j = true) : headV s = i := by
  have h1 : i = 0 ∨ i = 1 ∨ i = 2 ∨ i = 3 := by omega
  unfold headV
  rcases h1 with rfl | rfl | rfl | rfl
  · rw [if_pos h]; rfl
  · rw [if_neg (by rw [hb 0 (by omega)]; simp), if_pos h]; rfl
  · rw [if_neg (by rw [hb 0 (by omega)]; simp), if_neg (by rw [hb 1 (by omega)]; simp), if_pos h]; rfl
  · rw [if_neg (by rw [hb 0 (by omega)]; simp), if_neg (by rw [hb 1 (by omega)]; simp), if_neg (by rw [hb 2 (by omega)]; simp), if_pos h]; rfl
theorem headV_all {s : ByteArray} (hb : ∀ j, j < 4 → inB s j = true) : headV s = 4 := by
  unfold headV
  rw [if_neg (by rw [hb 0 (by omega)]; simp), if_neg (by rw [hb 1 (by omega)]; simp), if_neg (by rw [hb 2 (by omega)]; simp), if_neg (by rw [hb 3 (by omega)]; simp)]

set_option maxHeartbeats 2000000 in
set_option maxRecDepth 100000 in
theorem at_calls (s : ByteArray) (i : Nat) (lo hi : Int) (b : Nat) (w : World) (hc : w.cell? ⟨b, 0, none⟩ = some (.string s)) (hi4 : i < 4) :
    Calls Tryd.prog 167 #[.int .i64 i, .int .u8 lo, .int .u8 hi, .pointer (some ⟨b, 0, none⟩)] w fun e w' => e = .returned (.bool (rngB s i lo hi)) ∧ w = w' := by
  by_cases h1 : i < s.size
  · have hb := bt_range s (i : Int)
    have hbt := bt_at s (i : Int) (by simpa using h1)
    simp only [Int.toNat_natCast] at hbt
    obtain ⟨x, hx⟩ : ∃ x, bt s (i : Int) = x := ⟨_, rfl⟩
    rw [hx] at hb hbt
    have d1 : decide ((i : Int) < s.size) = true := decide_eq_true (by omega)
    have d1' : decide (i < s.size) = true := decide_eq_true h1
    by_cases h2 : lo ≤ x
    · have d2 : decide (lo ≤ x) = true := decide_eq_true h2
      by_cases h3 : x ≤ hi
      · have d3 : decide (x ≤ hi) = true := decide_eq_true h3
        have HQ : Aside0 (rngB s i lo hi = true) := ⟨by unfold rngB; rw [hx]; simp [h1, h2, h3]⟩
        clear hx
        go_enter Tryd.func167, Tryd.ntmps167
        go_wp2_with fail
        go_ret
        exact ⟨by rw [HQ.out]; first | done | rfl, rfl⟩
      · have d3 : decide (x ≤ hi) = false := decide_eq_false h3
        have HQ : Aside0 (rngB s i lo hi = false) := ⟨by unfold rngB; rw [hx]; simp [h1, h2, h3]⟩
        clear hx
        go_enter Tryd.func167, Tryd.ntmps167
        go_wp2_with fail
        go_ret
        exact ⟨by rw [HQ.out]; first | done | rfl, rfl⟩
    · have d2 : decide (lo ≤ x) = false := decide_eq_false h2
      have HQ : Aside0 (rngB s i lo hi = false) := ⟨by unfold rngB; rw [hx]; simp [h1, h2]⟩
      clear hx
      go_enter Tryd.func167, Tryd.ntmps167
      go_wp2_with fail
      go_ret
      exact ⟨by rw [HQ.out]; first | done | rfl, rfl⟩
  · have d1 : decide ((i : Int) < s.size) = false := decide_eq_false (by omega)
    have d1' : decide (i < s.size) = false := decide_eq_false h1
    have HQ : Aside0 (rngB s i lo hi = false) := ⟨by unfold rngB; simp [h1]⟩
    go_enter Tryd.func167, Tryd.ntmps167
    go_wp2_with fail
    go_ret
    exact ⟨by rw [HQ.out]; first | done | rfl, rfl⟩
set_option maxHeartbeats 4000000 in
set_option maxRecDepth 100000 in
theorem head_calls (s : ByteArray) (w : World) :
    Calls Tryd.prog 139 #[.string s] w fun e w' => e = .returned (.int .i64 (headV s)) ∧ Below w.heap.size w w' := by
  obtain ⟨w0, hw0⟩ : ∃ w0, w.alloc (.cells #[.string s] 9) = w0 := ⟨_, rfl⟩
  obtain ⟨b, hb0⟩ : ∃ b, w.heap.size = b := ⟨_, rfl⟩
  have HB0 := Aside0.mk (show Below w.heap.size w w0 by rw [← hw0]; exact below_alloc (Below.refl _ _) _)
  have hc : w0.cell? ⟨b, 0, none⟩ = some (.string s) := by rw [← hw0, ← hb0]; simp
  have HC := Aside0.mk hc
  clear hc
  go_enter Tryd.func139, Tryd.ntmps139
  go_wp2_with fail
  clear hw0 hb0
  go_loopg [6] 4 (fun kq v6 w' => ∃ i : Nat, v6 = .int .i64 i ∧ i + kq = 4 ∧ Aside0 (∀ j, j < i → inB s j = true) ∧ w0 = w')
  case atStart => exact ⟨0, rfl, rfl, ⟨fun j h => by omega⟩, rfl⟩
  case round =>
    obtain ⟨i, rfl, hk, HA, rfl⟩ := hrel
    have h1 : i = 0 ∨ i = 1 ∨ i = 2 ∨ i = 3 ∨ i = 4 := by omega
    rcases h1 with rfl | rfl | rfl | rfl | rfl
    · have hcl := at_calls s 0 49 52 b w0 HC.out (by decide)
      have hcl' : Calls Tryd.prog 167 #[.int .i64 (0 : Int), .int .u8 49, .int .u8 52, .pointer (some ⟨b, 0, none⟩)] w0 fun e w' => e = .returned (.bool (inB s 0)) ∧ w0 = w' := hcl
      clear hcl
      cases hq : inB s 0 with
      | true =>
        rw [hq] at hcl'
        have HCL := Aside0.mk hcl'
        have HQ := Aside0.mk hq
        obtain rfl : gk = 4 := by omega
        clear hcl' hq hk
        go_wp2_with fail
        refine HCL.out.mono ?_
        rintro e w1 ⟨rfl, rfl⟩
        go_wp2_with fail
        go_roundg 3
        case measure => omega
        case rel => exact ⟨1, by go_num, by omega, ⟨fun j hj => by
          by_cases e : j = 0
          · subst e; exact HQ.out
          · exact HA.out j (by omega)⟩, rfl⟩
      | false =>
        rw [hq] at hcl'
        have HCL := Aside0.mk hcl'
        have HV := Aside0.mk (headV_at (s := s) (i := 0) (by decide) hq HA.out)
        clear hcl' hq hk
        go_wp2_with fail
        refine HCL.out.mono ?_
        rintro e w1 ⟨rfl, rfl⟩
        go_wp2_with fail
        go_ret
        exact ⟨by rw [HV.out]; first | done | rfl, HB0.out⟩
    · have hcl := at_calls s 1 46 46 b w0 HC.out (by decide)
      have hcl' : Calls Tryd.prog 167 #[.int .i64 (1 : Int), .int .u8 46, .int .u8 46, .pointer (some ⟨b, 0, none⟩)] w0 fun e w' => e = .returned (.bool (inB s 1)) ∧ w0 = w' := hcl
      clear hcl
      cases hq : inB s 1 with
      | true =>
        rw [hq] at hcl'
        have HCL := Aside0.mk hcl'
        have HQ := Aside0.mk hq
        obtain rfl : gk = 3 := by omega
        clear hcl' hq hk
        go_wp2_with fail
        refine HCL.out.mono ?_
        rintro e w1 ⟨rfl, rfl⟩
        go_wp2_with fail
        go_roundg 2
        case measure => omega
        case rel => exact ⟨2, by go_num, by omega, ⟨fun j hj => by
          by_cases e : j = 1
          · subst e; exact HQ.out
          · exact HA.out j (by omega)⟩, rfl⟩
      | false =>
        rw [hq] at hcl'
        have HCL := Aside0.mk hcl'
        have HV := Aside0.mk (headV_at (s := s) (i := 1) (by decide) hq HA.out)
        clear hcl' hq hk
        go_wp2_with fail
        refine HCL.out.mono ?_
        rintro e w1 ⟨rfl, rfl⟩
        go_wp2_with fail
        go_ret
        exact ⟨by rw [HV.out]; first | done | rfl, HB0.out⟩
    · have hcl := at_calls s 2 48 51 b w0 HC.out (by decide)
      have hcl' : Calls Tryd.prog 167 #[.int .i64 (2 : Int), .int .u8 48, .int .u8 51, .pointer (some ⟨b, 0, none⟩)] w0 fun e w' => e = .returned (.bool (inB s 2)) ∧ w0 = w' := hcl
      clear hcl
      cases hq : inB s 2 with
      | true =>
        rw [hq] at hcl'
        have HCL := Aside0.mk hcl'
        have HQ := Aside0.mk hq
        obtain rfl : gk = 2 := by omega
        clear hcl' hq hk
        go_wp2_with fail
        refine HCL.out.mono ?_
        rintro e w1 ⟨rfl, rfl⟩
        go_wp2_with fail
        go_roundg 1
        case measure => omega
        case rel => exact ⟨3, by go_num, by omega, ⟨fun j hj => by
          by_cases e : j = 2
          · subst e; exact HQ.out
          · exact HA.out j (by omega)⟩, rfl⟩
      | false =>
        rw [hq] at hcl'
        have HCL := Aside0.mk hcl'
        have HV := Aside0.mk (headV_at (s := s) (i := 2) (by decide) hq HA.out)
        clear hcl' hq hk
        go_wp2_with fail
        refine HCL.out.mono ?_
        rintro e w1 ⟨rfl, rfl⟩
        go_wp2_with fail
        go_ret
        exact ⟨by rw [HV.out]; first | done | rfl, HB0.out⟩
    · have hcl := at_calls s 3 46 46 b w0 HC.out (by decide)
      have hcl' : Calls Tryd.prog 167 #[.int .i64 (3 : Int), .int .u8 46, .int .u8 46, .pointer (some ⟨b, 0, none⟩)] w0 fun e w' => e = .returned (.bool (inB s 3)) ∧ w0 = w' := hcl
      clear hcl
      cases hq : inB s 3 with
      | true =>
        rw [hq] at hcl'
        have HCL := Aside0.mk hcl'
        have HQ := Aside0.mk hq
        obtain rfl : gk = 1 := by omega
        clear hcl' hq hk
        go_wp2_with fail
        refine HCL.out.mono ?_
        rintro e w1 ⟨rfl, rfl⟩
        go_wp2_with fail
        go_roundg 0
        case measure => omega
        case rel => exact ⟨4, by go_num, by omega, ⟨fun j hj => by
          by_cases e : j = 3
          · subst e; exact HQ.out
          · exact HA.out j (by omega)⟩, rfl⟩
      | false =>
        rw [hq] at hcl'
        have HCL := Aside0.mk hcl'
        have HV := Aside0.mk (headV_at (s := s) (i := 3) (by decide) hq HA.out)
        clear hcl' hq hk
        go_wp2_with fail
        refine HCL.out.mono ?_
        rintro e w1 ⟨rfl, rfl⟩
        go_wp2_with fail
        go_ret
        exact ⟨by rw [HV.out]; first | done | rfl, HB0.out⟩
    · have HV := Aside0.mk (headV_all (s := s) HA.out)
      clear hk
      go_wp2_with fail
      go_ret
      exact ⟨by rw [HV.out]; first | done | rfl, HB0.out⟩
end Go.Proofs.YtefhlonipglboaaDoor
