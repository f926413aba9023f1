/- edenlaw16.MatOnes returns true whatever number is handed in; no condition beyond the row's own. (Part 2 of 3: One, Unit, Same, MatMath, Add, Mul, Cmp, Sub, Pow, Through.) -/
import Derived.Deep.QuietTactic
import Derived.BigQuiet
import Derived.Laws.BitsAllLaws
import Derived.Test.YtmnmmalffpimeaaDoorShelf
import Derived.Lib.ItoaNum
import Derived.Test.YtmnmmalffpimeaaDoorBMatOnes1
/- mat.One, edenref16.unit, edenref16.One. -/
namespace Go.Proofs.YtmnmmalffpimeaaDoor
open Go.RowKit Go.Extern.Stop Go.Stop Go.Extern Go.Proofs.YtmnmmalffpimeaaDoorW.PrintWords Go.Proofs.YtmnmmalffpimeaaDoorW.PrintLast Go.Proofs.YtmnmmalffpimeaaDoorW.PrintMore
set_option linter.unusedVariables false
set_option linter.unusedSimpArgs false

/-- line j of the matrix that changes nothing -/
def unitR (n j : Nat) : List (List Int) := (List.replicate n []).set j [1]
def unitM (n : Nat) : List (List (List Int)) := (List.range n).map (unitR n)
theorem unitM_length (n : Nat) : (unitM n).length = n := by simp [unitM]
theorem unitM_get (n j : Nat) (hj : j < (unitM n).length) : (unitM n)[j] = unitR n j := by simp [unitM]
def oneO (n : Int) : Fr := if n < 0 then some (3, [(matS, 0)]) else if 96 < n then some (4, [(matS, 0)]) else none
def oneL (n : Int) : List (List (List Int)) := if n < 0 then [] else if 96 < n then [] else unitM n.toNat
/-- what mat.One leaves -/
def OneRes (S : Nat → Addr) (n : Int) (w : World) (e : Ending) (w' : World) : Prop :=
  ∃ v u, e = .returned (.tuple #[v, u]) ∧ Kd.V KM tNats w' 0 (fun k => w.heap.size ≤ k) v (oneL n) ∧ ErrV S w' u (oneO n) ∧ Below w.heap.size w w'
theorem ones_bad (S : Nat → Addr) (n : Int) (w : World) (hE : Env S w) (h : n < 0 ∨ 96 < n) : Calls Tryd.prog 13 #[.int .i64 n] w (OneRes S n w) := by
  have HE := Aside0.mk hE
  clear hE
  by_cases h0 : n < 0
  · have hd : decide (n < 0) = true := decide_eq_true h0
    have e1 : oneO n = some (3, [(matS, 0)]) := by unfold oneO; rw [if_pos h0]
    have e2 : oneL n = [] := by unfold oneL; rw [if_pos h0]
    unfold OneRes
    rw [e1, e2]
    clear h0 h e1 e2
    go_enter Tryd.func13, Tryd.ntmps13
    go_wp2_with fail
    refine (wrong_calls S 0 3 (by unfold Num; omega) _ HE.out).mono ?_
    rintro e w1 ⟨v, rfl, hv, hb⟩
    have HV := Aside0.mk hv
    have HB := Aside0.mk hb
    clear hv hb
    go_wp2_with fail
    go_ret2
    exact ⟨_, _, rfl, Kd.V_nil _ _ _ _ _, ⟨by unfold Num; omega, by simp, HV.out⟩, HB.out⟩
  · have h9 : 96 < n := by omega
    have hd : decide (n < 0) = false := decide_eq_false h0
    have hd2 : decide (96 < n) = true := decide_eq_true h9
    have e1 : oneO n = some (4, [(matS, 0)]) := by unfold oneO; rw [if_neg h0, if_pos h9]
    have e2 : oneL n = [] := by unfold oneL; rw [if_neg h0, if_pos h9]
    unfold OneRes
    rw [e1, e2]
    clear h0 h h9 e1 e2
    go_enter Tryd.func13, Tryd.ntmps13
    go_wp2_with fail
    refine (wrong_calls S 0 4 (by unfold Num; omega) _ HE.out).mono ?_
    rintro e w1 ⟨v, rfl, hv, hb⟩
    have HV := Aside0.mk hv
    have HB := Aside0.mk hb
    clear hv hb
    go_wp2_with fail
    go_ret2
    exact ⟨_, _, rfl, Kd.V_nil _ _ _ _ _, ⟨by unfold Num; omega, by simp, HV.out⟩, HB.out⟩

set_option maxHeartbeats 4000000 in
set_option maxRecDepth 100000 in
theorem zero_none (w : World) : Calls Tryd.prog 67 #[.int .i64 0] w fun e w' => (∃ A c, e = .returned (.slice A 0 c)) ∧ Below w.heap.size w w' := by
  have HB := Aside0.mk (Below.refl w.heap.size w)
  go_enter Tryd.func67, Tryd.ntmps67
  go_wp2_with ((with_reducible refine gate_dst (N := 6) rfl ?_); refine print_hold ?_)
  unfold Hold
  refine Kd.N_make KM _ tNats rfl (N' := 6) rfl 23 _ _ rfl (0 : Int) rfl rfl Tryd.underlying23 (.slice none 0 0) 24 info_nats rfl (by decide) (by omega) [] (ok := fun _ => True) (okp := fun _ => False) (FK_nil _ _ _ _) (fun _ hk => hk.elim) trivial (by decide) (by decide) HB.out (Nat.le_refl _) ?_
  intro vo w1 ho hb hg_ hnew_
  clear hg_ hnew_ HB
  have HB := Aside0.mk hb
  obtain ⟨A, c, eo⟩ := Kd.N_slice ho
  have eo : vo = .slice A 0 c := eo
  subst eo
  clear hb ho
  go_wp2_with fail
  go_loop [9] (fun v9 => v9 = .int .i64 0) (fun v9 => 0)
  case atStart => rfl
  case round =>
    subst hrel
    go_wp2_with fail
    go_ret
    exact ⟨⟨A, c, rfl⟩, HB.out⟩

set_option maxHeartbeats 4000000 in
set_option maxRecDepth 100000 in
theorem one_zero (S : Nat → Addr) (w : World) : Calls Tryd.prog 13 #[.int .i64 0] w (OneRes S 0 w) := by
  go_enter Tryd.func13, Tryd.ntmps13
  go_wp2_with fail
  refine (zero_none w).mono ?_
  rintro e w1 ⟨⟨A, c, rfl⟩, hb⟩
  have HB := Aside0.mk hb
  clear hb
  go_wp2_with fail
  go_loop [18] (fun v18 => v18 = .int .i64 0) (fun v18 => 0)
  case atStart => rfl
  case round =>
    subst hrel
    go_wp2_with fail
    go_ret2
    have hV : Kd.V KM tNats w1 0 (fun k => w.heap.size ≤ k) (.slice A 0 c) ([] : List (List (List Int))) := ⟨A, c, rfl, Nat.zero_le _, fun W' _ => ⟨rfl, Nat.zero_le _, fun h => absurd h (by decide)⟩⟩
    exact ⟨_, _, rfl, hV, rfl, HB.out⟩

set_option maxHeartbeats 4000000 in
set_option maxRecDepth 100000 in
theorem one_pos (S : Nat → Addr) (n : Nat) (w : World) (h0 : 0 < n) (hn : n ≤ 96) : Calls Tryd.prog 13 #[.int .i64 n] w (OneRes S n w) := by
  have e1 : oneO n = none := by unfold oneO; rw [if_neg (by omega), if_neg (by omega)]
  have e2 : oneL n = unitM n := by unfold oneL; rw [if_neg (by omega), if_neg (by omega), Int.toNat_natCast]
  unfold OneRes
  rw [e1, e2]
  have HN : Aside0 (0 < n ∧ n ≤ 96) := ⟨h0, hn⟩
  have hd1 : decide ((n : Int) < 0) = false := decide_eq_false (by omega)
  have hd2 : decide (96 < (n : Int)) = false := decide_eq_false (by omega)
  have hn9 : n ≤ 9223372036854775807 := by omega
  clear e1 e2 h0 hn
  go_enter Tryd.func13, Tryd.ntmps13
  go_wp2_with fail
  refine (zero_calls n w HN.out.1 HN.out.2).mono ?_
  rintro e w1 ⟨g, cap, G, rfl, hcap, hM, hO, hgb, hgl, hG, hI, hb⟩
  have HCAP := Aside0.mk hcap
  have HG := Aside0.mk (fun j (hj : j < n) => And.intro (hG j hj).1 (hG j hj).2)
  have HI := Aside0.mk hI
  have HGB := Aside0.mk hgb
  have HB1 := Aside0.mk hb
  have HM1 : Aside0 (MatR w1 g n G (fun j k => k = G j ∨ w1.heap.size ≤ k) (fun j => if j < 0 then unitR n j else List.replicate n []) n) := ⟨by
    have h := hM.mono (ok' := fun j k => k = G j ∨ w1.heap.size ≤ k) (fun j k hj hk _ => .inl hk)
    intro j hj
    simpa using h j hj⟩
  have HB := Aside0.mk (Below.refl w1.heap.size w1)
  clear hcap hM hO hgb hgl hG hI hb
  go_wp2_with fail
  go_loopg [18] n (fun kq v18 w' => ∃ i : Nat, v18 = .int .i64 i ∧ Aside0 (kq + i = n) ∧ Aside0 (MatR w' g n G (fun j k => k = G j ∨ w1.heap.size ≤ k) (fun j => if j < i then unitR n j else List.replicate n []) n) ∧ Aside0 (Below w.heap.size w w' ∧ w1.heap.size ≤ w'.heap.size))
  case atStart => exact ⟨0, rfl, ⟨rfl⟩, HM1, ⟨HB1.out, Nat.le_refl _⟩⟩
  case round =>
    clear HM1 HB
    obtain ⟨i, rfl, HK, HM, HB⟩ := hrel
    by_cases hlt : i < n
    · obtain ⟨k1, rfl⟩ : ∃ k1, gk = k1 + 1 := ⟨gk - 1, by have := HK.out; omega⟩
      go_wp2_with fail
      obtain ⟨wq, hwq⟩ : ∃ wq, wr.drew = wq := ⟨_, rfl⟩
      have hBq : Below wr.heap.size wr wq := by rw [← hwq]; exact below_drew (Below.refl _ _)
      have HBq := Aside0.mk hBq
      obtain ⟨_, c, hcell, hcn, _, _⟩ := (HM.out.below hBq) i hlt
      have HCL : Aside0 (wq.cell? ⟨g, i, none⟩ = some (.slice (some ⟨G i, 0, none⟩) n c)) := ⟨hcell⟩
      clear hBq
      refine start_ (n := 8) (S := fun w' => w'.cell? ⟨g, i, none⟩ = some (.slice (some ⟨G i, 0, none⟩) n c)) (ds := [7]) #[false, false, false, false, false, false, false, false] (by kernel_rfl) rfl rfl (by rw [hwq]; exact HCL.out) (fun hHeld => ?_)
      rw [hwq] at hHeld ⊢
      clear hwq
      refine pure_ (i := 0) (N := (some 21)) (v := ?_) (a' := ?_) #[true, false, false, false, false, false, false, false] rfl rfl (by kernel_rfl) (fun _ _ _ h => h) (Or.inl ⟨by rfl, ?_⟩) ?_ ?_
      rotate_left
      · intro w'
        go_simp
        with_reducible rfl
      rotate_left
      · simp only [Act.put, List.setIfInBounds_toArray, List.set_cons_zero, List.set_cons_succ, i64_w, i32_w]
        rfl
      refine pure_ (i := 1) (N := (some 22)) (v := ?_) (a' := ?_) #[true, true, false, false, false, false, false, false] rfl rfl (by kernel_rfl) (fun _ _ _ h => h) (Or.inl ⟨by rfl, ?_⟩) ?_ ?_
      rotate_left
      · intro w'
        go_simp
        with_reducible rfl
      rotate_left
      · simp only [Act.put, List.setIfInBounds_toArray, List.set_cons_zero, List.set_cons_succ, i64_w, i32_w]
        rfl
      refine pure_ (i := 2) (N := (some 23)) (v := ?_) (a' := ?_) #[true, true, true, false, false, false, false, false] rfl rfl (by kernel_rfl) (fun _ _ _ h => h) (Or.inl ⟨by rfl, ?_⟩) ?_ ?_
      rotate_left
      · intro w'
        go_simp
        with_reducible rfl
      rotate_left
      · simp only [Act.put, List.setIfInBounds_toArray, List.set_cons_zero, List.set_cons_succ, i64_w, i32_w]
        rfl
      refine take_ (i := 3) (N := (some 24)) (v := ?_) (a' := ?_) #[true, true, true, true, false, false, false, false] rfl rfl (by kernel_rfl) (fun _ _ _ h => h) (Or.inl ⟨by rfl, ?_⟩) hHeld ?_ ?_
      rotate_left
      · rintro w' s0
        go_simp
        with_reducible rfl
      rotate_left
      · simp only [Act.put, List.setIfInBounds_toArray, List.set_cons_zero, List.set_cons_succ, i64_w, i32_w]
        rfl
      refine pure_ (i := 4) (N := (some 25)) (v := ?_) (a' := ?_) #[true, true, true, true, true, false, false, false] rfl rfl (by kernel_rfl) (fun _ _ _ h => h) (Or.inl ⟨by rfl, ?_⟩) ?_ ?_
      rotate_left
      · intro w'
        go_simp
        with_reducible rfl
      rotate_left
      · simp only [Act.put, List.setIfInBounds_toArray, List.set_cons_zero, List.set_cons_succ, i64_w, i32_w]
        rfl
      refine one_ (i := 5) (N := (some 26)) #[true, true, true, true, true, true, false, false] rfl rfl (by kernel_rfl) (by decide) (fun K hK => ?_)
      refine goes_ Tryd.func46 (by kernel_rfl) rfl #[.int .u64 1] (by rfl) rfl rfl (by (try simp only [List.map_toArray, List.map_cons, List.map_nil]); first | done | rfl) ?_
      with_reducible refine (from_calls 1 _ (by decide) (by decide)).mono ?_
      rintro e w' ⟨v, r, rfl, hfr, hnr, hvr, hb⟩
      refine ⟨_, rfl, ?_⟩
      have e1 : r = [1] := Nrm.inj hnr nrm_one (by rw [hvr]; decide)
      subst e1
      obtain ⟨Av, cv, rfl⟩ := Kd.V_slice hfr
      have HFR := Aside0.mk (Kd.V_at hfr).2
      have HBW := Aside0.mk hb
      have hM2 := (HM.out.below HBq.out).below HBW.out
      obtain ⟨_, cz, hcz0, hcn, hfz0, hNz⟩ := hM2 i hlt
      obtain ⟨Az, czz, hcz, hfz, _, _⟩ := N_cell1 hNz i hlt
      have HM2 := Aside0.mk hM2
      refine hK.out _ _ (pw_cell_below HBW.out HCL.out) (fun hHeld => ?_)
      clear hK K hfr hnr hvr hb hM2 hNz
      refine norm_ (a' := ?_) ?_ ?_
      rotate_left
      · show Act.put _ (some 26) _ = _
        simp only [Act.put, List.setIfInBounds_toArray, List.set_cons_zero, List.set_cons_succ, i64_w, i32_w]
        rfl
      refine pure_ (i := 6) (N := (some 27)) (v := ?_) (a' := ?_) #[true, true, true, true, true, true, true, false] rfl rfl (by kernel_rfl) (fun _ _ _ h => h) (Or.inl ⟨by rfl, ?_⟩) ?_ ?_
      rotate_left
      · intro w'
        go_simp
        with_reducible rfl
      rotate_left
      · simp only [Act.put, List.setIfInBounds_toArray, List.set_cons_zero, List.set_cons_succ, i64_w, i32_w]
        rfl
      refine last_ (i := 7) (N := none) #[true, true, true, true, true, true, true, true] rfl rfl (by kernel_rfl) (by decide) (fun K hK => ?_)
      refine skip_ (w1 := ?_) (by rfl) rfl ?_ ?_
      rotate_left
      · go_simp
        rfl
      refine hK.out _ _ ?_
      clear hK K
      refine done_ (by kernel_rfl) ?_
      have hgi := HG.out i hlt
      have hsz := HB.out.2
      have hszq := HBq.out.size
      have hP := HM2.out.put i i hlt hlt (A := Av) (c := cv) (l := [1]) HFR.out.1 HFR.out.2 (fun k hk => ⟨.inr (by omega), by have := hgi.2; omega⟩) (by omega) (fun j k hj hne hk => by
        rcases hk with hk | hk
        · rw [hk]; exact HI.out j i hj hlt hne
        · have := hgi.2; omega)
      have HP : Aside0 (MatR (w'.setCell ⟨G i, i, none⟩ (.slice Av 1 cv)) g n G (fun j k => k = G j ∨ w1.heap.size ≤ k) (fun j => if j < i + 1 then unitR n j else List.replicate n []) n) := ⟨by
        intro j hj
        obtain ⟨h0, c0, h1, h2, h3, h4⟩ := hP j hj
        by_cases e : j = i
        · subst e
          simp only [if_true, Nat.lt_irrefl, if_false] at h0 h4
          refine ⟨by simp only [Nat.lt_succ_self, if_true]; exact h0, c0, h1, h2, h3, ?_⟩
          simp only [Nat.lt_succ_self, if_true]
          exact h4
        · have e1 : (j < i + 1) = (j < i) := by rw [eq_iff_iff]; omega
          simp only [e, if_false] at h0 h4
          simp only [e1]
          exact ⟨h0, c0, h1, h2, h3, h4⟩⟩
      have HBN : Aside0 (Below w.heap.size w (w'.setCell ⟨G i, i, none⟩ (.slice Av 1 cv)) ∧ w1.heap.size ≤ (w'.setCell ⟨G i, i, none⟩ (.slice Av 1 cv)).heap.size) := ⟨by
        refine ⟨(below_step (below_step HB.out.1 HBq.out) HBW.out).setCell (p := ⟨G i, i, none⟩) (by show w.heap.size ≤ G i; have := HGB.out; omega) _, ?_⟩
        have := HBW.out.size
        simp [World.setCell]
        omega⟩
      clear hgi hsz hszq hP
      go_wp2_with fail
      go_roundg k1
      case measure => omega
      case rel => exact ⟨i + 1, by go_num, ⟨by have := HK.out; omega⟩, HP, HBN⟩
    · obtain rfl : i = n := by have := HK.out; omega
      have hV := MatR.V (xs := unitM i) (cap := cap) (base := 0) (okall := fun k => w.heap.size ≤ k) (by rw [unitM_length]; exact HM.out) (fun j hj => by
        rw [unitM_get]
        have : j < i := by rw [unitM_length] at hj; exact hj
        simp [this]) (by rw [unitM_length]; exact hn9) (by rw [unitM_length]; exact HCAP.out) HGB.out (fun j k hj hk _ => by
        rw [unitM_length] at hj
        have h1 := (HG.out j hj)
        have h2 := HGB.out
        have h3 := HB1.out.size
        show w.heap.size ≤ k
        rcases hk with hk | hk <;> omega)
      rw [unitM_length] at hV
      have HV := Aside0.mk hV
      clear hV
      go_wp2_with fail
      go_ret2
      exact ⟨_, _, rfl, HV.out, rfl, HB.out.1⟩
theorem one_calls (S : Nat → Addr) (n : Int) (w : World) (hE : Env S w) : Calls Tryd.prog 13 #[.int .i64 n] w (OneRes S n w) := by
  by_cases h : n < 0 ∨ 96 < n
  · exact ones_bad S n w hE h
  · obtain ⟨k, rfl⟩ : ∃ k : Nat, n = k := ⟨n.toNat, by omega⟩
    by_cases h0 : k = 0
    · subst h0; exact one_zero S w
    · exact one_pos S k w (by omega) (by omega)
end Go.Proofs.YtmnmmalffpimeaaDoor

/- edenref16.unit, edenref16.One. -/
namespace Go.Proofs.YtmnmmalffpimeaaDoor
open Go.RowKit Go.Extern.Stop Go.Stop Go.Extern Go.Proofs.YtmnmmalffpimeaaDoorW.PrintWords Go.Proofs.YtmnmmalffpimeaaDoorW.PrintLast Go.Proofs.YtmnmmalffpimeaaDoorW.PrintMore
set_option linter.unusedVariables false
set_option linter.unusedSimpArgs false

theorem F_lit (W : World) (xs : List Int) (hm : xs.length ≤ 9223372036854775807) : Kd.F (Kd.int .u32) (W.alloc (.cells (nums .u32 xs).toArray 74)) (fun k => k = W.heap.size) (some ⟨W.heap.size, 0, none⟩) xs.length xs := by
  intro W' hW
  have hb : W'.heap[W.heap.size]? = some (.cells (nums .u32 xs).toArray 74 (0, 0)) := (hW W.heap.size rfl (by simp)).trans (heap_alloc_new W _)
  refine Kd.C_of_reads (d := 0) ⟨rfl, hm, fun _ => ⟨_, rfl, fun j hj => ?_⟩⟩
  rw [add_plain, cell_of_row _ W.heap.size j _ 74 (0, 0) hb]
  simp [nums, List.getElem?_eq_getElem hj, List.getD_eq_getElem?_getD, rdOf]

set_option maxHeartbeats 4000000 in
set_option maxRecDepth 100000 in
theorem unit_zero (w : World) : Calls Tryd.prog 68 #[.int .i64 0] w fun e w' => (∃ A c, e = .returned (.slice A 0 c)) ∧ Below w.heap.size w w' := by
  have HB := Aside0.mk (Below.refl w.heap.size w)
  go_enter Tryd.func68, Tryd.ntmps68
  go_wp2_with ((with_reducible refine gate_dst (N := 6) rfl ?_); refine print_hold ?_)
  unfold Hold
  refine Kd.N_make KM _ tNats rfl (N' := 6) rfl 23 _ _ rfl (0 : Int) rfl rfl Tryd.underlying23 (.slice none 0 0) 24 info_nats rfl (by decide) (by omega) [] (ok := fun _ => True) (okp := fun _ => False) (FK_nil _ _ _ _) (fun _ hk => hk.elim) trivial (by decide) (by decide) HB.out (Nat.le_refl _) ?_
  intro vo w1 ho hb hg_ hnew_
  clear hg_ hnew_ HB
  have HB := Aside0.mk hb
  obtain ⟨A, c, eo⟩ := Kd.N_slice ho
  have eo : vo = .slice A 0 c := eo
  subst eo
  clear hb ho
  go_wp2_with fail
  go_loop [4] (fun v4 => v4 = .int .i64 0) (fun v4 => 0)
  case atStart => rfl
  case round =>
    subst hrel
    go_wp2_with fail
    go_ret
    exact ⟨⟨A, c, rfl⟩, HB.out⟩

set_option maxHeartbeats 4000000 in
set_option maxRecDepth 100000 in
theorem unit_pos (n : Nat) (w : World) (h0 : 0 < n) (hn : n ≤ 96) : Calls Tryd.prog 68 #[.int .i64 n] w fun e w' => ∃ v, e = .returned v ∧ Kd.V KM tNats w' 0 (fun k => w.heap.size ≤ k) v (unitM n) ∧ Below w.heap.size w w' := by
  have P0 : Aside0 (0 ≤ (n : Int)) := ⟨by omega⟩
  have HN : Aside0 (0 < n ∧ n ≤ 96) := ⟨h0, hn⟩
  have HB := Aside0.mk (Below.refl w.heap.size w)
  have hn9 : n ≤ 9223372036854775807 := by omega
  clear h0 hn
  go_enter Tryd.func68, Tryd.ntmps68
  go_wp2_with ((with_reducible refine gate_dst (N := 6) rfl ?_); refine print_hold ?_)
  unfold Hold
  refine Kd.N_make KM _ tNats rfl (N' := 6) rfl 23 _ _ rfl (n : Int) rfl rfl Tryd.underlying23 (.slice none 0 0) 24 info_nats rfl (by decide) (by omega) [] (ok := fun _ => True) (okp := fun _ => False) (FK_nil _ _ _ _) (fun _ hk => hk.elim) trivial P0.out (by have := HN.out; omega) HB.out (Nat.le_refl _) ?_
  intro vo w1 ho hb hg_ hnew_
  clear hg_ hnew_ HB
  have HB := Aside0.mk hb
  rw [Int.toNat_natCast] at ho
  obtain ⟨g, cap, eo, gb, gl, _⟩ := Kd.N_form ho (by simp; exact HN.out.1)
  rw [List.length_replicate] at eo
  subst eo
  have HOC := Aside0.mk (OutC.of_N ho)
  have HCAP := Aside0.mk (Kd.N_reads' ho).2.1
  have HGB := Aside0.mk gb
  have HGL := Aside0.mk gl
  clear ho gb gl hb
  go_wp2_with fail
  go_loopg [4] n (fun kq v4 w' => ∃ (i : Nat) (G : Nat → Nat), v4 = .int .i64 i ∧ Aside0 (kq + i = n) ∧ Aside0 (MatR w' g n G (fun j k => g < k) (fun j => unitR n j) i) ∧ Aside0 (OutC w' g n) ∧ Aside0 (g < w'.heap.size) ∧ Aside0 (∀ j, j < i → G j < w'.heap.size) ∧ Aside0 (Below w.heap.size w w'))
  case atStart => exact ⟨0, fun _ => 0, rfl, ⟨rfl⟩, ⟨MatR.zero⟩, HOC, HGL, ⟨fun j hj => by omega⟩, HB⟩
  case round =>
    clear HOC HGL HB
    obtain ⟨i, G, rfl, HK, HM, HOC, HGL, HG, HB⟩ := hrel
    by_cases hlt : i < n
    · obtain ⟨k1, rfl⟩ : ∃ k1, gk = k1 + 1 := ⟨gk - 1, by have := HK.out; omega⟩
      obtain ⟨b, hbb⟩ : ∃ b, b = wr.heap.size := ⟨_, rfl⟩
      go_wp2_with ((with_reducible refine gate_dst (N := 15) rfl ?_); refine print_hold ?_)
      unfold Hold
      refine Kd.N_make KN _ tNat rfl (N' := 15) rfl tNats _ _ rfl (n : Int) rfl rfl Tryd.underlying86 (.slice none 0 0) 24 info_nat rfl (by decide) (by omega) [] (ok := fun k => k = b) (okp := fun _ => False) (FK_nil _ _ _ _) (fun _ hk => hk.elim) hbb.symm P0.out (by have := HN.out; omega) HB.out HB.out.size ?_
      intro v1 w2 ho hb hg_ hnew_
      rw [Int.toNat_natCast] at ho
      obtain ⟨b', cb, eo, gb, gl, _⟩ := Kd.N_form ho (by simp; exact HN.out.1)
      rw [List.length_replicate] at eo
      subst eo
      have hbe : b' = b := ho.1 b' (by simp [Value.ownBlock])
      subst hbe
      have hbl : Below wr.heap.size wr w2 := (Below.refl _ _).grown hg_ (Nat.le_refl _) (fun k hk => by cases hk)
      have hgb : g < b' := by rw [hbb]; exact HGL.out
      have hM1 := (HM.out.mono (ok' := fun j k => g < k ∧ k < b') (fun j k hj hk hlt => ⟨hk, by rw [hbb]; exact hlt⟩)).below hbl
      have hO2 := HOC.out.below hbl
      have hrow := Kd.N_mono (Kd.N_lower ho (Nat.zero_le _)) (ok' := fun k => k = b' ∨ b' < k) (fun k hk => .inl hk)
      have hA := hM1.add (fun j hj => hO2 j (by omega)) (b := b') (c := cb) (Kd.N_reads' ho).2.1 (row := List.replicate n []) (by simp) hrow (fun j k hj hk => by omega) (fun k hk => by omega)
      obtain ⟨vi, hci, hfi⟩ := hO2 i hlt
      have hcell3 : (w2.setCell ⟨g, i, none⟩ (.slice (some ⟨b', 0, none⟩) n cb)).cell? ⟨g, i, none⟩ = some (.slice (some ⟨b', 0, none⟩) n cb) := setCell_same_ hci
      have hl3 : (w2.setCell ⟨g, i, none⟩ (.slice (some ⟨b', 0, none⟩) n cb)).heap.size = w2.heap.size := by simp [World.setCell]
      obtain ⟨w3, hw3⟩ : ∃ w3, w3 = w2.setCell ⟨g, i, none⟩ (.slice (some ⟨b', 0, none⟩) n cb) := ⟨_, rfl⟩
      rw [← hw3] at hA hcell3 hl3
      have hb4 : Below w3.heap.size w3 (w3.alloc (.cells (nums .u32 [1]).toArray 74)) := below_alloc (Below.refl _ _) _
      have hA4 := hA.below hb4
      have hF := F_lit w3 [1] (by simp)
      have hP := hA4.put i i (by omega) hlt (c := 1) (by simp) hF (fun k hk => ⟨by simp only [if_true]; rw [hk, hl3]; omega, by simp only [if_true]; rw [hk, hl3]; omega⟩) (by simp only [if_true]; omega) (fun j k hj hne hk => by
        simp only [hne, if_false] at hk
        simp only [if_true]
        omega)
      simp only [if_true] at hP
      obtain ⟨_, c5, h5a, h5b, h5c, h5N⟩ := hA4 i (by omega)
      simp only [if_true] at h5a h5N
      obtain ⟨Az, cz, hcz, hfz, _, _⟩ := N_cell1 h5N i hlt
      have h5x : (w3.alloc (.cells (nums .u32 [1]).toArray 74)).cell? ⟨g, i, none⟩ = some (.slice (some ⟨b', 0, none⟩) n cb) := (hb4.cell (p := ⟨g, i, none⟩) (by rw [hl3]; exact Nat.lt_of_lt_of_le HGL.out hbl.size)).trans hcell3
      have HP := Aside0.mk hP
      have HB2 := Aside0.mk hb
      have HO2 := Aside0.mk hO2
      have HSZ := Aside0.mk (And.intro hbl.size (And.intro gl (And.intro hl3 (And.intro hgb hbb))))
      have HCELL3 := Aside0.mk hcell3
      have HW3 := Aside0.mk hw3
      clear ho hb hg_ hnew_ hbl gb gl hM1 hO2 hrow hA hb4 hA4 hF hP h5b h5c h5N h5a hbb
      subst hw3
      have hcz' : ((w2.setCell ⟨g, i, none⟩ (.slice (some ⟨b', 0, none⟩) n cb)).alloc (.cells #[.int .u32 1] 74)).cell? ⟨b', i, none⟩ = some (.slice Az ((List.replicate n ([] : List Int)).getD i []).length cz) := hcz
      have hfz' : ((w2.setCell ⟨g, i, none⟩ (.slice (some ⟨b', 0, none⟩) n cb)).alloc (.cells #[.int .u32 1] 74)).frozen? ⟨b', i, none⟩ = false := hfz
      have HP2 : Aside0 (MatR (((w2.setCell ⟨g, i, none⟩ (.slice (some ⟨b', 0, none⟩) n cb)).alloc (.cells #[.int .u32 1] 74)).setCell ⟨b', i, none⟩ (.slice (some ⟨w2.heap.size, 0, none⟩) 1 1)) g n (fun j => if j = i then b' else G j) (fun j k => g < k) (fun j => unitR n j) (i + 1)) := ⟨by
        have h := HP.out
        have hgb := HSZ.out.2.2.2.1
        rw [hl3] at h
        intro j hj
        obtain ⟨h0, c0, h1, h2, h3, h4⟩ := h j hj
        by_cases e : j = i
        · subst e
          simp only [if_true] at h0 h1 h4
          simp only [if_true]
          exact ⟨h0, c0, h1, h2, h3, Kd.N_mono h4 (fun k hk => by omega)⟩
        · simp only [e, if_false] at h0 h1 h4
          simp only [e, if_false]
          exact ⟨h0, c0, h1, h2, h3, Kd.N_mono h4 (fun k hk => hk.1)⟩⟩
      clear hcz hfz HP
      have h5y := HCELL3.out
      go_wp2_with fail
      go_roundg k1
      case measure => omega
      case rel =>
        have hs := HSZ.out
        refine ⟨i + 1, _, by go_num, ⟨by have := HK.out; omega⟩, HP2, ⟨((HO2.out.set _ _).below (below_alloc (Below.refl _ _) _)).set _ _⟩, ⟨by simp [World.setCell]; have := HGL.out; omega⟩, ⟨fun j hj => ?_⟩, ⟨?_⟩⟩
        · by_cases e : j = i
          · subst e; simp [World.setCell]; omega
          · have := HG.out j (by omega)
            simp [World.setCell, e]
            omega
        · refine (((HB2.out.setCell (p := ⟨g, i, none⟩) HGB.out _).trans (below_alloc (Below.refl _ _) _ |>.mono ?_))).setCell (p := ⟨b', i, none⟩) ?_ _
          · have := HB2.out.size
            simp [World.setCell]; omega
          · show w.heap.size ≤ b'
            have := HGB.out; omega
    · obtain rfl : i = n := by have := HK.out; omega
      have hV := MatR.V (xs := unitM i) (cap := cap) (base := 0) (okall := fun k => w.heap.size ≤ k) (by rw [unitM_length]; exact HM.out) (fun j hj => unitM_get _ _ _) (by rw [unitM_length]; exact hn9) (by rw [unitM_length]; exact HCAP.out) HGB.out (fun j k hj hk _ => by
        have h2 := HGB.out
        show w.heap.size ≤ k
        omega)
      rw [unitM_length] at hV
      have HV := Aside0.mk hV
      clear hV
      go_wp2_with fail
      go_ret
      exact ⟨_, rfl, HV.out, HB.out⟩
theorem unit_calls (n : Nat) (w : World) (hn : n ≤ 96) : Calls Tryd.prog 68 #[.int .i64 n] w fun e w' => ∃ v, e = .returned v ∧ Kd.V KM tNats w' 0 (fun k => w.heap.size ≤ k) v (unitM n) ∧ Below w.heap.size w w' := by
  by_cases h0 : n = 0
  · subst h0
    refine (unit_zero w).mono ?_
    rintro e w' ⟨⟨A, c, rfl⟩, hb⟩
    exact ⟨_, rfl, ⟨A, c, rfl, Nat.zero_le _, fun W' _ => ⟨rfl, Nat.zero_le _, fun h => absurd h (by decide)⟩⟩, hb⟩
  · exact unit_pos n w (by omega) hn

/-- what edenref16.One leaves -/
def ROneRes (n : Int) (w : World) (e : Ending) (w' : World) : Prop :=
  ∃ v u, e = .returned (.tuple #[v, u]) ∧ Kd.V KM tNats w' 0 (fun k => w.heap.size ≤ k) v (oneL n) ∧ WantF w' w.heap.size u (oneO n) ∧ Below w.heap.size w w'
set_option maxHeartbeats 4000000 in
set_option maxRecDepth 100000 in
theorem rone_calls (n : Int) (w : World) : Calls Tryd.prog 14 #[.int .i64 n] w (ROneRes n w) := by
  obtain ⟨w0, hw0⟩ : ∃ w0, w.alloc (.cells #[.int .i64 0, .slice none 0 0, .slice none 0 0] tErr) = w0 := ⟨_, rfl⟩
  obtain ⟨b, hb0⟩ : ∃ b, w.heap.size = b := ⟨_, rfl⟩
  have hB0 : Below w.heap.size w w0 := by rw [← hw0]; exact below_alloc (Below.refl _ _) _
  have hbox : Box3 w0 b (.int .i64 0) (.slice none 0 0) (.slice none 0 0) := by rw [← hw0, ← hb0]; exact Box3.new _ _ _ _
  have hsz : w0.heap.size = b + 1 := by rw [← hw0, ← hb0]; simp
  have HB0 := Aside0.mk hB0
  have HBX := Aside0.mk hbox
  have HSZ := Aside0.mk hsz
  have HBE := Aside0.mk hb0
  have HW0 := Aside0.mk hw0
  clear hB0 hbox hsz
  by_cases hbad : n < 0 ∨ 96 < n
  · obtain ⟨m, hm⟩ : ∃ m : Int, m = if n < 0 then 3 else 4 := ⟨_, rfl⟩
    have e1 : oneO n = some (m, [(matS, 0)]) := by
      unfold oneO; rw [hm]; by_cases h : n < 0
      · rw [if_pos h, if_pos h]
      · rw [if_neg h, if_neg h, if_pos (by omega)]
    have e2 : oneL n = [] := by
      unfold oneL; by_cases h : n < 0
      · rw [if_pos h]
      · rw [if_neg h, if_pos (by omega)]
    unfold ROneRes
    rw [e1, e2]
    have HM := Aside0.mk hm
    by_cases h0 : n < 0
    · rw [if_pos h0] at hm
      subst hm
      have hd : decide (n < 0) = true := decide_eq_true h0
      clear hbad h0 e1 e2
      go_enter Tryd.func14, Tryd.ntmps14
      go_wp2_with fail
      clear hw0 hb0
      refine (new_F _ 0 3 w0).mono ?_
      rintro e w1 ⟨v, rfl, hf, hb⟩
      obtain ⟨n, A1, n1, c1, A2, n2, c2, rfl, hn⟩ := hf.now.form
      obtain ⟨k0, k1, k2, z0, z1, z2⟩ := (HBX.out.below hb).cells
      have HX2 := Aside0.mk ((HBX.out.below hb).put (.int .i64 n) (.slice A1 n1 c1) (.slice A2 n2 c2))
      have HF := Aside0.mk ((hf.put3 (b := b) (by rw [HSZ.out]; omega) (.int .i64 n) (.slice A1 n1 c1) (.slice A2 n2 c2)).lower (b' := w.heap.size) (by rw [HSZ.out, HBE.out]; omega))
      have HB1 := Aside0.mk (below_put3 (below_step HB0.out hb) (Nat.le_of_eq HBE.out) (.int .i64 n) (.slice A1 n1 c1) (.slice A2 n2 c2))
      clear hf hb hn
      go_wp2_with fail
      (try simp only [Exit.inBlock, Exit.then]); refine bodyPost_ret (res2 HX2.out rfl rfl) rfl ?_
      exact ⟨_, _, rfl, Kd.V_nil _ _ _ _ _, HF.out, HB1.out⟩
    · have h9 : 96 < n := by omega
      rw [if_neg h0] at hm
      subst hm
      have hd : decide (n < 0) = false := decide_eq_false h0
      have hd2 : decide (96 < n) = true := decide_eq_true h9
      clear hbad h0 h9 e1 e2
      go_enter Tryd.func14, Tryd.ntmps14
      go_wp2_with fail
      clear hw0 hb0
      refine (new_F _ 0 4 w0).mono ?_
      rintro e w1 ⟨v, rfl, hf, hb⟩
      obtain ⟨n, A1, n1, c1, A2, n2, c2, rfl, hn⟩ := hf.now.form
      obtain ⟨k0, k1, k2, z0, z1, z2⟩ := (HBX.out.below hb).cells
      have HX2 := Aside0.mk ((HBX.out.below hb).put (.int .i64 n) (.slice A1 n1 c1) (.slice A2 n2 c2))
      have HF := Aside0.mk ((hf.put3 (b := b) (by rw [HSZ.out]; omega) (.int .i64 n) (.slice A1 n1 c1) (.slice A2 n2 c2)).lower (b' := w.heap.size) (by rw [HSZ.out, HBE.out]; omega))
      have HB1 := Aside0.mk (below_put3 (below_step HB0.out hb) (Nat.le_of_eq HBE.out) (.int .i64 n) (.slice A1 n1 c1) (.slice A2 n2 c2))
      clear hf hb hn
      go_wp2_with fail
      (try simp only [Exit.inBlock, Exit.then]); refine bodyPost_ret (res2 HX2.out rfl rfl) rfl ?_
      exact ⟨_, _, rfl, Kd.V_nil _ _ _ _ _, HF.out, HB1.out⟩
  · obtain ⟨k, rfl⟩ : ∃ k : Nat, n = k := ⟨n.toNat, by omega⟩
    have hk : k ≤ 96 := by omega
    have e1 : oneO k = none := by unfold oneO; rw [if_neg (by omega), if_neg (by omega)]
    have e2 : oneL k = unitM k := by unfold oneL; rw [if_neg (by omega), if_neg (by omega), Int.toNat_natCast]
    unfold ROneRes
    rw [e1, e2]
    have hd : decide ((k : Int) < 0) = false := decide_eq_false (by omega)
    have hd2 : decide (96 < (k : Int)) = false := decide_eq_false (by omega)
    have HK := Aside0.mk hk
    clear hbad hk e1 e2
    go_enter Tryd.func14, Tryd.ntmps14
    go_wp2_with fail
    clear hw0 hb0
    refine (unit_calls k w0 HK.out).mono ?_
    rintro e w1 ⟨v, rfl, hv, hb⟩
    obtain ⟨Av, cv, rfl⟩ := Kd.V_slice hv
    obtain ⟨k0, k1, k2, z0, z1, z2⟩ := (HBX.out.below hb).cells
    have HX2 := Aside0.mk ((HBX.out.below hb).put (.int .i64 0) (.slice none 0 0) (.slice none 0 0))
    have HV := Aside0.mk (Kd.V_mono (ok' := fun k => w.heap.size ≤ k) (Kd.V_far (p := ⟨b, 2, none⟩) (Kd.V_far (p := ⟨b, 1, none⟩) (Kd.V_far (p := ⟨b, 0, none⟩) hv (fun k hk => by have := HSZ.out; show k ≠ b; omega) (.int .i64 0)) (fun k hk => by have := HSZ.out; show k ≠ b; omega) (.slice none 0 0)) (fun k hk => by have := HSZ.out; show k ≠ b; omega) (.slice none 0 0)) (fun k hk => by have := HSZ.out; have := HBE.out; omega))
    have HB1 := Aside0.mk (below_put3 (below_step HB0.out hb) (Nat.le_of_eq HBE.out) (.int .i64 0) (.slice none 0 0) (.slice none 0 0))
    clear hv hb
    go_wp2_with fail
    (try simp only [Exit.inBlock, Exit.then]); refine bodyPost_ret (res2 HX2.out rfl rfl) rfl ?_
    exact ⟨_, _, rfl, HV.out, WantF.nil _ _, HB1.out⟩
end Go.Proofs.YtmnmmalffpimeaaDoor

/- edenlaw16's line and same: equal lists, equal matrices. -/
namespace Go.Proofs.YtmnmmalffpimeaaDoor
open Go.RowKit Go.Proofs.YtmnmmalffpimeaaDoorW.PrintWords Go.Proofs.YtmnmmalffpimeaaDoorW.PrintLast Go.Proofs.YtmnmmalffpimeaaDoorW.PrintMore
set_option linter.unusedVariables false
set_option linter.unusedSimpArgs false

set_option maxHeartbeats 4000000 in
set_option maxRecDepth 100000 in
theorem line_true (A0 A1 : Option Addr) (c0 c1 : Nat) (l : List (List Int)) (w : World) (hr0 : Kd.C KN w A0 l.length l) (hr1 : Kd.C KN w A1 l.length l) :
    Calls Tryd.prog 69 #[.slice A0 l.length c0, .slice A1 l.length c1] w fun e w' => e = .returned (.bool true) ∧ Drawn0 w w' := by
  have HR0 := Aside0.mk hr0
  have HR1 := Aside0.mk hr1
  have hm := Kd.C_max hr0
  clear hr0 hr1
  go_enter Tryd.func69, Tryd.ntmps69
  go_wp2_with fail
  go_loopg [5] l.length (fun kq v5 w' => ∃ i : Nat, v5 = .int .i64 i ∧ kq + i = l.length ∧ Aside0 (Drawn0 w w'))
  case atStart => exact ⟨0, rfl, rfl, ⟨Drawn0.refl _⟩⟩
  case round =>
    obtain ⟨i, rfl, hk, HD⟩ := hrel
    by_cases hlt : i < l.length
    · obtain ⟨k1, rfl⟩ : ∃ k1, gk = k1 + 1 := ⟨gk - 1, by omega⟩
      obtain ⟨ad0, B0, d0, e0, hx0, hl0, hC0⟩ := atRow (Kd.C_below HR0.out HD.out.below) i hlt
      obtain ⟨ad1, B1, d1, e1, hx1, hl1, hC1⟩ := atRow (Kd.C_below HR1.out HD.out.below) i hlt
      subst e0
      subst e1
      have HC0 := Aside0.mk hC0
      have HC1 := Aside0.mk hC1
      have hil : i < 9223372036854775807 := by omega
      clear hl0 hC0 hl1 hC1
      go_wp2_with fail
      go_quiet (first | (go_at_call 24; (with_reducible refine (nats_true B0 B1 d0 d1 l[i] _ ?side1 ?side2).mono ?_); (case side1 => repeat (first | exact HC0.out | (with_reducible refine Kd.C_drewN ?_ _) | (with_reducible refine Kd.C_drew ?_))); (case side2 => repeat (first | exact HC1.out | (with_reducible refine Kd.C_drewN ?_ _) | (with_reducible refine Kd.C_drew ?_))); rintro e w' ⟨rfl, ⟨nd, rfl⟩⟩; (try first | exact ⟨rfl, _, World.drewN_drewN _ _ _⟩ | exact ⟨rfl, _, Eq.trans (World.drewN_drewN _ _ _) (congrArg (World.drewN _) (Nat.add_assoc _ _ _))⟩)))
      go_wp2_with fail
      go_roundg k1
      case measure => omega
      case rel => exact ⟨i + 1, by go_num, by omega, ⟨by repeat (first | exact HD.out | apply Drawn0.step)⟩⟩
    · go_wp2_with fail
      go_ret
      exact ⟨rfl, HD.out⟩

set_option maxHeartbeats 4000000 in
set_option maxRecDepth 100000 in
theorem same_true (A0 A1 : Option Addr) (c0 c1 : Nat) (l : List (List (List Int))) (w : World) (hr0 : Kd.C KM w A0 l.length l) (hr1 : Kd.C KM w A1 l.length l) :
    Calls Tryd.prog 15 #[.slice A0 l.length c0, .slice A1 l.length c1] w fun e w' => e = .returned (.bool true) ∧ Drawn0 w w' := by
  have HR0 := Aside0.mk hr0
  have HR1 := Aside0.mk hr1
  have hm := Kd.C_max hr0
  clear hr0 hr1
  go_enter Tryd.func15, Tryd.ntmps15
  go_wp2_with fail
  go_loopg [5] l.length (fun kq v5 w' => ∃ i : Nat, v5 = .int .i64 i ∧ kq + i = l.length ∧ Aside0 (Drawn0 w w'))
  case atStart => exact ⟨0, rfl, rfl, ⟨Drawn0.refl _⟩⟩
  case round =>
    obtain ⟨i, rfl, hk, HD⟩ := hrel
    by_cases hlt : i < l.length
    · obtain ⟨k1, rfl⟩ : ∃ k1, gk = k1 + 1 := ⟨gk - 1, by omega⟩
      obtain ⟨ad0, B0, d0, e0, hx0, hl0, hC0⟩ := atRow (Kd.C_below HR0.out HD.out.below) i hlt
      obtain ⟨ad1, B1, d1, e1, hx1, hl1, hC1⟩ := atRow (Kd.C_below HR1.out HD.out.below) i hlt
      subst e0
      subst e1
      have HC0 := Aside0.mk hC0
      have HC1 := Aside0.mk hC1
      have hil : i < 9223372036854775807 := by omega
      clear hl0 hC0 hl1 hC1
      go_wp2_with fail
      go_quiet (first | (go_at_call 69; (with_reducible refine (line_true B0 B1 d0 d1 l[i] _ ?side1 ?side2).mono ?_); (case side1 => repeat (first | exact HC0.out | (with_reducible refine Kd.C_drewN ?_ _) | (with_reducible refine Kd.C_drew ?_))); (case side2 => repeat (first | exact HC1.out | (with_reducible refine Kd.C_drewN ?_ _) | (with_reducible refine Kd.C_drew ?_))); rintro e w' ⟨rfl, ⟨nd, rfl⟩⟩; (try first | exact ⟨rfl, _, World.drewN_drewN _ _ _⟩ | exact ⟨rfl, _, Eq.trans (World.drewN_drewN _ _ _) (congrArg (World.drewN _) (Nat.add_assoc _ _ _))⟩)))
      go_wp2_with fail
      go_roundg k1
      case measure => omega
      case rel => exact ⟨i + 1, by go_num, by omega, ⟨by repeat (first | exact HD.out | apply Drawn0.step)⟩⟩
    · go_wp2_with fail
      go_ret
      exact ⟨rfl, HD.out⟩
end Go.Proofs.YtmnmmalffpimeaaDoor

/- Plain facts on square matrices as functions; and lists of lists of numbers that are such matrices. -/
namespace Go.Proofs.YtmnmmalffpimeaaDoor

def sumTo : Nat → (Nat → Int) → Int
  | 0, _ => 0
  | n + 1, f => sumTo n f + f n
theorem sumTo_congr : ∀ (n : Nat) {f g : Nat → Int}, (∀ i, i < n → f i = g i) → sumTo n f = sumTo n g
  | 0, _, _, _ => rfl
  | n + 1, f, g, h => by
    simp only [sumTo]
    rw [sumTo_congr n (fun i hi => h i (by omega)), h n (by omega)]
theorem sumTo_zero : ∀ (n : Nat), sumTo n (fun _ => 0) = 0
  | 0 => rfl
  | n + 1 => by simp only [sumTo, sumTo_zero n]; rfl
theorem sumTo_add : ∀ (n : Nat) (f g : Nat → Int), sumTo n (fun i => f i + g i) = sumTo n f + sumTo n g
  | 0, _, _ => rfl
  | n + 1, f, g => by simp only [sumTo, sumTo_add n f g]; omega
theorem sumTo_mul_left : ∀ (n : Nat) (c : Int) (f : Nat → Int), c * sumTo n f = sumTo n (fun i => c * f i)
  | 0, c, _ => by simp [sumTo]
  | n + 1, c, f => by simp only [sumTo, ← sumTo_mul_left n c f, Int.mul_add]
theorem sumTo_mul_right (n : Nat) (c : Int) (f : Nat → Int) : sumTo n f * c = sumTo n (fun i => f i * c) := by
  rw [Int.mul_comm, sumTo_mul_left]
  exact sumTo_congr n (fun i _ => Int.mul_comm _ _)
theorem sumTo_comm (m : Nat) : ∀ (n : Nat) (f : Nat → Nat → Int), sumTo n (fun i => sumTo m (fun j => f i j)) = sumTo m (fun j => sumTo n (fun i => f i j))
  | 0, f => by simp only [sumTo]; exact (sumTo_zero m).symm
  | n + 1, f => by
    simp only [sumTo]
    rw [sumTo_comm m n f, ← sumTo_add]
theorem sumTo_one : ∀ (n i : Nat) (f : Nat → Int), i < n → sumTo n (fun t => if i = t then f t else 0) = f i
  | 0, i, _, h => by omega
  | n + 1, i, f, h => by
    simp only [sumTo]
    by_cases e : i = n
    · subst e
      have : sumTo i (fun t => if i = t then f t else 0) = 0 := by
        rw [sumTo_congr i (g := fun _ => 0) (fun t ht => by rw [if_neg (by omega)]), sumTo_zero]
      rw [this, if_pos rfl]; omega
    · rw [sumTo_one n i f (by omega), if_neg e]; omega
theorem sumTo_nonneg : ∀ (n : Nat) {f : Nat → Int}, (∀ i, i < n → 0 ≤ f i) → 0 ≤ sumTo n f
  | 0, _, _ => Int.le_refl _
  | n + 1, f, h => by
    have := sumTo_nonneg n (f := f) (fun i hi => h i (by omega))
    have := h n (by omega)
    simp only [sumTo]; omega
theorem sumTo_le : ∀ (n : Nat) {f : Nat → Int} {c : Int}, (∀ i, i < n → f i ≤ c) → sumTo n f ≤ n * c
  | 0, f, c, _ => by simp [sumTo]
  | n + 1, f, c, h => by
    have := sumTo_le n (f := f) (c := c) (fun i hi => h i (by omega))
    have := h n (by omega)
    simp only [sumTo, Int.natCast_add, Int.add_mul]
    omega

def mm (n : Nat) (f g : Nat → Nat → Int) : Nat → Nat → Int := fun i j => sumTo n (fun t => f i t * g t j)
def mid : Nat → Nat → Int := fun i j => if i = j then 1 else 0
def mpow (n : Nat) (f : Nat → Nat → Int) : Nat → Nat → Nat → Int
  | 0 => mid
  | k + 1 => mm n f (mpow n f k)
def EqM (n : Nat) (f g : Nat → Nat → Int) : Prop := ∀ i, i < n → ∀ j, j < n → f i j = g i j
theorem EqM.refl (n : Nat) (f : Nat → Nat → Int) : EqM n f f := fun _ _ _ _ => rfl
theorem EqM.symm {n : Nat} {f g : Nat → Nat → Int} (h : EqM n f g) : EqM n g f := fun i hi j hj => (h i hi j hj).symm
theorem EqM.trans {n : Nat} {f g k : Nat → Nat → Int} (h : EqM n f g) (h' : EqM n g k) : EqM n f k := fun i hi j hj => (h i hi j hj).trans (h' i hi j hj)
theorem EqM.mm {n : Nat} {f f' g g' : Nat → Nat → Int} (h : EqM n f f') (h' : EqM n g g') : EqM n (mm n f g) (mm n f' g') := fun i hi j hj =>
  sumTo_congr n (fun t ht => by rw [h i hi t ht, h' t ht j hj])
theorem mm_assoc (n : Nat) (f g h : Nat → Nat → Int) : EqM n (mm n (mm n f g) h) (mm n f (mm n g h)) := by
  intro i _ j _
  show sumTo n (fun t => sumTo n (fun s => f i s * g s t) * h t j) = sumTo n (fun s => f i s * sumTo n (fun t => g s t * h t j))
  have e1 : ∀ t, t < n → sumTo n (fun s => f i s * g s t) * h t j = sumTo n (fun s => f i s * g s t * h t j) := fun t _ => sumTo_mul_right _ _ _
  rw [sumTo_congr n e1, sumTo_comm n n (fun t s => f i s * g s t * h t j)]
  refine sumTo_congr n (fun s _ => ?_)
  rw [sumTo_mul_left]
  exact sumTo_congr n (fun t _ => Int.mul_assoc _ _ _)
theorem mm_id_left (n : Nat) (f : Nat → Nat → Int) : EqM n (mm n mid f) f := by
  intro i hi j _
  show sumTo n (fun t => mid i t * f t j) = f i j
  rw [← sumTo_one n i (fun t => f t j) hi]
  refine sumTo_congr n (fun t _ => ?_)
  unfold mid
  split <;> simp
theorem mm_id_right (n : Nat) (f : Nat → Nat → Int) : EqM n (mm n f mid) f := by
  intro i _ j hj
  show sumTo n (fun t => f i t * mid t j) = f i j
  rw [← sumTo_one n j (fun t => f i t) hj]
  refine sumTo_congr n (fun t _ => ?_)
  unfold mid
  by_cases e : j = t
  · subst e; simp
  · rw [if_neg e, if_neg (fun h => e h.symm)]; simp
theorem EqM.pow {n : Nat} {f g : Nat → Nat → Int} (h : EqM n f g) : ∀ k, EqM n (mpow n f k) (mpow n g k)
  | 0 => EqM.refl _ _
  | k + 1 => h.mm (h.pow k)
theorem mpow_add (n : Nat) (f : Nat → Nat → Int) : ∀ a b, EqM n (mpow n f (a + b)) (mm n (mpow n f a) (mpow n f b))
  | 0, b => by
    rw [Nat.zero_add]
    exact (mm_id_left n _).symm
  | a + 1, b => by
    rw [Nat.add_right_comm]
    exact ((EqM.refl n f).mm (mpow_add n f a b)).trans (mm_assoc n f _ _).symm
theorem mpow_one (n : Nat) (f : Nat → Nat → Int) : EqM n (mpow n f 1) f := mm_id_right n f
theorem mpow_sq (n : Nat) (f : Nat → Nat → Int) : ∀ k, EqM n (mpow n (mm n f f) k) (mpow n f (2 * k))
  | 0 => EqM.refl _ _
  | k + 1 => by
    have h1 := (EqM.refl n (mm n f f)).mm (mpow_sq n f k)
    refine h1.trans ?_
    have h2 := mm_assoc n f f (mpow n f (2 * k))
    rw [show 2 * (k + 1) = 2 * k + 1 + 1 by omega]
    exact h2

/-- the list is the matrix f of n lines, its numbers normal with at most K limbs -/
def IsM (n K : Nat) (f : Nat → Nat → Int) (xs : List (List (List Int))) : Prop :=
  xs.length = n ∧ ∀ i (hi : i < xs.length), xs[i].length = n ∧ ∀ j (hj : j < xs[i].length), Nrm xs[i][j] ∧ val xs[i][j] = f i j ∧ xs[i][j].length ≤ K
/-- .. perhaps not normal -/
def InM (n K : Nat) (f : Nat → Nat → Int) (xs : List (List (List Int))) : Prop :=
  xs.length = n ∧ ∀ i (hi : i < xs.length), xs[i].length = n ∧ ∀ j (hj : j < xs[i].length), Limbs xs[i][j] ∧ val xs[i][j] = f i j ∧ xs[i][j].length ≤ K
theorem IsM.inM {n K : Nat} {f : Nat → Nat → Int} {xs : List (List (List Int))} (h : IsM n K f xs) : InM n K f xs :=
  ⟨h.1, fun i hi => ⟨(h.2 i hi).1, fun j hj => ⟨((h.2 i hi).2 j hj).1.1, ((h.2 i hi).2 j hj).2⟩⟩⟩
theorem IsM.congr {n K : Nat} {f g : Nat → Nat → Int} {xs : List (List (List Int))} (h : IsM n K f xs) (he : EqM n f g) : IsM n K g xs :=
  ⟨h.1, fun i hi => ⟨(h.2 i hi).1, fun j hj => ⟨((h.2 i hi).2 j hj).1, by rw [((h.2 i hi).2 j hj).2.1, he i (by have := h.1; omega) j (by have := (h.2 i hi).1; omega)], ((h.2 i hi).2 j hj).2.2⟩⟩⟩
/-- two such lists are one -/
theorem IsM.inj {n K K' : Nat} {f : Nat → Nat → Int} {xs ys : List (List (List Int))} (h : IsM n K f xs) (h' : IsM n K' f ys) : xs = ys := by
  refine List.ext_getElem (by rw [h.1, h'.1]) (fun i hi hi' => List.ext_getElem (by rw [(h.2 i hi).1, (h'.2 i hi').1]) (fun j hj hj' => ?_))
  have a := (h.2 i hi).2 j hj
  have b := (h'.2 i hi').2 j hj'
  exact Nrm.inj a.1 b.1 (by rw [a.2.1, b.2.1])
def ent (m : List (List (List Int))) (i j : Nat) : Int := val ((m.getD i []).getD j [])
end Go.Proofs.YtmnmmalffpimeaaDoor

/- What nat.Add computes: the sum of two numbers, normal. -/
namespace Go.Proofs.YtmnmmalffpimeaaDoor
open Go.RowKit Go.Proofs.YtmnmmalffpimeaaDoorW.PrintWords Go.Proofs.YtmnmmalffpimeaaDoorW.PrintLast Go.Proofs.YtmnmmalffpimeaaDoorW.PrintMore
set_option linter.unusedVariables false
set_option linter.unusedSimpArgs false

/-- after i rounds: the digits so far, and the carry -/
def AddInv (l0 l1 : List Int) (i : Nat) (c : Int) (s : List Int) : Prop :=
  i ≤ l0.length ∧ s.length = i ∧ Limbs s ∧ 0 ≤ c ∧ c ≤ 1 ∧ val s + 4294967296 ^ i * c = val (l0.take i) + val (l1.take i)
def limb (l : List Int) (i : Nat) : Int := if i < l.length then rd l (i : Int) else 0
theorem rd_nat (l : List Int) (i : Nat) : rd l (i : Int) = l.getD i 0 := by simp [rd]
theorem limb_eq (l : List Int) (i : Nat) : limb l i = l.getD i 0 := by
  unfold limb
  split
  · exact rd_nat l i
  · rename_i h
    rw [List.getD_eq_getElem?_getD, List.getElem?_eq_none (by omega)]; rfl
theorem val_take_limb (l : List Int) (i : Nat) : val (l.take (i + 1)) = val (l.take i) + 4294967296 ^ i * limb l i := by
  by_cases h : i < l.length
  · rw [val_take_succ l i h, limb_eq]
  · rw [List.take_of_length_le (by omega), List.take_of_length_le (by omega)]
    simp [limb, h]
theorem AddInv.step {l0 l1 : List Int} {i : Nat} {c : Int} {s : List Int} (h : AddInv l0 l1 i c s) (hi : i < l0.length) (h0 : Limbs l0) (h1 : Limbs l1) :
    AddInv l0 l1 (i + 1) ((limb l0 i + limb l1 i + c) / 4294967296) (s ++ [(limb l0 i + limb l1 i + c) % 4294967296]) := by
  obtain ⟨a1, a2, a3, a4, a5, a6⟩ := h
  have b0 := h0.getD i
  have b1 := h1.getD i
  rw [← limb_eq] at b0 b1
  refine ⟨by omega, by simp [a2], a3.append (Limbs.cons ⟨by omega, by omega⟩ Limbs.nil), by omega, by omega, ?_⟩
  rw [val_snoc, a2, val_take_limb, val_take_limb, Int.pow_succ]
  have e : limb l0 i + limb l1 i + c = (limb l0 i + limb l1 i + c) % 4294967296 + 4294967296 * ((limb l0 i + limb l1 i + c) / 4294967296) := by omega
  generalize (limb l0 i + limb l1 i + c) / 4294967296 = q at *
  generalize (limb l0 i + limb l1 i + c) % 4294967296 = m at *
  generalize (4294967296 : Int) ^ i = p at *
  grind
theorem AddInv.done {l0 l1 : List Int} {c : Int} {s : List Int} (h : AddInv l0 l1 l0.length c s) (hge : l1.length ≤ l0.length) : val (s ++ [c]) = val l0 + val l1 ∧ Limbs (s ++ [c]) := by
  obtain ⟨a1, a2, a3, a4, a5, a6⟩ := h
  rw [List.take_length, List.take_of_length_le hge] at a6
  exact ⟨by rw [val_snoc, a2, a6], a3.append (Limbs.cons ⟨a4, by omega⟩ Limbs.nil)⟩
theorem set_zeros (s : List Int) (n : Nat) (x : Int) (i : Nat) (hi : s.length = i) (hn : 0 < n) : (s ++ List.replicate n 0).set i x = (s ++ [x]) ++ List.replicate (n - 1) 0 := by
  obtain ⟨m, rfl⟩ : ∃ m, n = m + 1 := ⟨n - 1, by omega⟩
  rw [List.set_append_right _ _ (by omega), List.replicate_succ, hi]
  simp

set_option maxHeartbeats 8000000 in
set_option maxRecDepth 100000 in
theorem add_ge (A0 A1 : Option Addr) (c0 c1 : Nat) (l0 l1 : List Int) (w : World) (hr0 : Kd.C (Kd.int .u32) w A0 l0.length l0) (hc0 : l0.length ≤ c0) (hr1 : Kd.C (Kd.int .u32) w A1 l1.length l1) (hc1 : l1.length ≤ c1)
    (hL0 : Limbs l0) (hL1 : Limbs l1) (hm : l0.length + 1 ≤ 70368744177664) (hge : l1.length ≤ l0.length) :
    Calls Tryd.prog 51 #[.slice A0 l0.length c0, .slice A1 l1.length c1] w (NatRes w (val l0 + val l1)) := by
  have HR0 := Aside0.mk hr0
  have HC0 := Aside0.mk hc0
  have HR1 := Aside0.mk hr1
  have HC1 := Aside0.mk hc1
  have HL0 := Aside0.mk hL0
  have HL1 := Aside0.mk hL1
  have HM := Aside0.mk hm
  have hd : decide (l0.length < l1.length) = false := decide_eq_false (by omega)
  obtain ⟨n1, hn1⟩ : ∃ n1 : Int, IntKind.i64.wrap ((l0.length : Int) + 1) = n1 := ⟨_, rfl⟩
  have hn1' : n1 = (l0.length : Int) + 1 := by rw [← hn1]; exact IntWalk.i64_in _ (by omega)
  have HN1 := Aside0.mk hn1'
  have p0 : 0 ≤ n1 := by omega
  have P0 := Aside0.mk p0
  have HB := Aside0.mk (Below.refl w.heap.size w)
  clear hr0 hc0 hr1 hc1 hL0 hL1 hm hn1' p0
  go_enter Tryd.func51, Tryd.ntmps51
  go_wp2_with (first | ((with_reducible refine gate_dst (N := 20) rfl ?_); refine Kd.R_make (Kd.int .u32) _ 74 rfl (N := 20) rfl 44 _ _ rfl n1 rfl rfl Tryd.underlying44 (.int .u32 0) 4 info_u32 rfl (by decide) (by omega) 0 (ok := fun _ => True) (okp := fun _ => True) rfl (fun _ hk => hk) trivial P0.out (by have := HM.out; have := HN1.out; omega) HB.out (Nat.le_refl _) ?_; intro vo w1 ho hb hg_ hnew_; clear hg_ hnew_ HB; have HB := Aside0.mk hb; have HO := Aside0.mk ho; clear hb ho))
  obtain ⟨n2, hn2⟩ : ∃ n2 : Nat, n2 = n1.toNat := ⟨_, rfl⟩
  have hn2' : n2 = l0.length + 1 := by have := HN1.out; omega
  rw [← hn2] at HO
  clear hn2
  subst hn2'
  clear hd
  obtain ⟨g, co, eo, gb, gl, cl, HG⟩ := Kd.R_form HO.out (by simp)
  rw [List.length_replicate] at eo
  subst eo
  have GB := Aside0.mk gb
  clear gb gl cl HG hn1
  go_loopg [6, 23] (l0.length + 1) (fun kq v6 v23 w' => ∃ (i : Nat) (c : Int) (s : List Int), v6 = .int .u32 c ∧ v23 = .int .i64 i ∧ Aside0 (AddInv l0 l1 i c s) ∧ Aside0 (kq + i = l0.length + 1) ∧ Aside0 (Kd.R (Kd.int .u32) 74 w' w.heap.size (fun _ => True) (.slice (some ⟨g, 0, none⟩) (l0.length + 1) co) (s ++ List.replicate (l0.length + 1 - i) 0)) ∧ Aside0 (Below w.heap.size w w'))
  case atStart => exact ⟨0, 0, [], rfl, rfl, ⟨⟨Nat.zero_le _, rfl, Limbs.nil, by decide, by decide, by simp [val]⟩⟩, ⟨rfl⟩, ⟨by simpa using HO.out⟩, HB⟩
  case round =>
    clear HO HB
    obtain ⟨i, c, s, rfl, rfl, HA, HK, HO, HB⟩ := hrel
    by_cases hlt : i < l0.length
    · obtain ⟨k1, rfl⟩ : ∃ k1, gk = k1 + 1 := ⟨gk - 1, by have := HK.out; omega⟩
      obtain ⟨ad0, e0, hx0⟩ := Kd.at_int HR0.out (i : Int) (by omega) (by omega)
      cases e0
      replace hx0 := (HB.out.cell (World.block_lt_of_cell? w _ hx0)).trans hx0
      simp only [Int.toNat_natCast] at hx0
      have hib : i < 9223372036854775807 := by have := HM.out; omega
      have BX := Aside0.mk (HL0.out.getD i)
      have BY := Aside0.mk (HL1.out.getD i)
      have BC : Aside0 (0 ≤ c ∧ c ≤ 1) := ⟨⟨HA.out.2.2.2.1, HA.out.2.2.2.2.1⟩⟩
      have HS := Aside0.mk (HA.out.step hlt HL0.out HL1.out)
      have hrep := set_zeros s (l0.length + 1 - i) ((limb l0 i + limb l1 i + c) % 4294967296) i HA.out.2.1 (by omega)
      have HX : Aside0 (limb l0 i = rd l0 (i : Int)) := ⟨by rw [limb, if_pos hlt]⟩
      by_cases hl1 : i < l1.length
      · obtain ⟨ad1, e1, hx1⟩ := Kd.at_int HR1.out (i : Int) (by omega) (by omega)
        cases e1
        replace hx1 := (HB.out.cell (World.block_lt_of_cell? w _ hx1)).trans hx1
        simp only [Int.toNat_natCast] at hx1
        have hl1b : decide (i < l1.length) = true := decide_eq_true hl1
        have HY : Aside0 (limb l1 i = rd l1 (i : Int)) := ⟨by rw [limb, if_pos hl1]⟩
        have HE : Aside0 ((limb l0 i + limb l1 i + c) % 4294967296 = ((rd l0 (i : Int) + rd l1 (i : Int) + c) % 4294967296)) := ⟨by rw [HX.out, HY.out]⟩
        have HPP : Aside0 (Kd.R (Kd.int .u32) 74 (wr.setCell ⟨g, i, none⟩ (.int .u32 ((rd l0 (i : Int) + rd l1 (i : Int) + c) % 4294967296))) w.heap.size (fun _ => True) (.slice (some ⟨g, 0, none⟩) (l0.length + 1) co) ((s ++ [(limb l0 i + limb l1 i + c) % 4294967296]) ++ List.replicate (l0.length + 1 - i - 1) 0)) :=
          ⟨by have h := (Kd.R_putg HO.out (i : Int) ((limb l0 i + limb l1 i + c) % 4294967296)).1; rw [Int.toNat_natCast, hrep] at h; rw [← HE.out]; exact h⟩
        obtain ⟨hc, hf⟩ := Kd.R_celln 0 HO.out (i : Int) (by omega) (by omega)
        rw [Int.toNat_natCast] at hc hf
        have HBS := Aside0.mk (fun v => below_set (g := g) (j := i) HB.out GB.out (v := v))
        clear hrep
        go_wp2_with (go_at_call 106; refine (add32_calls _ _ _ _ (by have := BX.out; rw [rd_nat]; omega) (by have := BX.out; rw [rd_nat]; omega) (by have := BY.out; rw [rd_nat]; omega) (by have := BY.out; rw [rd_nat]; omega) BC.out.1 BC.out.2).mono ?_; rintro e w' ⟨rfl, rfl⟩)
        go_roundg k1
        case measure => omega
        case rel => exact ⟨i + 1, _, _, by rw [HX.out, HY.out], by go_num, HS, ⟨by have := HK.out; omega⟩, ⟨by rw [show l0.length + 1 - (i + 1) = l0.length + 1 - i - 1 by omega]; exact HPP.out⟩, ⟨HBS.out _⟩⟩
      · have hl1b : decide (i < l1.length) = false := decide_eq_false hl1
        have HY : Aside0 (limb l1 i = 0) := ⟨by rw [limb, if_neg hl1]⟩
        have HE : Aside0 ((limb l0 i + limb l1 i + c) % 4294967296 = ((rd l0 (i : Int) + c) % 4294967296)) := ⟨by rw [HX.out, HY.out, Int.add_zero]⟩
        have HPP : Aside0 (Kd.R (Kd.int .u32) 74 (wr.setCell ⟨g, i, none⟩ (.int .u32 ((rd l0 (i : Int) + c) % 4294967296))) w.heap.size (fun _ => True) (.slice (some ⟨g, 0, none⟩) (l0.length + 1) co) ((s ++ [(limb l0 i + limb l1 i + c) % 4294967296]) ++ List.replicate (l0.length + 1 - i - 1) 0)) :=
          ⟨by have h := (Kd.R_putg HO.out (i : Int) ((limb l0 i + limb l1 i + c) % 4294967296)).1; rw [Int.toNat_natCast, hrep] at h; rw [← HE.out]; exact h⟩
        obtain ⟨hc, hf⟩ := Kd.R_celln 0 HO.out (i : Int) (by omega) (by omega)
        rw [Int.toNat_natCast] at hc hf
        have HBS := Aside0.mk (fun v => below_set (g := g) (j := i) HB.out GB.out (v := v))
        clear hrep
        go_wp2_with (go_at_call 106; refine (add32_calls _ _ _ _ (by have := BX.out; rw [rd_nat]; omega) (by have := BX.out; rw [rd_nat]; omega) (by have := BY.out; omega) (by have := BY.out; omega) BC.out.1 BC.out.2).mono ?_; rintro e w' ⟨rfl, rfl⟩)
        go_roundg k1
        case measure => omega
        case rel => exact ⟨i + 1, _, _, by rw [HX.out, HY.out, Int.add_zero], by go_num, HS, ⟨by have := HK.out; omega⟩, ⟨by rw [show l0.length + 1 - (i + 1) = l0.length + 1 - i - 1 by omega]; exact HPP.out⟩, ⟨HBS.out _⟩⟩
    · obtain rfl : i = l0.length := by have := HA.out.1; omega
      have hib : l0.length < 9223372036854775807 := by have := HM.out; omega
      have hrep := set_zeros s (l0.length + 1 - l0.length) c l0.length HA.out.2.1 (by omega)
      have hz : l0.length + 1 - l0.length - 1 = 0 := by omega
      rw [hz, List.replicate_zero, List.append_nil] at hrep
      have hd2 := HA.out.done hge
      have hl2 : (s ++ [c]).length = l0.length + 1 := by rw [List.length_append, HA.out.2.1]; rfl
      have HPP : Aside0 (Kd.R (Kd.int .u32) 74 (wr.setCell ⟨g, l0.length, none⟩ (.int .u32 c)) w.heap.size (fun _ => True) (.slice (some ⟨g, 0, none⟩) (l0.length + 1) co) (s ++ [c])) :=
        ⟨by have h := (Kd.R_putg HO.out (l0.length : Int) c).1; rw [Int.toNat_natCast, hrep] at h; exact h⟩
      obtain ⟨hc, hf⟩ := Kd.R_celln 0 HO.out (l0.length : Int) (by omega) (by omega)
      rw [Int.toNat_natCast] at hc hf
      have HBS := Aside0.mk (below_set (g := g) (j := l0.length) HB.out GB.out (v := .int .u32 c))
      have HD2 := Aside0.mk hd2
      obtain ⟨t, ht⟩ : ∃ t, t = s ++ [c] := ⟨_, rfl⟩
      rw [← ht] at HPP HD2 hl2
      have HRR := Aside0.mk (Kd.R_reads' HPP.out)
      have HL2 := Aside0.mk hl2
      clear hrep hz hd2 ht hl2 hge
      go_wp2_with (go_at_call 101; (refine calls_of_args ?_ ((norm_calls (some ⟨g, 0, none⟩) co t _ HRR.out.2.2 (by have := HRR.out; omega)).mono ?_)); (case refine_1 => rw [HL2.out]); rintro e w' ⟨rfl, rfl⟩)
      go_ret
      exact ⟨_, trim t, rfl, (FrN.of_R HPP.out GB.out).trimmed, trim_nrm HD2.out.2, by rw [trim_val]; exact HD2.out.1, HBS.out⟩

set_option maxHeartbeats 8000000 in
set_option maxRecDepth 100000 in
theorem add_lt (A0 A1 : Option Addr) (c0 c1 : Nat) (l0 l1 : List Int) (w : World) (hr0 : Kd.C (Kd.int .u32) w A0 l0.length l0) (hc0 : l0.length ≤ c0) (hr1 : Kd.C (Kd.int .u32) w A1 l1.length l1) (hc1 : l1.length ≤ c1)
    (hL0 : Limbs l0) (hL1 : Limbs l1) (hm : l0.length + 1 ≤ 70368744177664) (hge' : l1.length < l0.length) :
    Calls Tryd.prog 51 #[.slice A1 l1.length c1, .slice A0 l0.length c0] w (NatRes w (val l0 + val l1)) := by
  have HR0 := Aside0.mk hr0
  have HC0 := Aside0.mk hc0
  have HR1 := Aside0.mk hr1
  have HC1 := Aside0.mk hc1
  have HL0 := Aside0.mk hL0
  have HL1 := Aside0.mk hL1
  have HM := Aside0.mk hm
  have hge : l1.length ≤ l0.length := by omega
  have hd : decide (l1.length < l0.length) = true := decide_eq_true hge'
  clear hge'
  obtain ⟨n1, hn1⟩ : ∃ n1 : Int, IntKind.i64.wrap ((l0.length : Int) + 1) = n1 := ⟨_, rfl⟩
  have hn1' : n1 = (l0.length : Int) + 1 := by rw [← hn1]; exact IntWalk.i64_in _ (by omega)
  have HN1 := Aside0.mk hn1'
  have p0 : 0 ≤ n1 := by omega
  have P0 := Aside0.mk p0
  have HB := Aside0.mk (Below.refl w.heap.size w)
  clear hr0 hc0 hr1 hc1 hL0 hL1 hm hn1' p0
  go_enter Tryd.func51, Tryd.ntmps51
  go_wp2_with (first | ((with_reducible refine gate_dst (N := 20) rfl ?_); refine Kd.R_make (Kd.int .u32) _ 74 rfl (N := 20) rfl 44 _ _ rfl n1 rfl rfl Tryd.underlying44 (.int .u32 0) 4 info_u32 rfl (by decide) (by omega) 0 (ok := fun _ => True) (okp := fun _ => True) rfl (fun _ hk => hk) trivial P0.out (by have := HM.out; have := HN1.out; omega) HB.out (Nat.le_refl _) ?_; intro vo w1 ho hb hg_ hnew_; clear hg_ hnew_ HB; have HB := Aside0.mk hb; have HO := Aside0.mk ho; clear hb ho))
  obtain ⟨n2, hn2⟩ : ∃ n2 : Nat, n2 = n1.toNat := ⟨_, rfl⟩
  have hn2' : n2 = l0.length + 1 := by have := HN1.out; omega
  rw [← hn2] at HO
  clear hn2
  subst hn2'
  clear hd
  obtain ⟨g, co, eo, gb, gl, cl, HG⟩ := Kd.R_form HO.out (by simp)
  rw [List.length_replicate] at eo
  subst eo
  have GB := Aside0.mk gb
  clear gb gl cl HG hn1
  go_loopg [6, 23] (l0.length + 1) (fun kq v6 v23 w' => ∃ (i : Nat) (c : Int) (s : List Int), v6 = .int .u32 c ∧ v23 = .int .i64 i ∧ Aside0 (AddInv l0 l1 i c s) ∧ Aside0 (kq + i = l0.length + 1) ∧ Aside0 (Kd.R (Kd.int .u32) 74 w' w.heap.size (fun _ => True) (.slice (some ⟨g, 0, none⟩) (l0.length + 1) co) (s ++ List.replicate (l0.length + 1 - i) 0)) ∧ Aside0 (Below w.heap.size w w'))
  case atStart => exact ⟨0, 0, [], rfl, rfl, ⟨⟨Nat.zero_le _, rfl, Limbs.nil, by decide, by decide, by simp [val]⟩⟩, ⟨rfl⟩, ⟨by simpa using HO.out⟩, HB⟩
  case round =>
    clear HO HB
    obtain ⟨i, c, s, rfl, rfl, HA, HK, HO, HB⟩ := hrel
    by_cases hlt : i < l0.length
    · obtain ⟨k1, rfl⟩ : ∃ k1, gk = k1 + 1 := ⟨gk - 1, by have := HK.out; omega⟩
      obtain ⟨ad0, e0, hx0⟩ := Kd.at_int HR0.out (i : Int) (by omega) (by omega)
      cases e0
      replace hx0 := (HB.out.cell (World.block_lt_of_cell? w _ hx0)).trans hx0
      simp only [Int.toNat_natCast] at hx0
      have hib : i < 9223372036854775807 := by have := HM.out; omega
      have BX := Aside0.mk (HL0.out.getD i)
      have BY := Aside0.mk (HL1.out.getD i)
      have BC : Aside0 (0 ≤ c ∧ c ≤ 1) := ⟨⟨HA.out.2.2.2.1, HA.out.2.2.2.2.1⟩⟩
      have HS := Aside0.mk (HA.out.step hlt HL0.out HL1.out)
      have hrep := set_zeros s (l0.length + 1 - i) ((limb l0 i + limb l1 i + c) % 4294967296) i HA.out.2.1 (by omega)
      have HX : Aside0 (limb l0 i = rd l0 (i : Int)) := ⟨by rw [limb, if_pos hlt]⟩
      by_cases hl1 : i < l1.length
      · obtain ⟨ad1, e1, hx1⟩ := Kd.at_int HR1.out (i : Int) (by omega) (by omega)
        cases e1
        replace hx1 := (HB.out.cell (World.block_lt_of_cell? w _ hx1)).trans hx1
        simp only [Int.toNat_natCast] at hx1
        have hl1b : decide (i < l1.length) = true := decide_eq_true hl1
        have HY : Aside0 (limb l1 i = rd l1 (i : Int)) := ⟨by rw [limb, if_pos hl1]⟩
        have HE : Aside0 ((limb l0 i + limb l1 i + c) % 4294967296 = ((rd l0 (i : Int) + rd l1 (i : Int) + c) % 4294967296)) := ⟨by rw [HX.out, HY.out]⟩
        have HPP : Aside0 (Kd.R (Kd.int .u32) 74 (wr.setCell ⟨g, i, none⟩ (.int .u32 ((rd l0 (i : Int) + rd l1 (i : Int) + c) % 4294967296))) w.heap.size (fun _ => True) (.slice (some ⟨g, 0, none⟩) (l0.length + 1) co) ((s ++ [(limb l0 i + limb l1 i + c) % 4294967296]) ++ List.replicate (l0.length + 1 - i - 1) 0)) :=
          ⟨by have h := (Kd.R_putg HO.out (i : Int) ((limb l0 i + limb l1 i + c) % 4294967296)).1; rw [Int.toNat_natCast, hrep] at h; rw [← HE.out]; exact h⟩
        obtain ⟨hc, hf⟩ := Kd.R_celln 0 HO.out (i : Int) (by omega) (by omega)
        rw [Int.toNat_natCast] at hc hf
        have HBS := Aside0.mk (fun v => below_set (g := g) (j := i) HB.out GB.out (v := v))
        clear hrep
        go_wp2_with (go_at_call 106; refine (add32_calls _ _ _ _ (by have := BX.out; rw [rd_nat]; omega) (by have := BX.out; rw [rd_nat]; omega) (by have := BY.out; rw [rd_nat]; omega) (by have := BY.out; rw [rd_nat]; omega) BC.out.1 BC.out.2).mono ?_; rintro e w' ⟨rfl, rfl⟩)
        go_roundg k1
        case measure => omega
        case rel => exact ⟨i + 1, _, _, by rw [HX.out, HY.out], by go_num, HS, ⟨by have := HK.out; omega⟩, ⟨by rw [show l0.length + 1 - (i + 1) = l0.length + 1 - i - 1 by omega]; exact HPP.out⟩, ⟨HBS.out _⟩⟩
      · have hl1b : decide (i < l1.length) = false := decide_eq_false hl1
        have HY : Aside0 (limb l1 i = 0) := ⟨by rw [limb, if_neg hl1]⟩
        have HE : Aside0 ((limb l0 i + limb l1 i + c) % 4294967296 = ((rd l0 (i : Int) + c) % 4294967296)) := ⟨by rw [HX.out, HY.out, Int.add_zero]⟩
        have HPP : Aside0 (Kd.R (Kd.int .u32) 74 (wr.setCell ⟨g, i, none⟩ (.int .u32 ((rd l0 (i : Int) + c) % 4294967296))) w.heap.size (fun _ => True) (.slice (some ⟨g, 0, none⟩) (l0.length + 1) co) ((s ++ [(limb l0 i + limb l1 i + c) % 4294967296]) ++ List.replicate (l0.length + 1 - i - 1) 0)) :=
          ⟨by have h := (Kd.R_putg HO.out (i : Int) ((limb l0 i + limb l1 i + c) % 4294967296)).1; rw [Int.toNat_natCast, hrep] at h; rw [← HE.out]; exact h⟩
        obtain ⟨hc, hf⟩ := Kd.R_celln 0 HO.out (i : Int) (by omega) (by omega)
        rw [Int.toNat_natCast] at hc hf
        have HBS := Aside0.mk (fun v => below_set (g := g) (j := i) HB.out GB.out (v := v))
        clear hrep
        go_wp2_with (go_at_call 106; refine (add32_calls _ _ _ _ (by have := BX.out; rw [rd_nat]; omega) (by have := BX.out; rw [rd_nat]; omega) (by have := BY.out; omega) (by have := BY.out; omega) BC.out.1 BC.out.2).mono ?_; rintro e w' ⟨rfl, rfl⟩)
        go_roundg k1
        case measure => omega
        case rel => exact ⟨i + 1, _, _, by rw [HX.out, HY.out, Int.add_zero], by go_num, HS, ⟨by have := HK.out; omega⟩, ⟨by rw [show l0.length + 1 - (i + 1) = l0.length + 1 - i - 1 by omega]; exact HPP.out⟩, ⟨HBS.out _⟩⟩
    · obtain rfl : i = l0.length := by have := HA.out.1; omega
      have hib : l0.length < 9223372036854775807 := by have := HM.out; omega
      have hrep := set_zeros s (l0.length + 1 - l0.length) c l0.length HA.out.2.1 (by omega)
      have hz : l0.length + 1 - l0.length - 1 = 0 := by omega
      rw [hz, List.replicate_zero, List.append_nil] at hrep
      have hd2 := HA.out.done hge
      have hl2 : (s ++ [c]).length = l0.length + 1 := by rw [List.length_append, HA.out.2.1]; rfl
      have HPP : Aside0 (Kd.R (Kd.int .u32) 74 (wr.setCell ⟨g, l0.length, none⟩ (.int .u32 c)) w.heap.size (fun _ => True) (.slice (some ⟨g, 0, none⟩) (l0.length + 1) co) (s ++ [c])) :=
        ⟨by have h := (Kd.R_putg HO.out (l0.length : Int) c).1; rw [Int.toNat_natCast, hrep] at h; exact h⟩
      obtain ⟨hc, hf⟩ := Kd.R_celln 0 HO.out (l0.length : Int) (by omega) (by omega)
      rw [Int.toNat_natCast] at hc hf
      have HBS := Aside0.mk (below_set (g := g) (j := l0.length) HB.out GB.out (v := .int .u32 c))
      have HD2 := Aside0.mk hd2
      obtain ⟨t, ht⟩ : ∃ t, t = s ++ [c] := ⟨_, rfl⟩
      rw [← ht] at HPP HD2 hl2
      have HRR := Aside0.mk (Kd.R_reads' HPP.out)
      have HL2 := Aside0.mk hl2
      clear hrep hz hd2 ht hl2 hge
      go_wp2_with (go_at_call 101; (refine calls_of_args ?_ ((norm_calls (some ⟨g, 0, none⟩) co t _ HRR.out.2.2 (by have := HRR.out; omega)).mono ?_)); (case refine_1 => rw [HL2.out]); rintro e w' ⟨rfl, rfl⟩)
      go_ret
      exact ⟨_, trim t, rfl, (FrN.of_R HPP.out GB.out).trimmed, trim_nrm HD2.out.2, by rw [trim_val]; exact HD2.out.1, HBS.out⟩

set_option maxHeartbeats 400000 in
theorem add_calls (A0 A1 : Option Addr) (c0 c1 : Nat) (l0 l1 : List Int) (w : World) (hr0 : Kd.C (Kd.int .u32) w A0 l0.length l0) (hc0 : l0.length ≤ c0) (hr1 : Kd.C (Kd.int .u32) w A1 l1.length l1) (hc1 : l1.length ≤ c1)
    (hL0 : Limbs l0) (hL1 : Limbs l1) (hm0 : l0.length + 1 ≤ 70368744177664) (hm1 : l1.length + 1 ≤ 70368744177664) :
    Calls Tryd.prog 51 #[.slice A0 l0.length c0, .slice A1 l1.length c1] w (NatRes w (val l0 + val l1)) := by
  by_cases h : l1.length ≤ l0.length
  · exact add_ge A0 A1 c0 c1 l0 l1 w hr0 hc0 hr1 hc1 hL0 hL1 hm0 h
  · rw [Int.add_comm]
    exact add_lt A1 A0 c1 c0 l1 l0 w hr1 hc1 hr0 hc0 hL1 hL0 hm1 (by omega)
end Go.Proofs.YtmnmmalffpimeaaDoor

/- What nat.Mul computes: the product of two numbers, normal. -/
namespace Go.Proofs.YtmnmmalffpimeaaDoor
open Go.RowKit Go.Proofs.YtmnmmalffpimeaaDoorW.PrintWords Go.Proofs.YtmnmmalffpimeaaDoorW.PrintLast Go.Proofs.YtmnmmalffpimeaaDoorW.PrintMore
set_option linter.unusedVariables false
set_option linter.unusedSimpArgs false

theorem val_set : ∀ (l : List Int) (i : Nat) (v : Int), i < l.length → val (l.set i v) = val l + 4294967296 ^ i * (v - l.getD i 0)
  | x :: xs, 0, v, _ => by simp [val]; omega
  | x :: xs, i + 1, v, h => by
    have ih := val_set xs i v (by simpa using h)
    simp only [List.set_cons_succ, val, ih, List.getD_cons_succ]
    rw [Int.pow_succ]; grind
theorem Limbs.set {l : List Int} (h : Limbs l) (i : Nat) {v : Int} (hv : 0 ≤ v ∧ v < 4294967296) : Limbs (l.set i v) := by
  intro x hx
  rcases List.mem_or_eq_of_mem_set hx with hx | rfl
  · exact h x hx
  · exact hv
theorem getD_set_ne_ (l : List Int) (i m : Nat) (v : Int) (h : i ≠ m) : (l.set i v).getD m 0 = l.getD m 0 := by
  rw [List.getD_eq_getElem?_getD, List.getD_eq_getElem?_getD, List.getElem?_set_ne h]

def MulInv (l0 l1 : List Int) (i : Nat) (o : List Int) : Prop :=
  i ≤ l0.length ∧ o.length = l0.length + l1.length ∧ Limbs o ∧ val o = val (l0.take i) * val l1 ∧ ∀ m, i + l1.length ≤ m → o.getD m 0 = 0
def MulIn (l0 l1 : List Int) (i : Nat) (o : List Int) (j : Nat) (c : Int) (o2 : List Int) : Prop :=
  j ≤ l1.length ∧ o2.length = l0.length + l1.length ∧ Limbs o2 ∧ 0 ≤ c ∧ c < 4294967296 ∧ val o2 + 4294967296 ^ (i + j) * c = val o + 4294967296 ^ i * (rd l0 (i : Int) * val (l1.take j)) ∧ ∀ m, i + l1.length ≤ m → o2.getD m 0 = 0
theorem MulInv.start (l0 l1 : List Int) : MulInv l0 l1 0 (List.replicate (l0.length + l1.length) 0) :=
  ⟨Nat.zero_le _, by simp, Limbs.replicate _, by rw [val_replicate]; simp [val], fun m _ => by
    rw [List.getD_eq_getElem?_getD, List.getElem?_replicate]
    split <;> rfl⟩
theorem MulInv.inner {l0 l1 o : List Int} {i : Nat} (h : MulInv l0 l1 i o) : MulIn l0 l1 i o 0 0 o :=
  ⟨Nat.zero_le _, h.2.1, h.2.2.1, by decide, by decide, by simp [val], h.2.2.2.2⟩
theorem mul_bd {x y : Int} (hx : 0 ≤ x ∧ x < 4294967296) (hy : 0 ≤ y ∧ y < 4294967296) : 0 ≤ x * y ∧ x * y ≤ 18446744065119617025 := by
  refine ⟨Int.mul_nonneg hx.1 hy.1, ?_⟩
  have := Int.mul_le_mul (show x ≤ 4294967295 by omega) (show y ≤ 4294967295 by omega) hy.1 (by omega)
  omega
theorem MulIn.step {l0 l1 o o2 : List Int} {i j : Nat} {c t : Int} (h : MulIn l0 l1 i o j c o2) (hi : i < l0.length) (hj : j < l1.length) (h0 : Limbs l0) (h1 : Limbs l1) (ht : t = rd l0 (i : Int) * rd l1 (j : Int) + rd o2 ((i + j : Nat) : Int) + c) :
    0 ≤ t ∧ t < 18446744073709551616 ∧ MulIn l0 l1 i o (j + 1) (t / 4294967296) (o2.set (i + j) (t % 4294967296)) := by
  obtain ⟨a1, a2, a3, a4, a5, a6, a7⟩ := h
  have b0 := h0.getD i
  have b1 := h1.getD j
  have b2 := a3.getD (i + j)
  rw [← rd_nat] at b0 b1 b2
  have hm := mul_bd b0 b1
  have hb : 0 ≤ t ∧ t < 18446744073709551616 := by omega
  refine ⟨hb.1, hb.2, by omega, by simp [a2], a3.set _ ⟨by omega, by omega⟩, by omega, by omega, ?_, fun m hm => ?_⟩
  · rw [val_set _ _ _ (by omega), val_take_succ l1 j hj, ← rd_nat, ← rd_nat l1 j]
    have e : t = t % 4294967296 + 4294967296 * (t / 4294967296) := by omega
    generalize t / 4294967296 = q at *
    generalize t % 4294967296 = r at *
    rw [show i + (j + 1) = (i + j) + 1 by omega, Int.pow_succ]
    have e2 : (4294967296 : Int) ^ (i + j) = 4294967296 ^ i * 4294967296 ^ j := Int.pow_add _ _ _
    generalize (4294967296 : Int) ^ (i + j) = p at *
    generalize (4294967296 : Int) ^ i = pi at *
    generalize (4294967296 : Int) ^ j = pj at *
    subst ht
    generalize rd l0 (i : Int) = x at *
    generalize rd l1 (j : Int) = y at *
    generalize rd o2 ((i + j : Nat) : Int) = z at *
    grind
  · rw [getD_set_ne_ _ _ _ _ (by omega)]
    exact a7 m hm
theorem MulIn.done {l0 l1 o o2 : List Int} {i : Nat} {c : Int} (h : MulIn l0 l1 i o l1.length c o2) (hI : MulInv l0 l1 i o) (hi : i < l0.length) :
    MulInv l0 l1 (i + 1) (o2.set (i + l1.length) (c % 4294967296)) := by
  obtain ⟨a1, a2, a3, a4, a5, a6, a7⟩ := h
  obtain ⟨b1, b2, b3, b4, b5⟩ := hI
  have hc : c % 4294967296 = c := by omega
  rw [hc]
  refine ⟨hi, by simp [a2], a3.set _ ⟨a4, a5⟩, ?_, fun m hm => ?_⟩
  · rw [val_set _ _ _ (by omega), a7 _ (Nat.le_refl _), val_take_succ l0 i hi, ← rd_nat]
    rw [List.take_length] at a6
    rw [b4] at a6
    generalize (4294967296 : Int) ^ (i + l1.length) = p at *
    generalize (4294967296 : Int) ^ i = pi at *
    generalize rd l0 (i : Int) = x at *
    generalize val (l0.take i) = u at *
    generalize val l1 = y at *
    grind
  · rw [getD_set_ne_ _ _ _ _ (by omega)]
    exact a7 m (by omega)

theorem FrN.of_R' {base : Nat} {w0 w : World} {ok : Nat → Prop} {A : Option Addr} {n c : Nat} {l : List Int} (h : Kd.R (Kd.int .u32) 74 w base ok (.slice A n c) l) (_hb : Below base w0 w) : FrN base w (.slice A n c) l :=
  Kd.V_mono (Kd.R_V (Kd.R_tight rfl h)) (fun k hk => Kd.R_base h k hk.symm)
theorem u64_in (x : Int) (h0 : 0 ≤ x) (h1 : x < 18446744073709551616) : IntKind.u64.wrap x = x := by
  simp [IntKind.wrap, IntKind.bits, IntKind.signed]
  omega
set_option maxHeartbeats 8000000 in
set_option maxRecDepth 100000 in
theorem mul_calls (A0 A1 : Option Addr) (c0 c1 : Nat) (l0 l1 : List Int) (w : World) (hr0 : Kd.C (Kd.int .u32) w A0 l0.length l0) (hc0 : l0.length ≤ c0) (hr1 : Kd.C (Kd.int .u32) w A1 l1.length l1) (hc1 : l1.length ≤ c1)
    (hL0 : Limbs l0) (hL1 : Limbs l1) (hm : l0.length + l1.length ≤ 70368744177664) :
    Calls Tryd.prog 52 #[.slice A0 l0.length c0, .slice A1 l1.length c1] w (NatRes w (val l0 * val l1)) := by
  have HR0 := Aside0.mk hr0
  have HC0 := Aside0.mk hc0
  have HR1 := Aside0.mk hr1
  have HC1 := Aside0.mk hc1
  have HL0 := Aside0.mk hL0
  have HL1 := Aside0.mk hL1
  have HM := Aside0.mk hm
  obtain ⟨n1, hn1⟩ : ∃ n1 : Int, IntKind.i64.wrap ((l0.length : Int) + (l1.length : Int)) = n1 := ⟨_, rfl⟩
  have hn1' : n1 = (l0.length : Int) + (l1.length : Int) := by rw [← hn1]; exact IntWalk.i64_in _ (by omega)
  have HN1 := Aside0.mk hn1'
  have p0 : 0 ≤ n1 := by omega
  have P0 := Aside0.mk p0
  have HB := Aside0.mk (Below.refl w.heap.size w)
  clear hr0 hc0 hr1 hc1 hL0 hL1 hm hn1' p0
  go_enter Tryd.func52, Tryd.ntmps52
  go_wp2_with (first | ((with_reducible refine gate_dst (N := 17) rfl ?_); refine Kd.R_make (Kd.int .u32) _ 74 rfl (N := 17) rfl 44 _ _ rfl n1 rfl rfl Tryd.underlying44 (.int .u32 0) 4 info_u32 rfl (by decide) (by omega) 0 (ok := fun _ => True) (okp := fun _ => True) rfl (fun _ hk => hk) trivial P0.out (by have := HM.out; have := HN1.out; omega) HB.out (Nat.le_refl _) ?_; intro vo w1 ho hb hg_ hnew_; clear hg_ hnew_ HB; have HB := Aside0.mk hb; have HO := Aside0.mk ho; clear hb ho))
  obtain ⟨n2, hn2⟩ : ∃ n2 : Nat, n2 = n1.toNat := ⟨_, rfl⟩
  have hn2' : n2 = l0.length + l1.length := by have := HN1.out; omega
  rw [← hn2] at HO
  clear hn2 hn1
  subst hn2'
  obtain ⟨Ao, co, eo⟩ := Kd.R_slice HO.out
  rw [List.length_replicate] at eo
  subst eo
  go_loopg [20] (l0.length + 1) (fun kq v20 w' => ∃ (i : Nat) (o : List Int), v20 = .int .i64 i ∧ Aside0 (MulInv l0 l1 i o) ∧ Aside0 (kq + i = l0.length + 1) ∧ Aside0 (Kd.R (Kd.int .u32) 74 w' w.heap.size (fun _ => True) (.slice Ao (l0.length + l1.length) co) o) ∧ Aside0 (Below w.heap.size w w'))
  case atStart => exact ⟨0, _, rfl, ⟨MulInv.start l0 l1⟩, ⟨rfl⟩, HO, HB⟩
  case round =>
    clear HO HB
    obtain ⟨i, o, rfl, HI, HK, HO, HB⟩ := hrel
    by_cases hlt : i < l0.length
    · obtain ⟨k1, rfl⟩ : ∃ k1, gk = k1 + 1 := ⟨gk - 1, by have := HK.out; omega⟩
      obtain ⟨ad0, e0, hx0⟩ := Kd.at_int HR0.out (i : Int) (by omega) (by omega)
      cases e0
      replace hx0 := (HB.out.cell (World.block_lt_of_cell? w _ hx0)).trans hx0
      simp only [Int.toNat_natCast] at hx0
      have hib : i + l1.length < 9223372036854775807 := by have := HM.out; omega
      obtain ⟨g, cq, eo, gb, gl, cl, HG⟩ := Kd.R_form HO.out (by have := HI.out.2.1; omega)
      injection eo with e1 e2 e3
      subst e1
      subst e3
      clear e2
      have GB := Aside0.mk gb
      clear gb gl cl HG
      go_wp2
      go_loopg [8, 27] (l1.length + 1) (fun kq v8 v27 w' => ∃ (j : Nat) (c : Int) (o2 : List Int), v8 = .int .u64 c ∧ v27 = .int .i64 j ∧ Aside0 (MulIn l0 l1 i o j c o2) ∧ Aside0 (kq + j = l1.length + 1) ∧ Aside0 (Kd.R (Kd.int .u32) 74 w' w.heap.size (fun _ => True) (.slice (some ⟨g, 0, none⟩) (l0.length + l1.length) co) o2) ∧ Aside0 (Below w.heap.size w w'))
      case atStart => exact ⟨0, 0, o, rfl, rfl, ⟨HI.out.inner⟩, ⟨rfl⟩, HO, HB⟩
      case round =>
        clear HO HB hx0
        obtain ⟨j, c, o2, rfl, rfl, HJ, HKJ, HO, HB⟩ := hrel
        by_cases hjt : j < l1.length
        · obtain ⟨k2, rfl⟩ : ∃ k2, gk = k2 + 1 := ⟨gk - 1, by have := HKJ.out; omega⟩
          obtain ⟨ad1, e1, hx1⟩ := Kd.at_int HR1.out (j : Int) (by omega) (by omega)
          cases e1
          replace hx1 := (HB.out.cell (World.block_lt_of_cell? w _ hx1)).trans hx1
          simp only [Int.toNat_natCast] at hx1
          have hst := HJ.out.step hlt hjt HL0.out HL1.out rfl
          have hbx := HL0.out.getD i
          have hby := HL1.out.getD j
          have hbz := HJ.out.2.2.1.getD (i + j)
          have hbc := And.intro HJ.out.2.2.2.1 HJ.out.2.2.2.2.1
          rw [← rd_nat] at hbx hby hbz
          have hmd := mul_bd hbx hby
          obtain ⟨hz, hzf⟩ := Kd.R_celln 0 HO.out ((i + j : Nat) : Int) (by omega) (by omega)
          rw [Int.toNat_natCast] at hz hzf
          have hz' : wr.cell? ⟨g, i + j, none⟩ = some (.int .u32 (rd o2 ((i + j : Nat) : Int))) := hz
          clear hz
          obtain ⟨y, hy⟩ : ∃ y, rd l1 (j : Int) = y := ⟨_, rfl⟩
          obtain ⟨z, hz⟩ : ∃ z, rd o2 ((i + j : Nat) : Int) = z := ⟨_, rfl⟩
          rw [hy, hz] at hst
          rw [hy] at hby hx1 hmd
          rw [hz] at hbz hz'
          clear hy hz
          have q1 : IntKind.u64.wrap (rd l0 (i : Int)) = rd l0 (i : Int) := u64_in _ hbx.1 (by omega)
          have q2 : IntKind.u64.wrap y = y := u64_in _ hby.1 (by omega)
          have q3 : IntKind.u64.wrap z = z := u64_in _ hbz.1 (by omega)
          have q4 : IntKind.u64.wrap (rd l0 (i : Int) * y) = rd l0 (i : Int) * y := u64_in _ hmd.1 (by omega)
          have q5 : IntKind.u64.wrap (rd l0 (i : Int) * y + z) = rd l0 (i : Int) * y + z := u64_in _ (by omega) (by omega)
          have q6 : IntKind.u64.wrap (rd l0 (i : Int) * y + z + c) = rd l0 (i : Int) * y + z + c := u64_in _ (by omega) (by omega)
          have HPP : Aside0 (Kd.R (Kd.int .u32) 74 (wr.setCell ⟨g, i + j, none⟩ (.int .u32 ((rd l0 (i : Int) * y + z + c) % 4294967296))) w.heap.size (fun _ => True) (.slice (some ⟨g, 0, none⟩) (l0.length + l1.length) co) (o2.set (i + j) ((rd l0 (i : Int) * y + z + c) % 4294967296))) :=
            ⟨by have h := (Kd.R_putg HO.out ((i + j : Nat) : Int) ((rd l0 (i : Int) * y + z + c) % 4294967296)).1; rw [Int.toNat_natCast] at h; exact h⟩
          have HBS := Aside0.mk (fun v => below_set (g := g) (j := i + j) HB.out GB.out (v := v))
          have HST := Aside0.mk hst.2.2
          have hq7 : (rd l0 (i : Int) * y + z + c) / 4294967296 % 4294967296 = (rd l0 (i : Int) * y + z + c) / 4294967296 := by have := hst.1; have := hst.2.1; omega
          have HQ := Aside0.mk hq7
          have hij : i + j < 9223372036854775807 := by omega
          clear hst hbx hby hbz hbc hmd hq7
          go_wp2_with fail
          go_roundg k2
          case measure => omega
          case rel => exact ⟨j + 1, _, _, by first | rfl | rw [HQ.out], by go_num, HST, ⟨by have := HKJ.out; omega⟩, HPP, ⟨HBS.out _⟩⟩
        · obtain rfl : j = l1.length := by have := HJ.out.1; omega
          have hxz := HJ.out.done HI.out hlt
          obtain ⟨hz, hzf⟩ := Kd.R_celln 0 HO.out ((i + l1.length : Nat) : Int) (by omega) (by omega)
          rw [Int.toNat_natCast] at hz hzf
          have HPP : Aside0 (Kd.R (Kd.int .u32) 74 (wr.setCell ⟨g, i + l1.length, none⟩ (.int .u32 (c % 4294967296))) w.heap.size (fun _ => True) (.slice (some ⟨g, 0, none⟩) (l0.length + l1.length) co) (o2.set (i + l1.length) (c % 4294967296))) :=
            ⟨by have h := (Kd.R_putg HO.out ((i + l1.length : Nat) : Int) (c % 4294967296)).1; rw [Int.toNat_natCast] at h; exact h⟩
          have HBS := Aside0.mk (fun v => below_set (g := g) (j := i + l1.length) HB.out GB.out (v := v))
          have HXZ := Aside0.mk hxz
          clear hxz
          go_wp2_with fail
          go_roundg k1
          case measure => omega
          case rel => exact ⟨i + 1, _, by go_num, HXZ, ⟨by have := HK.out; omega⟩, HPP, ⟨HBS.out _⟩⟩
    · obtain rfl : i = l0.length := by have := HI.out.1; omega
      have hrr := Kd.R_reads' HO.out
      have HRR := Aside0.mk hrr
      have hl2 := HI.out.2.1
      have HL2 := Aside0.mk hl2
      have hv := HI.out.2.2.2.1
      rw [List.take_length] at hv
      have HV := Aside0.mk hv
      clear hrr hl2 hv
      go_wp2_with (go_at_call 101; (refine calls_of_args ?_ ((norm_calls Ao co o _ HRR.out.2.2 (by have := HRR.out; omega)).mono ?_)); (case refine_1 => rw [HL2.out]); rintro e w' ⟨rfl, rfl⟩)
      go_ret
      exact ⟨_, trim o, rfl, (FrN.of_R' HO.out HB.out).trimmed, trim_nrm HI.out.2.2.1, by rw [trim_val]; exact HV.out, HB.out⟩
end Go.Proofs.YtmnmmalffpimeaaDoor

/- What nat.Cmp computes: -1, 0, 1, as the numbers are. -/
namespace Go.Proofs.YtmnmmalffpimeaaDoor
open Go.RowKit Go.Proofs.YtmnmmalffpimeaaDoorW.PrintWords Go.Proofs.YtmnmmalffpimeaaDoorW.PrintLast Go.Proofs.YtmnmmalffpimeaaDoorW.PrintMore
set_option linter.unusedVariables false
set_option linter.unusedSimpArgs false

/-- -1, 0, 1 -/
def cmpI (x y : Int) : Int := if x < y then -1 else if x = y then 0 else 1
theorem cmpI_lt {x y : Int} (h : x < y) : cmpI x y = -1 := by simp [cmpI, h]
theorem cmpI_gt {x y : Int} (h : y < x) : cmpI x y = 1 := by
  unfold cmpI
  rw [if_neg (by omega), if_neg (by omega)]
theorem cmpI_eq {x y : Int} (h : x = y) : cmpI x y = 0 := by simp [cmpI, h]
theorem Nrm.ge : ∀ {l : List Int}, Nrm l → l ≠ [] → 4294967296 ^ (l.length - 1) ≤ val l
  | [], _, h => absurd rfl h
  | [x], h, _ => by
    have h1 := h.1.head
    have := h.2
    simp only [Tip, val, List.length_cons, List.length_nil] at this ⊢
    simp
    omega
  | x :: y :: ys, h, _ => by
    have ih := Nrm.ge h.tail (by simp)
    have h1 := h.1.head
    simp only [List.length_cons, Nat.add_sub_cancel] at ih ⊢
    rw [Int.pow_succ]
    simp only [val] at ih ⊢
    omega
theorem pow_mono_ {m n : Nat} (h : m ≤ n) : (4294967296 : Int) ^ m ≤ 4294967296 ^ n := by
  obtain ⟨k, rfl⟩ := Nat.le.dest h
  rw [Int.pow_add]
  have h1 : (1 : Int) ≤ 4294967296 ^ k := Int.pow_pos (by decide)
  have h2 : (0 : Int) < 4294967296 ^ m := Int.pow_pos (by decide)
  have := Int.mul_le_mul_of_nonneg_left h1 (Int.le_of_lt h2)
  simpa using this
theorem val_lt_of_length {a b : List Int} (ha : Nrm a) (hb : Nrm b) (h : a.length < b.length) : val a < val b := by
  have h1 := val_lt ha.1
  have h2 := hb.ge (by intro e; subst e; simp at h)
  have h3 := pow_mono_ (show a.length ≤ b.length - 1 by omega)
  omega
theorem val_split (l : List Int) (i : Nat) (h : i < l.length) : val l = val (l.take i) + 4294967296 ^ i * (rd l (i : Int) + 4294967296 * val (l.drop (i + 1))) := by
  have h1 := val_append (l.take (i + 1)) (l.drop (i + 1))
  rw [List.take_append_drop, List.length_take, Nat.min_eq_left (by omega), val_take_succ l i h, ← rd_nat, Int.pow_succ] at h1
  rw [h1]; grind
theorem val_lt_at {a b : List Int} (ha : Limbs a) (hb : Limbs b) (i : Nat) (h1 : i < a.length) (h2 : i < b.length) (he : a.drop (i + 1) = b.drop (i + 1)) (hlt : rd a (i : Int) < rd b (i : Int)) : val a < val b := by
  rw [val_split a i h1, val_split b i h2, he]
  have h3 := val_lt (ha.take i)
  have h4 := val_nonneg (hb.take i)
  rw [List.length_take, Nat.min_eq_left (by omega)] at h3
  have hp : (0 : Int) < 4294967296 ^ i := Int.pow_pos (by decide)
  generalize (4294967296 : Int) ^ i = p at *
  generalize val (b.drop (i + 1)) = D at *
  obtain ⟨d, hd⟩ : ∃ d : Int, rd b (i : Int) = rd a (i : Int) + 1 + d := ⟨rd b (i : Int) - rd a (i : Int) - 1, by omega⟩
  have hd0 : 0 ≤ d := by omega
  rw [hd]
  have hpd := Int.mul_nonneg (Int.le_of_lt hp) hd0
  have e : p * (rd a (i : Int) + 1 + d + 4294967296 * D) = p * (rd a (i : Int) + 4294967296 * D) + p + p * d := by grind
  rw [e]
  omega

set_option maxHeartbeats 4000000 in
set_option maxRecDepth 100000 in
theorem cmp_calls (A0 A1 : Option Addr) (c0 c1 : Nat) (l0 l1 : List Int) (w : World) (hr0 : Kd.C (Kd.int .u32) w A0 l0.length l0) (hc0 : l0.length ≤ c0) (hr1 : Kd.C (Kd.int .u32) w A1 l1.length l1) (hc1 : l1.length ≤ c1)
    (hL0 : Limbs l0) (hL1 : Limbs l1) :
    Calls Tryd.prog 45 #[.slice A0 l0.length c0, .slice A1 l1.length c1] w fun e w' => e = .returned (.int .i64 (cmpI (val l0) (val l1))) ∧ Drawn0 w w' := by
  have HR0 := Aside0.mk hr0
  have HR1 := Aside0.mk hr1
  have HC0 := Aside0.mk hc0
  have HC1 := Aside0.mk hc1
  have ht0 := Kd.C_take (m := (trim l0).length) hr0 (trim_length_le l0)
  have ht1 := Kd.C_take (m := (trim l1).length) hr1 (trim_length_le l1)
  rw [trim_take] at ht0 ht1
  have HN0 := Aside0.mk (trim_nrm hL0)
  have HN1 := Aside0.mk (trim_nrm hL1)
  rw [← trim_val l0, ← trim_val l1]
  have hk0 : (trim l0).length ≤ c0 := Nat.le_trans (trim_length_le l0) hc0
  have hk1 : (trim l1).length ≤ c1 := Nat.le_trans (trim_length_le l1) hc1
  obtain ⟨t0, e0⟩ : ∃ t, trim l0 = t := ⟨_, rfl⟩
  obtain ⟨t1, e1⟩ : ∃ t, trim l1 = t := ⟨_, rfl⟩
  rw [e0] at ht0 hk0 HN0 ⊢
  rw [e1] at ht1 hk1 HN1 ⊢
  have E0 := Aside0.mk e0
  have E1 := Aside0.mk e1
  have HT0 := Aside0.mk ht0
  have HT1 := Aside0.mk ht1
  have hm0 := Kd.C_max ht0
  clear hr0 hr1 hc0 hc1 e0 e1 ht0 ht1 hL0 hL1
  have harm0 : Calls Tryd.prog 101 #[.slice A0 l0.length c0] w fun e w' => e = .returned (.slice A0 t0.length c0) ∧ w = w' := by
    have h := norm_calls A0 c0 l0 w HR0.out HC0.out
    rw [E0.out] at h
    exact h
  have harm1 : Calls Tryd.prog 101 #[.slice A1 l1.length c1] w fun e w' => e = .returned (.slice A1 t1.length c1) ∧ w = w' := by
    have h := norm_calls A1 c1 l1 w HR1.out HC1.out
    rw [E1.out] at h
    exact h
  have HA0 := Aside0.mk harm0
  have HA1 := Aside0.mk harm1
  clear harm0 harm1
  rcases Nat.lt_trichotomy t0.length t1.length with hlt | heq | hgt
  · have hne : ((t0.length : Int) != (t1.length : Int)) = true := by rw [bne_iff_ne]; omega
    have hd : decide (t0.length < t1.length) = true := decide_eq_true hlt
    have HV := Aside0.mk (val_lt_of_length HN0.out HN1.out hlt)
    clear hlt
    go_enter Tryd.func45, Tryd.ntmps45
    go_wp2_with fail
    refine HA0.out.mono ?_
    rintro e w' ⟨rfl, rfl⟩
    go_wp2_with fail
    refine HA1.out.mono ?_
    rintro e w' ⟨rfl, rfl⟩
    go_wp2_with fail
    go_ret
    exact ⟨by rw [cmpI_lt HV.out]; rfl, Drawn0.refl _⟩
  · have hne : ((t0.length : Int) != (t1.length : Int)) = false := by rw [bne_eq_false_iff_eq]; omega
    have HQ := Aside0.mk heq
    have hle : t0.length ≤ t1.length := by omega
    clear heq
    go_enter Tryd.func45, Tryd.ntmps45
    go_wp2_with fail
    refine HA0.out.mono ?_
    rintro e w' ⟨rfl, rfl⟩
    go_wp2_with fail
    refine HA1.out.mono ?_
    rintro e w' ⟨rfl, rfl⟩
    go_wp2_with fail
    go_loopg [5] (t0.length) (fun kq v5 w' => v5 = .int .i64 ((kq : Int) - 1) ∧ kq ≤ t0.length ∧ Aside0 (t0.drop kq = t1.drop kq) ∧ Aside0 (Drawn0 w w'))
    case atStart => exact ⟨rfl, Nat.le_refl _, ⟨by rw [List.drop_length, HQ.out, List.drop_length]⟩, ⟨Drawn0.refl _⟩⟩
    case round =>
      obtain ⟨rfl, hk, HD, HW⟩ := hrel
      cases gk with
      | zero =>
        go_wp2_with fail
        go_ret
        refine ⟨?_, HW.out⟩
        have h0 : t0 = t1 := by simpa using HD.out
        rw [cmpI_eq (by rw [h0])]
        rfl
      | succ k =>
        rw [show ((k + 1 : Nat) : Int) - 1 = (k : Int) by omega]
        have hb := HW.out.below
        obtain ⟨ad0, e0, hx0⟩ := Kd.at_int (Kd.C_below HT0.out hb) (k : Int) (by omega) (by omega)
        obtain ⟨ad1, e1, hx1⟩ := Kd.at_int (Kd.C_below HT1.out hb) (k : Int) (by omega) (by omega)
        subst e0
        subst e1
        simp only [Int.toNat_natCast] at hx0 hx1
        have hk' : k < t0.length := by omega
        have hk1' : k < t1.length := by omega
        rcases Int.lt_trichotomy (rd t0 (k : Int)) (rd t1 (k : Int)) with hlt | heq | hgt
        · have hd : decide (rd t0 (k : Int) < rd t1 (k : Int)) = true := decide_eq_true hlt
          have HV := Aside0.mk (val_lt_at HN0.out.1 HN1.out.1 k hk' hk1' HD.out hlt)
          clear hlt hb
          go_wp2_with fail
          go_quiet (fail)
          go_wp2_with fail
          go_ret
          exact ⟨by rw [cmpI_lt HV.out]; rfl, by repeat (first | exact HW.out | apply Drawn0.step)⟩
        · have hd : decide (rd t0 (k : Int) < rd t1 (k : Int)) = false := decide_eq_false (by omega)
          have hd2 : decide (rd t1 (k : Int) < rd t0 (k : Int)) = false := decide_eq_false (by omega)
          have HE : Aside0 (t0.drop k = t1.drop k) := ⟨by
            rw [List.drop_eq_getElem_cons hk', List.drop_eq_getElem_cons hk1', HD.out]
            rw [rd_nat, rd_nat, List.getD_eq_getElem?_getD, List.getD_eq_getElem?_getD, List.getElem?_eq_getElem hk', List.getElem?_eq_getElem hk1'] at heq
            simp only [Option.getD_some] at heq
            rw [heq]⟩
          clear heq hb
          go_wp2_with fail
          go_quiet (fail)
          go_wp2_with fail
          go_quiet (fail)
          go_wp2_with fail
          go_roundg k
          case measure => omega
          case rel => exact ⟨rfl, by omega, HE, ⟨by repeat (first | exact HW.out | apply Drawn0.step)⟩⟩
        · have hd : decide (rd t0 (k : Int) < rd t1 (k : Int)) = false := decide_eq_false (by omega)
          have hd2 : decide (rd t1 (k : Int) < rd t0 (k : Int)) = true := decide_eq_true hgt
          have HV := Aside0.mk (val_lt_at HN1.out.1 HN0.out.1 k hk1' hk' HD.out.symm hgt)
          clear hgt hb
          go_wp2_with fail
          go_quiet (fail)
          go_wp2_with fail
          go_quiet (fail)
          go_wp2_with fail
          go_ret
          exact ⟨by rw [cmpI_gt HV.out]; rfl, by repeat (first | exact HW.out | apply Drawn0.step)⟩
  · have hne : ((t0.length : Int) != (t1.length : Int)) = true := by rw [bne_iff_ne]; omega
    have hd : decide (t0.length < t1.length) = false := decide_eq_false (by omega)
    have HV := Aside0.mk (val_lt_of_length HN1.out HN0.out hgt)
    clear hgt
    go_enter Tryd.func45, Tryd.ntmps45
    go_wp2_with fail
    refine HA0.out.mono ?_
    rintro e w' ⟨rfl, rfl⟩
    go_wp2_with fail
    refine HA1.out.mono ?_
    rintro e w' ⟨rfl, rfl⟩
    go_wp2_with fail
    go_ret
    exact ⟨by rw [cmpI_gt HV.out]; rfl, Drawn0.refl _⟩
end Go.Proofs.YtmnmmalffpimeaaDoor

/- What bits.Sub32 and nat.Sub compute: a difference and its borrow. -/
namespace Go.Proofs.YtmnmmalffpimeaaDoor
open Go.RowKit Go.Proofs.YtmnmmalffpimeaaDoorW.PrintWords Go.Proofs.YtmnmmalffpimeaaDoorW.PrintLast Go.Proofs.YtmnmmalffpimeaaDoorW.PrintMore
set_option linter.unusedVariables false
set_option linter.unusedSimpArgs false

theorem top_bit {n : Nat} (h : n < 4294967296) : n / 2147483648 = if n.testBit 31 then 1 else 0 := by
  rw [Nat.testBit_eq_decide_div_mod_eq]
  by_cases h1 : n / 2147483648 % 2 = 1
  · rw [if_pos (by simpa using h1)]; omega
  · rw [if_neg (by simpa using h1)]; omega
theorem test_top {n : Nat} (h : n < 4294967296) : n.testBit 31 = decide (2147483648 ≤ n) := by
  rw [Nat.testBit_eq_decide_div_mod_eq]
  rw [decide_eq_decide]
  show n / 2147483648 % 2 = 1 ↔ _
  omega
theorem borrow_nat (x y b d : Nat) (hx : x < 4294967296) (hy : y < 4294967296) (hb : b ≤ 1) (hd : d = (x + 8589934592 - y - b) % 4294967296) :
    (((4294967295 ^^^ x) &&& y) ||| ((4294967295 ^^^ (x ^^^ y)) &&& d)) / 2147483648 = if x < y + b then 1 else 0 := by
  have hd1 : d < 4294967296 := by omega
  have hm : (((4294967295 ^^^ x) &&& y) ||| ((4294967295 ^^^ (x ^^^ y)) &&& d)) < 4294967296 := by
    have h1 : ((4294967295 ^^^ x) &&& y) < 2 ^ 32 := Nat.and_lt_two_pow _ (by omega)
    have h2 : ((4294967295 ^^^ (x ^^^ y)) &&& d) < 2 ^ 32 := Nat.and_lt_two_pow _ (by omega)
    exact Nat.or_lt_two_pow h1 h2
  rw [top_bit hm]
  simp only [Nat.testBit_or, Nat.testBit_and, Nat.testBit_xor]
  rw [show (4294967295 : Nat).testBit 31 = true from by decide, test_top hx, test_top hy, test_top hd1]
  by_cases h1 : 2147483648 ≤ x <;> by_cases h2 : 2147483648 ≤ y <;> by_cases h3 : 2147483648 ≤ d <;> simp [h1, h2, h3] <;> omega
/-- the borrow -/
def bor (x y c : Int) : Int := if x < y + c then 1 else 0
theorem borrow_int (x y c : Int) (hx0 : 0 ≤ x) (hx : x < 4294967296) (hy0 : 0 ≤ y) (hy : y < 4294967296) (hc0 : 0 ≤ c) (hc : c ≤ 1) :
    bits .or .u32 (bits .and .u32 (bits .xor .u32 4294967295 x) y) (bits .and .u32 (bits .xor .u32 4294967295 (bits .xor .u32 x y)) ((x - y - c) % 4294967296)) / 2147483648 = bor x y c := by
  obtain ⟨X, rfl⟩ := Int.eq_ofNat_of_zero_le hx0
  obtain ⟨Y, rfl⟩ := Int.eq_ofNat_of_zero_le hy0
  obtain ⟨C, rfl⟩ := Int.eq_ofNat_of_zero_le hc0
  have hX : X < 4294967296 := by omega
  have hY : Y < 4294967296 := by omega
  have hC : C ≤ 1 := by omega
  have hD : ((X : Int) - Y - C) % 4294967296 = (((X + 8589934592 - Y - C) % 4294967296 : Nat) : Int) := by omega
  have lt32 : ∀ {a b : Nat}, a < 4294967296 → b < 4294967296 → a ^^^ b < 4294967296 := fun {a b} ha hb => Nat.xor_lt_two_pow (n := 32) ha hb
  have lta : ∀ {a b : Nat}, b < 4294967296 → a &&& b < 4294967296 := fun {a b} hb => Nat.and_lt_two_pow (n := 32) _ hb
  obtain ⟨d, hd⟩ : ∃ d, d = (X + 8589934592 - Y - C) % 4294967296 := ⟨_, rfl⟩
  rw [hD, ← hd]
  have hd1 : d < 4294967296 := by omega
  rw [show (4294967295 : Int) = ((4294967295 : Nat) : Int) from rfl, u32_xor_nat _ _ (by decide) hX, u32_xor_nat _ _ hX hY, u32_xor_nat _ _ (by decide) (lt32 hX hY), u32_and_nat _ _ (lt32 (by decide) hX) hY, u32_and_nat _ _ (lt32 (by decide) (lt32 hX hY)) hd1,
    u32_or_nat _ _ (lta hY) (lta hd1)]
  have h := borrow_nat X Y C d hX hY hC hd
  rw [show (2147483648 : Int) = ((2147483648 : Nat) : Int) from rfl, ← Int.natCast_ediv, h]
  unfold bor
  by_cases hlt : X < Y + C
  · rw [if_pos hlt, if_pos (by omega)]; rfl
  · rw [if_neg hlt, if_neg (by omega)]; rfl

set_option maxHeartbeats 2000000 in
set_option maxRecDepth 100000 in
theorem sub32_calls (x y c : Int) (w : World) (hx0 : 0 ≤ x) (hx : x < 4294967296) (hy0 : 0 ≤ y) (hy : y < 4294967296) (hc0 : 0 ≤ c) (hc : c ≤ 1) :
    Calls Tryd.prog 107 #[.int .u32 x, .int .u32 y, .int .u32 c] w fun e w' => e = .returned (.tuple #[.int .u32 ((x - y - c) % 4294967296), .int .u32 (bor x y c)]) ∧ w = w' := by
  have HM := Aside0.mk (borrow_int x y c hx0 hx hy0 hy hc0 hc)
  have HD : Aside0 (((x - y) % 4294967296 - c) % 4294967296 = (x - y - c) % 4294967296) := ⟨by omega⟩
  go_enter Tryd.func107, Tryd.ntmps107
  go_wp2_with fail
  go_ret2
  refine ⟨?_, rfl⟩
  rw [← HM.out, ← HD.out]
  rfl

/-- after i rounds: the digits so far, and the borrow -/
def SubInv (l0 l1 : List Int) (i : Nat) (c : Int) (s : List Int) : Prop :=
  i ≤ l0.length ∧ s.length = i ∧ Limbs s ∧ 0 ≤ c ∧ c ≤ 1 ∧ val s - 4294967296 ^ i * c = val (l0.take i) - val (l1.take i)
theorem SubInv.step {l0 l1 : List Int} {i : Nat} {c : Int} {s : List Int} (h : SubInv l0 l1 i c s) (hi : i < l0.length) (h0 : Limbs l0) (h1 : Limbs l1) :
    SubInv l0 l1 (i + 1) (bor (limb l0 i) (limb l1 i) c) (s ++ [(limb l0 i - limb l1 i - c) % 4294967296]) := by
  obtain ⟨a1, a2, a3, a4, a5, a6⟩ := h
  have b0 := h0.getD i
  have b1 := h1.getD i
  rw [← limb_eq] at b0 b1
  have hb : 0 ≤ bor (limb l0 i) (limb l1 i) c ∧ bor (limb l0 i) (limb l1 i) c ≤ 1 := by unfold bor; split <;> omega
  refine ⟨by omega, by simp [a2], a3.append (Limbs.cons ⟨by omega, by omega⟩ Limbs.nil), hb.1, hb.2, ?_⟩
  rw [val_snoc, a2, val_take_limb, val_take_limb, Int.pow_succ]
  have e : limb l0 i - limb l1 i - c = (limb l0 i - limb l1 i - c) % 4294967296 - 4294967296 * bor (limb l0 i) (limb l1 i) c := by unfold bor; split <;> omega
  generalize bor (limb l0 i) (limb l1 i) c = q at *
  generalize (limb l0 i - limb l1 i - c) % 4294967296 = m at *
  generalize (4294967296 : Int) ^ i = p at *
  grind
theorem SubInv.done {l0 l1 : List Int} {c : Int} {s : List Int} (h : SubInv l0 l1 l0.length c s) (hge : l1.length ≤ l0.length) (h0 : Limbs l0) (h1 : Limbs l1) (hv : val l1 ≤ val l0) : val s = val l0 - val l1 ∧ Limbs s := by
  obtain ⟨a1, a2, a3, a4, a5, a6⟩ := h
  rw [List.take_length, List.take_of_length_le hge] at a6
  have h2 := val_lt a3
  rw [a2] at h2
  have hc : c = 0 := by
    rcases (show c = 0 ∨ c = 1 by omega) with rfl | rfl
    · rfl
    · exfalso; omega
  subst hc
  exact ⟨by omega, a3⟩
theorem length_of_val {a b : List Int} (ha : Nrm a) (hb : Nrm b) (h : val b ≤ val a) : b.length ≤ a.length := by
  rcases Nat.lt_or_ge a.length b.length with h1 | h1
  · have := val_lt_of_length ha hb h1
    omega
  · exact h1
theorem set_zeros' (s : List Int) (n : Nat) (x : Int) (i : Nat) (hi : s.length = i) (hn : i < n) : (s ++ List.replicate (n - i) 0).set i x = (s ++ [x]) ++ List.replicate (n - (i + 1)) 0 := by
  rw [set_zeros s (n - i) x i hi (by omega), show n - i - 1 = n - (i + 1) by omega]

/-- what nat.Sub leaves -/
def SubRes (w : World) (x : Int) (e : Ending) (w' : World) : Prop := ∃ v l, e = .returned (.tuple #[v, .nilIface]) ∧ FrN w.heap.size w' v l ∧ Nrm l ∧ val l = x ∧ Below w.heap.size w w'
set_option maxHeartbeats 8000000 in
set_option maxRecDepth 100000 in
theorem sub_calls (A0 A1 : Option Addr) (c0 c1 : Nat) (l0 l1 : List Int) (w : World) (hr0 : Kd.C (Kd.int .u32) w A0 l0.length l0) (hc0 : l0.length ≤ c0) (hr1 : Kd.C (Kd.int .u32) w A1 l1.length l1) (hc1 : l1.length ≤ c1)
    (hL0 : Limbs l0) (hL1 : Limbs l1) (hm : l0.length ≤ 70368744177664) (hv : val l1 ≤ val l0) :
    Calls Tryd.prog 53 #[.slice A0 l0.length c0, .slice A1 l1.length c1] w (SubRes w (val l0 - val l1)) := by
  have HCMP := Aside0.mk (cmp_calls A0 A1 c0 c1 l0 l1 w hr0 hc0 hr1 hc1 hL0 hL1)
  obtain ⟨cv, hcv⟩ : ∃ cv, cmpI (val l0) (val l1) = cv := ⟨_, rfl⟩
  have hcd : decide (cv < 0) = false := decide_eq_false (by rw [← hcv]; unfold cmpI; split <;> (try split) <;> omega)
  rw [hcv] at HCMP
  have HR0 := Aside0.mk hr0
  have HR1 := Aside0.mk hr1
  have HC0 := Aside0.mk hc0
  have HC1 := Aside0.mk hc1
  have ht0 := Kd.C_take (m := (trim l0).length) hr0 (trim_length_le l0)
  have ht1 := Kd.C_take (m := (trim l1).length) hr1 (trim_length_le l1)
  rw [trim_take] at ht0 ht1
  have HN0 := Aside0.mk (trim_nrm hL0)
  have HN1 := Aside0.mk (trim_nrm hL1)
  rw [← trim_val l0, ← trim_val l1] at hv ⊢
  have hk0 : (trim l0).length ≤ c0 := Nat.le_trans (trim_length_le l0) hc0
  have hk1 : (trim l1).length ≤ c1 := Nat.le_trans (trim_length_le l1) hc1
  have hm' : (trim l0).length ≤ 70368744177664 := Nat.le_trans (trim_length_le l0) hm
  obtain ⟨t0, e0⟩ : ∃ t, trim l0 = t := ⟨_, rfl⟩
  obtain ⟨t1, e1⟩ : ∃ t, trim l1 = t := ⟨_, rfl⟩
  rw [e0] at ht0 hk0 HN0 hm' hv ⊢
  rw [e1] at ht1 hk1 HN1 hv ⊢
  have E0 := Aside0.mk e0
  have E1 := Aside0.mk e1
  have HT0 := Aside0.mk ht0
  have HT1 := Aside0.mk ht1
  have hm0 := Kd.C_max ht0
  have HM := Aside0.mk hm'
  have HGE := Aside0.mk (length_of_val HN0.out HN1.out hv)
  have HV := Aside0.mk hv
  clear hr0 hr1 hc0 hc1 e0 e1 ht0 ht1 hL0 hL1 hm hm' hv hcv
  have harm0 : ∀ w1, Kd.C (Kd.int .u32) w1 A0 l0.length l0 → Calls Tryd.prog 101 #[.slice A0 l0.length c0] w1 fun e w' => e = .returned (.slice A0 t0.length c0) ∧ w1 = w' := by
    intro w1 hr
    have h := norm_calls A0 c0 l0 w1 hr HC0.out
    rw [E0.out] at h
    exact h
  have harm1 : ∀ w1, Kd.C (Kd.int .u32) w1 A1 l1.length l1 → Calls Tryd.prog 101 #[.slice A1 l1.length c1] w1 fun e w' => e = .returned (.slice A1 t1.length c1) ∧ w1 = w' := by
    intro w1 hr
    have h := norm_calls A1 c1 l1 w1 hr HC1.out
    rw [E1.out] at h
    exact h
  have HA0 := Aside0.mk harm0
  have HA1 := Aside0.mk harm1
  have P0 : Aside0 (0 ≤ (t0.length : Int)) := ⟨by omega⟩
  clear harm0 harm1
  go_enter Tryd.func53, Tryd.ntmps53
  go_wp2_with fail
  refine HCMP.out.mono ?_
  rintro e w0 ⟨rfl, hw⟩
  have HB := Aside0.mk hw.below
  have HSZ := Aside0.mk hw.below.size
  clear hw
  go_wp2_with fail
  refine (HA0.out _ (Kd.C_below HR0.out HB.out)).mono ?_
  rintro e w' ⟨rfl, rfl⟩
  go_wp2_with fail
  refine (HA1.out _ (Kd.C_below HR1.out HB.out)).mono ?_
  rintro e w' ⟨rfl, rfl⟩
  go_wp2_with (first | ((with_reducible refine gate_dst (N := 22) rfl ?_); refine Kd.R_make (Kd.int .u32) _ 74 rfl (N := 22) rfl 44 _ _ rfl (t0.length : Int) rfl rfl Tryd.underlying44 (.int .u32 0) 4 info_u32 rfl (by decide) (by omega) 0 (ok := fun _ => True) (okp := fun _ => True) rfl (fun _ hk => hk) trivial P0.out (by have := HM.out; omega) HB.out HSZ.out ?_; intro vo w1 ho hb hg_ hnew_; clear hg_ hnew_ HB HSZ; have HB := Aside0.mk hb; have HO := Aside0.mk ho; clear hb ho))
  obtain ⟨Ao, co, eo⟩ := Kd.R_slice HO.out
  rw [List.length_replicate, Int.toNat_natCast] at eo
  rw [Int.toNat_natCast] at HO
  subst eo
  clear hcd hk0 hk1
  go_loopg [7, 25] (t0.length) (fun kq v7 v25 w' => ∃ (i : Nat) (c : Int) (s : List Int), v7 = .int .u32 c ∧ v25 = .int .i64 i ∧ Aside0 (SubInv t0 t1 i c s) ∧ Aside0 (kq + i = t0.length) ∧ Aside0 (Kd.R (Kd.int .u32) 74 w' w.heap.size (fun _ => True) (.slice Ao t0.length co) (s ++ List.replicate (t0.length - i) 0)) ∧ Aside0 (Below w.heap.size w w'))
  case atStart => exact ⟨0, 0, [], rfl, rfl, ⟨⟨Nat.zero_le _, rfl, Limbs.nil, by decide, by decide, by simp [val]⟩⟩, ⟨rfl⟩, ⟨by simpa using HO.out⟩, HB⟩
  case round =>
    clear HO HB
    obtain ⟨i, c, s, rfl, rfl, HA, HK, HO, HB⟩ := hrel
    by_cases hlt : i < t0.length
    · obtain ⟨k1, rfl⟩ : ∃ k1, gk = k1 + 1 := ⟨gk - 1, by have := HK.out; omega⟩
      obtain ⟨g, cq, eo, gb, gl, cl, HG⟩ := Kd.R_form HO.out (by simp [HA.out.2.1]; omega)
      injection eo with e1 e2 e3
      subst e1
      subst e3
      clear e2
      have GB := Aside0.mk gb
      clear gb gl cl HG
      obtain ⟨ad0, e0, hx0⟩ := Kd.at_int HT0.out (i : Int) (by omega) (by omega)
      cases e0
      replace hx0 := (HB.out.cell (World.block_lt_of_cell? w _ hx0)).trans hx0
      simp only [Int.toNat_natCast] at hx0
      have hib : i < 9223372036854775807 := by have := HM.out; omega
      have BX := Aside0.mk (HN0.out.1.getD i)
      have BY := Aside0.mk (HN1.out.1.getD i)
      have BC : Aside0 (0 ≤ c ∧ c ≤ 1) := ⟨⟨HA.out.2.2.2.1, HA.out.2.2.2.2.1⟩⟩
      have HS := Aside0.mk (HA.out.step hlt HN0.out.1 HN1.out.1)
      have hrep := set_zeros' s t0.length ((limb t0 i - limb t1 i - c) % 4294967296) i HA.out.2.1 (by omega)
      have HX : Aside0 (limb t0 i = rd t0 (i : Int)) := ⟨by rw [limb, if_pos hlt]⟩
      by_cases hl1 : i < t1.length
      · obtain ⟨ad1, e1, hx1⟩ := Kd.at_int HT1.out (i : Int) (by omega) (by omega)
        cases e1
        replace hx1 := (HB.out.cell (World.block_lt_of_cell? w _ hx1)).trans hx1
        simp only [Int.toNat_natCast] at hx1
        have hl1b : decide (i < t1.length) = true := decide_eq_true hl1
        have HY : Aside0 (limb t1 i = rd t1 (i : Int)) := ⟨by rw [limb, if_pos hl1]⟩
        have HE : Aside0 ((limb t0 i - limb t1 i - c) % 4294967296 = ((rd t0 (i : Int) - rd t1 (i : Int) - c) % 4294967296)) := ⟨by rw [HX.out, HY.out]⟩
        have HPP : Aside0 (Kd.R (Kd.int .u32) 74 (wr.setCell ⟨g, i, none⟩ (.int .u32 ((rd t0 (i : Int) - rd t1 (i : Int) - c) % 4294967296))) w.heap.size (fun _ => True) (.slice (some ⟨g, 0, none⟩) t0.length co) ((s ++ [(limb t0 i - limb t1 i - c) % 4294967296]) ++ List.replicate (t0.length - (i + 1)) 0)) :=
          ⟨by have h := (Kd.R_putg HO.out (i : Int) ((limb t0 i - limb t1 i - c) % 4294967296)).1; rw [Int.toNat_natCast, hrep] at h; rw [← HE.out]; exact h⟩
        obtain ⟨hc, hf⟩ := Kd.R_celln 0 HO.out (i : Int) (by omega) (by omega)
        rw [Int.toNat_natCast] at hc hf
        have HBS := Aside0.mk (fun v => below_set (g := g) (j := i) HB.out GB.out (v := v))
        clear hrep
        go_wp2_with (go_at_call 107; refine (sub32_calls _ _ _ _ (by have := BX.out; rw [rd_nat]; omega) (by have := BX.out; rw [rd_nat]; omega) (by have := BY.out; rw [rd_nat]; omega) (by have := BY.out; rw [rd_nat]; omega) BC.out.1 BC.out.2).mono ?_; rintro e w' ⟨rfl, rfl⟩)
        go_roundg k1
        case measure => omega
        case rel => exact ⟨i + 1, _, _, by rw [HX.out, HY.out], by go_num, HS, ⟨by have := HK.out; omega⟩, ⟨HPP.out⟩, ⟨HBS.out _⟩⟩
      · have hl1b : decide (i < t1.length) = false := decide_eq_false hl1
        have HY : Aside0 (limb t1 i = 0) := ⟨by rw [limb, if_neg hl1]⟩
        have HE : Aside0 ((limb t0 i - limb t1 i - c) % 4294967296 = ((rd t0 (i : Int) - 0 - c) % 4294967296)) := ⟨by rw [HX.out, HY.out]⟩
        have HPP : Aside0 (Kd.R (Kd.int .u32) 74 (wr.setCell ⟨g, i, none⟩ (.int .u32 ((rd t0 (i : Int) - 0 - c) % 4294967296))) w.heap.size (fun _ => True) (.slice (some ⟨g, 0, none⟩) t0.length co) ((s ++ [(limb t0 i - limb t1 i - c) % 4294967296]) ++ List.replicate (t0.length - (i + 1)) 0)) :=
          ⟨by have h := (Kd.R_putg HO.out (i : Int) ((limb t0 i - limb t1 i - c) % 4294967296)).1; rw [Int.toNat_natCast, hrep] at h; rw [← HE.out]; exact h⟩
        obtain ⟨hc, hf⟩ := Kd.R_celln 0 HO.out (i : Int) (by omega) (by omega)
        rw [Int.toNat_natCast] at hc hf
        have HBS := Aside0.mk (fun v => below_set (g := g) (j := i) HB.out GB.out (v := v))
        clear hrep
        go_wp2_with (go_at_call 107; refine (sub32_calls _ _ _ _ (by have := BX.out; rw [rd_nat]; omega) (by have := BX.out; rw [rd_nat]; omega) (by omega) (by omega) BC.out.1 BC.out.2).mono ?_; rintro e w' ⟨rfl, rfl⟩)
        go_roundg k1
        case measure => omega
        case rel => exact ⟨i + 1, _, _, by rw [HX.out, HY.out], by go_num, HS, ⟨by have := HK.out; omega⟩, ⟨by first | exact HPP.out | simpa using HPP.out⟩, ⟨HBS.out _⟩⟩
    · obtain rfl : i = t0.length := by have := HA.out.1; omega
      have hd2 := HA.out.done HGE.out HN0.out.1 HN1.out.1 HV.out
      have HLQ : Aside0 (s.length = t0.length) := ⟨HA.out.2.1⟩
      rw [Nat.sub_self, List.replicate_zero, List.append_nil] at HO
      have HRR := Aside0.mk (Kd.R_reads' HO.out)
      have HD2 := Aside0.mk hd2
      clear hd2
      go_wp2_with (go_at_call 101; (refine calls_of_args ?_ ((norm_calls Ao co s _ HRR.out.2.2 (by have := HRR.out; omega)).mono ?_)); (case refine_1 => rw [HLQ.out]); rintro e w' ⟨rfl, rfl⟩)
      go_ret2
      exact ⟨_, trim s, rfl, (FrN.of_R' HO.out HB.out).trimmed, trim_nrm HD2.out.2, by rw [trim_val]; exact HD2.out.1, HB.out⟩

set_option maxHeartbeats 2000000 in
set_option maxRecDepth 100000 in
theorem sub_less (S : Nat → Addr) (A0 A1 : Option Addr) (c0 c1 : Nat) (l0 l1 : List Int) (w : World) (hE : Env S w) (hr0 : Kd.C (Kd.int .u32) w A0 l0.length l0) (hc0 : l0.length ≤ c0) (hr1 : Kd.C (Kd.int .u32) w A1 l1.length l1) (hc1 : l1.length ≤ c1)
    (hL0 : Limbs l0) (hL1 : Limbs l1) (hv : val l0 < val l1) :
    Calls Tryd.prog 53 #[.slice A0 l0.length c0, .slice A1 l1.length c1] w fun e w' => ∃ v, e = .returned (.tuple #[.slice none 0 0, v]) ∧ ErrAt S w' 3 [(⟨#[110, 97, 116]⟩, 0)] v ∧ Below w.heap.size w w' := by
  have HCMP := Aside0.mk (cmp_calls A0 A1 c0 c1 l0 l1 w hr0 hc0 hr1 hc1 hL0 hL1)
  rw [cmpI_lt hv] at HCMP
  have HE := Aside0.mk hE
  clear hE hr0 hc0 hr1 hc1 hL0 hL1 hv
  go_enter Tryd.func53, Tryd.ntmps53
  go_wp2_with fail
  refine HCMP.out.mono ?_
  rintro e w0 ⟨rfl, hw⟩
  have HB := Aside0.mk hw.below
  clear hw
  go_wp2_with fail
  refine (fnew_calls S _ 0 3 (by unfold Num; omega) _ (HE.out.below HB.out)).mono ?_
  rintro e w1 ⟨v, rfl, hv, hb⟩
  have HV := Aside0.mk hv
  have HB1 := Aside0.mk (below_step HB.out hb)
  clear hv hb
  go_wp2_with fail
  go_ret2
  exact ⟨_, rfl, HV.out, HB1.out⟩
end Go.Proofs.YtmnmmalffpimeaaDoor

/- What nat.Bits and nat.Pow compute: the count of binary digits, and a power. -/
namespace Go.Proofs.YtmnmmalffpimeaaDoor
open Go.RowKit Go.Proofs.YtmnmmalffpimeaaDoorW.PrintWords Go.Proofs.YtmnmmalffpimeaaDoorW.PrintLast Go.Proofs.YtmnmmalffpimeaaDoorW.PrintMore
set_option linter.unusedVariables false
set_option linter.unusedSimpArgs false

/-- how many binary digits a normal list has -/
def nbits (l : List Int) : Int := if l = [] then 0 else 32 * ((l.length : Int) - 1) + (Lib.bitLen (l.getD (l.length - 1) 0).toNat : Int)
theorem pow32 (n : Nat) : (4294967296 : Int) ^ n = 2 ^ (32 * n) := by
  rw [Int.pow_mul]; rfl
theorem val_last {l : List Int} (h : l ≠ []) : val l = val (l.take (l.length - 1)) + 4294967296 ^ (l.length - 1) * l.getD (l.length - 1) 0 := by
  have hp : 0 < l.length := List.length_pos_iff.2 h
  have h1 := val_take_succ l (l.length - 1) (by omega)
  rw [show l.length - 1 + 1 = l.length by omega, List.take_length] at h1
  exact h1
theorem nbits_spec {l : List Int} (h : Nrm l) (h0 : l ≠ []) : ∃ b : Nat, nbits l = (b : Int) + 1 ∧ (2 : Int) ^ b ≤ val l ∧ val l < 2 ^ (b + 1) := by
  have hp : 0 < l.length := List.length_pos_iff.2 h0
  have hl := tip_last h.2 h0
  have hb := h.1.getD (l.length - 1)
  obtain ⟨x, hx⟩ : ∃ x : Nat, l.getD (l.length - 1) 0 = (x : Int) := ⟨(l.getD (l.length - 1) 0).toNat, by omega⟩
  rw [hx] at hl hb
  have hx0 : x ≠ 0 := by omega
  obtain ⟨b1, b2, b3⟩ := Lib.bitLenAux_bounds 64 x (by omega) hx0
  have hbl : Lib.bitLen x = Lib.bitLenAux 64 x := rfl
  obtain ⟨k, hk⟩ : ∃ k, Lib.bitLen x = k + 1 := ⟨Lib.bitLen x - 1, by omega⟩
  rw [← hbl, hk] at b2 b3
  rw [Nat.add_sub_cancel] at b2
  refine ⟨32 * (l.length - 1) + k, ?_, ?_, ?_⟩
  · unfold nbits
    rw [if_neg h0, hx, Int.toNat_natCast, hk]
    omega
  · rw [val_last h0, hx, pow32, Int.pow_add]
    have h2 := val_nonneg (h.1.take (l.length - 1))
    have h3 : ((2 : Int) ^ k) ≤ (x : Int) := by exact_mod_cast b2
    have h4 : (0 : Int) ≤ 2 ^ (32 * (l.length - 1)) := Int.le_of_lt (Int.pow_pos (by decide))
    have h5 := Int.mul_le_mul_of_nonneg_left h3 h4
    omega
  · rw [val_last h0, hx, pow32, show 32 * (l.length - 1) + k + 1 = 32 * (l.length - 1) + (k + 1) by omega, Int.pow_add]
    have h2 := val_lt (h.1.take (l.length - 1))
    rw [List.length_take, Nat.min_eq_left (by omega), pow32] at h2
    have h3 : (x : Int) + 1 ≤ (2 : Int) ^ (k + 1) := by exact_mod_cast b3
    have h4 : (0 : Int) ≤ 2 ^ (32 * (l.length - 1)) := Int.le_of_lt (Int.pow_pos (by decide))
    have h5 := Int.mul_le_mul_of_nonneg_left h3 h4
    rw [Int.mul_add] at h5
    omega
theorem two_pow_lt {a b : Nat} (h : (2 : Int) ^ a < 2 ^ b) : a < b := by
  rcases Nat.lt_or_ge a b with h1 | h1
  · exact h1
  · exfalso
    have : (2 : Nat) ^ b ≤ 2 ^ a := Nat.pow_le_pow_right (by decide) h1
    have h2 : ((2 : Int) ^ b) ≤ 2 ^ a := by exact_mod_cast this
    omega
theorem nbits_pow {l : List Int} (h : Nrm l) (m : Nat) (hv : val l = 2 ^ m) : nbits l = (m : Int) + 1 := by
  have h0 : l ≠ [] := by
    intro e
    subst e
    have : (0 : Int) < 2 ^ m := Int.pow_pos (by decide)
    simp only [val] at hv
    omega
  obtain ⟨b, h1, h2, h3⟩ := nbits_spec h h0
  rw [hv] at h2 h3
  have h4 := two_pow_lt h3
  have h5 : b < m + 1 := two_pow_lt (by rw [Int.pow_succ]; have : (0 : Int) < 2 ^ m := Int.pow_pos (by decide); omega)
  omega

set_option maxHeartbeats 2000000 in
set_option maxRecDepth 100000 in
theorem bits_calls (A : Option Addr) (c : Nat) (l : List Int) (w : World) (hr : Kd.C (Kd.int .u32) w A l.length l) (hc : l.length ≤ c) (hL : Limbs l) (hm : l.length ≤ 70368744177664) :
    Calls Tryd.prog 55 #[.slice A l.length c] w fun e w' => e = .returned (.int .i64 (nbits (trim l))) ∧ w = w' := by
  have ht := Kd.C_take (m := (trim l).length) hr (trim_length_le l)
  rw [trim_take] at ht
  have hm' : (trim l).length ≤ 70368744177664 := Nat.le_trans (trim_length_le l) hm
  have hcalls := norm_calls A c l w hr hc
  have hN := trim_nrm hL
  have hcc : (trim l).length ≤ c := Nat.le_trans (trim_length_le l) hc
  obtain ⟨t, e0⟩ : ∃ t, trim l = t := ⟨_, rfl⟩
  rw [e0] at ht hm' hcalls hN hcc ⊢
  have HC := Aside0.mk hcalls
  have HN := Aside0.mk hN
  clear hcalls hN hr hc hL hm e0
  by_cases h0 : t = []
  · subst h0
    clear ht hm'
    go_enter Tryd.func55, Tryd.ntmps55
    go_wp2_with fail
    refine HC.out.mono ?_
    rintro e w' ⟨rfl, rfl⟩
    go_wp2_with fail
    go_ret
    exact ⟨rfl, rfl⟩
  · have hp : 0 < t.length := List.length_pos_iff.2 h0
    obtain ⟨n, hn⟩ : ∃ n, t.length = n + 1 := ⟨t.length - 1, by omega⟩
    obtain ⟨ad, e, hx⟩ := Kd.at_int ht (n : Int) (by omega) (by omega)
    subst e
    rw [Int.toNat_natCast] at hx
    have hg : nbits t = 32 * (n : Int) + (Lib.bitLen (rd t (n : Int)).toNat : Int) := by
      unfold nbits
      rw [if_neg h0, hn, Nat.add_sub_cancel, rd_nat]
      omega
    have hb := HN.out.1.getD n
    rw [← rd_nat] at hb
    have HB := Aside0.mk hb
    have hble := Any.bitLen_le32 (rd t (n : Int)) hb.1 (by omega)
    have hLen : (t.length == 0) = false := by rw [beq_eq_false_iff_ne]; omega
    have HG := Aside0.mk hg
    rw [hn] at HC hcc hm' hLen
    obtain ⟨q, hq⟩ : ∃ q, Lib.bitLen (rd t (n : Int)).toNat = q := ⟨_, rfl⟩
    rw [hq] at hble HG
    have w1 : IntKind.i64.wrap ((n : Int) + 1 - 1) = (n : Int) := by rw [IntWalk.i64_in _ (by omega)]; omega
    have w2 : IntKind.i64.wrap (32 * (n : Int)) = 32 * (n : Int) := IntWalk.i64_in _ (by omega)
    have w3 : IntKind.i64.wrap (32 * (n : Int) + (q : Int)) = 32 * (n : Int) + (q : Int) := IntWalk.i64_in _ (by omega)
    have HQ := Aside0.mk hq
    clear hq hg hb ht h0 hp hn
    go_enter Tryd.func55, Tryd.ntmps55
    go_wp2_with fail
    refine HC.out.mono ?_
    rintro e w' ⟨rfl, rfl⟩
    go_wp2_with fail
    refine (Tryd.bits_Len32 _ _ HB.out.1 (by have := HB.out.2; omega)).mono ?_
    rintro e w' ⟨rfl, rfl⟩
    rw [HQ.out]
    go_wp2_with fail
    go_ret
    refine ⟨?_, rfl⟩
    first | rw [HG.out]; rfl | (rw [HG.out]; simp [w1, w2, w3])

/-- what nat.Pow leaves -/
def PowRes (w : World) (x : Int) (e : Ending) (w' : World) : Prop :=
  ∃ A c l, e = .returned (.tuple #[.slice A l.length c, .nilIface]) ∧ l.length ≤ c ∧ Kd.C (Kd.int .u32) w' A l.length l ∧ Nrm l ∧ val l = x ∧ l.length ≤ 1025 ∧ Below w.heap.size w w'
def PowInv (x : Int) (m : Nat) (o b : List Int) : Prop := Nrm o ∧ Limbs b ∧ val o * val b ^ m = x ∧ o.length + b.length * m ≤ 1025
theorem mul_len {a b s : List Int} (ha : Limbs a) (hb : Limbs b) (hs : Nrm s) (hv : val s = val a * val b) : s.length ≤ a.length + b.length := by
  refine nrm_length hs ?_
  have h3 := val_lt ha
  have h4 := val_lt hb
  have h5 := val_nonneg ha
  have h6 := val_nonneg hb
  rw [hv, Int.pow_add]
  have h7 : (0 : Int) < 4294967296 ^ b.length := Int.pow_pos (by decide)
  have h8 := Int.mul_le_mul_of_nonneg_left (Int.le_of_lt h4) h5
  have h9 := Int.mul_lt_mul_of_pos_right h3 h7
  omega
theorem PowInv.odd {x : Int} {m : Nat} {o b o' b' : List Int} (h : PowInv x m o b) (hm : m % 2 = 1) (ho : Nrm o') (hvo : val o' = val o * val b) (hb : Nrm b') (hvb : val b' = val b * val b) : PowInv x (m / 2) o' b' := by
  obtain ⟨h1, h2, h3, h4⟩ := h
  have l1 := mul_len h1.1 h2 ho hvo
  have l2 := mul_len h2 h2 hb hvb
  obtain ⟨q, rfl⟩ : ∃ q, m = 2 * q + 1 := ⟨m / 2, by omega⟩
  rw [show (2 * q + 1) / 2 = q by omega]
  refine ⟨ho, hb.1, ?_, ?_⟩
  · rw [hvo, hvb, ← h3, Int.pow_succ, Int.pow_mul, show (2 : Nat) = 1 + 1 from rfl, Int.pow_succ, Int.pow_succ, Int.pow_zero, Int.one_mul]
    rw [Int.mul_assoc, Int.mul_comm (val b)]
  · have : b'.length * q ≤ (b.length + b.length) * q := Nat.mul_le_mul_right _ l2
    rw [Nat.add_mul] at this
    have e : b.length * (2 * q + 1) = b.length * q + b.length * q + b.length := by rw [Nat.mul_add, Nat.mul_one, Nat.two_mul, Nat.mul_add]
    omega
theorem PowInv.even {x : Int} {m : Nat} {o b b' : List Int} (h : PowInv x m o b) (hm : m % 2 ≠ 1) (hb : Nrm b') (hvb : val b' = val b * val b) : PowInv x (m / 2) o b' := by
  obtain ⟨h1, h2, h3, h4⟩ := h
  have l2 := mul_len h2 h2 hb hvb
  obtain ⟨q, rfl⟩ : ∃ q, m = 2 * q := ⟨m / 2, by omega⟩
  rw [show (2 * q) / 2 = q by omega]
  refine ⟨h1, hb.1, ?_, ?_⟩
  · rw [hvb, ← h3, Int.pow_mul, show (2 : Nat) = 1 + 1 from rfl, Int.pow_succ, Int.pow_succ, Int.pow_zero, Int.one_mul]
  · have : b'.length * q ≤ (b.length + b.length) * q := Nat.mul_le_mul_right _ l2
    rw [Nat.add_mul] at this
    have e : b.length * (2 * q) = b.length * q + b.length * q := by rw [Nat.two_mul, Nat.mul_add]
    omega

set_option maxHeartbeats 8000000 in
set_option maxRecDepth 100000 in
theorem pow_calls (k : Int) (n : Nat) (w : World) (hk : 0 ≤ k ∧ k < 4294967296) (hn : n ≤ 1024) :
    Calls Tryd.prog 54 #[.int .u32 k, .int .i64 n] w (PowRes w (k ^ n)) := by
  have HK := Aside0.mk hk
  have hd1 : decide ((n : Int) < 0) = false := decide_eq_false (by omega)
  have hd2 : decide (1024 < (n : Int)) = false := decide_eq_false (by omega)
  clear hk
  go_enter Tryd.func54, Tryd.ntmps54
  go_wp2_with fail
  have hb0 := below_alloc (below_alloc (Below.refl w.heap.size w) (.cells #[.int .u32 1] 74)) (.cells #[.int .u32 k] 74)
  have hO := Kd.C_alloc (C_lit w [1] (by simp)) (.cells #[.int .u32 k] 74)
  have hB := C_litg (w.alloc (.cells #[.int .u32 1] 74)) (w.heap.size + 1) [k] (by simp) (by simp)
  obtain ⟨w2, hw2⟩ : ∃ w2, (w.alloc (.cells #[.int .u32 1] 74)).alloc (.cells #[.int .u32 k] 74) = w2 := ⟨_, rfl⟩
  change Kd.C (Kd.int .u32) ((w.alloc (.cells #[.int .u32 1] 74)).alloc (.cells #[.int .u32 k] 74)) _ _ _ at hO
  change Kd.C (Kd.int .u32) ((w.alloc (.cells #[.int .u32 1] 74)).alloc (.cells #[.int .u32 k] 74)) _ _ _ at hB
  rw [hw2] at hb0 hO hB ⊢
  have HB0 := Aside0.mk hb0
  have HO := Aside0.mk hO
  have HBB := Aside0.mk hB
  have HNN := Aside0.mk hn
  clear hb0 hO hB hw2 hd1 hd2 hn
  go_loopg [1, 6, 7] n (fun kq v1 v6 v7 w' => ∃ (m : Nat) (o b : List Int) (A6 A7 : Option Addr) (c6 c7 : Nat), v1 = .int .i64 m ∧ v6 = .slice A6 o.length c6 ∧ v7 = .slice A7 b.length c7 ∧ m ≤ kq ∧ m ≤ 1024 ∧ Aside0 (PowInv (k ^ n) m o b) ∧
    Aside0 (o.length ≤ c6 ∧ Kd.C (Kd.int .u32) w' A6 o.length o) ∧ Aside0 (b.length ≤ c7 ∧ Kd.C (Kd.int .u32) w' A7 b.length b) ∧ Aside0 (Below w.heap.size w w'))
  case atStart =>
    exact ⟨n, [1], [k], _, _, 1, 1, rfl, rfl, rfl, Nat.le_refl _, HNN.out, ⟨⟨Limbs.cons ⟨by decide, by decide⟩ Limbs.nil, by simp [Tip]⟩, Limbs.cons HK.out Limbs.nil, by simp [val], by simp; have := HNN.out; omega⟩, ⟨by simp, HO.out⟩, ⟨by simp, HBB.out⟩, HB0⟩
  case round =>
    clear HO HBB HB0
    obtain ⟨m, o, b, A6, A7, c6, c7, rfl, rfl, rfl, hmk, hm1, HI, HO, HBB, HB⟩ := hrel
    by_cases hz : m = 0
    · subst hz
      go_wp2_with fail
      go_ret2
      exact ⟨_, _, o, rfl, HO.out.1, HO.out.2, HI.out.1, by have := HI.out.2.2.1; simpa using this, by have := HI.out.2.2.2; omega, HB.out⟩
    · obtain ⟨k1, rfl⟩ : ∃ k1, gk = k1 + 1 := ⟨gk - 1, by omega⟩
      have hmp : decide (0 < m) = true := decide_eq_true (by omega)
      have hq : IntKind.i64.wrap ((m : Int).tdiv 2) = ((m / 2 : Nat) : Int) := by rw [Int.tdiv_eq_ediv_of_nonneg (by omega), IntWalk.i64_in _ (by omega)]; omega
      by_cases hodd : m % 2 = 1
      · have hr : (m : Int).tmod 2 = 1 := by rw [Int.tmod_eq_emod_of_nonneg (by omega)]; omega
        have HOD := Aside0.mk hodd
        have HZ : Aside0 (m / 2 ≤ k1 ∧ m / 2 ≤ 1024) := ⟨by omega⟩
        have HLB : Aside0 (o.length + b.length ≤ 1025 ∧ b.length + b.length ≤ 2050) := ⟨by
          have h := HI.out.2.2.2
          have h2 : b.length * 1 ≤ b.length * m := Nat.mul_le_mul_left _ (by omega)
          omega⟩
        clear hodd hz hmk
        go_wp2_with fail
        refine (mul_calls A6 A7 c6 c7 o b _ HO.out.2 HO.out.1 HBB.out.2 HBB.out.1 HI.out.1.1 HI.out.2.1 (by have := HLB.out; omega)).mono ?_
        rintro e w3 ⟨v, o', rfl, hf, hno, hvo, hb⟩
        obtain ⟨Ao, co, rfl⟩ := Kd.V_slice hf
        have HF := Aside0.mk hf
        have HNO := Aside0.mk hno
        have HVO := Aside0.mk hvo
        have HB3 := Aside0.mk hb
        clear hf hno hvo hb
        go_wp2_with fail
        have hr7 := Kd.C_below HBB.out.2 HB3.out
        refine (mul_calls A7 A7 c7 c7 b b _ hr7 HBB.out.1 hr7 HBB.out.1 HI.out.2.1 HI.out.2.1 (by have := HLB.out; omega)).mono ?_
        rintro e w4 ⟨v, b', rfl, hf, hnb, hvb, hb⟩
        obtain ⟨Ab, cb, rfl⟩ := Kd.V_slice hf
        have HR6 := Aside0.mk (And.intro (Kd.V_reads' HF.out).2.1 (Kd.C_below (Kd.V_reads' HF.out).2.2 hb))
        have HR7 := Aside0.mk (And.intro (Kd.V_reads' hf).2.1 (Kd.V_reads' hf).2.2)
        have HB4 := Aside0.mk (below_step (below_step HB.out HB3.out) hb)
        have HP := Aside0.mk (HI.out.odd HOD.out HNO.out HVO.out hnb hvb)
        clear hf hnb hvb hb hr7
        go_wp2_with fail
        go_roundg k1
        case measure => omega
        case rel => exact ⟨m / 2, o', b', _, _, _, _, congrArg _ (by omega), rfl, rfl, HZ.out.1, HZ.out.2, HP, HR6, HR7, HB4⟩
      · have hr : (m : Int).tmod 2 = 0 := by rw [Int.tmod_eq_emod_of_nonneg (by omega)]; omega
        have HOD := Aside0.mk hodd
        have HZ : Aside0 (m / 2 ≤ k1 ∧ m / 2 ≤ 1024) := ⟨by omega⟩
        have HLB : Aside0 (o.length + b.length ≤ 1025 ∧ b.length + b.length ≤ 2050) := ⟨by
          have h := HI.out.2.2.2
          have h2 : b.length * 1 ≤ b.length * m := Nat.mul_le_mul_left _ (by omega)
          omega⟩
        clear hodd hz hmk
        go_wp2_with fail
        refine (mul_calls A7 A7 c7 c7 b b _ HBB.out.2 HBB.out.1 HBB.out.2 HBB.out.1 HI.out.2.1 HI.out.2.1 (by have := HLB.out; omega)).mono ?_
        rintro e w4 ⟨v, b', rfl, hf, hnb, hvb, hb⟩
        obtain ⟨Ab, cb, rfl⟩ := Kd.V_slice hf
        have HR6 := Aside0.mk (And.intro HO.out.1 (Kd.C_below HO.out.2 hb))
        have HR7 := Aside0.mk (And.intro (Kd.V_reads' hf).2.1 (Kd.V_reads' hf).2.2)
        have HB4 := Aside0.mk (below_step HB.out hb)
        have HP := Aside0.mk (HI.out.even HOD.out hnb hvb)
        clear hf hnb hvb hb
        go_wp2_with fail
        go_roundg k1
        case measure => omega
        case rel => exact ⟨m / 2, o, b', _, _, _, _, congrArg _ (by omega), rfl, rfl, HZ.out.1, HZ.out.2, HP, HR6, HR7, HB4⟩

set_option maxHeartbeats 2000000 in
set_option maxRecDepth 100000 in
theorem pow_neg (S : Nat → Addr) (k n : Int) (w : World) (hE : Env S w) (hn : n < 0) :
    Calls Tryd.prog 54 #[.int .u32 k, .int .i64 n] w fun e w' => ∃ v, e = .returned (.tuple #[.slice none 0 0, v]) ∧ ErrAt S w' 3 [(⟨#[110, 97, 116]⟩, 0)] v ∧ Below w.heap.size w w' := by
  have HE := Aside0.mk hE
  have hd1 : decide (n < 0) = true := decide_eq_true hn
  clear hE hn
  go_enter Tryd.func54, Tryd.ntmps54
  go_wp2_with fail
  refine (fnew_calls S _ 0 3 (by unfold Num; omega) _ HE.out).mono ?_
  rintro e w1 ⟨v, rfl, hv, hb⟩
  have HV := Aside0.mk hv
  have HB := Aside0.mk hb
  clear hv hb
  go_wp2_with fail
  go_ret2
  exact ⟨_, rfl, HV.out, HB.out⟩
set_option maxHeartbeats 2000000 in
set_option maxRecDepth 100000 in
theorem pow_big (S : Nat → Addr) (k n : Int) (w : World) (hE : Env S w) (hn : 1024 < n) :
    Calls Tryd.prog 54 #[.int .u32 k, .int .i64 n] w fun e w' => ∃ v, e = .returned (.tuple #[.slice none 0 0, v]) ∧ ErrAt S w' 4 [(⟨#[110, 97, 116]⟩, 0)] v ∧ Below w.heap.size w w' := by
  have HE := Aside0.mk hE
  have hd1 : decide (n < 0) = false := decide_eq_false (by omega)
  have hd2 : decide (1024 < n) = true := decide_eq_true hn
  clear hE hn
  go_enter Tryd.func54, Tryd.ntmps54
  go_wp2_with fail
  refine (fnew_calls S _ 0 4 (by unfold Num; omega) _ HE.out).mono ?_
  rintro e w1 ⟨v, rfl, hv, hb⟩
  have HV := Aside0.mk hv
  have HB := Aside0.mk hb
  clear hv hb
  go_wp2_with fail
  go_ret2
  exact ⟨_, rfl, HV.out, HB.out⟩
end Go.Proofs.YtmnmmalffpimeaaDoor

/- mat.through: numbers through a matrix. -/
namespace Go.Proofs.YtmnmmalffpimeaaDoor
open Go.RowKit Go.Proofs.YtmnmmalffpimeaaDoorW.PrintWords Go.Proofs.YtmnmmalffpimeaaDoorW.PrintLast Go.Proofs.YtmnmmalffpimeaaDoorW.PrintMore
set_option linter.unusedVariables false
set_option linter.unusedSimpArgs false

theorem Nrm.limbs {l : List Int} (h : Nrm l) : Limbs l := h.1
theorem nbits_zero {l : List Int} (h : val l = 0) (hL : Limbs l) : nbits (trim l) = 0 := by
  have : trim l = [] := Nrm.zero (trim_nrm hL) (by rw [trim_val]; exact h)
  rw [this]; rfl
theorem nbits_pos {l : List Int} (h : val l ≠ 0) (hL : Limbs l) : 0 < nbits (trim l) := by
  have h0 : trim l ≠ [] := by
    intro e
    have := trim_val l
    rw [e] at this
    exact h this.symm
  obtain ⟨b, h1, _⟩ := nbits_spec (trim_nrm hL) h0
  omega
/-- the numbers so far: of row i those below j are in -/
def TInv (n L : Nat) (v : List (List Int)) (f : Nat → Nat → Int) (i j : Nat) (os : List (List Int)) : Prop :=
  os.length = n ∧ ∀ t (ht : t < os.length), Nrm os[t] ∧ val os[t] = sumTo (if t < j then i + 1 else i) (fun s => val (v.getD s []) * f s t) ∧ os[t].length ≤ L
theorem TInv.start (n L : Nat) (v : List (List Int)) (f : Nat → Nat → Int) : TInv n L v f 0 0 (List.replicate n []) :=
  ⟨List.length_replicate, fun t ht => by rw [List.getElem_replicate]; exact ⟨⟨Limbs.nil, trivial⟩, by simp [val, sumTo], by simp⟩⟩
theorem TInv.next {n L : Nat} {v os : List (List Int)} {f : Nat → Nat → Int} {i : Nat} (h : TInv n L v f i n os) : TInv n L v f (i + 1) 0 os :=
  ⟨h.1, fun t ht => ⟨(h.2 t ht).1, by rw [(h.2 t ht).2.1, if_pos (by have := h.1; omega), if_neg (by omega)], (h.2 t ht).2.2⟩⟩
/-- nothing comes in -/
theorem TInv.skip {n L : Nat} {v os : List (List Int)} {f : Nat → Nat → Int} {i j : Nat} (h : TInv n L v f i j os) (h0 : val (v.getD i []) * f i j = 0) : TInv n L v f i (j + 1) os := by
  refine ⟨h.1, fun t ht => ⟨(h.2 t ht).1, ?_, (h.2 t ht).2.2⟩⟩
  rw [(h.2 t ht).2.1]
  by_cases e : t = j
  · subst e
    rw [if_neg (by omega), if_pos (by omega)]
    simp only [sumTo]
    omega
  · by_cases e2 : t < j
    · rw [if_pos e2, if_pos (by omega)]
    · rw [if_neg e2, if_neg (by omega)]
theorem TInv.skipAll {n L : Nat} {v os : List (List Int)} {f : Nat → Nat → Int} {i : Nat} (h : TInv n L v f i 0 os) (h0 : val (v.getD i []) = 0) : TInv n L v f (i + 1) 0 os := by
  refine ⟨h.1, fun t ht => ⟨(h.2 t ht).1, ?_, (h.2 t ht).2.2⟩⟩
  rw [(h.2 t ht).2.1, if_neg (by omega), if_neg (by omega)]
  simp only [sumTo, h0]
  omega
theorem term_lt {a : List Int} {y K1 K2 : Nat} {z : Int} (ha : Limbs a) (hl : a.length ≤ K1) (hz : 0 ≤ z) (hz2 : z < 4294967296 ^ K2) : 0 ≤ val a * z ∧ val a * z ≤ 4294967296 ^ (K1 + K2) := by
  have h1 := val_nonneg ha
  have h2 := val_lt ha
  have h3 := pow_mono_ hl
  rw [Int.pow_add]
  have h4 : (0 : Int) ≤ 4294967296 ^ K1 := Int.le_of_lt (Int.pow_pos (by decide))
  refine ⟨Int.mul_nonneg h1 hz, ?_⟩
  have h5 := Int.mul_le_mul_of_nonneg_right (show val a ≤ 4294967296 ^ K1 by omega) hz
  have h6 := Int.mul_le_mul_of_nonneg_left (Int.le_of_lt hz2) h4
  omega
theorem TInv.put {n K1 K2 : Nat} {v os : List (List Int)} {f : Nat → Nat → Int} {i j : Nat} {r : List Int} (h : TInv n (K1 + K2 + 1) v f i j os) (hj : j < os.length) (hr : Nrm r) (hv : val r = val os[j] + val (v.getD i []) * f i j) (hi : i < 4294967295)
    (hterm : ∀ s, s ≤ i → 0 ≤ val (v.getD s []) * f s j ∧ val (v.getD s []) * f s j ≤ 4294967296 ^ (K1 + K2)) : TInv n (K1 + K2 + 1) v f i (j + 1) (os.set j r) := by
  refine ⟨by rw [List.length_set]; exact h.1, fun t ht => ?_⟩
  rw [List.length_set] at ht
  by_cases e : t = j
  · subst e
    rw [List.getElem_set_self]
    have h1 := (h.2 t hj).2.1
    rw [if_neg (by omega)] at h1
    have h2 : val r = sumTo (i + 1) (fun s => val (v.getD s []) * f s t) := by rw [hv, h1]; rfl
    refine ⟨hr, by rw [if_pos (by omega)]; exact h2, nrm_length hr ?_⟩
    have h3 := sumTo_le (i + 1) (f := fun s => val (v.getD s []) * f s t) (c := 4294967296 ^ (K1 + K2)) (fun s hs => (hterm s (by omega)).2)
    have hp : (0 : Int) < 4294967296 ^ (K1 + K2) := Int.pow_pos (by decide)
    rw [h2, Int.pow_succ]
    have h4 : ((i + 1 : Nat) : Int) * 4294967296 ^ (K1 + K2) < 4294967296 * 4294967296 ^ (K1 + K2) := Int.mul_lt_mul_of_pos_right (by omega) hp
    rw [Int.mul_comm (4294967296 ^ (K1 + K2)) 4294967296]
    omega
  · rw [List.getElem_set_ne (by omega)]
    refine ⟨(h.2 t ht).1, ?_, (h.2 t ht).2.2⟩
    rw [(h.2 t ht).2.1]
    by_cases e2 : t < j
    · rw [if_pos e2, if_pos (by omega)]
    · rw [if_neg e2, if_neg (by omega)]

/-- what mat.through leaves -/
def ThrRes (n L : Nat) (v : List (List Int)) (f : Nat → Nat → Int) (w : World) (e : Ending) (w' : World) : Prop :=
  ∃ u xs, e = .returned u ∧ Kd.V KN tNat w' 0 (fun k => w.heap.size ≤ k) u xs ∧ xs.length = n ∧ (∀ j (hj : j < xs.length), Nrm xs[j] ∧ val xs[j] = sumTo n (fun s => val (v.getD s []) * f s j) ∧ xs[j].length ≤ L) ∧ Below w.heap.size w w'
set_option maxHeartbeats 8000000 in
set_option maxRecDepth 100000 in
theorem through_calls (Av Am : Option Addr) (cv cm : Nat) (v : List (List Int)) (m : List (List (List Int))) (n K1 K2 : Nat) (f : Nat → Nat → Int) (w : World) (hv : Kd.C KN w Av v.length v) (hm : Kd.C KM w Am m.length m) (hvn : v.length = n) (hM : InM n K2 f m)
    (hvL : ∀ i (hi : i < v.length), Limbs v[i] ∧ v[i].length ≤ K1) (hn : n ≤ 98) (hK1 : K1 ≤ 1000000000) (hK2 : K2 ≤ 1000000000) :
    Calls Tryd.prog 135 #[.slice Av v.length cv, .slice Am m.length cm] w (ThrRes n (K1 + K2 + 1) v f w) := by
  have HV := Aside0.mk hv
  have HMC := Aside0.mk hm
  have HM := Aside0.mk hM
  have HVL := Aside0.mk hvL
  have HKK := Aside0.mk (And.intro hK1 hK2)
  have hmn := hM.1
  have HNN := Aside0.mk hn
  have P0 : Aside0 (0 ≤ (n : Int)) := ⟨by omega⟩
  have HB := Aside0.mk (Below.refl w.heap.size w)
  have hn9 : n ≤ 9223372036854775807 := by omega
  rw [hvn, hmn]
  have HL2 := Aside0.mk (And.intro hvn hmn)
  have HT : Aside0 (∀ s t, s < n → t < n → 0 ≤ val (v.getD s []) * f s t ∧ val (v.getD s []) * f s t ≤ 4294967296 ^ (K1 + K2)) := ⟨fun s t hs ht => by
    have hs' : s < v.length := by omega
    have e1 : v.getD s [] = v[s] := by rw [List.getD_eq_getElem?_getD, List.getElem?_eq_getElem hs']; rfl
    have hs2 : s < m.length := by omega
    have hb := hM.2 s hs2
    have ht2 : t < m[s].length := by omega
    have hc := hb.2 t ht2
    rw [e1, ← hc.2.1]
    have h1 := val_lt hc.1
    have h2 := pow_mono_ hc.2.2
    exact term_lt (y := 0) (hvL s hs').1 (hvL s hs').2 (val_nonneg hc.1) (by omega)⟩
  clear hv hm hM hvL hn hK1 hK2 hvn hmn
  go_enter Tryd.func135, Tryd.ntmps135
  go_wp2_with ((with_reducible refine gate_dst (N := 12) rfl ?_); refine print_hold ?_)
  unfold Hold
  refine Kd.N_make KN _ tNat rfl (N' := 12) rfl tNats _ _ rfl (n : Int) rfl rfl Tryd.underlying86 (.slice none 0 0) 24 info_nat rfl (by decide) (by omega) [] (ok := fun k => w.heap.size ≤ k) (okp := fun _ => False) (FK_nil _ _ _ _) (fun _ hk => hk.elim) (Nat.le_refl _) P0.out (by have := HNN.out; omega) HB.out (Nat.le_refl _) ?_
  intro vo w1 ho hb hg_ hnew_
  clear hg_ hnew_ HB
  rw [Int.toNat_natCast] at ho
  obtain ⟨A, c, eo⟩ := Kd.N_slice ho
  rw [List.length_replicate] at eo
  subst eo
  have HO := Aside0.mk ho
  have HB := Aside0.mk hb
  clear hb ho
  go_wp2_with fail
  go_loopg [15] n (fun kq v15 w' => ∃ (i : Nat) (os : List (List Int)), v15 = .int .i64 i ∧ Aside0 (kq + i = n) ∧ Aside0 (TInv n (K1 + K2 + 1) v f i 0 os) ∧ Aside0 (Kd.N KN tNat w' w.heap.size (fun k => w.heap.size ≤ k) (.slice A n c) os) ∧ Aside0 (Below w.heap.size w w'))
  case atStart => exact ⟨0, _, rfl, ⟨by omega⟩, ⟨TInv.start _ _ _ _⟩, HO, HB⟩
  case round =>
    clear HO HB
    obtain ⟨i, os, rfl, HK, HI, HO, HB⟩ := hrel
    by_cases hlt : i < n
    · obtain ⟨k1, rfl⟩ : ∃ k1, gk = k1 + 1 := ⟨gk - 1, by have := HK.out; omega⟩
      have hiv : i < v.length := by have := HL2.out; omega
      have him : i < m.length := by have := HL2.out; omega
      obtain ⟨adv, Ax, cx, ev, hxc0, hxl, hxC⟩ := atRow HV.out i hiv
      obtain ⟨adm, Ar, cr, em, hrc0, hrl, hrC⟩ := atRow HMC.out i him
      subst ev
      subst em
      have hxc := (HB.out.cell (World.block_lt_of_cell? w _ hxc0)).trans hxc0
      have hrc := (HB.out.cell (World.block_lt_of_cell? w _ hrc0)).trans hrc0
      clear hxc0 hrc0
      have hvx := HVL.out i hiv
      have hev : v.getD i [] = v[i] := by rw [List.getD_eq_getElem?_getD, List.getElem?_eq_getElem hiv]; rfl
      obtain ⟨x, hx⟩ : ∃ x, v[i] = x := ⟨_, rfl⟩
      rw [hx] at hxc hxl hxC hvx hev
      have hrow := HM.out.2 i him
      obtain ⟨row, hrow0⟩ : ∃ row, m[i] = row := ⟨_, rfl⟩
      rw [hrow0] at hrc hrl hrC
      have hrown : row.length = n := by rw [← hrow0]; exact hrow.1
      have hrowE : ∀ j (hj : j < row.length), Limbs row[j] ∧ val row[j] = f i j ∧ row[j].length ≤ K2 := by
        subst hrow0; exact hrow.2
      have HROW := Aside0.mk hrowE
      have HRC := Aside0.mk hrC
      have HXW := Aside0.mk (And.intro hxl hxC)
      have HXL := Aside0.mk hvx
      have HEV := Aside0.mk hev
      rw [hrown] at hrc
      have HRN := Aside0.mk hrown
      have hbits := bits_calls Ax cx x wr (Kd.C_below hxC HB.out) hxl hvx.1 (by have := HKK.out; omega)
      have HBIT := Aside0.mk hbits
      clear hxl hxC hrl hrC hvx hev hx hrow hrow0 hrowE hrown hbits
      by_cases hz : val x = 0
      · have hnb := nbits_zero hz HXL.out.1
        rw [hnb] at HBIT
        have HSK := Aside0.mk (HI.out.skipAll (by rw [HEV.out]; exact hz))
        clear hz hnb
        go_wp2_with fail
        refine HBIT.out.mono ?_
        rintro e w' ⟨rfl, rfl⟩
        go_wp2_with fail
        go_roundg k1
        case measure => omega
        case rel => exact ⟨i + 1, os, by go_num, ⟨by have := HK.out; omega⟩, HSK, HO, HB⟩
      · have hnb := nbits_pos hz HXL.out.1
        obtain ⟨nb, hnbe⟩ : ∃ nb, nbits (trim x) = nb := ⟨_, rfl⟩
        rw [hnbe] at HBIT hnb
        have hnb0 : (nb == 0) = false := by rw [beq_eq_false_iff_ne]; omega
        clear hz hnb hnbe
        go_wp2_with fail
        refine HBIT.out.mono ?_
        rintro e w' ⟨rfl, rfl⟩
        go_wp2_with fail
        go_loopg [28] n (fun kq v28 w' => ∃ (j : Nat) (os : List (List Int)), v28 = .int .i64 j ∧ Aside0 (kq + j = n) ∧ Aside0 (TInv n (K1 + K2 + 1) v f i j os) ∧ Aside0 (Kd.N KN tNat w' w.heap.size (fun k => w.heap.size ≤ k) (.slice A n c) os) ∧ Aside0 (Below w.heap.size w w'))
        case atStart => exact ⟨0, os, rfl, ⟨by omega⟩, HI, HO, HB⟩
        case round =>
          clear HO HB HI hxc hrc
          obtain ⟨j, os, rfl, HKJ, HI, HO, HB⟩ := hrel
          by_cases hjn : j < n
          · obtain ⟨k2, rfl⟩ : ∃ k2, gk = k2 + 1 := ⟨gk - 1, by have := HKJ.out; omega⟩
            have hjr : j < row.length := by have := HRN.out; omega
            obtain ⟨adr, Ay, cy, er, hyc0, hyl, hyC⟩ := atRow HRC.out j hjr
            subst er
            have hyc := (HB.out.cell (World.block_lt_of_cell? w _ hyc0)).trans hyc0
            have hyE := HROW.out j hjr
            obtain ⟨y, hy⟩ : ∃ y, row[j] = y := ⟨_, rfl⟩
            rw [hy] at hyc hyl hyC hyE
            have HYW := Aside0.mk (And.intro hyl hyC)
            have HYL : Aside0 (Limbs y ∧ y.length ≤ K2) := ⟨hyE.1, hyE.2.2⟩
            have HYV := Aside0.mk hyE.2.1
            have hbity := bits_calls Ay cy y wr (Kd.C_below hyC HB.out) hyl hyE.1 (by have := HKK.out; omega)
            have HBITY := Aside0.mk hbity
            have hjn9 : j < 9223372036854775807 := by omega
            clear hyc0 hyl hyC hyE hy hbity
            by_cases hz : val y = 0
            · have hnby := nbits_zero hz HYL.out.1
              rw [hnby] at HBITY
              have HSK := Aside0.mk (HI.out.skip (by rw [← HYV.out, hz, Int.mul_zero]))
              clear hz hnby
              go_wp2_with fail
              refine HBITY.out.mono ?_
              rintro e w' ⟨rfl, rfl⟩
              go_wp2_with fail
              go_roundg k2
              case measure => omega
              case rel => exact ⟨j + 1, os, by go_num, ⟨by have := HKJ.out; omega⟩, HSK, HO, HB⟩
            · have hnby := nbits_pos hz HYL.out.1
              obtain ⟨nby, hnbye⟩ : ∃ nby, nbits (trim y) = nby := ⟨_, rfl⟩
              rw [hnbye] at HBITY hnby
              have hnbyd : decide (0 < nby) = true := decide_eq_true hnby
              clear hz hnby hnbye
              go_wp2_with fail
              refine HBITY.out.mono ?_
              rintro e w' ⟨rfl, rfl⟩
              go_wp2_with fail
              obtain ⟨g, cg, eo, gb, gl, _⟩ := Kd.N_form HO.out (by have := HI.out.1; omega)
              injection eo with e1 e2 e3
              subst e1
              have HGB := Aside0.mk (And.intro gb gl)
              obtain ⟨wq, hwq⟩ : ∃ wq, wr.drew = wq := ⟨_, rfl⟩
              have hBq : Below wr.heap.size wr wq := by rw [← hwq]; exact below_drew (Below.refl _ _)
              have HNq := Aside0.mk (Kd.N_below HO.out hBq)
              have HBq := Aside0.mk (below_step HB.out hBq)
              have HSQ := Aside0.mk hBq.size
              have HXC := Aside0.mk (And.intro HXW.out.1 (Kd.C_below HXW.out.2 HBq.out))
              have HYC := Aside0.mk (And.intro HYW.out.1 (Kd.C_below HYW.out.2 HBq.out))
              obtain ⟨Ao, co, hoc, hoz, hol, hoF⟩ := N_cell1 HNq.out j hjn
              have hjo : j < os.length := by have := HI.out.1; omega
              have heo : os.getD j [] = os[j] := by rw [List.getD_eq_getElem?_getD, List.getElem?_eq_getElem hjo]; rfl
              have hoI := HI.out.2 j hjo
              have HJO := Aside0.mk hjo
              obtain ⟨o, ho⟩ : ∃ o, os[j] = o := ⟨_, rfl⟩
              rw [heo, ho] at hoc hol hoF
              rw [ho] at hoI
              have HOF := Aside0.mk (And.intro hol hoF)
              have HOL : Aside0 (Limbs o ∧ o.length ≤ K1 + K2 + 1) := ⟨hoI.1.1, hoI.2.2⟩
              have HOE : Aside0 (∀ h : j < os.length, val os[j] = val o) := ⟨fun _ => by rw [ho]⟩
              have HCL := Aside0.mk hoc
              clear e2 e3 gb gl hBq hoz hol hoF heo hoI hjo ho
              refine start_ (n := 12) (S := fun w' => w'.cell? ⟨g, j, none⟩ = some (.slice Ao o.length co)) (ds := [11]) #[false, false, false, false, false, false, false, false, false, false, false, false] (by kernel_rfl) rfl rfl (by rw [hwq]; exact HCL.out) (fun hHeld => ?_)
              rw [hwq] at hHeld ⊢
              clear hwq hoc
              refine pure_ (i := 0) (N := (some 36)) (v := ?_) (a' := ?_) #[true, false, false, false, false, false, false, false, false, false, false, false] rfl rfl (by kernel_rfl) (fun _ _ _ h => h) (Or.inl ⟨by rfl, ?_⟩) ?_ ?_
              rotate_left
              · intro w'
                go_simp
                with_reducible rfl
              rotate_left
              · simp only [Act.put, List.setIfInBounds_toArray, List.set_cons_zero, List.set_cons_succ, i64_w, i32_w]
                rfl
              refine pure_ (i := 1) (N := (some 37)) (v := ?_) (a' := ?_) #[true, true, false, false, false, false, false, false, false, false, false, false] rfl rfl (by kernel_rfl) (fun _ _ _ h => h) (Or.inl ⟨by rfl, ?_⟩) ?_ ?_
              rotate_left
              · intro w'
                go_simp
                with_reducible rfl
              rotate_left
              · simp only [Act.put, List.setIfInBounds_toArray, List.set_cons_zero, List.set_cons_succ, i64_w, i32_w]
                rfl
              refine pure_ (i := 2) (N := (some 38)) (v := ?_) (a' := ?_) #[true, true, true, false, false, false, false, false, false, false, false, false] rfl rfl (by kernel_rfl) (fun _ _ _ h => h) (Or.inl ⟨by rfl, ?_⟩) ?_ ?_
              rotate_left
              · intro w'
                go_simp
                with_reducible rfl
              rotate_left
              · simp only [Act.put, List.setIfInBounds_toArray, List.set_cons_zero, List.set_cons_succ, i64_w, i32_w]
                rfl
              refine pure_ (i := 3) (N := (some 39)) (v := ?_) (a' := ?_) #[true, true, true, true, false, false, false, false, false, false, false, false] rfl rfl (by kernel_rfl) (fun _ _ _ h => h) (Or.inl ⟨by rfl, ?_⟩) ?_ ?_
              rotate_left
              · intro w'
                go_simp
                with_reducible rfl
              rotate_left
              · simp only [Act.put, List.setIfInBounds_toArray, List.set_cons_zero, List.set_cons_succ, i64_w, i32_w]
                rfl
              refine pure_ (i := 4) (N := (some 40)) (v := ?_) (a' := ?_) #[true, true, true, true, true, false, false, false, false, false, false, false] rfl rfl (by kernel_rfl) (fun _ _ _ h => h) (Or.inl ⟨by rfl, ?_⟩) ?_ ?_
              rotate_left
              · intro w'
                go_simp
                with_reducible rfl
              rotate_left
              · simp only [Act.put, List.setIfInBounds_toArray, List.set_cons_zero, List.set_cons_succ, i64_w, i32_w]
                rfl
              refine take_ (i := 5) (N := (some 41)) (v := ?_) (a' := ?_) #[true, true, true, true, true, true, false, false, false, false, false, false] rfl rfl (by kernel_rfl) (fun _ _ _ h => h) (Or.inl ⟨by rfl, ?_⟩) hHeld ?_ ?_
              rotate_left
              · rintro w' s0
                go_simp
                with_reducible rfl
              rotate_left
              · simp only [Act.put, List.setIfInBounds_toArray, List.set_cons_zero, List.set_cons_succ, i64_w, i32_w]
                rfl
              refine pure_ (i := 6) (N := (some 42)) (v := ?_) (a' := ?_) #[true, true, true, true, true, true, true, false, false, false, false, false] rfl rfl (by kernel_rfl) (fun _ _ _ h => h) (Or.inl ⟨by rfl, ?_⟩) ?_ ?_
              rotate_left
              · intro w'
                go_simp
                with_reducible rfl
              rotate_left
              · simp only [Act.put, List.setIfInBounds_toArray, List.set_cons_zero, List.set_cons_succ, i64_w, i32_w]
                rfl
              refine pure_ (i := 7) (N := (some 43)) (v := ?_) (a' := ?_) #[true, true, true, true, true, true, true, true, false, false, false, false] rfl rfl (by kernel_rfl) (fun _ _ _ h => h) (Or.inl ⟨by rfl, ?_⟩) ?_ ?_
              rotate_left
              · intro w'
                go_simp
                with_reducible rfl
              rotate_left
              · simp only [Act.put, List.setIfInBounds_toArray, List.set_cons_zero, List.set_cons_succ, i64_w, i32_w]
                rfl
              refine one_ (i := 8) (N := (some 44)) #[true, true, true, true, true, true, true, true, true, false, false, false] rfl rfl (by kernel_rfl) (by decide) (fun K hK => ?_)
              refine goes_ Tryd.func52 (by kernel_rfl) rfl #[.slice Ax x.length cx, .slice Ay y.length cy] (by rfl) rfl rfl (by (try simp only [List.map_toArray, List.map_cons, List.map_nil]); first | done | rfl) ?_
              with_reducible refine (mul_calls Ax Ay cx cy x y wq HXC.out.2 HXC.out.1 HYC.out.2 HYC.out.1 HXL.out.1 HYL.out.1 (by have := HXL.out; have := HYL.out; have := HKK.out; omega)).mono ?_
              rintro e w5 ⟨v5, p, rfl, hf5, hn5, hv5, hb5⟩
              refine ⟨_, rfl, ?_⟩
              obtain ⟨Ap, cp, rfl⟩ := Kd.V_slice hf5
              have HP5 := Aside0.mk (Kd.V_reads' hf5)
              have HPN := Aside0.mk hn5
              have HPV := Aside0.mk hv5
              have HB5 := Aside0.mk hb5
              have HPL := Aside0.mk (mul_len HXL.out.1 HYL.out.1 hn5 hv5)
              refine hK.out _ _ (pw_cell_below HB5.out HCL.out) (fun hHeld => ?_)
              clear hK K hf5 hn5 hv5 hb5
              refine norm_ (a' := ?_) ?_ ?_
              rotate_left
              · show Act.put _ (some 44) _ = _
                simp only [Act.put, List.setIfInBounds_toArray, List.set_cons_zero, List.set_cons_succ, i64_w, i32_w]
                rfl
              refine one_ (i := 9) (N := (some 45)) #[true, true, true, true, true, true, true, true, true, true, false, false] rfl rfl (by kernel_rfl) (by decide) (fun K hK => ?_)
              refine goes_ Tryd.func51 (by kernel_rfl) rfl #[.slice Ao o.length co, .slice Ap p.length cp] (by rfl) rfl rfl (by (try simp only [List.map_toArray, List.map_cons, List.map_nil]); first | done | rfl) ?_
              with_reducible refine (add_calls Ao Ap co cp o p w5 (Kd.C_below (Kd.F_now HOF.out.2) HB5.out) HOF.out.1 HP5.out.2.2 HP5.out.2.1 HOL.out.1 HPN.out.limbs (by have := HOL.out; have := HKK.out; omega) (by have := HPL.out; have := HXL.out; have := HYL.out; have := HKK.out; omega)).mono ?_
              rintro e w6 ⟨v6, r, rfl, hf6, hn6, hv6, hb6⟩
              refine ⟨_, rfl, ?_⟩
              obtain ⟨Ar, cr, rfl⟩ := Kd.V_slice hf6
              have HF6 := Aside0.mk (Kd.V_at hf6).2
              have HRN2 := Aside0.mk hn6
              have HRV : Aside0 (val r = val o + val x * val y) := ⟨by rw [hv6, HPV.out]⟩
              have HB6 := Aside0.mk (HB5.out.trans (hb6.mono HB5.out.size))
              have HN6 := Aside0.mk (Kd.N_below HNq.out HB6.out)
              obtain ⟨Az, cz, hcz, hfz, _, _⟩ := N_cell1 HN6.out j hjn
              refine hK.out _ _ (pw_cell_below HB6.out HCL.out) (fun hHeld => ?_)
              clear hK K hf6 hn6 hv6 hb6
              refine norm_ (a' := ?_) ?_ ?_
              rotate_left
              · show Act.put _ (some 45) _ = _
                simp only [Act.put, List.setIfInBounds_toArray, List.set_cons_zero, List.set_cons_succ, i64_w, i32_w]
                rfl
              refine pure_ (i := 10) (N := (some 46)) (v := ?_) (a' := ?_) #[true, true, true, true, true, true, true, true, true, true, true, false] rfl rfl (by kernel_rfl) (fun _ _ _ h => h) (Or.inl ⟨by rfl, ?_⟩) ?_ ?_
              rotate_left
              · intro w'
                go_simp
                with_reducible rfl
              rotate_left
              · simp only [Act.put, List.setIfInBounds_toArray, List.set_cons_zero, List.set_cons_succ, i64_w, i32_w]
                rfl
              refine last_ (i := 11) (N := none) #[true, true, true, true, true, true, true, true, true, true, true, true] rfl rfl (by kernel_rfl) (by decide) (fun K hK => ?_)
              refine skip_ (w1 := ?_) (by rfl) rfl ?_ ?_
              rotate_left
              · go_simp
                rfl
              refine hK.out _ _ ?_
              clear hK K
              refine done_ (by kernel_rfl) ?_
              have hput := HI.out.put (r := r) HJO.out HRN2.out (by rw [HRV.out, HOE.out HJO.out, HEV.out, ← HYV.out]) (by have := HNN.out; omega) (fun s hs => HT.out s j (by omega) hjn)
              have HPUT := Aside0.mk hput
              have hN7 := N_put1 HN6.out j hjn HF6.out.1 HF6.out.2 (fun k hk => by
                have h1 := HGB.out
                have h2 := HSQ.out
                have h3 := HB5.out.size
                have h4 : w5.heap.size ≤ k := hk
                exact ⟨(by omega : w.heap.size ≤ k), by omega⟩)
              have HN7 := Aside0.mk hN7
              have HB7 := Aside0.mk ((below_step HBq.out HB6.out).setCell (p := ⟨g, j, none⟩) HGB.out.1 (.slice Ar r.length cr))
              clear hput hN7
              go_wp2_with fail
              go_roundg k2
              case measure => omega
              case rel => exact ⟨j + 1, _, by go_num, ⟨by have := HKJ.out; omega⟩, HPUT, HN7, HB7⟩
          · obtain rfl : j = n := by have := HKJ.out; omega
            have HNX := Aside0.mk HI.out.next
            go_wp2_with fail
            go_roundg k1
            case measure => omega
            case rel => exact ⟨i + 1, os, by go_num, ⟨by have := HK.out; omega⟩, HNX, HO, HB⟩
    · obtain rfl : i = n := by have := HK.out; omega
      go_wp2_with fail
      go_ret
      have hR := Kd.N_reads' HO.out
      have hF := Kd.N_F HO.out
      have hol := HI.out.1
      refine ⟨_, os, rfl, ?_, hol, fun j hj => ?_, HB.out⟩
      · rw [← hol] at hF hR ⊢
        exact ⟨A, c, rfl, hR.2.1, hF⟩
      · have := HI.out.2 j hj
        rw [if_neg (by omega)] at this
        exact this
end Go.Proofs.YtmnmmalffpimeaaDoor
