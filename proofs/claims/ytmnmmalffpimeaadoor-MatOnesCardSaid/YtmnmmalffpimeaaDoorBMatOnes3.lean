/- edenlaw16.MatOnes returns true whatever number is handed in; no condition beyond the row's own. (Part 3 of 3: Prod, MPow, Awake16, OnesWalk, OnesProof.) -/
import Derived.Test.YtmnmmalffpimeaaDoorCards
import Derived.Test.YtmnmmalffpimeaaDoorTie
import Derived.SevenTiedAt
import Derived.Test.YtmnmmalffpimeaaDoorBMatOnes2
/- mat.product, and Check's answer for a square matrix. -/
namespace Go.Proofs.YtmnmmalffpimeaaDoor
open Go.RowKit Go.Proofs.YtmnmmalffpimeaaDoorW.PrintWords Go.Proofs.YtmnmmalffpimeaaDoorW.PrintLast Go.Proofs.YtmnmmalffpimeaaDoorW.PrintMore
set_option linter.unusedVariables false
set_option linter.unusedSimpArgs false

theorem unitM_isM (n : Nat) : IsM n 1 mid (unitM n) := by
  refine ⟨unitM_length n, fun i hi => ?_⟩
  rw [unitM_get]
  have hi' : i < n := by rw [unitM_length] at hi; exact hi
  refine ⟨by simp [unitR], fun j hj => ?_⟩
  by_cases e : i = j
  · subst e
    have : (unitR n i)[i] = [1] := by simp [unitR]
    rw [this]
    exact ⟨nrm_one, by simp [val, mid], by simp⟩
  · have : (unitR n i)[j] = [] := by simp [unitR, List.getElem_set, e]
    rw [this]
    exact ⟨⟨Limbs.nil, trivial⟩, by simp [val, mid, e], by simp⟩
theorem chk_inM {n K : Nat} {f : Nat → Nat → Int} {m : List (List (List Int))} (h : InM n K f m) (hn : n ≤ 96) : chk (m.map List.length) = none := by
  refine chk_ok (by simp; have := h.1; omega) (fun j hj => ?_)
  have hj' : j < m.length := by simpa using hj
  simp
  rw [(h.2 j hj').1, h.1]

def PInv (n L : Nat) (f : Nat → Nat → Int) (i : Nat) (os : List (List (List Int))) : Prop :=
  os.length = n ∧ ∀ t (ht : t < os.length), t < i → os[t].length = n ∧ ∀ j (hj : j < os[t].length), Nrm os[t][j] ∧ val os[t][j] = f t j ∧ os[t][j].length ≤ L
theorem PInv.put {n L : Nat} {f : Nat → Nat → Int} {i : Nat} {os : List (List (List Int))} {xs : List (List Int)} (h : PInv n L f i os) (hi : i < os.length) (hl : xs.length = n) (hx : ∀ j (hj : j < xs.length), Nrm xs[j] ∧ val xs[j] = f i j ∧ xs[j].length ≤ L) : PInv n L f (i + 1) (os.set i xs) := by
  refine ⟨by rw [List.length_set]; exact h.1, fun t ht hti => ?_⟩
  by_cases e : t = i
  · subst e
    rw [List.getElem_set_self]
    exact ⟨hl, hx⟩
  · rw [List.getElem_set_ne (by omega)]
    exact h.2 t (by rw [List.length_set] at ht; exact ht) (by omega)
theorem PInv.done {n L : Nat} {f : Nat → Nat → Int} {os : List (List (List Int))} (h : PInv n L f n os) : IsM n L f os := ⟨h.1, fun i hi => h.2 i hi (by have := h.1; omega)⟩

/-- what mat.product leaves -/
def ProdRes (n L : Nat) (f : Nat → Nat → Int) (w : World) (e : Ending) (w' : World) : Prop :=
  ∃ u xs, e = .returned u ∧ Kd.V KM tNats w' 0 (fun k => w.heap.size ≤ k) u xs ∧ IsM n L f xs ∧ Below w.heap.size w w'
set_option maxHeartbeats 8000000 in
set_option maxRecDepth 100000 in
theorem product_calls (Aa Ab : Option Addr) (ca cb : Nat) (a b : List (List (List Int))) (n K1 K2 : Nat) (f g : Nat → Nat → Int) (w : World) (ha : Kd.C KM w Aa a.length a) (hb : Kd.C KM w Ab b.length b) (hA : InM n K1 f a) (hB : InM n K2 g b)
    (hn : n ≤ 98) (hK1 : K1 ≤ 1000000000) (hK2 : K2 ≤ 1000000000) :
    Calls Tryd.prog 85 #[.slice Aa a.length ca, .slice Ab b.length cb] w (ProdRes n (K1 + K2 + 1) (mm n f g) w) := by
  have HA := Aside0.mk ha
  have HBC := Aside0.mk hb
  have HAM := Aside0.mk hA
  have HBM := Aside0.mk hB
  have HK12 := Aside0.mk (And.intro hK1 hK2)
  have HNN := Aside0.mk hn
  have han := hA.1
  have P0 : Aside0 (0 ≤ (n : Int)) := ⟨by omega⟩
  have HB := Aside0.mk (Below.refl w.heap.size w)
  have hn9 : n ≤ 9223372036854775807 := by omega
  rw [han]
  have HL2 := Aside0.mk han
  clear ha hb hA hB hn hK1 hK2 han
  go_enter Tryd.func85, Tryd.ntmps85
  go_wp2_with ((with_reducible refine gate_dst (N := 10) rfl ?_); refine print_hold ?_)
  unfold Hold
  refine Kd.N_make KM _ tNats rfl (N' := 10) rfl 23 _ _ rfl (n : Int) rfl rfl Tryd.underlying23 (.slice none 0 0) 24 info_nats rfl (by decide) (by omega) [] (ok := fun k => w.heap.size ≤ k) (okp := fun _ => False) (FK_nil _ _ _ _) (fun _ hk => hk.elim) (Nat.le_refl _) P0.out (by have := HNN.out; omega) HB.out (Nat.le_refl _) ?_
  intro vo w1 ho hb hg_ hnew_
  clear hg_ hnew_ HB
  rw [Int.toNat_natCast] at ho
  obtain ⟨A, c, eo⟩ := Kd.N_slice ho
  rw [List.length_replicate] at eo
  subst eo
  have HO := Aside0.mk ho
  have HB := Aside0.mk hb
  clear hb ho
  go_wp2_with fail
  go_loopg [13] n (fun kq v13 w' => ∃ (i : Nat) (os : List (List (List Int))), v13 = .int .i64 i ∧ Aside0 (kq + i = n) ∧ Aside0 (PInv n (K1 + K2 + 1) (mm n f g) i os) ∧ Aside0 (Kd.N KM tNats w' w.heap.size (fun k => w.heap.size ≤ k) (.slice A n c) os) ∧ Aside0 (Below w.heap.size w w'))
  case atStart => exact ⟨0, _, rfl, ⟨by omega⟩, ⟨⟨List.length_replicate, fun t ht hti => by omega⟩⟩, HO, HB⟩
  case round =>
    clear HO HB
    obtain ⟨i, os, rfl, HK, HI, HO, HB⟩ := hrel
    by_cases hlt : i < n
    · obtain ⟨k1, rfl⟩ : ∃ k1, gk = k1 + 1 := ⟨gk - 1, by have := HK.out; omega⟩
      have hia : i < a.length := by have := HL2.out; omega
      obtain ⟨ada, Ar, cr, ea, hrc0, hrl, hrC⟩ := atRow HA.out i hia
      subst ea
      have hrc := (HB.out.cell (World.block_lt_of_cell? w _ hrc0)).trans hrc0
      have hrow := HAM.out.2 i hia
      obtain ⟨row, hrow0⟩ : ∃ row, a[i] = row := ⟨_, rfl⟩
      rw [hrow0] at hrc hrl hrC
      have hrown : row.length = n := by rw [← hrow0]; exact hrow.1
      have hrowE : ∀ j (hj : j < row.length), Limbs row[j] ∧ val row[j] = f i j ∧ row[j].length ≤ K1 := by
        subst hrow0; exact hrow.2
      have hthr := through_calls Ar Ab cr cb row b n K1 K2 g wr (Kd.C_below hrC HB.out) (Kd.C_below HBC.out HB.out) hrown HBM.out (fun j hj => ⟨(hrowE j hj).1, (hrowE j hj).2.2⟩) HNN.out HK12.out.1 HK12.out.2
      rw [hrown] at hrc hthr
      have HTHR := Aside0.mk hthr
      have HVAL : Aside0 (∀ j, sumTo n (fun s => val (row.getD s []) * g s j) = mm n f g i j) := ⟨fun j => sumTo_congr n (fun s hs => by
        have hs' : s < row.length := by omega
        rw [List.getD_eq_getElem?_getD, List.getElem?_eq_getElem hs']
        show val row[s] * _ = _
        rw [(hrowE s hs').2.1])⟩
      have HRC := Aside0.mk hrc
      clear hrc0 hrl hrC hrow hrow0 hrown hrowE hthr
      go_wp2_with fail
      refine HTHR.out.mono ?_
      rintro e w2 ⟨u, xs, rfl, hu, hxl, hx, hb2⟩
      obtain ⟨Au, cu, rfl⟩ := Kd.V_slice hu
      obtain ⟨gg, cg, eo, gb, gl, _⟩ := Kd.N_form HO.out (by have := HI.out.1; omega)
      injection eo with e1 e2 e3
      subst e1
      have hN2 := Kd.N_below HO.out hb2
      obtain ⟨Az, cz, hcz, hfz, _, _⟩ := N_cell1 hN2 i hlt
      have hF := Kd.V_at hu
      have hN3 := N_put1 hN2 i hlt hF.2.1 hF.2.2 (fun k hk => by
        have h4 : wr.heap.size ≤ k := hk
        have h5 := HB.out.size
        exact ⟨(by omega : w.heap.size ≤ k), by omega⟩)
      have HN3 := Aside0.mk hN3
      have HPI := Aside0.mk (HI.out.put (by have := HI.out.1; omega) hxl (fun j hj => ⟨(hx j hj).1, by rw [(hx j hj).2.1]; exact HVAL.out j, (hx j hj).2.2⟩))
      have HB3 := Aside0.mk ((below_step HB.out hb2).setCell (p := ⟨gg, i, none⟩) gb (.slice Au xs.length cu))
      clear hu hx hxl hb2 e2 e3 gb gl hN2 hF hN3
      go_wp2_with fail
      go_roundg k1
      case measure => omega
      case rel => exact ⟨i + 1, _, by go_num, ⟨by have := HK.out; omega⟩, HPI, HN3, HB3⟩
    · obtain rfl : i = n := by have := HK.out; omega
      go_wp2_with fail
      go_ret
      have hR := Kd.N_reads' HO.out
      have hF := Kd.N_F HO.out
      have hol := HI.out.1
      refine ⟨_, os, rfl, ?_, HI.out.done, HB.out⟩
      rw [← hol] at hF hR ⊢
      exact ⟨A, c, rfl, hR.2.1, hF⟩
end Go.Proofs.YtmnmmalffpimeaaDoor

/- mat.Pow and mat.Trace, of square matrices. -/
namespace Go.Proofs.YtmnmmalffpimeaaDoor
open Go.RowKit Go.Extern.Stop Go.Stop Go.Extern Go.Proofs.YtmnmmalffpimeaaDoorW.PrintWords Go.Proofs.YtmnmmalffpimeaaDoorW.PrintLast Go.Proofs.YtmnmmalffpimeaaDoorW.PrintMore
set_option linter.unusedVariables false
set_option linter.unusedSimpArgs false

def MPInv (n N : Nat) (f : Nat → Nat → Int) (B k : Nat) (o q : List (List (List Int))) : Prop :=
  ∃ Ko Kq fo fq, IsM n Ko fo o ∧ InM n Kq fq q ∧ EqM n (mm n fo (mpow n fq k)) (mpow n f N) ∧ (Ko + 1) + (Kq + 1) * k ≤ B
theorem MPInv.start {n N K : Nat} {f : Nat → Nat → Int} {m : List (List (List Int))} (h : InM n K f m) : MPInv n N f ((K + 1) * N + 2) N (unitM n) m :=
  ⟨1, K, mid, f, unitM_isM n, h, mm_id_left n _, by omega⟩
theorem MPInv.bound {n N B k : Nat} {f : Nat → Nat → Int} {o q : List (List (List Int))} (h : MPInv n N f B k o q) (hk : 0 < k) : ∃ Ko Kq fo fq, IsM n Ko fo o ∧ InM n Kq fq q ∧ Ko ≤ B ∧ Kq ≤ B := by
  obtain ⟨Ko, Kq, fo, fq, h1, h2, h3, h4⟩ := h
  have : (Kq + 1) * 1 ≤ (Kq + 1) * k := Nat.mul_le_mul_left _ hk
  exact ⟨Ko, Kq, fo, fq, h1, h2, by omega, by omega⟩
theorem MPInv.odd1 {n N B : Nat} {f : Nat → Nat → Int} {Ko Kq : Nat} {fo fq : Nat → Nat → Int} {o' q : List (List (List Int))} {k : Nat}
    (h3 : EqM n (mm n fo (mpow n fq k)) (mpow n f N)) (h4 : (Ko + 1) + (Kq + 1) * k ≤ B) (hq : InM n Kq fq q) (hk : k = 1) (ho : IsM n (Ko + Kq + 1) (mm n fo fq) o') : MPInv n N f B (k / 2) o' q := by
  subst hk
  refine ⟨_, Kq, _, fq, ho, hq, ?_, by simp; omega⟩
  show EqM n (mm n (mm n fo fq) (mpow n fq 0)) _
  refine (mm_id_right n _).trans (EqM.trans ?_ h3)
  exact (EqM.refl n fo).mm (mpow_one n fq).symm
theorem MPInv.odd {n N B : Nat} {f : Nat → Nat → Int} {Ko Kq : Nat} {fo fq : Nat → Nat → Int} {o' q' : List (List (List Int))} {k : Nat}
    (h3 : EqM n (mm n fo (mpow n fq k)) (mpow n f N)) (h4 : (Ko + 1) + (Kq + 1) * k ≤ B) (hk : k % 2 = 1) (ho : IsM n (Ko + Kq + 1) (mm n fo fq) o') (hq : IsM n (Kq + Kq + 1) (mm n fq fq) q') : MPInv n N f B (k / 2) o' q' := by
  obtain ⟨t, rfl⟩ : ∃ t, k = 2 * t + 1 := ⟨k / 2, by omega⟩
  rw [show (2 * t + 1) / 2 = t by omega]
  refine ⟨_, _, _, _, ho, hq.inM, ?_, ?_⟩
  · refine ((EqM.refl n (mm n fo fq)).mm (mpow_sq n fq t)).trans ((mm_assoc n fo fq _).trans h3)
  · have e : (Kq + 1) * (2 * t + 1) = (Kq + 1) * t + (Kq + 1) * t + (Kq + 1) := by rw [Nat.mul_add, Nat.mul_one, Nat.two_mul, Nat.mul_add]
    have e2 : (Kq + Kq + 1 + 1) * t = (Kq + 1) * t + (Kq + 1) * t := by rw [← Nat.add_mul]; congr 1; omega
    omega
theorem MPInv.even {n N B : Nat} {f : Nat → Nat → Int} {Ko Kq : Nat} {fo fq : Nat → Nat → Int} {o q' : List (List (List Int))} {k : Nat}
    (h1 : IsM n Ko fo o) (h3 : EqM n (mm n fo (mpow n fq k)) (mpow n f N)) (h4 : (Ko + 1) + (Kq + 1) * k ≤ B) (hk : k % 2 ≠ 1) (hq : IsM n (Kq + Kq + 1) (mm n fq fq) q') : MPInv n N f B (k / 2) o q' := by
  obtain ⟨t, rfl⟩ : ∃ t, k = 2 * t := ⟨k / 2, by omega⟩
  rw [show (2 * t) / 2 = t by omega]
  refine ⟨_, _, _, _, h1, hq.inM, ?_, ?_⟩
  · exact ((EqM.refl n fo).mm (mpow_sq n fq t)).trans h3
  · have e : (Kq + 1) * (2 * t) = (Kq + 1) * t + (Kq + 1) * t := by rw [Nat.two_mul, Nat.mul_add]
    have e2 : (Kq + Kq + 1 + 1) * t = (Kq + 1) * t + (Kq + 1) * t := by rw [← Nat.add_mul]; congr 1; omega
    omega

/-- what mat.Pow leaves -/
def MPowRes (n : Nat) (f : Nat → Nat → Int) (w : World) (e : Ending) (w' : World) : Prop :=
  ∃ A c K xs, e = .returned (.tuple #[.slice A xs.length c, .nilIface]) ∧ Kd.C KM w' A xs.length xs ∧ IsM n K f xs ∧ K ≤ 2000000 ∧ Below w.heap.size w w'
set_option maxHeartbeats 8000000 in
set_option maxRecDepth 100000 in
theorem mpow_calls (S : Nat → Addr) (A : Option Addr) (c : Nat) (m : List (List (List Int))) (n K N : Nat) (f : Nat → Nat → Int) (w : World) (hE : Env S w) (hm : Kd.C KM w A m.length m) (hM : InM n K f m) (hn : n ≤ 96) (hK : K ≤ 100) (hN : N ≤ 1024) :
    Calls Tryd.prog 34 #[.slice A m.length c, .int .i64 N] w (MPowRes n (mpow n f N) w) := by
  have hchk := mcheck_calls S A c m w hE hm
  rw [chk_inM hM hn] at hchk
  have HCK := Aside0.mk hchk
  have HE := Aside0.mk hE
  have HMC := Aside0.mk hm
  have hmn := hM.1
  have hm9 := Kd.C_max hm
  have HI0 := Aside0.mk (MPInv.start (N := N) hM)
  have HBB : Aside0 ((K + 1) * N + 2 ≤ 1000000) := ⟨by have : (K + 1) * N ≤ 101 * 1024 := Nat.mul_le_mul (by omega) hN; omega⟩
  obtain ⟨B, hBe⟩ : ∃ B, (K + 1) * N + 2 = B := ⟨_, rfl⟩
  rw [hBe] at HI0 HBB
  have HNN := Aside0.mk (And.intro hn hN)
  have hd1 : decide ((N : Int) < 0) = false := decide_eq_false (by omega)
  have hd2 : decide (1024 < (N : Int)) = false := decide_eq_false (by omega)
  have HMN := Aside0.mk hmn
  clear hchk hE hm hM hn hK hN hBe hmn
  go_enter Tryd.func34, Tryd.ntmps34
  go_wp2_with fail
  refine HCK.out.mono ?_
  rintro e w1 ⟨v, rfl, hv, hb⟩
  have hv : v = .nilIface := hv
  subst hv
  have HB1 := Aside0.mk hb
  clear hb
  go_wp2_with fail
  refine (one_calls S (m.length : Int) w1 (HE.out.below HB1.out)).mono ?_
  rintro e w2 ⟨vo, u, rfl, hvo, hu, hb⟩
  have e1 : oneO (m.length : Int) = none := by unfold oneO; rw [if_neg (by omega), if_neg (by have := HNN.out; have := HMN.out; omega)]
  have e2 : oneL (m.length : Int) = unitM n := by unfold oneL; rw [if_neg (by omega), if_neg (by have := HNN.out; have := HMN.out; omega), Int.toNat_natCast, HMN.out]
  rw [e1] at hu
  have hu : u = .nilIface := hu
  subst hu
  rw [e2] at hvo
  obtain ⟨Ao, co, rfl⟩ := Kd.V_slice hvo
  have HO := Aside0.mk (Kd.V_reads' hvo).2.2
  have HB2 := Aside0.mk (below_step HB1.out hb)
  have HQ := Aside0.mk (Kd.C_below HMC.out HB2.out)
  clear hvo hb e1 e2
  go_wp2_with fail
  go_loopg [1, 7, 9] N (fun kq v1 v7 v9 w' => ∃ (k : Nat) (o q : List (List (List Int))) (A7 A9 : Option Addr) (c7 c9 : Nat), v1 = .int .i64 k ∧ v7 = .slice A7 o.length c7 ∧ v9 = .slice A9 q.length c9 ∧ k ≤ kq ∧ k ≤ 1024 ∧ Aside0 (MPInv n N f B k o q) ∧
    Aside0 (Kd.C KM w' A7 o.length o) ∧ Aside0 (Kd.C KM w' A9 q.length q) ∧ Aside0 (Below w.heap.size w w'))
  case atStart => exact ⟨N, unitM n, m, _, _, _, _, rfl, rfl, rfl, Nat.le_refl _, HNN.out.2, HI0, HO, HQ, HB2⟩
  case round =>
    clear HO HQ HB2
    obtain ⟨k, o, q, A7, A9, c7, c9, rfl, rfl, rfl, hkk, hk1, HI, HO, HQ, HB⟩ := hrel
    by_cases hz : k = 0
    · subst hz
      go_wp2_with fail
      go_ret2
      obtain ⟨Ko, Kq, fo, fq, h1, h2, h3, h4⟩ := HI.out
      exact ⟨_, _, Ko, o, rfl, HO.out, h1.congr ((mm_id_right n fo).symm.trans h3), by have := HBB.out; omega, HB.out⟩
    · obtain ⟨k1, rfl⟩ : ∃ k1, gk = k1 + 1 := ⟨gk - 1, by omega⟩
      have hkp : decide (0 < k) = true := decide_eq_true (by omega)
      obtain ⟨Ko, Kq, fo, fq, h1, h2, h3, h4⟩ := HI.out
      have hKq : (Kq + 1) * 1 ≤ (Kq + 1) * k := Nat.mul_le_mul_left _ (by omega)
      have HL : Aside0 (Ko ≤ 1000000 ∧ Kq ≤ 1000000) := ⟨by have := HBB.out; omega⟩
      have H1 := Aside0.mk h1
      have H2 := Aside0.mk h2
      have H3 := Aside0.mk h3
      have H4 := Aside0.mk h4
      have HZ : Aside0 (k / 2 ≤ k1 ∧ k / 2 ≤ 1024) := ⟨by omega⟩
      clear h1 h2 h3 h4 hKq hkk HI
      by_cases hodd : k % 2 = 1
      · have hr : (k : Int).tmod 2 = 1 := by rw [Int.tmod_eq_emod_of_nonneg (by omega)]; omega
        have HOD := Aside0.mk hodd
        by_cases hone : k = 1
        · subst hone
          have hkd : decide (1 < 1) = false := by decide
          clear hodd hz
          go_wp2_with fail
          refine (product_calls A7 A9 c7 c9 o q n Ko Kq fo fq _ HO.out HQ.out H1.out.inM H2.out (by have := HNN.out; omega) (by have := HL.out; omega) (by have := HL.out; omega)).mono ?_
          rintro e w3 ⟨v, o', rfl, hv, hM, hb⟩
          obtain ⟨Av, cv, rfl⟩ := Kd.V_slice hv
          have HO' := Aside0.mk (Kd.V_reads' hv).2.2
          have HQ' := Aside0.mk (Kd.C_below HQ.out hb)
          have HB' := Aside0.mk (below_step HB.out hb)
          have HI' := Aside0.mk (MPInv.odd1 H3.out H4.out H2.out rfl hM)
          clear hv hM hb
          go_wp2_with fail
          go_roundg k1
          case measure => omega
          case rel => exact ⟨_, o', q, _, _, _, _, by go_num, rfl, rfl, Nat.zero_le _, Nat.zero_le _, HI', HO', HQ', HB'⟩
        · have hkd : decide (1 < (k : Int)) = true := decide_eq_true (by omega)
          clear hodd hz hone
          go_wp2_with fail
          refine (product_calls A7 A9 c7 c9 o q n Ko Kq fo fq _ HO.out HQ.out H1.out.inM H2.out (by have := HNN.out; omega) (by have := HL.out; omega) (by have := HL.out; omega)).mono ?_
          rintro e w3 ⟨v, o', rfl, hv, hM, hb⟩
          obtain ⟨Av, cv, rfl⟩ := Kd.V_slice hv
          have HO' := Aside0.mk (Kd.V_reads' hv).2.2
          have HQ' := Aside0.mk (Kd.C_below HQ.out hb)
          have HB' := Aside0.mk (below_step HB.out hb)
          have HM' := Aside0.mk hM
          clear hv hM hb
          go_wp2_with fail
          refine (product_calls A9 A9 c9 c9 q q n Kq Kq fq fq _ HQ'.out HQ'.out H2.out H2.out (by have := HNN.out; omega) (by have := HL.out; omega) (by have := HL.out; omega)).mono ?_
          rintro e w4 ⟨v, q', rfl, hv, hM, hb⟩
          obtain ⟨Aw, cw, rfl⟩ := Kd.V_slice hv
          have HO2 := Aside0.mk (Kd.C_below HO'.out hb)
          have HQ2 := Aside0.mk (Kd.V_reads' hv).2.2
          have HB2 := Aside0.mk (below_step HB'.out hb)
          have HI' := Aside0.mk (MPInv.odd H3.out H4.out HOD.out HM'.out hM)
          clear hv hM hb
          go_wp2_with fail
          go_roundg k1
          case measure => omega
          case rel => exact ⟨k / 2, o', q', _, _, _, _, congrArg _ (by omega), rfl, rfl, HZ.out.1, HZ.out.2, HI', HO2, HQ2, HB2⟩
      · have hr : (k : Int).tmod 2 = 0 := by rw [Int.tmod_eq_emod_of_nonneg (by omega)]; omega
        have HOD := Aside0.mk hodd
        have hkd : decide (1 < (k : Int)) = true := decide_eq_true (by omega)
        clear hodd hz
        go_wp2_with fail
        refine (product_calls A9 A9 c9 c9 q q n Kq Kq fq fq _ HQ.out HQ.out H2.out H2.out (by have := HNN.out; omega) (by have := HL.out; omega) (by have := HL.out; omega)).mono ?_
        rintro e w4 ⟨v, q', rfl, hv, hM, hb⟩
        obtain ⟨Aw, cw, rfl⟩ := Kd.V_slice hv
        have HO2 := Aside0.mk (Kd.C_below HO.out hb)
        have HQ2 := Aside0.mk (Kd.V_reads' hv).2.2
        have HB2 := Aside0.mk (below_step HB.out hb)
        have HI' := Aside0.mk (MPInv.even H1.out H3.out H4.out HOD.out hM)
        clear hv hM hb
        go_wp2_with fail
        go_roundg k1
        case measure => omega
        case rel => exact ⟨k / 2, o, q', _, _, _, _, congrArg _ (by omega), rfl, rfl, HZ.out.1, HZ.out.2, HI', HO2, HQ2, HB2⟩

/-- what mat.Trace leaves -/
def TraceRes (x : Int) (w : World) (e : Ending) (w' : World) : Prop := ∃ A c l, e = .returned (.tuple #[.slice A l.length c, .nilIface]) ∧ l.length ≤ c ∧ Kd.C (Kd.int .u32) w' A l.length l ∧ Nrm l ∧ val l = x ∧ Below w.heap.size w w'
set_option maxHeartbeats 8000000 in
set_option maxRecDepth 100000 in
theorem trace_calls (S : Nat → Addr) (A : Option Addr) (c : Nat) (m : List (List (List Int))) (n K : Nat) (f : Nat → Nat → Int) (w : World) (hE : Env S w) (hm : Kd.C KM w A m.length m) (hM : InM n K f m) (hn : n ≤ 96) (hK : K ≤ 1000000000) :
    Calls Tryd.prog 65 #[.slice A m.length c] w (TraceRes (sumTo n (fun i => f i i)) w) := by
  have hchk := mcheck_calls S A c m w hE hm
  rw [chk_inM hM hn] at hchk
  have HCK := Aside0.mk hchk
  have HMC := Aside0.mk hm
  have HM := Aside0.mk hM
  have hmn := hM.1
  have hm9 := Kd.C_max hm
  have HNN := Aside0.mk (And.intro hn (And.intro hK hmn))
  clear hchk hE hm hM hn hK hmn
  go_enter Tryd.func65, Tryd.ntmps65
  go_wp2_with fail
  refine HCK.out.mono ?_
  rintro e w1 ⟨v, rfl, hv, hb⟩
  have hv : v = .nilIface := hv
  subst hv
  have HB1 := Aside0.mk hb
  clear hb
  go_wp2_with fail
  go_loopg [5, 15] m.length (fun kq v5 v15 w' => ∃ (i : Nat) (A5 : Option Addr) (c5 : Nat) (s : List Int), v15 = .int .i64 i ∧ v5 = .slice A5 s.length c5 ∧ kq + i = m.length ∧ Aside0 (s.length ≤ c5 ∧ Kd.C (Kd.int .u32) w' A5 s.length s ∧ Nrm s ∧ val s = sumTo i (fun t => f t t) ∧ s.length ≤ K + 1) ∧ Aside0 (Below w.heap.size w w'))
  case atStart => exact ⟨0, none, 0, [], rfl, rfl, by omega, ⟨Nat.le_refl _, Kd.C_nil _ _, ⟨Limbs.nil, trivial⟩, rfl, by simp⟩, HB1⟩
  case round =>
    clear HB1
    obtain ⟨i, A5, c5, s, rfl, rfl, hk, HS, HB⟩ := hrel
    by_cases hlt : i < m.length
    · obtain ⟨k1, rfl⟩ : ∃ k1, gk = k1 + 1 := ⟨gk - 1, by omega⟩
      obtain ⟨ada, Ar, cr, ea, hrc0, hrl, hrC⟩ := atRow HMC.out i hlt
      subst ea
      have hrc := (HB.out.cell (World.block_lt_of_cell? w _ hrc0)).trans hrc0
      have hrow := HM.out.2 i hlt
      obtain ⟨row, hrow0⟩ : ∃ row, m[i] = row := ⟨_, rfl⟩
      rw [hrow0] at hrc hrl hrC
      have hrown : row.length = m.length := by rw [← hrow0, hrow.1]; exact HNN.out.2.2.symm
      have hir : i < row.length := by omega
      obtain ⟨adr, Ay, cy, er, hyc0, hyl, hyC⟩ := atRow hrC i hir
      subst er
      have hyc := (HB.out.cell (World.block_lt_of_cell? w _ hyc0)).trans hyc0
      have hyE : Limbs row[i] ∧ val row[i] = f i i ∧ row[i].length ≤ K := by subst hrow0; exact hrow.2 i hir
      obtain ⟨y, hy⟩ : ∃ y, row[i] = y := ⟨_, rfl⟩
      rw [hy] at hyc hyl hyC hyE
      rw [hrown] at hrc
      have HYC := Aside0.mk (And.intro hyl hyC)
      have HYE := Aside0.mk hyE
      have hi9 : i < 9223372036854775807 := by omega
      clear hrc0 hrl hrC hrow hrow0 hyc0 hyl hyC hyE hy hir hrown
      go_wp2_with fail
      refine (add_calls A5 Ay c5 cy s y _ HS.out.2.1 HS.out.1 (Kd.C_below HYC.out.2 HB.out) HYC.out.1 HS.out.2.2.1.1 HYE.out.1 (by have := HS.out.2.2.2.2; have := HNN.out; omega) (by have := HYE.out.2.2; have := HNN.out; omega)).mono ?_
      rintro e w2 ⟨v, r, rfl, hf, hnr, hvr, hb⟩
      obtain ⟨Av, cv, rfl⟩ := Kd.V_slice hf
      have hvs : val r = sumTo (i + 1) (fun t => f t t) := by rw [hvr, HS.out.2.2.2.1, HYE.out.2.1]; rfl
      have HS2 : Aside0 (r.length ≤ cv ∧ Kd.C (Kd.int .u32) w2 Av r.length r ∧ Nrm r ∧ val r = sumTo (i + 1) (fun t => f t t) ∧ r.length ≤ K + 1) := ⟨by
        refine ⟨(Kd.V_reads' hf).2.1, (Kd.V_reads' hf).2.2, hnr, hvs, nrm_length hnr ?_⟩
        have h3 := sumTo_le (i + 1) (f := fun t => f t t) (c := 4294967296 ^ K) (fun t ht => by
          have htm : t < m.length := by omega
          have hr1 := HM.out.2 t htm
          have ht2 : t < m[t].length := by rw [hr1.1]; have := HNN.out.2.2; omega
          have hc := hr1.2 t ht2
          have h1 := val_lt hc.1
          have h2 := pow_mono_ hc.2.2
          show f t t ≤ _
          rw [← hc.2.1]; omega)
        have hp : (0 : Int) < 4294967296 ^ K := Int.pow_pos (by decide)
        rw [hvs, Int.pow_succ]
        have h4 : ((i + 1 : Nat) : Int) * 4294967296 ^ K < 4294967296 * 4294967296 ^ K := Int.mul_lt_mul_of_pos_right (by have := HNN.out; omega) hp
        rw [Int.mul_comm (4294967296 ^ K) 4294967296]
        omega⟩
      have HB2 := Aside0.mk (below_step HB.out hb)
      clear hf hnr hvr hb hvs
      go_wp2_with fail
      go_roundg k1
      case measure => omega
      case rel => exact ⟨i + 1, Av, cv, r, by go_num, rfl, by omega, HS2, HB2⟩
    · obtain rfl : i = m.length := by omega
      go_wp2_with fail
      go_ret2
      have h := HS.out
      have hmn := HNN.out.2.2
      exact ⟨A5, c5, s, rfl, h.1, h.2.1, h.2.2.1, by rw [h.2.2.2.1, hmn], HB.out⟩
end Go.Proofs.YtmnmmalffpimeaaDoor

/- edenlaw16's awake. -/
namespace Go.Proofs.YtmnmmalffpimeaaDoor
open Go.RowKit Go.Extern.Stop Go.Stop Go.Extern Go.Proofs.YtmnmmalffpimeaaDoorW.PrintWords Go.Proofs.YtmnmmalffpimeaaDoorW.PrintLast Go.Proofs.YtmnmmalffpimeaaDoorW.PrintMore
set_option linter.unusedVariables false
set_option linter.unusedSimpArgs false

theorem C_rowsG {α : Type} {d : Kd α} {e : Nat} {w : World} (ad : Addr) (xs : List (List α)) (hm : xs.length ≤ 9223372036854775807)
    (h : ∀ j (hj : j < xs.length), ∃ A c, w.cell? (ad.add j) = some (.slice A xs[j].length c) ∧ xs[j].length ≤ c ∧ Kd.C d w A xs[j].length xs[j]) : Kd.C (Kd.slice e d) w (some ad) xs.length xs := by
  refine ⟨rfl, hm, fun _ => ⟨ad, rfl, fun j p hj => ?_⟩⟩
  obtain ⟨hj1, hj2⟩ := List.getElem?_eq_some_iff.1 hj
  subst hj2
  obtain ⟨A, c, hc, hl, hC⟩ := h j hj1
  refine ⟨[.slice A xs[j].length c], rfl, ⟨A, c, rfl, hl, hC⟩, fun i u hu => ?_⟩
  cases i with
  | zero =>
    have : u = .slice A xs[j].length c := by simpa using hu.symm
    subst this
    rw [show j * (Kd.slice e d).sz + 0 = j from by show j * 1 + 0 = j; omega]
    exact hc
  | succ i => simp at hu
theorem C_pair {α : Type} {d : Kd α} (e : Nat) (W : World) (A A' : Option Addr) (c c' : Nat) (l l' : List α) (g : Nat) (hg : g = W.heap.size) (h : Kd.C d W A l.length l) (hc : l.length ≤ c) (h' : Kd.C d W A' l'.length l') (hc' : l'.length ≤ c') (t : Nat) :
    Kd.C (Kd.slice e d) (W.alloc (.cells #[.slice A l.length c, .slice A' l'.length c'] t)) (some ⟨g, 0, none⟩) [l, l'].length [l, l'] := by
  subst hg
  refine C_rowsG _ _ (by simp) fun j hj => ?_
  have : j = 0 ∨ j = 1 := by simp at hj; omega
  rcases this with rfl | rfl
  · exact ⟨A, c, by simp [Addr.add], hc, Kd.C_alloc h _⟩
  · exact ⟨A', c', by simp [Addr.add], hc', Kd.C_alloc h' _⟩
def okN (K : Nat) (x : List Int) : Bool := decide (x.length ≤ K) && x.all (fun y => decide (0 ≤ y ∧ y < 4294967296)) && decide (trim x = x)
theorem isM_of {n K : Nat} {m : List (List (List Int))} (h1 : m.length = n) (h : m.all (fun r => decide (r.length = n) && r.all (okN K)) = true) : IsM n K (ent m) m := by
  refine ⟨h1, fun i hi => ?_⟩
  have hr := List.all_eq_true.1 h m[i] (List.getElem_mem hi)
  simp only [Bool.and_eq_true, decide_eq_true_eq] at hr
  refine ⟨hr.1, fun j hj => ?_⟩
  have hx := List.all_eq_true.1 hr.2 m[i][j] (List.getElem_mem hj)
  unfold okN at hx
  simp only [Bool.and_eq_true, decide_eq_true_eq] at hx
  refine ⟨⟨limbs_lit hx.1.2, by rw [← hx.2]; exact trim_tip _⟩, ?_, hx.1.1⟩
  have e1 : m.getD i [] = m[i] := by rw [List.getD_eq_getElem?_getD, List.getElem?_eq_getElem hi]; rfl
  have e2 : m[i].getD j [] = m[i][j] := by rw [List.getD_eq_getElem?_getD, List.getElem?_eq_getElem hj]; rfl
  unfold ent
  rw [e1, e2]
abbrev fibM : List (List (List Int)) := [[[1], [1]], [[1], []]]
abbrev fibP : List (List (List Int)) := [[[89], [55]], [[55], [34]]]
theorem fib_isM : IsM 2 1 (ent fibM) fibM := isM_of rfl (by decide)
theorem fibP_isM : IsM 2 1 (mpow 2 (ent fibM) 10) fibP := (isM_of rfl (by decide)).congr (by unfold EqM; decide +kernel)
theorem fib_trace : sumTo 2 (fun i => mpow 2 (ent fibM) 10 i i) = 123 := by decide +kernel

abbrev numO (xs : List Int) : Obj := .cells (nums .u32 xs).toArray 74
theorem num_C (W : World) (g : Nat) (xs : List Int) (hg : g = W.heap.size) (hm : xs.length ≤ 9223372036854775807) : Kd.C (Kd.int .u32) (W.alloc (numO xs)) (some ⟨g, 0, none⟩) xs.length xs := C_litg W g xs hg hm
theorem sz_alloc (W : World) (o : Obj) : (W.alloc o).heap.size = W.heap.size + 1 := by simp
theorem fib_C (w : World) : Kd.C KM ((((((w.alloc (.cells #[.int .u32 1] 74)).alloc (.cells #[.int .u32 1] 74)).alloc (.cells #[.slice (some ⟨w.heap.size, 0, none⟩) 1 1, .slice (some ⟨w.heap.size + 1, 0, none⟩) 1 1] tNat)).alloc (.cells #[.int .u32 1] 74)).alloc
    (.cells #[.slice (some ⟨w.heap.size + 1 + 1 + 1, 0, none⟩) 1 1, .slice none 0 0] tNat)).alloc (.cells #[.slice (some ⟨w.heap.size + 1 + 1, 0, none⟩) 2 2, .slice (some ⟨w.heap.size + 1 + 1 + 1 + 1, 0, none⟩) 2 2] tNats))
    (some ⟨w.heap.size + 1 + 1 + 1 + 1 + 1, 0, none⟩) fibM.length fibM := by
  have a1 := num_C w w.heap.size [1] rfl (by decide)
  have a2 := num_C (w.alloc (numO [1])) (w.heap.size + 1) [1] (by rw [sz_alloc]) (by decide)
  have r1 := C_pair (d := Kd.int .u32) 74 ((w.alloc (numO [1])).alloc (numO [1])) _ _ 1 1 [1] [1] (w.heap.size + 1 + 1) (by rw [sz_alloc, sz_alloc]) (Kd.C_alloc a1 _) (by decide) a2 (by decide) tNat
  have a3 := num_C (((w.alloc (numO [1])).alloc (numO [1])).alloc (.cells #[.slice (some ⟨w.heap.size, 0, none⟩) 1 1, .slice (some ⟨w.heap.size + 1, 0, none⟩) 1 1] tNat)) (w.heap.size + 1 + 1 + 1) [1] (by rw [sz_alloc, sz_alloc, sz_alloc]) (by decide)
  have r2 := C_pair (d := Kd.int .u32) 74 _ _ none 1 0 [1] [] (w.heap.size + 1 + 1 + 1 + 1) (by rw [sz_alloc, sz_alloc, sz_alloc, sz_alloc]) a3 (by decide) (Kd.C_nil _ _) (by decide) tNat
  exact C_pair (d := KN) tNat _ _ _ 2 2 [[1], [1]] [[1], []] (w.heap.size + 1 + 1 + 1 + 1 + 1) (by rw [sz_alloc, sz_alloc, sz_alloc, sz_alloc, sz_alloc]) (Kd.C_alloc (Kd.C_alloc r1 _) _) (by decide) r2 (by decide) tNats
theorem fibP_C (w : World) (a b c d : Int) : Kd.C KM (((((((w.alloc (.cells #[.int .u32 a] 74)).alloc (.cells #[.int .u32 b] 74)).alloc (.cells #[.slice (some ⟨w.heap.size, 0, none⟩) 1 1, .slice (some ⟨w.heap.size + 1, 0, none⟩) 1 1] tNat)).alloc (.cells #[.int .u32 c] 74)).alloc (.cells #[.int .u32 d] 74)).alloc
    (.cells #[.slice (some ⟨w.heap.size + 1 + 1 + 1, 0, none⟩) 1 1, .slice (some ⟨w.heap.size + 1 + 1 + 1 + 1, 0, none⟩) 1 1] tNat)).alloc (.cells #[.slice (some ⟨w.heap.size + 1 + 1, 0, none⟩) 2 2, .slice (some ⟨w.heap.size + 1 + 1 + 1 + 1 + 1, 0, none⟩) 2 2] tNats))
    (some ⟨w.heap.size + 1 + 1 + 1 + 1 + 1 + 1, 0, none⟩) [[[a], [b]], [[c], [d]]].length [[[a], [b]], [[c], [d]]] := by
  have a1 := num_C w w.heap.size [a] rfl (by simp)
  have a2 := num_C (w.alloc (numO [a])) (w.heap.size + 1) [b] (by rw [sz_alloc]) (by simp)
  have r1 := C_pair (d := Kd.int .u32) 74 ((w.alloc (numO [a])).alloc (numO [b])) _ _ 1 1 [a] [b] (w.heap.size + 1 + 1) (by rw [sz_alloc, sz_alloc]) (Kd.C_alloc a1 _) (by simp) a2 (by simp) tNat
  have a3 := num_C (((w.alloc (numO [a])).alloc (numO [b])).alloc (.cells #[.slice (some ⟨w.heap.size, 0, none⟩) 1 1, .slice (some ⟨w.heap.size + 1, 0, none⟩) 1 1] tNat)) (w.heap.size + 1 + 1 + 1) [c] (by rw [sz_alloc, sz_alloc, sz_alloc]) (by simp)
  have a4 := num_C ((((w.alloc (numO [a])).alloc (numO [b])).alloc (.cells #[.slice (some ⟨w.heap.size, 0, none⟩) 1 1, .slice (some ⟨w.heap.size + 1, 0, none⟩) 1 1] tNat)).alloc (numO [c])) (w.heap.size + 1 + 1 + 1 + 1) [d] (by rw [sz_alloc, sz_alloc, sz_alloc, sz_alloc]) (by simp)
  have r2 := C_pair (d := Kd.int .u32) 74 _ _ _ 1 1 [c] [d] (w.heap.size + 1 + 1 + 1 + 1 + 1) (by rw [sz_alloc, sz_alloc, sz_alloc, sz_alloc, sz_alloc]) (Kd.C_alloc a3 _) (by simp) a4 (by simp) tNat
  exact C_pair (d := KN) tNat _ _ _ 2 2 [[a], [b]] [[c], [d]] (w.heap.size + 1 + 1 + 1 + 1 + 1 + 1) (by rw [sz_alloc, sz_alloc, sz_alloc, sz_alloc, sz_alloc, sz_alloc]) (Kd.C_alloc (Kd.C_alloc (Kd.C_alloc r1 _) _) _) (by simp) r2 (by simp) tNats

set_option maxHeartbeats 4000000 in
set_option maxRecDepth 100000 in
theorem awake16_calls (S : Nat → Addr) (w : World) (hE : Env S w) : Calls Tryd.prog 12 #[] w fun e w' => e = .returned (.bool true) ∧ Below w.heap.size w w' := by
  have HE := Aside0.mk hE
  have HFC := Aside0.mk (fib_C w)
  have HB0 := Aside0.mk (below_alloc (below_alloc (below_alloc (below_alloc (below_alloc (below_alloc (Below.refl w.heap.size w) (.cells #[.int .u32 1] 74)) (.cells #[.int .u32 1] 74)) (.cells #[.slice (some ⟨w.heap.size, 0, none⟩) 1 1, .slice (some ⟨w.heap.size + 1, 0, none⟩) 1 1] tNat)) (.cells #[.int .u32 1] 74))
    (.cells #[.slice (some ⟨w.heap.size + 1 + 1 + 1, 0, none⟩) 1 1, .slice none 0 0] tNat)) (.cells #[.slice (some ⟨w.heap.size + 1 + 1, 0, none⟩) 2 2, .slice (some ⟨w.heap.size + 1 + 1 + 1 + 1, 0, none⟩) 2 2] tNats))
  clear hE
  go_enter Tryd.func12, Tryd.ntmps12
  go_wp2_with fail
  obtain ⟨w1, hw1⟩ : ∃ w1, ((((((w.alloc (.cells #[.int .u32 1] 74)).alloc (.cells #[.int .u32 1] 74)).alloc (.cells #[.slice (some ⟨w.heap.size, 0, none⟩) 1 1, .slice (some ⟨w.heap.size + 1, 0, none⟩) 1 1] tNat)).alloc (.cells #[.int .u32 1] 74)).alloc
    (.cells #[.slice (some ⟨w.heap.size + 1 + 1 + 1, 0, none⟩) 1 1, .slice none 0 0] tNat)).alloc (.cells #[.slice (some ⟨w.heap.size + 1 + 1, 0, none⟩) 2 2, .slice (some ⟨w.heap.size + 1 + 1 + 1 + 1, 0, none⟩) 2 2] tNats)) = w1 := ⟨_, rfl⟩
  rw [hw1] at HFC HB0 ⊢
  clear hw1
  refine (mpow_calls S _ 2 fibM 2 1 10 (ent fibM) w1 (HE.out.below HB0.out) HFC.out fib_isM.inM (by decide) (by decide) (by decide)).mono ?_
  rintro e w2 ⟨A, c, K, xs, rfl, hxC, hxM, hK, hb⟩
  have e1 : xs = fibP := hxM.inj fibP_isM
  subst e1
  have HXC := Aside0.mk hxC
  have HXM := Aside0.mk hxM
  have HKB := Aside0.mk hK
  have HB2 := Aside0.mk (below_step HB0.out hb)
  clear hxC hxM hK hb HB0 HFC
  go_wp2_with fail
  refine (trace_calls S A c fibP 2 K _ w2 (HE.out.below HB2.out) HXC.out HXM.out.inM (by decide) (by have := HKB.out; omega)).mono ?_
  rintro e w3 ⟨A3, c3, l, rfl, hlc, hlC, hlN, hlV, hb⟩
  have e2 : l = [123] := Nrm.inj hlN ⟨limbs_lit (by decide), by simp [Tip]⟩ (by rw [hlV, fib_trace]; decide)
  subst e2
  have HX3 := Aside0.mk (Kd.C_below HXC.out hb)
  have HL3 := Aside0.mk hlC
  have HB3 := Aside0.mk (below_step HB2.out hb)
  clear hlc hlC hlN hlV hb HB2 HXC
  have HPC := Aside0.mk (fibP_C w3 89 55 55 34)
  have HBP := Aside0.mk (below_alloc (below_alloc (below_alloc (below_alloc (below_alloc (below_alloc (below_alloc (Below.refl w3.heap.size w3) (.cells #[.int .u32 89] 74)) (.cells #[.int .u32 55] 74)) (.cells #[.slice (some ⟨w3.heap.size, 0, none⟩) 1 1, .slice (some ⟨w3.heap.size + 1, 0, none⟩) 1 1] tNat)) (.cells #[.int .u32 55] 74)) (.cells #[.int .u32 34] 74))
    (.cells #[.slice (some ⟨w3.heap.size + 1 + 1 + 1, 0, none⟩) 1 1, .slice (some ⟨w3.heap.size + 1 + 1 + 1 + 1, 0, none⟩) 1 1] tNat)) (.cells #[.slice (some ⟨w3.heap.size + 1 + 1, 0, none⟩) 2 2, .slice (some ⟨w3.heap.size + 1 + 1 + 1 + 1 + 1, 0, none⟩) 2 2] tNats))
  go_wp2_with fail
  obtain ⟨w4, hw4⟩ : ∃ w4, (((((((w3.alloc (.cells #[.int .u32 89] 74)).alloc (.cells #[.int .u32 55] 74)).alloc (.cells #[.slice (some ⟨w3.heap.size, 0, none⟩) 1 1, .slice (some ⟨w3.heap.size + 1, 0, none⟩) 1 1] tNat)).alloc (.cells #[.int .u32 55] 74)).alloc (.cells #[.int .u32 34] 74)).alloc
    (.cells #[.slice (some ⟨w3.heap.size + 1 + 1 + 1, 0, none⟩) 1 1, .slice (some ⟨w3.heap.size + 1 + 1 + 1 + 1, 0, none⟩) 1 1] tNat)).alloc (.cells #[.slice (some ⟨w3.heap.size + 1 + 1, 0, none⟩) 2 2, .slice (some ⟨w3.heap.size + 1 + 1 + 1 + 1 + 1, 0, none⟩) 2 2] tNats)) = w4 := ⟨_, rfl⟩
  rw [hw4] at HPC HBP ⊢
  clear hw4
  refine (same_true A _ c 2 fibP w4 (Kd.C_below HX3.out HBP.out) HPC.out).mono ?_
  rintro e w5 ⟨rfl, hd⟩
  have HB5 := Aside0.mk (below_step (below_step HB3.out HBP.out) hd.below)
  have HL5 := Aside0.mk (Kd.C_below HL3.out (HBP.out.trans (hd.below.mono HBP.out.size)))
  clear hd HX3 HL3 HBP HPC
  go_wp2_with fail
  refine (nats_true A3 _ c3 1 [123] _ (Kd.C_below HL5.out (below_alloc (Below.refl _ _) _)) (C_litg w5 w5.heap.size [123] rfl (by decide))).mono ?_
  rintro e w6 ⟨rfl, hd⟩
  have HB6 := Aside0.mk (below_step (below_alloc HB5.out (.cells #[.int .u32 123] 74)) hd.below)
  clear hd
  go_wp2_with fail
  go_ret
  exact ⟨rfl, HB6.out⟩
end Go.Proofs.YtmnmmalffpimeaaDoor

/- The law MatOnes returns true, whatever the number. -/
namespace Go.Proofs.YtmnmmalffpimeaaDoor
open Go.RowKit Go.Extern.Stop Go.Stop Go.Extern Go.Proofs.YtmnmmalffpimeaaDoorW.PrintWords Go.Proofs.YtmnmmalffpimeaaDoorW.PrintLast Go.Proofs.YtmnmmalffpimeaaDoorW.PrintMore
set_option linter.unusedVariables false
set_option linter.unusedSimpArgs false

set_option maxHeartbeats 4000000 in
set_option maxRecDepth 100000 in
theorem ones_calls (S : Nat → Addr) (n : Int) (w : World) (hE : Env S w) : Calls Tryd.prog 3 #[.int .i64 n] w fun e w' => e = .returned (.bool true) ∧ Below w.heap.size w w' := by
  have HE := Aside0.mk hE
  clear hE
  go_enter Tryd.func3, Tryd.ntmps3
  go_wp2_with fail
  refine (awake16_calls S w HE.out).mono ?_
  rintro e w1 ⟨rfl, hb⟩
  have HB1 := Aside0.mk hb
  clear hb
  go_wp2_with fail
  refine (one_calls S n w1 (HE.out.below HB1.out)).mono ?_
  rintro e w2 ⟨va, u, rfl, hva, hu, hb⟩
  obtain ⟨Aa, ca, rfl⟩ := Kd.V_slice hva
  have HA := Aside0.mk (Kd.V_reads' hva).2.2
  have HU := Aside0.mk hu
  have HB2 := Aside0.mk (below_step HB1.out hb)
  clear hva hu hb
  go_wp2_with fail
  refine (rone_calls n w2).mono ?_
  rintro e w3 ⟨vb, u2, rfl, hvb, hu2, hb⟩
  obtain ⟨Ab, cb, rfl⟩ := Kd.V_slice hvb
  obtain ⟨n0, A1, n1, c1, A2, n2, c2, rfl, hn0⟩ := hu2.now.form
  obtain ⟨w4, hw4⟩ : ∃ w4, w3.alloc (.cells #[.int .i64 n0, .slice A1 n1 c1, .slice A2 n2 c2] tErr) = w4 := ⟨_, rfl⟩
  obtain ⟨bx, hbx⟩ : ∃ bx, w3.heap.size = bx := ⟨_, rfl⟩
  have hba : Below w3.heap.size w3 w4 := by rw [← hw4]; exact below_alloc (Below.refl _ _) _
  have HBX : Aside0 (Box3 w4 bx (.int .i64 n0) (.slice A1 n1 c1) (.slice A2 n2 c2)) := ⟨by rw [← hw4, ← hbx]; exact Box3.new _ _ _ _⟩
  have HB := Aside0.mk (Kd.C_below (Kd.V_reads' hvb).2.2 hba)
  have HA3 := Aside0.mk (Kd.C_below (Kd.C_below HA.out hb) hba)
  have HU3 := Aside0.mk ((HU.out.below hb).below hba)
  have HW3 := Aside0.mk (hu2.below hba)
  have HB3 := Aside0.mk (below_step (below_step HB2.out hb) hba)
  have HW4 := Aside0.mk hw4
  have HBXE := Aside0.mk hbx
  clear hvb hu2 hn0 hb HA HU hba
  go_wp2_with ((with_reducible refine gate_dst (N := 20) rfl ?_); refine print_hold ?_)
  unfold Hold
  try rw [hw4]
  try rw [hbx]
  clear hw4 hbx
  refine Kd.N_make KM _ tNats rfl (N' := 20) rfl 23 _ _ rfl (97 : Int) rfl rfl Tryd.underlying23 (.slice none 0 0) 24 info_nats rfl (by decide) (by omega) [] (ok := fun _ => True) (okp := fun _ => False) (FK_nil _ _ _ _) (fun _ hk => hk.elim) trivial (by decide) (by decide) HB3.out HB3.out.size ?_
  intro vo w5 ho hb hg_ hnew_
  have hbl : Below w4.heap.size w4 w5 := (Below.refl _ _).grown hg_ (Nat.le_refl _) (fun k hk => by cases hk)
  obtain ⟨Al, cl, eo⟩ := Kd.N_slice ho
  subst eo
  have HLC := Aside0.mk (Kd.N_reads' ho).2.2
  have HB5 := Aside0.mk hb
  have HA5 := Aside0.mk (Kd.C_below HA3.out hbl)
  have HBB5 := Aside0.mk (Kd.C_below HB.out hbl)
  have HU5 := Aside0.mk (HU3.out.below hbl)
  have HW5 := Aside0.mk (HW3.out.below hbl)
  have HBX5 := Aside0.mk (HBX.out.below hbl)
  clear ho hb hg_ hnew_ hbl HA3 HB HU3 HW3 HBX
  go_wp2_with fail
  refine (same_true Aa Ab ca cb (oneL n) w5 HA5.out HBB5.out).mono ?_
  rintro e w6 ⟨rfl, hd⟩
  have hdb := hd.below
  obtain ⟨k0, k1, k2, z0, z1, z2⟩ := (HBX5.out.below hdb).cells
  have HB6 := Aside0.mk (below_step HB5.out hdb)
  have HA6 := Aside0.mk (Kd.C_below HA5.out hdb)
  have HU6 := Aside0.mk (HU5.out.below hdb)
  have HW6 := Aside0.mk (HW5.out.below hdb)
  have HL6 := Aside0.mk (Kd.C_below HLC.out hdb)
  clear hd hdb HA5 HBB5 HU5 HW5 HBX5 HLC
  go_wp2_with fail
  refine (both_is S (oneO n) u _ w6 (HE.out.below HB6.out) HU6.out HW6.out.now).mono ?_
  rintro e w7 ⟨rfl, hb⟩
  have HB7 := Aside0.mk (below_step HB6.out hb)
  have HA7 := Aside0.mk (Kd.C_below HA6.out hb)
  have HU7 := Aside0.mk (HU6.out.below hb)
  have HL7 := Aside0.mk (Kd.C_below HL6.out hb)
  clear hb HA6 HU6 HW6 HL6 k0 k1 k2 z0 z1 z2
  go_wp2_with fail
  refine (mcheck_calls S Al cl _ w7 (HE.out.below HB7.out) HL7.out).mono ?_
  rintro e w8 ⟨v8, rfl, hv8, hb⟩
  have hck : chk ((List.replicate (97 : Int).toNat ([] : List (List Int))).map List.length) = some (4, [(matS, 0)]) := chk_big (by simp)
  rw [hck] at hv8
  have HV8 := Aside0.mk hv8
  have HB8 := Aside0.mk (below_step HB7.out hb)
  have HA8 := Aside0.mk (Kd.C_below HA7.out hb)
  have HU8 := Aside0.mk (HU7.out.below hb)
  clear hv8 hb hck HA7 HU7 HL7
  go_wp2_with fail
  refine (new_F _ 0 4 w8).mono ?_
  rintro e w9 ⟨v9, rfl, hv9, hb⟩
  have HV9 := Aside0.mk (HV8.out.below hb)
  have HW9 := Aside0.mk hv9
  have HB9 := Aside0.mk (below_step HB8.out hb)
  have HA9 := Aside0.mk (Kd.C_below HA8.out hb)
  have HU9 := Aside0.mk (HU8.out.below hb)
  clear hv9 hb HA8 HU8 HV8
  go_wp2_with fail
  refine (both_is S _ v8 v9 w9 (HE.out.below HB9.out) HV9.out HW9.out.now).mono ?_
  rintro e w10 ⟨rfl, hb⟩
  have HB10 := Aside0.mk (below_step HB9.out hb)
  have HA10 := Aside0.mk (Kd.C_below HA9.out hb)
  have hu10 := HU9.out.below hb
  clear hb HA9 HU9
  rcases hu10.form with rfl | ⟨ut, ux, rfl⟩
  · have hnone : oneO n = none := by
      cases hc : oneO n with
      | none => rfl
      | some p =>
        rw [hc] at hu10
        obtain ⟨t, x, e⟩ := hu10.2.2.form
        cases e
    have hn : 0 ≤ n ∧ n ≤ 96 := by
      unfold oneO at hnone
      by_cases h0 : n < 0
      · rw [if_pos h0] at hnone; cases hnone
      · rw [if_neg h0] at hnone
        by_cases h1 : 96 < n
        · rw [if_pos h1] at hnone; cases hnone
        · omega
    have hl : oneL n = unitM n.toNat := by unfold oneL; rw [if_neg (by omega), if_neg (by omega)]
    have hck : chk ((oneL n).map List.length) = none := by rw [hl]; exact chk_inM (unitM_isM n.toNat).inM (by omega)
    have HCK := Aside0.mk hck
    clear hu10 hnone hn hl hck
    go_wp2_with fail
    refine (mcheck_calls S Aa ca (oneL n) w10 (HE.out.below HB10.out) HA10.out).mono ?_
    rintro e w11 ⟨v11, rfl, hv11, hb⟩
    rw [HCK.out] at hv11
    have hv11 : v11 = .nilIface := hv11
    subst hv11
    have HB11 := Aside0.mk (below_step HB10.out hb)
    clear hb
    go_wp2_with fail
    go_ret
    exact ⟨rfl, HB11.out⟩
  · clear hu10
    go_wp2_with fail
    go_ret
    exact ⟨rfl, HB10.out⟩
end Go.Proofs.YtmnmmalffpimeaaDoor

/- The statement MatOnesCardSaid: edenlaw16.MatOnes returns true whatever is handed in; no condition beyond the row's own. -/
namespace Go.Proofs.YtmnmmalffpimeaaDoor
open Go Go.RowKit Go.WideShapes Go.ChangeShapes Go.ChangeAt
set_option linter.unusedVariables false

set_option maxRecDepth 100000 in
theorem matOnes_lifted (os : Os) (started : os.Started) (H : Type) (enc : TypeId × Value → H) :
    ReturnsInHanded {} Tryd.checked os 3 .any (fun w args => (Rows.matOnesSpec.pre enc Tryd.prog Tryd.f3 [] false w args ∧ laidMetH Tryd.prog Rows.matOnesRow.laid w) ∧ sizedMet enc Tryd.prog Tryd.f3 (OpenSpec.ofChange Rows.matOnesSpec) false w args)
      (Rows.matOnesSpec.post enc Tryd.prog Tryd.f3 false true false false) := by
  refine returnsInHanded_of_change_and (C := Tryd.checked) (X := fun w _ => laidMetH Tryd.prog Rows.matOnesRow.laid w) (fun _ _ _ hh h => h.of_heap hh) ownK started (by kernel_rfl) Tryd.func3
    (ChangeSpec.witness_shaped (enc := enc) (C := Tryd.checked) (os := os) (X := fun w _ => laidMetH Tryd.prog Rows.matOnesRow.laid w) false (startW os) #[.int .i64 0] 8 rfl (World.shaped_of_RefB (by kernel_rfl) (by kernel_rfl)) (by kernel_rfl) (by kernel_rfl) (by kernel_rfl) (start_met1 os _)) ?_
  intro W base args ds gs before hval0 hW _ _ hL _
  have hval : ∀ (j : Nat) t v, Tryd.f3.params[j]? = some t → args[j]? = some v → Value.okWide Tryd.prog W .any base t v := hval0
  have hW' := hW
  obtain ⟨p, q, hA0, hV, rfl, hfz, hnd⟩ := hW
  have hA : DataW.TrodAll enc Tryd.prog W 0 (fun _ => true) true Tryd.f3.params.toList args.toList ds p := hA0
  have hlt : ∀ x ∈ p, x.block < W.heap.size := fun x hx => hW'.lt x (List.mem_append_left _ hx)
  rw [Tryd.params3] at hA hval
  have hA2 := hA
  obtain ⟨v0, d0, rfl, rfl, h0⟩ := trodAll_one hA
  obtain ⟨rfl, rfl⟩ := trodVars_none hV
  obtain ⟨n0, rfl, rfl, rfl, hw0⟩ := open_int Tryd.underlying3 (hval 0 3 v0 rfl rfl) h0
  have hn0 := i64_wf hw0
  obtain ⟨S, hE⟩ := env_one hL
  refine (ones_calls S n0 W hE).mono fun e W' ⟨he, hb⟩ => ?_
  subst he
  exact ⟨_, rfl, post_of_below hW' (fun _ _ _ => trodAll_mk1 (shut_bool Tryd.underlying4 true)) (fun sp hsp => by
    rw [Tryd.params3]
    exact stays_all (by decide +kernel) hA2 (fun x hx => hb.same (hlt x hx)) (fun x hx => hsp x (List.mem_append_left _ hx))) (fun _ _ => rfl) rfl hb (ok_one (by kernel_rfl) rfl (okWide_bool_mk Tryd.underlying4 true))⟩

theorem matOnes_said : Rows.MatOnesSaid :=
  OpenClaim.holds_of_wide 3 Tryd.f3 rfl rfl rfl rfl rfl rfl rfl ⟨rfl, rfl, rfl, rfl, rfl⟩ rfl rfl rfl rfl rfl (by kernel_rfl) Tryd.func3 (by kernel_rfl)
    (of_decide_eq_true (by kernel_rfl)) (by unfold Func.isWrapper; first | (rw [if_pos (by decide +kernel)]; kernel_rfl) | (rw [if_neg (by decide +kernel)]; exact ⟨rfl, rfl⟩))
    (fun os started H enc _ => matOnes_lifted os started H enc)
theorem matOnes_plain (f : FuncId) (fn : Func) (hf : Tryd.pinned.checked.prog.funcNamed "eden/edenlaw16.MatOnes" = some f) (hfn : Tryd.pinned.checked.prog.funcs[f]? = some fn) :
    true = Tryd.pinned.checked.prog.looks [] ∧ ∀ (j : Nat) t, fn.params[j]? = some t → Tryd.pinned.checked.prog.wantsStandIn t = false := by
  obtain rfl : f = 3 := Option.some.inj ((show Tryd.prog.funcNamed "eden/edenlaw16.MatOnes" = some 3 by kernel_rfl).symm.trans hf) |>.symm
  obtain rfl : fn = Tryd.f3 := (Option.some.inj (Tryd.func3.symm.trans hfn)).symm
  refine ⟨by kernel_rfl, fun j t ht => ?_⟩
  rw [Tryd.params3] at ht
  have hm : t ∈ [3] := by simpa using Array.mem_of_getElem? ht
  have hall : ([3].all fun u => !Tryd.prog.wantsStandIn u) = true := by kernel_rfl
  exact (show Tryd.prog.wantsStandIn t = false by simpa using List.all_eq_true.1 hall t hm)
theorem matOnes_card : Rows.MatOnesCardSaid :=
  Claim7.holds_tied_plain_at .later [] _ _ _ _ matOnes_said (fun _ h => by cases h) (by kernel_rfl) (fun _ h => by cases h) matOnes_row_tie rfl ⟨rfl, rfl⟩ (by kernel_rfl) rfl matOnes_plain (by kernel_rfl)
end Go.Proofs.YtmnmmalffpimeaaDoor
