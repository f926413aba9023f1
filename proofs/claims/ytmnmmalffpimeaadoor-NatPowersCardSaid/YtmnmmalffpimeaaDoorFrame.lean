/- What the rows' condition gives a walk, a world in which the door stands, and the row's last step. -/
import Derived.Test.YtmnmmalffpimeaaDoorLong
import Derived.Test.YtmnmmalffpimeaaDoorRows
import Derived.Below
import Derived.ChangeSame
import Derived.ChangeVars
import Derived.JoinedOf
import Derived.WideKeyArgs
import Derived.Stop.LaidErr
import Derived.LaidLaws
import Derived.LaidHandle
import Derived.LaidMore
import Derived.OpenShut
import Derived.ProofKit
import Derived.Stop.Joined
import GoSem.PinnedTables
namespace Go.Proofs.YtmnmmalffpimeaaDoor
open Go.RowKit Go.WideShapes Go.ChangeShapes Go.ChangeAt Go.Extern.Stop Go.Proofs.YtmnmmalffpimeaaDoorW.PrintWords Go.Proofs.YtmnmmalffpimeaaDoorW.PrintLast Go.Proofs.YtmnmmalffpimeaaDoorW.PrintMore Go.Stop Go.Extern
set_option linter.unusedVariables false

theorem post_of_below {H : Type} {enc : TypeId × Value → H} {P : Program} {f : Func} {s : ChangeSpec} {apart fresh handsOn again : Bool} {W W' : World} {args : Array Value} {v : Value} {ds gs : List (DataW H)} {before pa pv : List MemPlace}
    (hW : DataW.Whole enc P f.params.toList s.vars apart W args.toList ds gs before)
    (hres : ∀ (b : Nat) (sp : Nat → Bool) (hd : Bool), DataW.TrodAll enc P W' b sp hd f.resultTypes.toList (v.resultList f.resultTypes.size) (s.fn H (ds ++ gs)).results [])
    (hargs : ∀ sp : Nat → Bool, (∀ p ∈ before, sp p.block = true) → DataW.TrodAll enc P W' 0 sp true f.params.toList args.toList (s.fn H (ds ++ gs)).args pa)
    (hvars : ∀ sp : Nat → Bool, (∀ p ∈ before, sp p.block = true) → DataW.TrodVars enc P W' sp s.vars (s.fn H (ds ++ gs)).vars pv)
    (hps : before = pa ++ pv) (hb : Below W.heap.size W W')
    (hok : ∀ (j : Nat) (t : TypeId) (r : Value), f.resultTypes[j]? = some t → (v.resultList f.resultTypes.size)[j]? = some r → Value.okWide P W' .any 0 t r) :
    s.post enc P f apart fresh handsOn again W args v W' := by
  have hlt : ∀ p ∈ before, p.block < W.heap.size := fun p hp => hW.lt p hp
  have hold : ∀ p ∈ before, (fun b => decide (b < W.heap.size)) p.block = true := fun p hp => by simpa using hlt p hp
  refine ⟨ds, gs, before, [], pa, pv, hW, hres _ _ _, hargs _ hold, hvars _ hold, World.keptBut_mono (fun p hp => ⟨hp, ?_⟩) (hb.frame (· ∈ before)), fun _ => ?_⟩
  · rw [hps, List.mem_append] at hp
    exact Or.inr hp
  · obtain ⟨_, _, _, _, _, hz, hn⟩ := hW
    refine ⟨hok, _, _, ([] ++ pa) ++ pv, ⟨[] ++ pa, pv, trodAll_append (hargs _ (fun _ _ => rfl)) (hres _ _ _), hvars _ (fun _ _ => rfl), rfl, ?_, ?_⟩, ?_⟩
    · intro b off hp
      have hin : MemPlace.cell b off ∈ before := by rw [hps]; simpa using hp
      rw [hb.frozen (hlt _ hin)]
      exact hz b off hin
    · intro ha
      have := hn ha
      rw [hps] at this
      simpa using this
    · intro p hp _
      rw [hps]
      simpa using hp

theorem laidOutP : laidOutB Tryd.prog = true := by kernel_rfl
theorem ownK : ownKnob Tryd.prog.godebug = none := by kernel_rfl

/-- arguments read again in a later world -/
theorem stays_all {H : Type} {enc : TypeId × Value → H} {W W' : World} {sp' : Nat → Bool} : ∀ {ts : List TypeId} {vs : List Value} {ds : List (DataW H)} {ps : List MemPlace},
    (∀ t ∈ ts, Tryd.prog.readableRec t = true ∧ t < Tryd.prog.types.size) → DataW.TrodAll enc Tryd.prog W 0 (fun _ => true) true ts vs ds ps → (∀ p ∈ ps, W.sameAt W' p) → (∀ p ∈ ps, sp' p.block = true) →
    DataW.TrodAll enc Tryd.prog W' 0 sp' true ts vs ds ps
  | [], vs, ds, ps, _, h, _, _ => by obtain ⟨rfl, rfl, rfl⟩ := trodAll_nil h; exact h
  | t :: ts, vs0, ds0, ps0, ht, h, hs, hp => by
    obtain ⟨v, vs, d, ds, p, q, rfl, rfl, rfl, hd, hr⟩ := trodAll_cons h
    exact trodAll_cons_mk (WideElems.Trod_stays laidOutP (ht t List.mem_cons_self).1 (ht t List.mem_cons_self).2 hd (fun x hx => hs x (List.mem_append_left _ hx)) (fun x hx => hp x (List.mem_append_left _ hx)))
      (stays_all (fun u hu => ht u (List.mem_cons_of_mem _ hu)) hr (fun x hx => hs x (List.mem_append_right _ hx)) (fun x hx => hp x (List.mem_append_right _ hx)))

theorem star_ : "*" ++ "errors.errorString" = "*errors.errorString" := by decide
theorem row_es (u : TypeId) (h : Tryd.prog.typeName? 3 u = some "*errors.errorString") : u = 212 :=
  typeName_ptr_named (nm := "errors.errorString") (by rw [star_]; kernel_rfl) (by kernel_rfl) (by decide) u (by rw [star_]; exact h)
theorem cells_es : Tryd.prog.cellsOf 233 = 1 := by kernel_rfl
theorem cells_st : Tryd.prog.cellsOf 9 = 1 := by kernel_rfl
theorem sent {n : String} {text : List UInt8} {r : List (String × DataW Unit)} {W : World} {g : Nat}
    (h : laidMet Tryd.prog ((n, .iface "*errors.errorString" (.ptr (.agg [.lit (.string text)]))) :: r) W) (hg : Tryd.prog.globalNamed n = some g) (ht : (Tryd.prog.globals[g]?).map (·.type) = some 25) :
    ∃ a, W.cell? ⟨g, 0, none⟩ = some (.iface 212 (.pointer (some a))) := by
  obtain ⟨a, s, hv, _⟩ := laid_sentinel h hg ht Tryd.underlying25 row_es Tryd.underlying212 Tryd.underlying233 rfl rfl Tryd.underlying9 cells_es cells_st
  exact ⟨a, by simpa using World.var?_cell hg hv 0⟩

theorem et_ : Tryd.prog.globalNamed "errors.errorType" = some 12 := by kernel_rfl
theorem rt_ : (Tryd.prog.cutTypes.find? (·.1 == "internal/reflectlite.rtype")).map (·.2) = some 174 := by kernel_rfl
theorem oneRow_ : ((List.range Tryd.prog.types.size).filter fun t => Tryd.prog.rowNamed t [101, 114, 114, 111, 114]) = [25] := by kernel_rfl
theorem handle_of {W : World} (h : handlesMet Tryd.prog [("errors.errorType", Rows.laid_errors_errorType)] W) : W.cell? ⟨12, 0, none⟩ = some (.iface 174 (.agg #[.pointer (some ⟨17, 25, none⟩)])) := by
  obtain ⟨name, u, ty, e1, e2, e3, e4, e5⟩ := h _ (List.mem_singleton.2 rfl)
  have en : name = [101, 114, 114, 111, 114] := (Option.some.inj e1).symm
  subst en
  obtain rfl := Option.some.inj (rt_.symm.trans e2)
  have hm : ty ∈ (List.range Tryd.prog.types.size).filter fun t => Tryd.prog.rowNamed t [101, 114, 114, 111, 114] := List.mem_filter.2 ⟨List.mem_range.2 e3, e4⟩
  rw [oneRow_] at hm
  obtain rfl := List.mem_singleton.1 hm
  have hh : typeHandle Tryd.prog 25 = .pointer (some ⟨17, 25, none⟩) := by kernel_rfl
  rw [hh] at e5
  simpa using World.var?_cell et_ e5 0

def sents (r : List (String × DataW Unit)) : List (String × DataW Unit) :=
  ("eden/api.BadRule", Rows.laid_eden_api_BadRule) :: ("eden/api.BadWord", Rows.laid_eden_api_BadWord) :: ("eden/api.BadArg", Rows.laid_eden_api_BadArg) :: ("eden/api.TooBig", Rows.laid_eden_api_TooBig) ::
  ("eden/api.NoBudget", Rows.laid_eden_api_NoBudget) :: ("eden/api.BadText", Rows.laid_eden_api_BadText) :: ("eden/api.BadPatch", Rows.laid_eden_api_BadPatch) :: ("eden/api.BadCert", Rows.laid_eden_api_BadCert) ::
  ("eden/api.NoInverse", Rows.laid_eden_api_NoInverse) :: ("eden/api.BadLine", Rows.laid_eden_api_BadLine) :: ("eden/api.BadState", Rows.laid_eden_api_BadState) :: ("eden/api.Unknown", Rows.laid_eden_api_Unknown) :: r
/-- WHAT THE CONDITION GIVES A WALK -/
theorem env_of {W : World} {r : List (String × DataW Unit)} (h0 : laidMet Tryd.prog (sents r) W) (hh : handlesMet Tryd.prog [("errors.errorType", Rows.laid_errors_errorType)] W) : ∃ S : Nat → Addr, Env S W := by
  unfold sents at h0
  have h1 := h0.tail
  have h2 := h1.tail
  have h3 := h2.tail
  have h4 := h3.tail
  have h5 := h4.tail
  have h6 := h5.tail
  have h7 := h6.tail
  have h8 := h7.tail
  have h9 := h8.tail
  have h10 := h9.tail
  have h11 := h10.tail
  obtain ⟨a1, g1⟩ := sent (g := 0) h0 (by kernel_rfl) (by kernel_rfl)
  obtain ⟨a2, g2⟩ := sent (g := 1) h1 (by kernel_rfl) (by kernel_rfl)
  obtain ⟨a3, g3⟩ := sent (g := 2) h2 (by kernel_rfl) (by kernel_rfl)
  obtain ⟨a4, g4⟩ := sent (g := 3) h3 (by kernel_rfl) (by kernel_rfl)
  obtain ⟨a5, g5⟩ := sent (g := 4) h4 (by kernel_rfl) (by kernel_rfl)
  obtain ⟨a6, g6⟩ := sent (g := 5) h5 (by kernel_rfl) (by kernel_rfl)
  obtain ⟨a7, g7⟩ := sent (g := 6) h6 (by kernel_rfl) (by kernel_rfl)
  obtain ⟨a8, g8⟩ := sent (g := 7) h7 (by kernel_rfl) (by kernel_rfl)
  obtain ⟨a9, g9⟩ := sent (g := 8) h8 (by kernel_rfl) (by kernel_rfl)
  obtain ⟨a10, g10⟩ := sent (g := 9) h9 (by kernel_rfl) (by kernel_rfl)
  obtain ⟨a11, g11⟩ := sent (g := 10) h10 (by kernel_rfl) (by kernel_rfl)
  obtain ⟨a12, g12⟩ := sent (g := 11) h11 (by kernel_rfl) (by kernel_rfl)
  exact ⟨fun n => match n with | 1 => a1 | 2 => a2 | 3 => a3 | 4 => a4 | 5 => a5 | 6 => a6 | 7 => a7 | 8 => a8 | 9 => a9 | 10 => a10 | 11 => a11 | _ => a12, g1, g2, g3, g4, g5, g6, g7, g8, g9, g10, g11, g12, handle_of hh⟩

/-- a world that meets the condition: the heap that the door's own run leaves, the one pinned table laid -/
noncomputable def startW (os : Os) : World :=
  let w0 := World.doorLaid Tryd.prog 600 os
  { w0 with heap := w0.heap.modify 14 fun
      | .cells _ t frozen => .cells (Go.Pinned.utf8FirstZ.map fun (n : Nat) => Value.int .u8 (n : Int)).toArray t frozen
      | o => o }
theorem start_met (os : Os) (args : Array Value) : laidMetH Tryd.prog Rows.natDividesRow.laid ((startW os).forCall (fun _ _ => 0) ⟨#[], args, []⟩).memory :=
  laidMetH_of_parts (laidMet_of_run' 8 (by kernel_rfl) (by kernel_rfl)) (by kernel_rfl)
theorem env_two {W : World} (h : laidMetH Tryd.prog Rows.natDividesRow.laid W) : ∃ S : Nat → Addr, Env S W := by
  have h' : laidMet Tryd.prog (("unicode/utf8.acceptRanges", Rows.laid_unicode_utf8_acceptRanges) :: sents [("unicode/utf8.first", Rows.laid_unicode_utf8_first)]) W ∧ handlesMet Tryd.prog [("errors.errorType", Rows.laid_errors_errorType)] W := h
  exact env_of h'.1.tail h'.2

theorem limbs_of {zs : List Int} (h : ∀ n ∈ zs, (Lit.int .u32 n).wf = true) (k : Nat) : Limbs (zs.take k) := by
  intro x hx
  obtain ⟨j, hj, e⟩ := List.mem_iff_getElem.1 (List.mem_of_mem_take hx)
  have := range_u32 h j
  rw [List.getElem?_eq_getElem hj] at this
  simp only [Option.getD_some] at this
  rw [← e]
  exact ⟨this.1, by omega⟩
set_option maxRecDepth 100000 in
/-- a number's slice, opened -/
theorem open_nat {H : Type} {enc : TypeId × Value → H} {W : World} {base : Nat} {v : Value} {d : DataW H} {p : List MemPlace} (hv : Value.okWide Tryd.prog W .any base 44 v) (h : DataW.Trod enc Tryd.prog W 0 (fun _ => true) true 44 v d p) :
    ∃ A c l, v = .slice A l.length c ∧ l.length ≤ c ∧ Limbs l ∧ Kd.C (Kd.int .u32) W A l.length l := by
  obtain ⟨fuel, hf⟩ := h
  have c74 : Tryd.prog.cellsOf 74 = 1 := by kernel_rfl
  obtain ⟨A0, n0, c0, rfl⟩ := okWide_slice Tryd.underlying44 hv
  rcases open_ints Tryd.underlying44 Tryd.underlying74 c74 hf with ⟨h1, _⟩ | ⟨a, len, cap, zs, h1, _, hl, hm, hz, _, hcell, hw⟩
  · simp [Value.cells] at h1
    obtain ⟨rfl, rfl, rfl⟩ := h1
    exact ⟨none, 0, [], rfl, Nat.le_refl _, (fun x hx => absurd hx List.not_mem_nil), Kd.C_nil _ _⟩
  · simp [Value.cells] at h1
    obtain ⟨rfl, rfl, rfl⟩ := h1
    simp only [if_true] at hz
    have hlen : (zs.take n0).length = n0 := by rw [List.length_take]; omega
    refine ⟨some a, c0, zs.take n0, by rw [hlen], by rw [hlen]; exact hl, limbs_of hw n0, ?_⟩
    refine Kd.C_of_reads (d := 0) ⟨rfl, by rw [hlen]; unfold maxLen at hm; omega, fun _ => ⟨a, rfl, fun j hj => ?_⟩⟩
    rw [hlen] at hj
    rw [hcell j (by omega)]
    simp [List.getD_eq_getElem?_getD, hj]
theorem u32_wf {n : Int} (h : (Lit.int .u32 n).wf = true) : 0 ≤ n ∧ n < 4294967296 := by
  have := range_u32 (zs := [n]) (by simpa using h) 0
  simp only [List.getElem?_cons_zero, Option.getD_some] at this
  omega
theorem i64_wf {n : Int} (h : (Lit.int .i64 n).wf = true) : -9223372036854775808 ≤ n ∧ n ≤ 9223372036854775807 := by
  have := range_i64 (zs := [n]) (by simpa using h) 0
  simp only [List.getElem?_cons_zero, Option.getD_some] at this
  exact this
theorem start_met1 (os : Os) (args : Array Value) : laidMetH Tryd.prog Rows.matOnesRow.laid ((startW os).forCall (fun _ _ => 0) ⟨#[], args, []⟩).memory :=
  laidMetH_of_parts (laidMet_of_run' 8 (by kernel_rfl) (by kernel_rfl)) (by kernel_rfl)
theorem env_one {W : World} (h : laidMetH Tryd.prog Rows.matOnesRow.laid W) : ∃ S : Nat → Addr, Env S W := by
  have h' : laidMet Tryd.prog (sents []) W ∧ handlesMet Tryd.prog [("errors.errorType", Rows.laid_errors_errorType)] W := h
  exact env_of h'.1 h'.2
end Go.Proofs.YtmnmmalffpimeaaDoor
