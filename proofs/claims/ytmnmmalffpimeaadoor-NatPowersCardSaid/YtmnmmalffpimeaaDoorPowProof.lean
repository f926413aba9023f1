/- The statement NatPowersCardSaid: edenlaw02.NatPowers returns true whatever is handed in; no condition beyond the row's own. -/
import Derived.Test.YtmnmmalffpimeaaDoorFrame
import Derived.Test.YtmnmmalffpimeaaDoorPowWalk
import Derived.Test.YtmnmmalffpimeaaDoorCards
import Derived.Test.YtmnmmalffpimeaaDoorTie
import Derived.SevenTiedAt
namespace Go.Proofs.YtmnmmalffpimeaaDoor
open Go Go.RowKit Go.WideShapes Go.ChangeShapes Go.ChangeAt
set_option linter.unusedVariables false

set_option maxRecDepth 100000 in
theorem natPowers_lifted (os : Os) (started : os.Started) (H : Type) (enc : TypeId × Value → H) :
    ReturnsInHanded {} Tryd.checked os 10 .any (fun w args => (Rows.natPowersSpec.pre enc Tryd.prog Tryd.f10 [] false w args ∧ laidMetH Tryd.prog Rows.natPowersRow.laid w) ∧ sizedMet enc Tryd.prog Tryd.f10 (OpenSpec.ofChange Rows.natPowersSpec) false w args)
      (Rows.natPowersSpec.post enc Tryd.prog Tryd.f10 false true false false) := by
  refine returnsInHanded_of_change_and (C := Tryd.checked) (X := fun w _ => laidMetH Tryd.prog Rows.natPowersRow.laid w) (fun _ _ _ hh h => h.of_heap hh) ownK started (by kernel_rfl) Tryd.func10
    (ChangeSpec.witness_shaped (enc := enc) (C := Tryd.checked) (os := os) (X := fun w _ => laidMetH Tryd.prog Rows.natPowersRow.laid w) false (startW os) #[.int .u32 0, .int .i64 0, .int .i64 0] 8 rfl (World.shaped_of_RefB (by kernel_rfl) (by kernel_rfl)) (by kernel_rfl) (by kernel_rfl) (by kernel_rfl) (start_met os _)) ?_
  intro W base args ds gs before hval0 hW _ _ hL _
  have hval : ∀ (j : Nat) t v, Tryd.f10.params[j]? = some t → args[j]? = some v → Value.okWide Tryd.prog W .any base t v := hval0
  have hW' := hW
  obtain ⟨p, q, hA0, hV, rfl, hfz, hnd⟩ := hW
  have hA : DataW.TrodAll enc Tryd.prog W 0 (fun _ => true) true Tryd.f10.params.toList args.toList ds p := hA0
  have hlt : ∀ x ∈ p, x.block < W.heap.size := fun x hx => hW'.lt x (List.mem_append_left _ hx)
  rw [Tryd.params10] at hA hval
  have hA2 := hA
  obtain ⟨v0, v1, v2, d0, d1, d2, p0, p1, p2, rfl, rfl, rfl, h0, h1, h2⟩ := trodAll_three hA
  obtain ⟨rfl, rfl⟩ := trodVars_none hV
  obtain ⟨n0, rfl, rfl, rfl, hw0⟩ := open_int Tryd.underlying74 (hval 0 74 v0 rfl rfl) h0
  have hn0 := u32_wf hw0
  obtain ⟨n1, rfl, rfl, rfl, hw1⟩ := open_int Tryd.underlying3 (hval 1 3 v1 rfl rfl) h1
  have hn1 := i64_wf hw1
  obtain ⟨n2, rfl, rfl, rfl, hw2⟩ := open_int Tryd.underlying3 (hval 2 3 v2 rfl rfl) h2
  have hn2 := i64_wf hw2
  obtain ⟨S, hE⟩ := env_two hL
  refine (powers_calls S n0 n1 n2 W hE hn0 hn1).mono fun e W' ⟨he, hb⟩ => ?_
  subst he
  exact ⟨_, rfl, post_of_below hW' (fun _ _ _ => trodAll_mk1 (shut_bool Tryd.underlying4 true)) (fun sp hsp => by
    rw [Tryd.params10]
    exact stays_all (by decide +kernel) hA2 (fun x hx => hb.same (hlt x hx)) (fun x hx => hsp x (List.mem_append_left _ hx))) (fun _ _ => rfl) rfl hb (ok_one (by kernel_rfl) rfl (okWide_bool_mk Tryd.underlying4 true))⟩

theorem natPowers_said : Rows.NatPowersSaid :=
  OpenClaim.holds_of_wide 10 Tryd.f10 rfl rfl rfl rfl rfl rfl rfl ⟨rfl, rfl, rfl, rfl, rfl⟩ rfl rfl rfl rfl rfl (by kernel_rfl) Tryd.func10 (by kernel_rfl)
    (of_decide_eq_true (by kernel_rfl)) (by unfold Func.isWrapper; first | (rw [if_pos (by decide +kernel)]; kernel_rfl) | (rw [if_neg (by decide +kernel)]; exact ⟨rfl, rfl⟩))
    (fun os started H enc _ => natPowers_lifted os started H enc)
theorem natPowers_plain (f : FuncId) (fn : Func) (hf : Tryd.pinned.checked.prog.funcNamed "eden/edenlaw02.NatPowers" = some f) (hfn : Tryd.pinned.checked.prog.funcs[f]? = some fn) :
    true = Tryd.pinned.checked.prog.looks [] ∧ ∀ (j : Nat) t, fn.params[j]? = some t → Tryd.pinned.checked.prog.wantsStandIn t = false := by
  obtain rfl : f = 10 := Option.some.inj ((show Tryd.prog.funcNamed "eden/edenlaw02.NatPowers" = some 10 by kernel_rfl).symm.trans hf) |>.symm
  obtain rfl : fn = Tryd.f10 := (Option.some.inj (Tryd.func10.symm.trans hfn)).symm
  refine ⟨by kernel_rfl, fun j t ht => ?_⟩
  rw [Tryd.params10] at ht
  have hm : t ∈ [74, 3, 3] := by simpa using Array.mem_of_getElem? ht
  have hall : ([74, 3, 3].all fun u => !Tryd.prog.wantsStandIn u) = true := by kernel_rfl
  exact (show Tryd.prog.wantsStandIn t = false by simpa using List.all_eq_true.1 hall t hm)
theorem natPowers_card : Rows.NatPowersCardSaid :=
  Claim7.holds_tied_plain_at .later [] _ _ _ _ natPowers_said (fun _ h => by cases h) (by kernel_rfl) (fun _ h => by cases h) natPowers_row_tie rfl ⟨rfl, rfl⟩ (by kernel_rfl) rfl natPowers_plain (by kernel_rfl)
#print axioms natPowers_card
end Go.Proofs.YtmnmmalffpimeaaDoor
