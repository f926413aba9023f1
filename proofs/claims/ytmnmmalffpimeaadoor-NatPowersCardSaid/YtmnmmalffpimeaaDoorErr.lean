/- Errors: what fault.New and fault.Under make, and that errors.Is finds the error at the end of a chain of Faults. -/
import Derived.Test.YtmnmmalffpimeaaDoorMem
import Derived.LaidEql
import Derived.Stop.Asserts
import Derived.RowKitTokens
import Derived.Outline
namespace Go.Proofs.YtmnmmalffpimeaaDoor
open Go.RowKit Go.Extern.Stop Go.Stop Go.Extern Go.Proofs.YtmnmmalffpimeaaDoorW.PrintWords Go.Proofs.YtmnmmalffpimeaaDoorW.PrintLast Go.Proofs.YtmnmmalffpimeaaDoorW.PrintMore
set_option linter.unusedVariables false
set_option linter.unusedSimpArgs false

/-- an error value: a chain of Faults, at its end the n-th of the errors themselves -/
def ErrAt (S : Nat → Addr) (w : World) (n : Nat) : List (ByteArray × Int) → Value → Prop
  | [], v => v = .iface 212 (.pointer (some (S n)))
  | p :: rest, v => ∃ (b : Nat) (v' : Value), v = .iface 100 (.pointer (some ⟨b, 0, none⟩)) ∧ w.cell? ⟨b, 0, none⟩ = some (.string p.1) ∧ w.cell? ⟨b, 1, none⟩ = some (.int .i64 p.2) ∧ w.cell? ⟨b, 2, none⟩ = some v' ∧ ErrAt S w n rest v'
theorem ErrAt.below {S : Nat → Addr} {w w1 : World} {n : Nat} (hb : Below w.heap.size w w1) : ∀ {l : List (ByteArray × Int)} {v : Value}, ErrAt S w n l v → ErrAt S w1 n l v
  | [], _, h => h
  | p :: rest, v, ⟨b, v', h1, h2, h3, h4, h5⟩ => ⟨b, v', h1, pw_cell_below hb h2, pw_cell_below hb h3, pw_cell_below hb h4, ErrAt.below hb h5⟩
theorem ErrAt.form {S : Nat → Addr} {w : World} {n : Nat} : ∀ {l : List (ByteArray × Int)} {v : Value}, ErrAt S w n l v → ∃ t x, v = .iface t x
  | [], _, h => ⟨_, _, h⟩
  | p :: rest, v, ⟨b, v', h1, _⟩ => ⟨_, _, h1⟩

theorem isTypeOf (v : Value) (w : World) : (Extern.ReflectliteType.typeOf #[.iface 212 v]).run Tryd.prog w = .ok (.iface 174 (.agg #[.pointer (some ⟨17, 212, none⟩)])) w := by kernel_rfl
theorem isComp : (Tryd.prog.info? 212).map (·.comparable) = some true := by kernel_rfl
theorem isSize : (Tryd.prog.info? 233).map (·.size) = some 1 := by kernel_rfl
theorem noIsF (v : Value) (xT : TypeId) (w : World) : (Instr.typeAssert (.iface 100 v) xT 176 true).run Tryd.prog w = .ok (.tuple #[.nilIface, .bool false]) w := run_typeAssert_lacksB Tryd.underlying176 (by kernel_rfl) (by kernel_rfl) v xT w
theorem hasUnwrapF (v : Value) (xT : TypeId) (w : World) : (Instr.typeAssert (.iface 100 v) xT 179 true).run Tryd.prog w = .ok (.tuple #[.iface 100 v, .bool true]) w := run_typeAssert_hasB Tryd.underlying179 (by kernel_rfl) v xT w

theorem isComparable (w : World) : (callFunc 194 #[.agg #[.pointer (some ⟨17, 212, none⟩)]]).run Tryd.prog w = .ok (.value (.bool true)) w := by
  have h := @run_callFunc_extern Tryd.prog 194 _ (Extern.ReflectliteType.method fun t => do Extern.Rtype.noPackHeld "Comparable" t; pure (.bool (← typeInfo t).comparable)) Tryd.func194 (by kernel_rfl) (by kernel_rfl) (by kernel_rfl) (by kernel_rfl)
  have c : ((Extern.ReflectliteType.method fun t => do Extern.Rtype.noPackHeld "Comparable" t; pure (.bool (← typeInfo t).comparable)) #[.agg #[.pointer (some ⟨17, 212, none⟩)]]).run Tryd.prog w = .ok (.bool true) w := by kernel_rfl
  rw [h, c]; rfl
theorem isMethodComparable (v : Value) (w : World) : (Go.method 345 174 v "Comparable").run Tryd.prog w = .ok (194, v) w := by kernel_rfl
theorem methodUnwrap (v : Value) (w : World) : (Go.method 345 100 v "Unwrap").run Tryd.prog w = .ok (188, v) w := by kernel_rfl

theorem unwrap_calls (b : Nat) (v : Value) (w : World) (hc : w.cell? ⟨b, 2, none⟩ = some v) :
    Calls Tryd.prog 188 #[.pointer (some ⟨b, 0, none⟩)] w fun e w' => e = .returned v ∧ w = w' := by
  go_enter Tryd.func188, Tryd.ntmps188
  go_wp2
  go_ret
  exact ⟨rfl, rfl⟩


set_option maxHeartbeats 1000000 in
set_option maxRecDepth 100000 in
theorem is_loop (S : Nat → Addr) (n : Nat) (l : List (ByteArray × Int)) (v : Value) (w : World) (h : ErrAt S w n l v) :
    Calls Tryd.prog 120 #[v, .iface 212 (.pointer (some (S n))), .bool true] w fun e w' => e = .returned (.bool true) ∧ w = w' := by
  obtain ⟨i, hi, hcmp⟩ := Option.map_eq_some_iff.1 isComp
  obtain ⟨j, hj, hjs⟩ := Option.map_eq_some_iff.1 isSize
  obtain ⟨a, ha⟩ : ∃ a, S n = a := ⟨_, rfl⟩
  have heq := run_eql_iface_ptr_same (P := Tryd.prog) w a Tryd.underlying25 Tryd.underlying212 hi hcmp hj
  have hne := fun (x : Value) => run_eql_iface_types (P := Tryd.prog) 100 212 x (.pointer (some a)) Tryd.underlying25 (by decide) w
  have H := Aside0.mk h
  rw [ha]
  have HA := Aside0.mk ha
  clear h hjs ha hi hcmp hj
  have nF := noIsF
  have uF := hasUnwrapF
  have mU := methodUnwrap
  go_enter Tryd.func120, Tryd.ntmps120
  go_wp2_with fail
  go_loopg [0] l.length (fun kq v0 w' => ∃ rest : List (ByteArray × Int), Aside0 (ErrAt S w n rest v0) ∧ Aside0 (kq = rest.length) ∧ w = w')
  case atStart => exact ⟨l, H, ⟨rfl⟩, rfl⟩
  case round =>
    obtain ⟨rest, HE, HK, rfl⟩ := hrel
    cases rest with
    | nil =>
      have h0 := HE.out
      simp only [ErrAt] at h0
      rw [HA.out] at h0
      subst h0
      go_wp2
      go_ret
      exact ⟨rfl, rfl⟩
    | cons p rest =>
      obtain ⟨b, v', h1, h2, h3, h4, h5⟩ := HE.out
      subst h1
      obtain ⟨t, x, rfl⟩ := h5.form
      have H5 := Aside0.mk h5
      clear h5 heq h2 h3
      go_wp2_with (go_at_call 188; refine (unwrap_calls _ _ _ h4).mono ?_; rintro e w' ⟨rfl, rfl⟩)
      go_roundg rest.length
      case measure => have := HK.out; simp only [List.length_cons] at this; omega
      case rel => exact ⟨rest, H5, ⟨rfl⟩, rfl⟩
set_option maxHeartbeats 1000000 in
set_option maxRecDepth 100000 in
theorem is_calls (S : Nat → Addr) (n : Nat) (l : List (ByteArray × Int)) (v : Value) (w : World) (h : ErrAt S w n l v) :
    Calls Tryd.prog 70 #[v, .iface 212 (.pointer (some (S n)))] w fun e w' => e = .returned (.bool true) ∧ w = w' := by
  obtain ⟨i, hi, hcmp⟩ := Option.map_eq_some_iff.1 isComp
  obtain ⟨j, hj, hjs⟩ := Option.map_eq_some_iff.1 isSize
  obtain ⟨a, ha⟩ : ∃ a, S n = a := ⟨_, rfl⟩
  have heq := run_eql_iface_ptr_same (P := Tryd.prog) w a Tryd.underlying25 Tryd.underlying212 hi hcmp hj
  obtain ⟨t, x, rfl⟩ := h.form
  have H := Aside0.mk h
  have HA := Aside0.mk ha
  clear h hjs ha hi hcmp hj heq
  have h8 := @run_callFunc_extern Tryd.prog 119 _ Extern.ReflectliteType.typeOf Tryd.func119 (by kernel_rfl) (by kernel_rfl) (by kernel_rfl) (by kernel_rfl)
  have tT := isTypeOf
  have cT := isComparable
  have mR := isMethodComparable
  go_enter Tryd.func70, Tryd.ntmps70
  go_wp2_with (go_at_call 120; refine (is_loop S n l _ _ (by exact H.out)).mono ?_; rintro e w' ⟨rfl, rfl⟩)
  go_ret
  exact ⟨rfl, rfl⟩
end Go.Proofs.YtmnmmalffpimeaaDoor
