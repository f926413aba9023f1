/- The errors themselves in memory, and what fault.New, fault.Under, edenraw.New, edenraw.Root make of them. -/
import Derived.Test.YtmnmmalffpimeaaDoorErrAs
namespace Go.Proofs.YtmnmmalffpimeaaDoor
open Go.RowKit Go.Extern.Stop Go.Stop Go.Extern Go.Proofs.YtmnmmalffpimeaaDoorW.PrintWords Go.Proofs.YtmnmmalffpimeaaDoorW.PrintLast Go.Proofs.YtmnmmalffpimeaaDoorW.PrintMore
set_option linter.unusedVariables false
set_option linter.unusedSimpArgs false

/-- the package-level errors lie where the program's text lays them -/
structure Env (S : Nat → Addr) (w : World) : Prop where
  g1 : w.cell? ⟨0, 0, none⟩ = some (.iface 212 (.pointer (some (S 1))))
  g2 : w.cell? ⟨1, 0, none⟩ = some (.iface 212 (.pointer (some (S 2))))
  g3 : w.cell? ⟨2, 0, none⟩ = some (.iface 212 (.pointer (some (S 3))))
  g4 : w.cell? ⟨3, 0, none⟩ = some (.iface 212 (.pointer (some (S 4))))
  g5 : w.cell? ⟨4, 0, none⟩ = some (.iface 212 (.pointer (some (S 5))))
  g6 : w.cell? ⟨5, 0, none⟩ = some (.iface 212 (.pointer (some (S 6))))
  g7 : w.cell? ⟨6, 0, none⟩ = some (.iface 212 (.pointer (some (S 7))))
  g8 : w.cell? ⟨7, 0, none⟩ = some (.iface 212 (.pointer (some (S 8))))
  g9 : w.cell? ⟨8, 0, none⟩ = some (.iface 212 (.pointer (some (S 9))))
  g10 : w.cell? ⟨9, 0, none⟩ = some (.iface 212 (.pointer (some (S 10))))
  g11 : w.cell? ⟨10, 0, none⟩ = some (.iface 212 (.pointer (some (S 11))))
  g12 : w.cell? ⟨11, 0, none⟩ = some (.iface 212 (.pointer (some (S 12))))
  et : w.cell? ⟨12, 0, none⟩ = some (.iface 174 (.agg #[.pointer (some ⟨17, 25, none⟩)]))
theorem Env.below {S : Nat → Addr} {w w1 : World} (h : Env S w) (hb : Below w.heap.size w w1) : Env S w1 :=
  ⟨pw_cell_below hb h.g1, pw_cell_below hb h.g2, pw_cell_below hb h.g3, pw_cell_below hb h.g4, pw_cell_below hb h.g5, pw_cell_below hb h.g6, pw_cell_below hb h.g7, pw_cell_below hb h.g8, pw_cell_below hb h.g9, pw_cell_below hb h.g10, pw_cell_below hb h.g11, pw_cell_below hb h.g12, pw_cell_below hb h.et⟩

/-- an error's number -/
def Num (n : Int) : Prop := n = 1 ∨ n = 2 ∨ n = 3 ∨ n = 4 ∨ n = 5 ∨ n = 6 ∨ n = 7 ∨ n = 8 ∨ n = 9 ∨ n = 10 ∨ n = 11

set_option maxHeartbeats 4000000 in
theorem root_calls (S : Nat → Addr) (n : Int) (hn : Num n) (w : World) (h : Env S w) :
    Calls Tryd.prog 71 #[.int .i64 n] w fun e w' => e = .returned (.iface 212 (.pointer (some (S n.toNat)))) ∧ w = w' := by
  obtain ⟨g1, g2, g3, g4, g5, g6, g7, g8, g9, g10, g11, g12, _⟩ := h
  rcases hn with rfl | rfl | rfl | rfl | rfl | rfl | rfl | rfl | rfl | rfl | rfl
  all_goals
    go_enter Tryd.func71, Tryd.ntmps71
    go_wp2
    go_ret
    exact ⟨rfl, rfl⟩
set_option maxHeartbeats 4000000 in
theorem froot_calls (S : Nat → Addr) (n : Int) (hn : Num n) (w : World) (h : Env S w) :
    Calls Tryd.prog 141 #[.int .i64 n] w fun e w' => e = .returned (.iface 212 (.pointer (some (S n.toNat)))) ∧ w = w' := by
  obtain ⟨g1, g2, g3, g4, g5, g6, g7, g8, g9, g10, g11, g12, _⟩ := h
  rcases hn with rfl | rfl | rfl | rfl | rfl | rfl | rfl | rfl | rfl | rfl | rfl
  all_goals
    go_enter Tryd.func141, Tryd.ntmps141
    go_wp2
    go_ret
    exact ⟨rfl, rfl⟩

/-- what a call that answers an error leaves -/
def ErrRes (S : Nat → Addr) (w : World) (n : Nat) (l : List (ByteArray × Int)) (e : Ending) (w' : World) : Prop := ∃ v, e = .returned v ∧ ErrAt S w' n l v ∧ Below w.heap.size w w'
set_option maxHeartbeats 1000000 in
theorem fnew_calls (S : Nat → Addr) (op : ByteArray) (pos n : Int) (hn : Num n) (w : World) (h : Env S w) :
    Calls Tryd.prog 104 #[.string op, .int .i64 pos, .int .i64 n] w (ErrRes S w n.toNat [(op, pos)]) := by
  have H := Aside0.mk h
  have HN := Aside0.mk hn
  have hnb : (n == 0) = false := by rw [beq_eq_false_iff_ne]; unfold Num at hn; omega
  clear h hn
  go_enter Tryd.func104, Tryd.ntmps104
  go_wp2_with (go_at_call 141; refine (froot_calls S n HN.out _ H.out).mono ?_; rintro e w' ⟨rfl, rfl⟩)
  go_ret
  exact ⟨_, rfl, ⟨w.heap.size, _, rfl, by simp, by simp, by simp, rfl⟩, below_alloc (Below.refl _ _) _⟩
set_option maxHeartbeats 1000000 in
theorem funder_calls (S : Nat → Addr) (op : ByteArray) (pos : Int) (n : Nat) (l : List (ByteArray × Int)) (v : Value) (w : World) (h : ErrAt S w n l v) :
    Calls Tryd.prog 84 #[.string op, .int .i64 pos, v] w (ErrRes S w n ((op, pos) :: l)) := by
  obtain ⟨t, x, rfl⟩ := h.form
  have H := Aside0.mk (h.below (below_alloc (Below.refl w.heap.size w) (.cells #[.string op, .int .i64 pos, .iface t x] 104)))
  clear h
  go_enter Tryd.func84, Tryd.ntmps84
  go_wp2
  go_ret
  exact ⟨_, rfl, ⟨w.heap.size, _, rfl, by simp, by simp, by simp, H.out⟩, below_alloc (Below.refl _ _) _⟩
set_option maxHeartbeats 1000000 in
theorem funder_nil (op : ByteArray) (pos : Int) (w : World) :
    Calls Tryd.prog 84 #[.string op, .int .i64 pos, .nilIface] w fun e w' => e = .returned .nilIface ∧ w = w' := by
  go_enter Tryd.func84, Tryd.ntmps84
  go_wp2
  go_ret
  exact ⟨rfl, rfl⟩
end Go.Proofs.YtmnmmalffpimeaaDoor
