/- Closed facts on the model entries for internal/reflectlite that errors.As reaches, in every world. -/
import Derived.Test.YtmljlebpoonecaaDoorFb
namespace Go.Proofs.YtmljlebpoonecaaDoor
open Go.RowKit Go.Extern.Stop Go.Stop Go.Extern

theorem call76 (w : World) : (callFunc 76 #[.agg #[.pointer (some ⟨4, 24, none⟩)]]).run Tryd.prog w = .ok (.value (.bool true)) w := by kernel_rfl
/-- errors.Is asks errors.is, the target being a number of package api. -/
theorem Is_of (t : TypeId) (v : Value) (m : Int) (r : Value) (w : World)
    (h : ∀ w, Calls Tryd.prog 22 #[.iface t v, .iface 24 (.int .i64 m), .bool true] w fun e w' => e = .returned r ∧ w' = w) :
    Calls Tryd.prog 14 #[.iface t v, .iface 24 (.int .i64 m)] w fun e w' => e = .returned r ∧ w' = w := by
  have h21 := @run_callFunc_extern Tryd.prog 21 _ ReflectliteType.typeOf Tryd.func21 (by kernel_rfl) (by kernel_rfl) (by kernel_rfl) (by kernel_rfl)
  have h76 := call76
  have f1 := typeOfErrno
  have f3 := methodComparable
  go_enter Tryd.func14, Tryd.ntmps14
  go_wp2_with fail
  refine (h _).mono ?_
  rintro e w' ⟨rfl, rfl⟩
  go_wp2
  go_ret
  exact ⟨rfl, rfl⟩

/-- errors.as at a number, the target being of numbers. -/
theorem as_errnoE (n : Int) (x : Value) (a t : Addr) (old : Value) (w : World) (ha : w.cell? a = some (.pointer (some t))) (ht : w.cell? t = some old) (hf : w.frozen? t = false) :
    Calls Tryd.prog 30 #[.iface 24 (.int .i64 n), x, .agg #[.pointer (some ⟨4, 58, none⟩), .pointer (some a), .int .u64 150], .iface 76 (.agg #[.pointer (some ⟨4, 24, none⟩)])] w fun e w' =>
      e = .returned (.bool true) ∧ ∃ w1, Below w.heap.size w w1 ∧ w' = w1.setCell t (.int .i64 n) := by
  have h21 := @run_callFunc_extern Tryd.prog 21 _ ReflectliteType.typeOf Tryd.func21 (by kernel_rfl) (by kernel_rfl) (by kernel_rfl) (by kernel_rfl)
  have h27 := @run_callFunc_extern Tryd.prog 27 _ (fun args => ReflectliteValue.unpack (args.getD 0 (.tuple #[]))) Tryd.func27 (by kernel_rfl) (by kernel_rfl) (by kernel_rfl) (by kernel_rfl)
  have h34 := @run_callFunc_extern Tryd.prog 34 _ (ReflectliteValue.method (ReflectliteValue.valueError "reflectlite.Value.Elem" 0) ReflectliteValue.elem) Tryd.func34 (by kernel_rfl) (by kernel_rfl) (by kernel_rfl) (by kernel_rfl)
  have h35 := @run_callFunc_extern Tryd.prog 35 _ ReflectliteValue.set Tryd.func35 (by kernel_rfl) (by kernel_rfl) (by kernel_rfl) (by kernel_rfl)
  have h75 := @run_callFunc_extern Tryd.prog 75 _ (ReflectliteType.relation "AssignableTo" ReflectliteType.assignableTo) Tryd.func75 (by kernel_rfl) (by kernel_rfl) (by kernel_rfl) (by kernel_rfl)
  have m75 := methodAssignableTo
  have k1 := typeOfErrno
  have k2 := assignErrnoToErrno
  have k3 := valueOfElE n
  have hal := World.block_lt_of_cell? _ _ ha
  have htl := World.block_lt_of_cell? _ _ ht
  have el := elemVE a t (w.alloc (.cells #[.pointer (some ⟨4, 58, none⟩), .pointer (some a), .int .u64 150] 68)) (by rw [World.cell?_alloc_lt _ _ _ hal]; exact ha)
  have st := setE t ⟨w.heap.size + 1, 0, none⟩ n old ((w.alloc (.cells #[.pointer (some ⟨4, 58, none⟩), .pointer (some a), .int .u64 150] 68)).alloc (.cells #[.int .i64 n] 24))
    (by rw [World.cell?_alloc_at _ _ _ _ (by simp)]; rfl)
    (by rw [World.cell?_alloc_lt _ _ t (by simp; omega), World.cell?_alloc_lt _ _ t htl]; exact ht)
    (by rw [World.frozen?_alloc_old _ _ t (by simp; omega), World.frozen?_alloc_old _ _ t (Nat.ne_of_lt htl)]; exact hf)
  go_enter Tryd.func30, Tryd.ntmps30
  go_wp2
  refine wp_loop_rounds 1 ?_
  rw [rounds_succ]
  go_wp2
  go_ret
  exact ⟨rfl, _, ((Below.refl _ _).alloc (Nat.le_refl _) _).alloc (by simp) _, rfl⟩
end Go.Proofs.YtmljlebpoonecaaDoor
