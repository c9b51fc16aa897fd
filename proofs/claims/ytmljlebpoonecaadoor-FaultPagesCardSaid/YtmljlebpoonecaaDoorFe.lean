/- errors.Join of two errors, and what errors.As answers over a joined error; the one condition is that errors.errorType is laid. -/
import Derived.Test.YtmljlebpoonecaaDoorFd
namespace Go.Proofs.YtmljlebpoonecaaDoor
open Go.RowKit Go.Extern.Stop Go.Stop Go.Extern

/-- Two errors joined. -/
theorem join_two (g : Nat) (c : Nat) (tx ty : TypeId) (x y : Value) (w : World) (h0 : w.cell? ⟨g, 0, none⟩ = some (.iface tx x)) (h1 : w.cell? ⟨g, 1, none⟩ = some (.iface ty y)) :
    Calls Tryd.prog 9 #[.slice (some ⟨g, 0, none⟩) 2 c] w fun e w' => e = .returned (.iface 50 (.pointer (some ⟨w.heap.size + 1, 0, none⟩))) ∧ Below w.heap.size w w' ∧ w.heap.size + 1 < w'.heap.size ∧
      w'.cell? ⟨w.heap.size + 1, 0, none⟩ = some (.slice (some ⟨w.heap.size, 0, none⟩) 2 2) ∧ w'.cell? ⟨w.heap.size, 0, none⟩ = some (.iface tx x) ∧ w'.cell? ⟨w.heap.size, 1, none⟩ = some (.iface ty y) := by
  have hmk : ∀ w, (Instr.makeSlice 49 (.int .i64 0) (.int .i64 2)).run Tryd.prog w = .ok (.slice (some ⟨w.heap.size, 0, none⟩) 0 2) (w.alloc (.cells #[.nilIface, .nilIface] 26)) := fun _ => by kernel_rfl
  have hg : g < w.heap.size := World.block_lt_of_cell? _ _ h0
  have e1 : g < w.heap.size + 1 := by omega
  have e2 : g < w.heap.size + 1 + 1 := by omega
  have e3 : g < w.heap.size + 1 + 1 + 1 := by omega
  go_enter Tryd.func9, Tryd.ntmps9
  go_wp2
  refine wp_loop_rounds 3 ?_
  rw [rounds_succ]
  go_wp2
  rw [rounds_succ]
  go_wp2
  rw [rounds_succ]
  go_wp2
  refine wp_loop_rounds 3 ?_
  rw [rounds_succ]
  go_wp2
  rw [rounds_succ]
  go_wp2
  rw [rounds_succ]
  go_wp2
  go_ret
  exact ⟨rfl, (((((Below.refl _ _).alloc (Nat.le_refl _) _).alloc (by simp) _).alloc (by simp; omega) _).alloc (by simp; omega) _), by simp, by simp [go_sem], by simp [go_sem], by simp [go_sem]⟩
theorem as_joinE (b g q c : Nat) (n : Int) (e : Addr) (x : Value) (a t : Addr) (old : Value) (w : World) (hj : w.cell? ⟨b, 0, none⟩ = some (.slice (some ⟨g, 0, none⟩) 2 c)) (h0 : w.cell? ⟨g, 0, none⟩ = some (.iface 53 (.pointer (some ⟨q, 0, none⟩)))) (h1 : w.cell? ⟨g, 1, none⟩ = some (.iface 44 (.pointer (some e)))) (hq : w.cell? ⟨q, 1, none⟩ = some (.iface 24 (.int .i64 n))) (ha : w.cell? a = some (.pointer (some t))) (ht : w.cell? t = some old) (hf : w.frozen? t = false) :
    Calls Tryd.prog 30 #[.iface 50 (.pointer (some ⟨b, 0, none⟩)), x, .agg #[.pointer (some ⟨4, 58, none⟩), .pointer (some a), .int .u64 150], .iface 76 (.agg #[.pointer (some ⟨4, 24, none⟩)])] w fun ev w' =>
      ev = .returned (.bool true) ∧ ∃ w1, Below w.heap.size w w1 ∧ w' = w1.setCell t (.int .i64 n) := by
  have h21 := @run_callFunc_extern Tryd.prog 21 _ ReflectliteType.typeOf Tryd.func21 (by kernel_rfl) (by kernel_rfl) (by kernel_rfl) (by kernel_rfl)
  have h27 := @run_callFunc_extern Tryd.prog 27 _ (fun args => ReflectliteValue.unpack (args.getD 0 (.tuple #[]))) Tryd.func27 (by kernel_rfl) (by kernel_rfl) (by kernel_rfl) (by kernel_rfl)
  have h34 := @run_callFunc_extern Tryd.prog 34 _ (ReflectliteValue.method (ReflectliteValue.valueError "reflectlite.Value.Elem" 0) ReflectliteValue.elem) Tryd.func34 (by kernel_rfl) (by kernel_rfl) (by kernel_rfl) (by kernel_rfl)
  have h35 := @run_callFunc_extern Tryd.prog 35 _ ReflectliteValue.set Tryd.func35 (by kernel_rfl) (by kernel_rfl) (by kernel_rfl) (by kernel_rfl)
  have h75 := @run_callFunc_extern Tryd.prog 75 _ (ReflectliteType.relation "AssignableTo" ReflectliteType.assignableTo) Tryd.func75 (by kernel_rfl) (by kernel_rfl) (by kernel_rfl) (by kernel_rfl)
  have m75 := methodAssignableTo
  have q1a := taJoinAs
  have q1u := taJoinUnw
  have q1us := taJoinUnws
  have q1t := typeOfJoin
  have q1m := methodJoinUnwrap
  have zJoin := assignJoinToErrno
  have hj' : (w.alloc (.cells #[.pointer (some ⟨4, 58, none⟩), .pointer (some a), .int .u64 150] 68)).cell? ⟨b, 0, none⟩ = some (.slice (some ⟨g, 0, none⟩) 2 c) := by rw [World.cell?_alloc_lt _ _ _ (World.block_lt_of_cell? _ _ hj)]; exact hj
  have h0' : (w.alloc (.cells #[.pointer (some ⟨4, 58, none⟩), .pointer (some a), .int .u64 150] 68)).cell? ⟨g, 0, none⟩ = some (.iface 53 (.pointer (some ⟨q, 0, none⟩))) := by rw [World.cell?_alloc_lt _ _ _ (World.block_lt_of_cell? _ _ h0)]; exact h0
  have h1' : (w.alloc (.cells #[.pointer (some ⟨4, 58, none⟩), .pointer (some a), .int .u64 150] 68)).cell? ⟨g, 1, none⟩ = some (.iface 44 (.pointer (some e))) := by rw [World.cell?_alloc_lt _ _ _ (World.block_lt_of_cell? _ _ h1)]; exact h1
  have hq' : (w.alloc (.cells #[.pointer (some ⟨4, 58, none⟩), .pointer (some a), .int .u64 150] 68)).cell? ⟨q, 1, none⟩ = some (.iface 24 (.int .i64 n)) := by rw [World.cell?_alloc_lt _ _ _ (World.block_lt_of_cell? _ _ hq)]; exact hq
  have ha' : (w.alloc (.cells #[.pointer (some ⟨4, 58, none⟩), .pointer (some a), .int .u64 150] 68)).cell? a = some (.pointer (some t)) := by rw [World.cell?_alloc_lt _ _ _ (World.block_lt_of_cell? _ _ ha)]; exact ha
  have ht' : (w.alloc (.cells #[.pointer (some ⟨4, 58, none⟩), .pointer (some a), .int .u64 150] 68)).cell? t = some (old) := by rw [World.cell?_alloc_lt _ _ _ (World.block_lt_of_cell? _ _ ht)]; exact ht
  have hf' : (w.alloc (.cells #[.pointer (some ⟨4, 58, none⟩), .pointer (some a), .int .u64 150] 68)).frozen? t = false := by rw [World.frozen?_alloc_old _ _ _ (Nat.ne_of_lt (World.block_lt_of_cell? _ _ ht))]; exact hf
  have hbox : (w.alloc (.cells #[.pointer (some ⟨4, 58, none⟩), .pointer (some a), .int .u64 150] 68)).heap.size = w.heap.size + 1 := by simp
  clear hj h0 h1 hq ha ht hf
  go_enter Tryd.func30, Tryd.ntmps30
  go_wp2
  refine wp_loop_rounds 1 ?_
  rw [rounds_succ]
  go_wp2_with (go_at_call 68; refine (join_unwrap _ _ _ hj').mono ?_; rintro e w' ⟨rfl, rfl⟩)
  refine wp_loop_rounds 1 ?_
  rw [rounds_succ]
  go_wp2_with fail
  refine (as_ahead_errnoE q n x a t old _ hq' ha' ht' hf').mono ?_
  rintro _ _ ⟨rfl, w1, hb1, rfl⟩
  go_wp2
  go_ret
  exact ⟨rfl, _, ((Below.refl _ _).alloc (Nat.le_refl _) _).trans (hb1.mono (by simp)), rfl⟩
theorem as_joinP (b g q c : Nat) (n : Int) (e : Addr) (x : Value) (a t : Addr) (old : Value) (w : World) (hj : w.cell? ⟨b, 0, none⟩ = some (.slice (some ⟨g, 0, none⟩) 2 c)) (h0 : w.cell? ⟨g, 0, none⟩ = some (.iface 53 (.pointer (some ⟨q, 0, none⟩)))) (h1 : w.cell? ⟨g, 1, none⟩ = some (.iface 44 (.pointer (some e)))) (hq : w.cell? ⟨q, 1, none⟩ = some (.iface 24 (.int .i64 n))) (ha : w.cell? a = some (.pointer (some t))) (ht : w.cell? t = some old) (hf : w.frozen? t = false) :
    Calls Tryd.prog 30 #[.iface 50 (.pointer (some ⟨b, 0, none⟩)), x, .agg #[.pointer (some ⟨4, 57, none⟩), .pointer (some a), .int .u64 150], .iface 76 (.agg #[.pointer (some ⟨4, 44, none⟩)])] w fun ev w' =>
      ev = .returned (.bool true) ∧ ∃ w1, Below w.heap.size w w1 ∧ w' = w1.setCell t (.pointer (some e)) := by
  have h21 := @run_callFunc_extern Tryd.prog 21 _ ReflectliteType.typeOf Tryd.func21 (by kernel_rfl) (by kernel_rfl) (by kernel_rfl) (by kernel_rfl)
  have h27 := @run_callFunc_extern Tryd.prog 27 _ (fun args => ReflectliteValue.unpack (args.getD 0 (.tuple #[]))) Tryd.func27 (by kernel_rfl) (by kernel_rfl) (by kernel_rfl) (by kernel_rfl)
  have h34 := @run_callFunc_extern Tryd.prog 34 _ (ReflectliteValue.method (ReflectliteValue.valueError "reflectlite.Value.Elem" 0) ReflectliteValue.elem) Tryd.func34 (by kernel_rfl) (by kernel_rfl) (by kernel_rfl) (by kernel_rfl)
  have h35 := @run_callFunc_extern Tryd.prog 35 _ ReflectliteValue.set Tryd.func35 (by kernel_rfl) (by kernel_rfl) (by kernel_rfl) (by kernel_rfl)
  have h75 := @run_callFunc_extern Tryd.prog 75 _ (ReflectliteType.relation "AssignableTo" ReflectliteType.assignableTo) Tryd.func75 (by kernel_rfl) (by kernel_rfl) (by kernel_rfl) (by kernel_rfl)
  have m75 := methodAssignableTo
  have q1a := taJoinAs
  have q1u := taJoinUnw
  have q1us := taJoinUnws
  have q1t := typeOfJoin
  have q1m := methodJoinUnwrap
  have zJoin := assignJoinToPage
  have hj' : (w.alloc (.cells #[.pointer (some ⟨4, 57, none⟩), .pointer (some a), .int .u64 150] 68)).cell? ⟨b, 0, none⟩ = some (.slice (some ⟨g, 0, none⟩) 2 c) := by rw [World.cell?_alloc_lt _ _ _ (World.block_lt_of_cell? _ _ hj)]; exact hj
  have h0' : (w.alloc (.cells #[.pointer (some ⟨4, 57, none⟩), .pointer (some a), .int .u64 150] 68)).cell? ⟨g, 0, none⟩ = some (.iface 53 (.pointer (some ⟨q, 0, none⟩))) := by rw [World.cell?_alloc_lt _ _ _ (World.block_lt_of_cell? _ _ h0)]; exact h0
  have h1' : (w.alloc (.cells #[.pointer (some ⟨4, 57, none⟩), .pointer (some a), .int .u64 150] 68)).cell? ⟨g, 1, none⟩ = some (.iface 44 (.pointer (some e))) := by rw [World.cell?_alloc_lt _ _ _ (World.block_lt_of_cell? _ _ h1)]; exact h1
  have hq' : (w.alloc (.cells #[.pointer (some ⟨4, 57, none⟩), .pointer (some a), .int .u64 150] 68)).cell? ⟨q, 1, none⟩ = some (.iface 24 (.int .i64 n)) := by rw [World.cell?_alloc_lt _ _ _ (World.block_lt_of_cell? _ _ hq)]; exact hq
  have ha' : (w.alloc (.cells #[.pointer (some ⟨4, 57, none⟩), .pointer (some a), .int .u64 150] 68)).cell? a = some (.pointer (some t)) := by rw [World.cell?_alloc_lt _ _ _ (World.block_lt_of_cell? _ _ ha)]; exact ha
  have ht' : (w.alloc (.cells #[.pointer (some ⟨4, 57, none⟩), .pointer (some a), .int .u64 150] 68)).cell? t = some (old) := by rw [World.cell?_alloc_lt _ _ _ (World.block_lt_of_cell? _ _ ht)]; exact ht
  have hf' : (w.alloc (.cells #[.pointer (some ⟨4, 57, none⟩), .pointer (some a), .int .u64 150] 68)).frozen? t = false := by rw [World.frozen?_alloc_old _ _ _ (Nat.ne_of_lt (World.block_lt_of_cell? _ _ ht))]; exact hf
  have eb : b < w.heap.size := World.block_lt_of_cell? _ _ hj
  have eg : g < w.heap.size := World.block_lt_of_cell? _ _ h0
  have ea : a.block < w.heap.size := World.block_lt_of_cell? _ _ ha
  have et : t.block < w.heap.size := World.block_lt_of_cell? _ _ ht
  clear hj h0 h1 hq ha ht hf
  go_enter Tryd.func30, Tryd.ntmps30
  go_wp2
  refine wp_loop_rounds 1 ?_
  rw [rounds_succ]
  go_wp2_with (go_at_call 68; refine (join_unwrap _ _ _ hj').mono ?_; rintro e w' ⟨rfl, rfl⟩)
  refine wp_loop_rounds 2 ?_
  rw [rounds_succ]
  go_wp2_with fail
  refine (as_ahead_errnoP q n x a _ hq').mono ?_
  rintro _ w1 ⟨rfl, hb1⟩
  have k1 : w1.cell? ⟨g, 1, none⟩ = some (.iface 44 (.pointer (some e))) := by rw [hb1.cell (by simp; omega)]; exact h1'
  have k2 : w1.cell? a = some (.pointer (some t)) := by rw [hb1.cell (by simp; omega)]; exact ha'
  have k3 : w1.cell? t = some old := by rw [hb1.cell (by simp; omega)]; exact ht'
  have k4 : w1.frozen? t = false := by rw [hb1.frozen (by simp; omega)]; exact hf'
  have k5 : w1.cell? ⟨w.heap.size, 0, none⟩ = some (.pointer (some ⟨4, 57, none⟩)) := by rw [hb1.cell (by simp)]; simp
  have k6 : w1.cell? ⟨w.heap.size, 1, none⟩ = some (.pointer (some a)) := by rw [hb1.cell (by simp)]; simp
  have k7 : w1.cell? ⟨w.heap.size, 2, none⟩ = some (.int .u64 150) := by rw [hb1.cell (by simp)]; simp
  have hB := ((Below.refl w.heap.size w).alloc (Nat.le_refl _) (.cells #[.pointer (some ⟨4, 57, none⟩), .pointer (some a), .int .u64 150] 68)).trans (hb1.mono (by simp))
  have HB := Lib.hid hB
  have HB1 := Lib.hid hb1
  clear hB hb1 hj' h0' h1' hq' ha' ht' hf'
  go_wp2
  rw [rounds_succ]
  go_wp2_with fail
  refine (as_pageP e x a t old _ k2 k3 k4).mono ?_
  rintro _ _ ⟨rfl, w2, hb2, rfl⟩
  go_wp2
  go_ret
  exact ⟨rfl, _, HB.out.trans (hb2.mono HB.out.size), rfl⟩
end Go.Proofs.YtmljlebpoonecaaDoor
