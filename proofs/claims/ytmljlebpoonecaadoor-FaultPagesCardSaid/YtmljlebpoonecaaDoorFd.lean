/- errors.As finds, or does not find, a page fault in each kind of error of layer 7; the one condition is that errors.errorType is laid. -/
import Derived.Test.YtmljlebpoonecaaDoorFc
namespace Go.Proofs.YtmljlebpoonecaaDoor
open Go.RowKit Go.Extern.Stop Go.Stop Go.Extern

theorem bcell {W w1 : World} (hb : Below W.heap.size W w1) : (∀ b o, b < W.heap.size → w1.cell? ⟨b, o, none⟩ = W.cell? ⟨b, o, none⟩) ∧ (∀ b o, b < W.heap.size → w1.frozen? ⟨b, o, none⟩ = W.frozen? ⟨b, o, none⟩) :=
  ⟨fun b o h => hb.cell (p := ⟨b, o, none⟩) h, fun b o h => hb.frozen (p := ⟨b, o, none⟩) h⟩

theorem as_ahead_errnoE (b : Nat) (n : Int) (x : Value) (a t : Addr) (old : Value) (w : World) (hb : w.cell? ⟨b, 1, none⟩ = some (.iface 24 (.int .i64 n))) (ha : w.cell? a = some (.pointer (some t))) (ht : w.cell? t = some old) (hf : w.frozen? t = false) :
    Calls Tryd.prog 30 #[.iface 53 (.pointer (some ⟨b, 0, none⟩)), x, .agg #[.pointer (some ⟨4, 58, none⟩), .pointer (some a), .int .u64 150], .iface 76 (.agg #[.pointer (some ⟨4, 24, none⟩)])] w fun ev w' =>
      ev = .returned (.bool true) ∧ ∃ w1, Below w.heap.size w w1 ∧ w' = w1.setCell t (.int .i64 n) := by
  have h21 := @run_callFunc_extern Tryd.prog 21 _ ReflectliteType.typeOf Tryd.func21 (by kernel_rfl) (by kernel_rfl) (by kernel_rfl) (by kernel_rfl)
  have h27 := @run_callFunc_extern Tryd.prog 27 _ (fun args => ReflectliteValue.unpack (args.getD 0 (.tuple #[]))) Tryd.func27 (by kernel_rfl) (by kernel_rfl) (by kernel_rfl) (by kernel_rfl)
  have h34 := @run_callFunc_extern Tryd.prog 34 _ (ReflectliteValue.method (ReflectliteValue.valueError "reflectlite.Value.Elem" 0) ReflectliteValue.elem) Tryd.func34 (by kernel_rfl) (by kernel_rfl) (by kernel_rfl) (by kernel_rfl)
  have h35 := @run_callFunc_extern Tryd.prog 35 _ ReflectliteValue.set Tryd.func35 (by kernel_rfl) (by kernel_rfl) (by kernel_rfl) (by kernel_rfl)
  have h75 := @run_callFunc_extern Tryd.prog 75 _ (ReflectliteType.relation "AssignableTo" ReflectliteType.assignableTo) Tryd.func75 (by kernel_rfl) (by kernel_rfl) (by kernel_rfl) (by kernel_rfl)
  have m75 := methodAssignableTo
  have q1a := taAheadAs
  have q1u := taAheadUnw
  have q1us := taAheadUnws
  have q1t := typeOfAhead
  have q1m := methodAheadUnwrap
  have q2a := taErrnoAs
  have q2u := taErrnoUnw
  have q2us := taErrnoUnws
  have q2t := typeOfErrno
  have zAhead := assignAheadToErrno
  have zErrno := assignErrnoToErrno
  have k3 := valueOfElE n
  have hal := World.block_lt_of_cell? _ _ ha
  have htl := World.block_lt_of_cell? _ _ ht
  have el := elemVE a t (w.alloc (.cells #[.pointer (some ⟨4, 58, none⟩), .pointer (some a), .int .u64 150] 68)) (by rw [World.cell?_alloc_lt _ _ _ hal]; exact ha)
  have st := setE t ⟨w.heap.size + 1, 0, none⟩ n old ((w.alloc (.cells #[.pointer (some ⟨4, 58, none⟩), .pointer (some a), .int .u64 150] 68)).alloc (.cells #[.int .i64 n] 24))
    (by rw [World.cell?_alloc_at _ _ _ _ (by simp)]; rfl)
    (by rw [World.cell?_alloc_lt _ _ t (by simp; omega), World.cell?_alloc_lt _ _ t htl]; exact ht)
    (by rw [World.frozen?_alloc_old _ _ t (by simp; omega), World.frozen?_alloc_old _ _ t (Nat.ne_of_lt htl)]; exact hf)
  have hb1 : (w.alloc (.cells #[.pointer (some ⟨4, 58, none⟩), .pointer (some a), .int .u64 150] 68)).cell? ⟨b, 1, none⟩ = some (.iface 24 (.int .i64 n)) := by rw [World.cell?_alloc_lt _ _ _ (World.block_lt_of_cell? _ _ hb)]; exact hb
  clear hb
  go_enter Tryd.func30, Tryd.ntmps30
  go_wp2
  refine wp_loop_rounds 2 ?_
  rw [rounds_succ]
  go_wp2_with (go_at_call 70; refine (ahead_unwrap _ _ _ hb1).mono ?_; rintro e w' ⟨rfl, rfl⟩)
  rw [rounds_succ]
  go_wp2
  go_ret
  exact ⟨rfl, _, ((Below.refl _ _).alloc (Nat.le_refl _) _).alloc (by simp) _, rfl⟩
theorem as_ahead_pageE (b : Nat) (p : Value) (x : Value) (a t : Addr) (old : Value) (w : World) (hb : w.cell? ⟨b, 1, none⟩ = some (.iface 44 p)) (ha : w.cell? a = some (.pointer (some t))) (ht : w.cell? t = some old) (hf : w.frozen? t = false) :
    Calls Tryd.prog 30 #[.iface 53 (.pointer (some ⟨b, 0, none⟩)), x, .agg #[.pointer (some ⟨4, 58, none⟩), .pointer (some a), .int .u64 150], .iface 76 (.agg #[.pointer (some ⟨4, 24, none⟩)])] w fun ev w' =>
      ev = .returned (.bool true) ∧ ∃ w1, Below w.heap.size w w1 ∧ w' = w1.setCell t (.int .i64 4) := by
  have h21 := @run_callFunc_extern Tryd.prog 21 _ ReflectliteType.typeOf Tryd.func21 (by kernel_rfl) (by kernel_rfl) (by kernel_rfl) (by kernel_rfl)
  have h27 := @run_callFunc_extern Tryd.prog 27 _ (fun args => ReflectliteValue.unpack (args.getD 0 (.tuple #[]))) Tryd.func27 (by kernel_rfl) (by kernel_rfl) (by kernel_rfl) (by kernel_rfl)
  have h34 := @run_callFunc_extern Tryd.prog 34 _ (ReflectliteValue.method (ReflectliteValue.valueError "reflectlite.Value.Elem" 0) ReflectliteValue.elem) Tryd.func34 (by kernel_rfl) (by kernel_rfl) (by kernel_rfl) (by kernel_rfl)
  have h35 := @run_callFunc_extern Tryd.prog 35 _ ReflectliteValue.set Tryd.func35 (by kernel_rfl) (by kernel_rfl) (by kernel_rfl) (by kernel_rfl)
  have h75 := @run_callFunc_extern Tryd.prog 75 _ (ReflectliteType.relation "AssignableTo" ReflectliteType.assignableTo) Tryd.func75 (by kernel_rfl) (by kernel_rfl) (by kernel_rfl) (by kernel_rfl)
  have m75 := methodAssignableTo
  have q1a := taAheadAs
  have q1u := taAheadUnw
  have q1us := taAheadUnws
  have q1t := typeOfAhead
  have q1m := methodAheadUnwrap
  have q2a := taErrnoAs
  have q2u := taErrnoUnw
  have q2us := taErrnoUnws
  have q2t := typeOfErrno
  have q3a := taPageAs
  have q3u := taPageUnw
  have q3us := taPageUnws
  have q3t := typeOfPage
  have q3m := methodPageUnwrap
  have zAhead := assignAheadToErrno
  have zErrno := assignErrnoToErrno
  have zPage := assignPageToErrno
  have k3 := valueOfElE 4
  have hal := World.block_lt_of_cell? _ _ ha
  have htl := World.block_lt_of_cell? _ _ ht
  have el := elemVE a t (w.alloc (.cells #[.pointer (some ⟨4, 58, none⟩), .pointer (some a), .int .u64 150] 68)) (by rw [World.cell?_alloc_lt _ _ _ hal]; exact ha)
  have st := setE t ⟨w.heap.size + 1, 0, none⟩ 4 old ((w.alloc (.cells #[.pointer (some ⟨4, 58, none⟩), .pointer (some a), .int .u64 150] 68)).alloc (.cells #[.int .i64 4] 24))
    (by rw [World.cell?_alloc_at _ _ _ _ (by simp)]; rfl)
    (by rw [World.cell?_alloc_lt _ _ t (by simp; omega), World.cell?_alloc_lt _ _ t htl]; exact ht)
    (by rw [World.frozen?_alloc_old _ _ t (by simp; omega), World.frozen?_alloc_old _ _ t (Nat.ne_of_lt htl)]; exact hf)
  have hb1 : (w.alloc (.cells #[.pointer (some ⟨4, 58, none⟩), .pointer (some a), .int .u64 150] 68)).cell? ⟨b, 1, none⟩ = some (.iface 44 p) := by rw [World.cell?_alloc_lt _ _ _ (World.block_lt_of_cell? _ _ hb)]; exact hb
  clear hb
  go_enter Tryd.func30, Tryd.ntmps30
  go_wp2
  refine wp_loop_rounds 3 ?_
  rw [rounds_succ]
  go_wp2_with (go_at_call 70; refine (ahead_unwrap _ _ _ hb1).mono ?_; rintro e w' ⟨rfl, rfl⟩)
  rw [rounds_succ]
  go_wp2_with (go_at_call 15; refine (page_unwrap _ _).mono ?_; rintro e w' ⟨rfl, rfl⟩)
  rw [rounds_succ]
  go_wp2
  go_ret
  exact ⟨rfl, _, ((Below.refl _ _).alloc (Nat.le_refl _) _).alloc (by simp) _, rfl⟩
theorem as_strE (v x : Value) (a : Addr) (w : World) :
    Calls Tryd.prog 30 #[.iface 46 v, x, .agg #[.pointer (some ⟨4, 58, none⟩), .pointer (some a), .int .u64 150], .iface 76 (.agg #[.pointer (some ⟨4, 24, none⟩)])] w fun ev w' =>
      ev = .returned (.bool false) ∧ Below w.heap.size w w' := by
  have h21 := @run_callFunc_extern Tryd.prog 21 _ ReflectliteType.typeOf Tryd.func21 (by kernel_rfl) (by kernel_rfl) (by kernel_rfl) (by kernel_rfl)
  have h27 := @run_callFunc_extern Tryd.prog 27 _ (fun args => ReflectliteValue.unpack (args.getD 0 (.tuple #[]))) Tryd.func27 (by kernel_rfl) (by kernel_rfl) (by kernel_rfl) (by kernel_rfl)
  have h34 := @run_callFunc_extern Tryd.prog 34 _ (ReflectliteValue.method (ReflectliteValue.valueError "reflectlite.Value.Elem" 0) ReflectliteValue.elem) Tryd.func34 (by kernel_rfl) (by kernel_rfl) (by kernel_rfl) (by kernel_rfl)
  have h35 := @run_callFunc_extern Tryd.prog 35 _ ReflectliteValue.set Tryd.func35 (by kernel_rfl) (by kernel_rfl) (by kernel_rfl) (by kernel_rfl)
  have h75 := @run_callFunc_extern Tryd.prog 75 _ (ReflectliteType.relation "AssignableTo" ReflectliteType.assignableTo) Tryd.func75 (by kernel_rfl) (by kernel_rfl) (by kernel_rfl) (by kernel_rfl)
  have m75 := methodAssignableTo
  have q1a := taStrAs
  have q1u := taStrUnw
  have q1us := taStrUnws
  have q1t := typeOfStr
  have zStr := assignStrToErrno
  go_enter Tryd.func30, Tryd.ntmps30
  go_wp2
  refine wp_loop_rounds 1 ?_
  rw [rounds_succ]
  go_wp2
  go_ret
  exact ⟨rfl, (Below.refl _ _).alloc (Nat.le_refl _) _⟩
theorem as_ahead_strE (b : Nat) (v x : Value) (a : Addr) (w : World) (hb : w.cell? ⟨b, 1, none⟩ = some (.iface 46 v)) :
    Calls Tryd.prog 30 #[.iface 53 (.pointer (some ⟨b, 0, none⟩)), x, .agg #[.pointer (some ⟨4, 58, none⟩), .pointer (some a), .int .u64 150], .iface 76 (.agg #[.pointer (some ⟨4, 24, none⟩)])] w fun ev w' =>
      ev = .returned (.bool false) ∧ Below w.heap.size w w' := by
  have h21 := @run_callFunc_extern Tryd.prog 21 _ ReflectliteType.typeOf Tryd.func21 (by kernel_rfl) (by kernel_rfl) (by kernel_rfl) (by kernel_rfl)
  have h27 := @run_callFunc_extern Tryd.prog 27 _ (fun args => ReflectliteValue.unpack (args.getD 0 (.tuple #[]))) Tryd.func27 (by kernel_rfl) (by kernel_rfl) (by kernel_rfl) (by kernel_rfl)
  have h34 := @run_callFunc_extern Tryd.prog 34 _ (ReflectliteValue.method (ReflectliteValue.valueError "reflectlite.Value.Elem" 0) ReflectliteValue.elem) Tryd.func34 (by kernel_rfl) (by kernel_rfl) (by kernel_rfl) (by kernel_rfl)
  have h35 := @run_callFunc_extern Tryd.prog 35 _ ReflectliteValue.set Tryd.func35 (by kernel_rfl) (by kernel_rfl) (by kernel_rfl) (by kernel_rfl)
  have h75 := @run_callFunc_extern Tryd.prog 75 _ (ReflectliteType.relation "AssignableTo" ReflectliteType.assignableTo) Tryd.func75 (by kernel_rfl) (by kernel_rfl) (by kernel_rfl) (by kernel_rfl)
  have m75 := methodAssignableTo
  have q1a := taStrAs
  have q1u := taStrUnw
  have q1us := taStrUnws
  have q1t := typeOfStr
  have q2a := taAheadAs
  have q2u := taAheadUnw
  have q2us := taAheadUnws
  have q2t := typeOfAhead
  have q2m := methodAheadUnwrap
  have zStr := assignStrToErrno
  have zAhead := assignAheadToErrno
  have hb1 : (w.alloc (.cells #[.pointer (some ⟨4, 58, none⟩), .pointer (some a), .int .u64 150] 68)).cell? ⟨b, 1, none⟩ = some (.iface 46 v) := by rw [World.cell?_alloc_lt _ _ _ (World.block_lt_of_cell? _ _ hb)]; exact hb
  clear hb
  go_enter Tryd.func30, Tryd.ntmps30
  go_wp2
  refine wp_loop_rounds 2 ?_
  rw [rounds_succ]
  go_wp2_with (go_at_call 70; refine (ahead_unwrap _ _ _ hb1).mono ?_; rintro e w' ⟨rfl, rfl⟩)
  rw [rounds_succ]
  go_wp2
  go_ret
  exact ⟨rfl, (Below.refl _ _).alloc (Nat.le_refl _) _⟩
theorem as_pageP (e : Addr) (x : Value) (a t : Addr) (old : Value) (w : World) (ha : w.cell? a = some (.pointer (some t))) (ht : w.cell? t = some old) (hf : w.frozen? t = false) :
    Calls Tryd.prog 30 #[.iface 44 (.pointer (some e)), x, .agg #[.pointer (some ⟨4, 57, none⟩), .pointer (some a), .int .u64 150], .iface 76 (.agg #[.pointer (some ⟨4, 44, none⟩)])] w fun ev w' =>
      ev = .returned (.bool true) ∧ ∃ w1, Below w.heap.size w w1 ∧ w' = w1.setCell t (.pointer (some e)) := by
  have h21 := @run_callFunc_extern Tryd.prog 21 _ ReflectliteType.typeOf Tryd.func21 (by kernel_rfl) (by kernel_rfl) (by kernel_rfl) (by kernel_rfl)
  have h27 := @run_callFunc_extern Tryd.prog 27 _ (fun args => ReflectliteValue.unpack (args.getD 0 (.tuple #[]))) Tryd.func27 (by kernel_rfl) (by kernel_rfl) (by kernel_rfl) (by kernel_rfl)
  have h34 := @run_callFunc_extern Tryd.prog 34 _ (ReflectliteValue.method (ReflectliteValue.valueError "reflectlite.Value.Elem" 0) ReflectliteValue.elem) Tryd.func34 (by kernel_rfl) (by kernel_rfl) (by kernel_rfl) (by kernel_rfl)
  have h35 := @run_callFunc_extern Tryd.prog 35 _ ReflectliteValue.set Tryd.func35 (by kernel_rfl) (by kernel_rfl) (by kernel_rfl) (by kernel_rfl)
  have h75 := @run_callFunc_extern Tryd.prog 75 _ (ReflectliteType.relation "AssignableTo" ReflectliteType.assignableTo) Tryd.func75 (by kernel_rfl) (by kernel_rfl) (by kernel_rfl) (by kernel_rfl)
  have m75 := methodAssignableTo
  have q1a := taPageAs
  have q1u := taPageUnw
  have q1us := taPageUnws
  have q1t := typeOfPage
  have q1m := methodPageUnwrap
  have zPage := assignPageToPage
  have k3 := valueOfElP e
  have hal := World.block_lt_of_cell? _ _ ha
  have htl := World.block_lt_of_cell? _ _ ht
  have el := elemVP a t (w.alloc (.cells #[.pointer (some ⟨4, 57, none⟩), .pointer (some a), .int .u64 150] 68)) (by rw [World.cell?_alloc_lt _ _ _ hal]; exact ha)
  have st := setP t ⟨w.heap.size + 1, 0, none⟩ e old ((w.alloc (.cells #[.pointer (some ⟨4, 57, none⟩), .pointer (some a), .int .u64 150] 68)).alloc (.cells #[.pointer (some e)] 44))
    (by rw [World.cell?_alloc_at _ _ _ _ (by simp)]; rfl)
    (by rw [World.cell?_alloc_lt _ _ t (by simp; omega), World.cell?_alloc_lt _ _ t htl]; exact ht)
    (by rw [World.frozen?_alloc_old _ _ t (by simp; omega), World.frozen?_alloc_old _ _ t (Nat.ne_of_lt htl)]; exact hf)
  go_enter Tryd.func30, Tryd.ntmps30
  go_wp2
  refine wp_loop_rounds 1 ?_
  rw [rounds_succ]
  go_wp2
  go_ret
  exact ⟨rfl, _, ((Below.refl _ _).alloc (Nat.le_refl _) _).alloc (by simp) _, rfl⟩
theorem as_ahead_pageP (b : Nat) (e : Addr) (x : Value) (a t : Addr) (old : Value) (w : World) (hb : w.cell? ⟨b, 1, none⟩ = some (.iface 44 (.pointer (some e)))) (ha : w.cell? a = some (.pointer (some t))) (ht : w.cell? t = some old) (hf : w.frozen? t = false) :
    Calls Tryd.prog 30 #[.iface 53 (.pointer (some ⟨b, 0, none⟩)), x, .agg #[.pointer (some ⟨4, 57, none⟩), .pointer (some a), .int .u64 150], .iface 76 (.agg #[.pointer (some ⟨4, 44, none⟩)])] w fun ev w' =>
      ev = .returned (.bool true) ∧ ∃ w1, Below w.heap.size w w1 ∧ w' = w1.setCell t (.pointer (some e)) := by
  have h21 := @run_callFunc_extern Tryd.prog 21 _ ReflectliteType.typeOf Tryd.func21 (by kernel_rfl) (by kernel_rfl) (by kernel_rfl) (by kernel_rfl)
  have h27 := @run_callFunc_extern Tryd.prog 27 _ (fun args => ReflectliteValue.unpack (args.getD 0 (.tuple #[]))) Tryd.func27 (by kernel_rfl) (by kernel_rfl) (by kernel_rfl) (by kernel_rfl)
  have h34 := @run_callFunc_extern Tryd.prog 34 _ (ReflectliteValue.method (ReflectliteValue.valueError "reflectlite.Value.Elem" 0) ReflectliteValue.elem) Tryd.func34 (by kernel_rfl) (by kernel_rfl) (by kernel_rfl) (by kernel_rfl)
  have h35 := @run_callFunc_extern Tryd.prog 35 _ ReflectliteValue.set Tryd.func35 (by kernel_rfl) (by kernel_rfl) (by kernel_rfl) (by kernel_rfl)
  have h75 := @run_callFunc_extern Tryd.prog 75 _ (ReflectliteType.relation "AssignableTo" ReflectliteType.assignableTo) Tryd.func75 (by kernel_rfl) (by kernel_rfl) (by kernel_rfl) (by kernel_rfl)
  have m75 := methodAssignableTo
  have q1a := taAheadAs
  have q1u := taAheadUnw
  have q1us := taAheadUnws
  have q1t := typeOfAhead
  have q1m := methodAheadUnwrap
  have q2a := taPageAs
  have q2u := taPageUnw
  have q2us := taPageUnws
  have q2t := typeOfPage
  have q2m := methodPageUnwrap
  have zAhead := assignAheadToPage
  have zPage := assignPageToPage
  have k3 := valueOfElP e
  have hal := World.block_lt_of_cell? _ _ ha
  have htl := World.block_lt_of_cell? _ _ ht
  have el := elemVP a t (w.alloc (.cells #[.pointer (some ⟨4, 57, none⟩), .pointer (some a), .int .u64 150] 68)) (by rw [World.cell?_alloc_lt _ _ _ hal]; exact ha)
  have st := setP t ⟨w.heap.size + 1, 0, none⟩ e old ((w.alloc (.cells #[.pointer (some ⟨4, 57, none⟩), .pointer (some a), .int .u64 150] 68)).alloc (.cells #[.pointer (some e)] 44))
    (by rw [World.cell?_alloc_at _ _ _ _ (by simp)]; rfl)
    (by rw [World.cell?_alloc_lt _ _ t (by simp; omega), World.cell?_alloc_lt _ _ t htl]; exact ht)
    (by rw [World.frozen?_alloc_old _ _ t (by simp; omega), World.frozen?_alloc_old _ _ t (Nat.ne_of_lt htl)]; exact hf)
  have hb1 : (w.alloc (.cells #[.pointer (some ⟨4, 57, none⟩), .pointer (some a), .int .u64 150] 68)).cell? ⟨b, 1, none⟩ = some (.iface 44 (.pointer (some e))) := by rw [World.cell?_alloc_lt _ _ _ (World.block_lt_of_cell? _ _ hb)]; exact hb
  clear hb
  go_enter Tryd.func30, Tryd.ntmps30
  go_wp2
  refine wp_loop_rounds 2 ?_
  rw [rounds_succ]
  go_wp2_with (go_at_call 70; refine (ahead_unwrap _ _ _ hb1).mono ?_; rintro e w' ⟨rfl, rfl⟩)
  rw [rounds_succ]
  go_wp2
  go_ret
  exact ⟨rfl, _, ((Below.refl _ _).alloc (Nat.le_refl _) _).alloc (by simp) _, rfl⟩
theorem as_ahead_errnoP (b : Nat) (n : Int) (x : Value) (a : Addr) (w : World) (hb : w.cell? ⟨b, 1, none⟩ = some (.iface 24 (.int .i64 n))) :
    Calls Tryd.prog 30 #[.iface 53 (.pointer (some ⟨b, 0, none⟩)), x, .agg #[.pointer (some ⟨4, 57, none⟩), .pointer (some a), .int .u64 150], .iface 76 (.agg #[.pointer (some ⟨4, 44, none⟩)])] w fun ev w' =>
      ev = .returned (.bool false) ∧ Below w.heap.size w w' := by
  have h21 := @run_callFunc_extern Tryd.prog 21 _ ReflectliteType.typeOf Tryd.func21 (by kernel_rfl) (by kernel_rfl) (by kernel_rfl) (by kernel_rfl)
  have h27 := @run_callFunc_extern Tryd.prog 27 _ (fun args => ReflectliteValue.unpack (args.getD 0 (.tuple #[]))) Tryd.func27 (by kernel_rfl) (by kernel_rfl) (by kernel_rfl) (by kernel_rfl)
  have h34 := @run_callFunc_extern Tryd.prog 34 _ (ReflectliteValue.method (ReflectliteValue.valueError "reflectlite.Value.Elem" 0) ReflectliteValue.elem) Tryd.func34 (by kernel_rfl) (by kernel_rfl) (by kernel_rfl) (by kernel_rfl)
  have h35 := @run_callFunc_extern Tryd.prog 35 _ ReflectliteValue.set Tryd.func35 (by kernel_rfl) (by kernel_rfl) (by kernel_rfl) (by kernel_rfl)
  have h75 := @run_callFunc_extern Tryd.prog 75 _ (ReflectliteType.relation "AssignableTo" ReflectliteType.assignableTo) Tryd.func75 (by kernel_rfl) (by kernel_rfl) (by kernel_rfl) (by kernel_rfl)
  have m75 := methodAssignableTo
  have q1a := taErrnoAs
  have q1u := taErrnoUnw
  have q1us := taErrnoUnws
  have q1t := typeOfErrno
  have q2a := taAheadAs
  have q2u := taAheadUnw
  have q2us := taAheadUnws
  have q2t := typeOfAhead
  have q2m := methodAheadUnwrap
  have zErrno := assignErrnoToPage
  have zAhead := assignAheadToPage
  have hb1 : (w.alloc (.cells #[.pointer (some ⟨4, 57, none⟩), .pointer (some a), .int .u64 150] 68)).cell? ⟨b, 1, none⟩ = some (.iface 24 (.int .i64 n)) := by rw [World.cell?_alloc_lt _ _ _ (World.block_lt_of_cell? _ _ hb)]; exact hb
  clear hb
  go_enter Tryd.func30, Tryd.ntmps30
  go_wp2
  refine wp_loop_rounds 2 ?_
  rw [rounds_succ]
  go_wp2_with (go_at_call 70; refine (ahead_unwrap _ _ _ hb1).mono ?_; rintro e w' ⟨rfl, rfl⟩)
  rw [rounds_succ]
  go_wp2
  go_ret
  exact ⟨rfl, (Below.refl _ _).alloc (Nat.le_refl _) _⟩
end Go.Proofs.YtmljlebpoonecaaDoor
