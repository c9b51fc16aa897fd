/- What fault.Kind and fault.Of answer at each kind of error of layer 7; the one condition is that errors.errorType is laid. -/
import Derived.Test.YtmljlebpoonecaaDoorFe
namespace Go.Proofs.YtmljlebpoonecaaDoor
open Go.RowKit Go.Extern.Stop Go.Stop Go.Extern

/-- errors.Is asks errors.is, the target being a number of package api. -/
theorem Is_at (t : TypeId) (v : Value) (m : Int) (r : Value) (w : World)
    (h : Calls Tryd.prog 22 #[.iface t v, .iface 24 (.int .i64 m), .bool true] w fun e w' => e = .returned r ∧ w' = w) :
    Calls Tryd.prog 14 #[.iface t v, .iface 24 (.int .i64 m)] w fun e w' => e = .returned r ∧ w' = w := by
  have h21 := @run_callFunc_extern Tryd.prog 21 _ ReflectliteType.typeOf Tryd.func21 (by kernel_rfl) (by kernel_rfl) (by kernel_rfl) (by kernel_rfl)
  have h76 := call76
  have f1 := typeOfErrno
  have f3 := methodComparable
  have HH := Lib.hid h
  clear h
  go_enter Tryd.func14, Tryd.ntmps14
  go_wp2_with fail
  refine HH.out.mono ?_
  rintro e w' ⟨rfl, rfl⟩
  go_wp2
  go_ret
  exact ⟨rfl, rfl⟩

/-- What errors.errorType holds. -/
def Laid (w : World) : Prop := w.cell? ⟨0, 0, none⟩ = some (.iface 76 (.agg #[.pointer (some ⟨4, 26, none⟩)]))
theorem Laid.below {w w' : World} (h : Laid w) (hb : Below w.heap.size w w') : Laid w' := (hb.cell (p := ⟨0, 0, none⟩) (World.block_lt_of_cell? _ _ h)).trans h
theorem Laid.pos {w : World} (h : Laid w) : 0 < w.heap.size := World.block_lt_of_cell? _ _ h

/-- errors.As comes to errors.as. -/
theorem As_ofE (et : TypeId) (ev : Value) (t : Addr) (w : World) (hg : Laid w) (R : Ending → World → Prop)
    (h : ∀ W, Below w.heap.size w W → W.cell? ⟨w.heap.size, 0, none⟩ = some (.pointer (some t)) →
      Calls Tryd.prog 30 #[.iface et ev, .iface 58 (.pointer (some t)), .agg #[.pointer (some ⟨4, 58, none⟩), .pointer (some ⟨w.heap.size, 0, none⟩), .int .u64 150], .iface 76 (.agg #[.pointer (some ⟨4, 24, none⟩)])] W fun e w' => ∃ r, e = .returned (.bool r) ∧ R (.returned (.bool r)) w') :
    Calls Tryd.prog 20 #[.iface et ev, .iface 58 (.pointer (some t))] w R := by
  have h21 := @run_callFunc_extern Tryd.prog 21 _ ReflectliteType.typeOf Tryd.func21 (by kernel_rfl) (by kernel_rfl) (by kernel_rfl) (by kernel_rfl)
  have h27 := @run_callFunc_extern Tryd.prog 27 _ (fun args => ReflectliteValue.unpack (args.getD 0 (.tuple #[]))) Tryd.func27 (by kernel_rfl) (by kernel_rfl) (by kernel_rfl) (by kernel_rfl)
  have h34 := @run_callFunc_extern Tryd.prog 34 _ (ReflectliteValue.method (ReflectliteValue.valueError "reflectlite.Value.Elem" 0) ReflectliteValue.elem) Tryd.func34 (by kernel_rfl) (by kernel_rfl) (by kernel_rfl) (by kernel_rfl)
  have h35 := @run_callFunc_extern Tryd.prog 35 _ ReflectliteValue.set Tryd.func35 (by kernel_rfl) (by kernel_rfl) (by kernel_rfl) (by kernel_rfl)
  have h75 := @run_callFunc_extern Tryd.prog 75 _ (ReflectliteType.relation "AssignableTo" ReflectliteType.assignableTo) Tryd.func75 (by kernel_rfl) (by kernel_rfl) (by kernel_rfl) (by kernel_rfl)
  have m75 := methodAssignableTo
  have h28 := @run_callFunc_extern Tryd.prog 28 _ (ReflectliteValue.methodAny (ReflectliteValue.valueError "reflectlite.Value.Type" 0) (fun t _ _ _ => ReflectliteType.toType t)) Tryd.func28 (by kernel_rfl) (by kernel_rfl) (by kernel_rfl) (by kernel_rfl)
  have h29 := @run_callFunc_extern Tryd.prog 29 _ (ReflectliteValue.method (ReflectliteValue.valueError "reflectlite.Value.IsNil" 0) ReflectliteValue.isNil) Tryd.func29 (by kernel_rfl) (by kernel_rfl) (by kernel_rfl) (by kernel_rfl)
  have h62 := @run_callFunc_extern Tryd.prog 62 _ (ReflectliteType.abiMethod fun t => do pure (.int .u8 (← Rtype.kind t))) Tryd.func62 (by kernel_rfl) (by kernel_rfl) (by kernel_rfl) (by kernel_rfl)
  have h77 := @run_callFunc_extern Tryd.prog 77 _ (ReflectliteType.method ReflectliteType.elem) Tryd.func77 (by kernel_rfl) (by kernel_rfl) (by kernel_rfl) (by kernel_rfl)
  have h78 := @run_callFunc_extern Tryd.prog 78 _ (ReflectliteType.relation "Implements" ReflectliteType.implements_) Tryd.func78 (by kernel_rfl) (by kernel_rfl) (by kernel_rfl) (by kernel_rfl)
  have m62 := methodKind
  have m77 := methodElem
  have m78 := methodImplements
  have k1 := valueOfTE
  have k2 := typeTE
  have k3 := kindTE
  have k4 := kindElE
  have k5 := elemTE
  have k6 := implementsElE
  have n8 := isNilTE ⟨w.heap.size, 0, none⟩ t ((w.alloc (.cells #[.pointer (some t)] 58)).alloc (.cells #[.pointer (some ⟨4, 58, none⟩), .pointer (some ⟨w.heap.size, 0, none⟩), .int .u64 150] 68)) (by simp)
  have hg2 : ((w.alloc (.cells #[.pointer (some t)] 58)).alloc (.cells #[.pointer (some ⟨4, 58, none⟩), .pointer (some ⟨w.heap.size, 0, none⟩), .int .u64 150] 68)).cell? ⟨0, 0, none⟩ = some (.iface 76 (.agg #[.pointer (some ⟨4, 26, none⟩)])) := by
    have hp := hg.pos
    rw [World.cell?_alloc_lt _ _ ⟨0, 0, none⟩ (by simp), World.cell?_alloc_lt _ _ ⟨0, 0, none⟩ hp]; exact hg
  have hh := h ((w.alloc (.cells #[.pointer (some t)] 58)).alloc (.cells #[.pointer (some ⟨4, 58, none⟩), .pointer (some ⟨w.heap.size, 0, none⟩), .int .u64 150] 68)) (((Below.refl _ _).alloc (Nat.le_refl _) _).alloc (by simp) _) (by simp)
  have HH := Lib.hid hh
  clear h hh hg
  go_enter Tryd.func20, Tryd.ntmps20
  go_wp2_with fail
  refine HH.out.mono ?_
  rintro _ w' ⟨r, rfl, hr⟩
  have HR := Lib.hid hr
  clear hr
  go_wp2
  exact HR.out
/-- errors.As comes to errors.as. -/
theorem As_ofP (et : TypeId) (ev : Value) (t : Addr) (w : World) (hg : Laid w) (R : Ending → World → Prop)
    (h : ∀ W, Below w.heap.size w W → W.cell? ⟨w.heap.size, 0, none⟩ = some (.pointer (some t)) →
      Calls Tryd.prog 30 #[.iface et ev, .iface 57 (.pointer (some t)), .agg #[.pointer (some ⟨4, 57, none⟩), .pointer (some ⟨w.heap.size, 0, none⟩), .int .u64 150], .iface 76 (.agg #[.pointer (some ⟨4, 44, none⟩)])] W fun e w' => ∃ r, e = .returned (.bool r) ∧ R (.returned (.bool r)) w') :
    Calls Tryd.prog 20 #[.iface et ev, .iface 57 (.pointer (some t))] w R := by
  have h21 := @run_callFunc_extern Tryd.prog 21 _ ReflectliteType.typeOf Tryd.func21 (by kernel_rfl) (by kernel_rfl) (by kernel_rfl) (by kernel_rfl)
  have h27 := @run_callFunc_extern Tryd.prog 27 _ (fun args => ReflectliteValue.unpack (args.getD 0 (.tuple #[]))) Tryd.func27 (by kernel_rfl) (by kernel_rfl) (by kernel_rfl) (by kernel_rfl)
  have h34 := @run_callFunc_extern Tryd.prog 34 _ (ReflectliteValue.method (ReflectliteValue.valueError "reflectlite.Value.Elem" 0) ReflectliteValue.elem) Tryd.func34 (by kernel_rfl) (by kernel_rfl) (by kernel_rfl) (by kernel_rfl)
  have h35 := @run_callFunc_extern Tryd.prog 35 _ ReflectliteValue.set Tryd.func35 (by kernel_rfl) (by kernel_rfl) (by kernel_rfl) (by kernel_rfl)
  have h75 := @run_callFunc_extern Tryd.prog 75 _ (ReflectliteType.relation "AssignableTo" ReflectliteType.assignableTo) Tryd.func75 (by kernel_rfl) (by kernel_rfl) (by kernel_rfl) (by kernel_rfl)
  have m75 := methodAssignableTo
  have h28 := @run_callFunc_extern Tryd.prog 28 _ (ReflectliteValue.methodAny (ReflectliteValue.valueError "reflectlite.Value.Type" 0) (fun t _ _ _ => ReflectliteType.toType t)) Tryd.func28 (by kernel_rfl) (by kernel_rfl) (by kernel_rfl) (by kernel_rfl)
  have h29 := @run_callFunc_extern Tryd.prog 29 _ (ReflectliteValue.method (ReflectliteValue.valueError "reflectlite.Value.IsNil" 0) ReflectliteValue.isNil) Tryd.func29 (by kernel_rfl) (by kernel_rfl) (by kernel_rfl) (by kernel_rfl)
  have h62 := @run_callFunc_extern Tryd.prog 62 _ (ReflectliteType.abiMethod fun t => do pure (.int .u8 (← Rtype.kind t))) Tryd.func62 (by kernel_rfl) (by kernel_rfl) (by kernel_rfl) (by kernel_rfl)
  have h77 := @run_callFunc_extern Tryd.prog 77 _ (ReflectliteType.method ReflectliteType.elem) Tryd.func77 (by kernel_rfl) (by kernel_rfl) (by kernel_rfl) (by kernel_rfl)
  have h78 := @run_callFunc_extern Tryd.prog 78 _ (ReflectliteType.relation "Implements" ReflectliteType.implements_) Tryd.func78 (by kernel_rfl) (by kernel_rfl) (by kernel_rfl) (by kernel_rfl)
  have m62 := methodKind
  have m77 := methodElem
  have m78 := methodImplements
  have k1 := valueOfTP
  have k2 := typeTP
  have k3 := kindTP
  have k4 := kindElP
  have k5 := elemTP
  have k6 := implementsElP
  have n8 := isNilTP ⟨w.heap.size, 0, none⟩ t ((w.alloc (.cells #[.pointer (some t)] 57)).alloc (.cells #[.pointer (some ⟨4, 57, none⟩), .pointer (some ⟨w.heap.size, 0, none⟩), .int .u64 150] 68)) (by simp)
  have hg2 : ((w.alloc (.cells #[.pointer (some t)] 57)).alloc (.cells #[.pointer (some ⟨4, 57, none⟩), .pointer (some ⟨w.heap.size, 0, none⟩), .int .u64 150] 68)).cell? ⟨0, 0, none⟩ = some (.iface 76 (.agg #[.pointer (some ⟨4, 26, none⟩)])) := by
    have hp := hg.pos
    rw [World.cell?_alloc_lt _ _ ⟨0, 0, none⟩ (by simp), World.cell?_alloc_lt _ _ ⟨0, 0, none⟩ hp]; exact hg
  have hh := h ((w.alloc (.cells #[.pointer (some t)] 57)).alloc (.cells #[.pointer (some ⟨4, 57, none⟩), .pointer (some ⟨w.heap.size, 0, none⟩), .int .u64 150] 68)) (((Below.refl _ _).alloc (Nat.le_refl _) _).alloc (by simp) _) (by simp)
  have HH := Lib.hid hh
  clear h hh hg
  go_enter Tryd.func20, Tryd.ntmps20
  go_wp2_with fail
  refine HH.out.mono ?_
  rintro _ w' ⟨r, rfl, hr⟩
  have HR := Lib.hid hr
  clear hr
  go_wp2
  exact HR.out

/-- fault.Kind where errors.as finds a number. -/
theorem kind_hit (et : TypeId) (ev : Value) (n : Int) (w : World) (hg : Laid w)
    (H : ∀ (x : Value) (a t : Addr) (old : Value) (W : World), Below w.heap.size w W → W.cell? a = some (.pointer (some t)) → W.cell? t = some old → W.frozen? t = false →
      Calls Tryd.prog 30 #[.iface et ev, x, .agg #[.pointer (some ⟨4, 58, none⟩), .pointer (some a), .int .u64 150], .iface 76 (.agg #[.pointer (some ⟨4, 24, none⟩)])] W fun e w' => e = .returned (.bool true) ∧ ∃ w1, Below W.heap.size W w1 ∧ w' = w1.setCell t (.int .i64 n)) :
    Calls Tryd.prog 13 #[.iface et ev] w fun e w' => e = .returned (.int .i64 n) ∧ Below w.heap.size w w' := by
  have hB0 := (Below.refl w.heap.size w).alloc (Nat.le_refl _) (.cells #[.int .i64 0] 24)
  have hL0 := hg.below hB0
  have HA := As_ofE et ev ⟨w.heap.size, 0, none⟩ (w.alloc (.cells #[.int .i64 0] 24)) hL0 (fun e w' => e = .returned (.bool true) ∧ w'.cell? ⟨w.heap.size, 0, none⟩ = some (.int .i64 n) ∧ Below w.heap.size w w') (by
    intro W hW hc
    have c0 : W.cell? ⟨w.heap.size, 0, none⟩ = some (.int .i64 0) := by rw [hW.cell (by simp)]; simp
    have c1 : W.frozen? ⟨w.heap.size, 0, none⟩ = false := by rw [hW.frozen (by simp)]; simp
    have hB1 := hB0.trans (hW.mono (by simp))
    refine (H _ _ ⟨w.heap.size, 0, none⟩ _ W hB1 hc c0 c1).mono ?_
    rintro _ _ ⟨rfl, w1, hb1, rfl⟩
    refine ⟨true, rfl, rfl, ?_, (hB1.trans (hb1.mono hB1.size)).setCell (Nat.le_refl _) _⟩
    have c2 : w1.cell? ⟨w.heap.size, 0, none⟩ = some (.int .i64 0) := by rw [hb1.cell (World.block_lt_of_cell? _ _ c0)]; exact c0
    exact World.cell?_setCell_same _ _ _ c2)
  have HH := Lib.hid HA
  clear H HA hB0 hL0 hg
  go_enter Tryd.func13, Tryd.ntmps13
  go_wp2_with fail
  refine HH.out.mono ?_
  rintro _ w' ⟨rfl, hc, hb⟩
  have HB := Lib.hid hb
  clear hb
  go_wp2
  go_ret
  exact ⟨rfl, HB.out⟩

/-- fault.Kind where errors.as finds none. -/
theorem kind_miss (et : TypeId) (ev : Value) (w : World) (hg : Laid w)
    (H : ∀ (x : Value) (a : Addr) (W : World), Below w.heap.size w W →
      Calls Tryd.prog 30 #[.iface et ev, x, .agg #[.pointer (some ⟨4, 58, none⟩), .pointer (some a), .int .u64 150], .iface 76 (.agg #[.pointer (some ⟨4, 24, none⟩)])] W fun e w' => e = .returned (.bool false) ∧ Below W.heap.size W w') :
    Calls Tryd.prog 13 #[.iface et ev] w fun e w' => e = .returned (.int .i64 1) ∧ Below w.heap.size w w' := by
  have hB0 := (Below.refl w.heap.size w).alloc (Nat.le_refl _) (.cells #[.int .i64 0] 24)
  have hL0 := hg.below hB0
  have HA := As_ofE et ev ⟨w.heap.size, 0, none⟩ (w.alloc (.cells #[.int .i64 0] 24)) hL0 (fun e w' => e = .returned (.bool false) ∧ Below w.heap.size w w') (by
    intro W hW hc
    have hB1 := hB0.trans (hW.mono (by simp))
    refine (H _ _ W hB1).mono ?_
    rintro _ w1 ⟨rfl, hb1⟩
    exact ⟨false, rfl, rfl, hB1.trans (hb1.mono hB1.size)⟩)
  have HH := Lib.hid HA
  clear H HA hB0 hL0 hg
  go_enter Tryd.func13, Tryd.ntmps13
  go_wp2_with fail
  refine HH.out.mono ?_
  rintro _ w' ⟨rfl, hb⟩
  have HB := Lib.hid hb
  clear hb
  go_wp2
  go_ret
  exact ⟨rfl, HB.out⟩

/-- fault.Kind of no error. -/
theorem kind_nil (w : World) : Calls Tryd.prog 13 #[.nilIface] w fun e w' => e = .returned (.int .i64 0) ∧ Below w.heap.size w w' := by
  go_enter Tryd.func13, Tryd.ntmps13
  go_wp2
  go_ret
  exact ⟨rfl, (Below.refl _ _).alloc (Nat.le_refl _) _⟩

/-- fault.Of where the error is a page fault, and errors.as finds it. -/
theorem of_hit (et : TypeId) (ev : Value) (b : Nat) (addr code : Int) (w : World) (hg : Laid w) (hc0 : w.cell? ⟨b, 0, none⟩ = some (.int .u64 addr)) (hc1 : w.cell? ⟨b, 1, none⟩ = some (.int .i64 code))
    (H1 : ∀ W, Below w.heap.size w W → Calls Tryd.prog 22 #[.iface et ev, .iface 24 (.int .i64 4), .bool true] W fun e w' => e = .returned (.bool true) ∧ w' = W)
    (H : ∀ (x : Value) (a t : Addr) (old : Value) (W : World), Below w.heap.size w W → W.cell? a = some (.pointer (some t)) → W.cell? t = some old → W.frozen? t = false →
      Calls Tryd.prog 30 #[.iface et ev, x, .agg #[.pointer (some ⟨4, 57, none⟩), .pointer (some a), .int .u64 150], .iface 76 (.agg #[.pointer (some ⟨4, 44, none⟩)])] W fun e w' => e = .returned (.bool true) ∧ ∃ w1, Below W.heap.size W w1 ∧ w' = w1.setCell t (.pointer (some ⟨b, 0, none⟩))) :
    Calls Tryd.prog 12 #[.iface et ev] w fun e w' => e = .returned (.tuple #[.agg #[.int .u64 addr, .int .i64 code], .bool true]) ∧ Below w.heap.size w w' := by
  have hbw : b < w.heap.size := World.block_lt_of_cell? _ _ hc0
  have hB0 := ((Below.refl w.heap.size w).alloc (Nat.le_refl _) (.cells #[.int .u64 0, .int .i64 0] 32)).alloc (by simp) (.cells #[.pointer none] 44)
  have hL0 := hg.below hB0
  have hI := Is_at et ev 4 (.bool true) _ (H1 _ hB0)
  have HA := As_ofP et ev ⟨w.heap.size + 1, 0, none⟩ ((w.alloc (.cells #[.int .u64 0, .int .i64 0] 32)).alloc (.cells #[.pointer none] 44)) hL0
    (fun e w' => e = .returned (.bool true) ∧ w'.cell? ⟨w.heap.size + 1, 0, none⟩ = some (.pointer (some ⟨b, 0, none⟩)) ∧ w'.cell? ⟨w.heap.size, 0, none⟩ = some (.int .u64 0) ∧ w'.cell? ⟨w.heap.size, 1, none⟩ = some (.int .i64 0) ∧ w'.frozen? ⟨w.heap.size, 0, none⟩ = false ∧ w'.frozen? ⟨w.heap.size, 1, none⟩ = false ∧ Below w.heap.size w w') (by
    intro W hW hc
    have c0 : W.cell? ⟨w.heap.size + 1, 0, none⟩ = some (.pointer none) := by rw [hW.cell (by simp)]; simp [go_sem]
    have c1 : W.frozen? ⟨w.heap.size + 1, 0, none⟩ = false := by rw [hW.frozen (by simp)]; simp [go_sem]
    have d0 : W.cell? ⟨w.heap.size, 0, none⟩ = some (.int .u64 0) := by rw [hW.cell (by simp; omega)]; simp [go_sem]
    have d1 : W.cell? ⟨w.heap.size, 1, none⟩ = some (.int .i64 0) := by rw [hW.cell (by simp; omega)]; simp [go_sem]
    have d2 : W.frozen? ⟨w.heap.size, 0, none⟩ = false := by rw [hW.frozen (by simp; omega)]; simp [go_sem]
    have d3 : W.frozen? ⟨w.heap.size, 1, none⟩ = false := by rw [hW.frozen (by simp; omega)]; simp [go_sem]
    have hB1 := hB0.trans (hW.mono (by simp; omega))
    refine (H _ _ ⟨w.heap.size + 1, 0, none⟩ _ W hB1 hc c0 c1).mono ?_
    rintro _ _ ⟨rfl, w1, hb1, rfl⟩
    have hlt := World.block_lt_of_cell? _ _ d0
    have c2 : w1.cell? ⟨w.heap.size + 1, 0, none⟩ = some (.pointer none) := by rw [hb1.cell (World.block_lt_of_cell? _ _ c0)]; exact c0
    refine ⟨true, rfl, rfl, World.cell?_setCell_same _ _ _ c2, ?_, ?_, ?_, ?_, (hB1.trans (hb1.mono hB1.size)).setCell (by simp) _⟩
    · rw [World.cell?_setCell_other _ _ _ _ (by simp), hb1.cell hlt]; exact d0
    · rw [World.cell?_setCell_other _ _ _ _ (by simp), hb1.cell (p := ⟨w.heap.size, 1, none⟩) hlt]; exact d1
    · rw [World.frozen?_setCell, hb1.frozen hlt]; exact d2
    · rw [World.frozen?_setCell, hb1.frozen (p := ⟨w.heap.size, 1, none⟩) hlt]; exact d3)
  have HH := Lib.hid HA
  have HI := Lib.hid hI
  have C0 := Lib.hid hc0
  have C1 := Lib.hid hc1
  clear H H1 HA hB0 hL0 hI hg hc0 hc1
  go_enter Tryd.func12, Tryd.ntmps12
  go_wp2_with fail
  refine HI.out.mono ?_
  rintro _ _ ⟨rfl, rfl⟩
  go_wp2_with fail
  refine HH.out.mono ?_
  rintro _ w' ⟨rfl, hp, d0, d1, d2, d3, hb⟩
  have e0 : w'.cell? ⟨b, 0, none⟩ = some (.int .u64 addr) := by rw [hb.cell hbw]; exact C0.out
  have e1 : w'.cell? ⟨b, 1, none⟩ = some (.int .i64 code) := by rw [hb.cell hbw]; exact C1.out
  have HB := Lib.hid hb
  clear hb
  go_wp2
  exact bodyPost_ret (v := .tuple #[.agg #[.int .u64 addr, .int .i64 code], .bool true]) (by simp [results, Tryd.results12, go_sem, d0, d1]) rfl ⟨rfl, (HB.out.setCell (Nat.le_refl _) _).setCell (Nat.le_refl _) _⟩
end Go.Proofs.YtmljlebpoonecaaDoor
