/- What errors.is, errors.as and their helpers do at the errors of the four laws of layer 7, for every number and word that these carry; the one condition is that errors.errorType is laid. -/
import Derived.Test.YtmljlebpoonecaaDoorFa
import Derived.WideLaws
namespace Go.Proofs.YtmljlebpoonecaaDoor
open Go.RowKit Go.Extern.Stop Go.Stop Go.Extern

/-- '==' between two values of one integer type, at an interface type. -/
theorem run_equalIn_iface_int {P : Program} (w : World) (d : Nat) {ti tn : TypeId} {ms : Array (String × TypeId)} {i : TypeInfo} {k : IntKind} (a b : Int)
    (hi : P.underlying ti = some (.interface ms)) (hn : P.underlying tn = some (.int k)) (hinfo : P.info? tn = some i) (hcomp : i.comparable = true) :
    (Op.equalIn (d + 2) ti (.iface tn (.int k a)) (.iface tn (.int k b))).run P w = .ok (a == b) w := by
  simp [Op.equalIn, run_underlying hi, run_underlying hn, typeInfo, hinfo, hcomp]
theorem run_eql_iface_int {P : Program} (w : World) {ti tn : TypeId} {ms : Array (String × TypeId)} {i : TypeInfo} {k : IntKind} (a b : Int)
    (hi : P.underlying ti = some (.interface ms)) (hn : P.underlying tn = some (.int k)) (hinfo : P.info? tn = some i) (hcomp : i.comparable = true) :
    (binOp .eql ti (.iface tn (.int k a)) (.iface tn (.int k b))).run P w = .ok (.bool (a == b)) w := by
  simp only [binOp]
  simp [Op.equal, Op.maxDepth, run_equalIn_iface_int w 9998 a b hi hn hinfo hcomp]
theorem comp24 : (Tryd.prog.info? 24).map (·.comparable) = some true := by kernel_rfl
theorem eql24 (a b : Int) (w : World) : (binOp .eql 26 (.iface 24 (.int .i64 a)) (.iface 24 (.int .i64 b))).run Tryd.prog w = .ok (.bool (a == b)) w := by
  obtain ⟨i, hi, hcmp⟩ := Option.map_eq_some_iff.1 comp24
  exact run_eql_iface_int w a b Tryd.underlying26 Tryd.underlying24 hi hcmp
theorem eql53 (v u : Value) (w : World) : (binOp .eql 26 (.iface 53 v) (.iface 24 u)).run Tryd.prog w = .ok (.bool false) w := run_eql_iface_types 53 24 v u Tryd.underlying26 (by decide) w
theorem eql44 (v u : Value) (w : World) : (binOp .eql 26 (.iface 44 v) (.iface 24 u)).run Tryd.prog w = .ok (.bool false) w := run_eql_iface_types 44 24 v u Tryd.underlying26 (by decide) w
theorem eql50 (v u : Value) (w : World) : (binOp .eql 26 (.iface 50 v) (.iface 24 u)).run Tryd.prog w = .ok (.bool false) w := run_eql_iface_types 50 24 v u Tryd.underlying26 (by decide) w

theorem at_any (addr code : Int) (w : World) :
    Calls Tryd.prog 11 #[.int .u64 addr, .int .i64 code] w fun e w' => e = .returned (.iface 44 (.pointer (some ⟨w.heap.size, 0, none⟩))) ∧ w' = w.alloc (.cells #[.int .u64 addr, .int .i64 code] 32) := by
  go_enter Tryd.func11, Tryd.ntmps11
  go_wp2
  go_ret
  exact ⟨rfl, rfl⟩

theorem new_any (s : ByteArray) (w : World) :
    Calls Tryd.prog 8 #[.string s] w fun e w' => e = .returned (.iface 46 (.pointer (some ⟨w.heap.size, 0, none⟩))) ∧ w' = w.alloc (.cells #[.string s] 48) := by
  go_enter Tryd.func8, Tryd.ntmps8
  go_wp2
  go_ret
  exact ⟨rfl, rfl⟩

theorem wrap_any (why : ByteArray) (t : TypeId) (v : Value) (w : World) :
    Calls Tryd.prog 10 #[.string why, .iface t v] w fun e w' => e = .returned (.iface 53 (.pointer (some ⟨w.heap.size, 0, none⟩))) ∧ w' = w.alloc (.cells #[.string why, .iface t v] 55) := by
  go_enter Tryd.func10, Tryd.ntmps10
  go_wp2
  go_ret
  exact ⟨rfl, rfl⟩

theorem gp_any (why : ByteArray) (w : World) :
    Calls Tryd.prog 19 #[.string why] w fun e w' => e = .returned (.iface 53 (.pointer (some ⟨w.heap.size, 0, none⟩))) ∧ w' = w.alloc (.cells #[.string why, .iface 24 (.int .i64 5)] 55) := by
  go_enter Tryd.func19, Tryd.ntmps19
  go_wp2_with (go_at_call 10; refine (wrap_any _ _ _ _).mono ?_; rintro e w' ⟨rfl, rfl⟩)
  go_ret
  exact ⟨rfl, rfl⟩

theorem page_unwrap (v : Value) (w : World) :
    Calls Tryd.prog 15 #[v] w fun e w' => e = .returned (.iface 24 (.int .i64 4)) ∧ w' = w := by
  go_enter Tryd.func15, Tryd.ntmps15
  go_wp2
  go_ret
  exact ⟨rfl, rfl⟩

theorem ahead_unwrap (b : Nat) (x : Value) (w : World) (h : w.cell? ⟨b, 1, none⟩ = some x) :
    Calls Tryd.prog 70 #[.pointer (some ⟨b, 0, none⟩)] w fun e w' => e = .returned x ∧ w' = w := by
  go_enter Tryd.func70, Tryd.ntmps70
  go_wp2
  go_ret
  exact ⟨rfl, rfl⟩

theorem join_unwrap (b : Nat) (x : Value) (w : World) (h : w.cell? ⟨b, 0, none⟩ = some x) :
    Calls Tryd.prog 68 #[.pointer (some ⟨b, 0, none⟩)] w fun e w' => e = .returned x ∧ w' = w := by
  go_enter Tryd.func68, Tryd.ntmps68
  go_wp2
  go_ret
  exact ⟨rfl, rfl⟩

/-! ### errors.is, the target being the number of a page fault -/
theorem is_errno_yes (w : World) :
    Calls Tryd.prog 22 #[.iface 24 (.int .i64 4), .iface 24 (.int .i64 4), .bool true] w fun e w' => e = .returned (.bool true) ∧ w' = w := by
  have g1 := eql24
  go_enter Tryd.func22, Tryd.ntmps22
  go_wp2
  refine wp_loop_rounds 1 ?_
  rw [rounds_succ]
  go_wp2
  go_ret
  exact ⟨rfl, rfl⟩
theorem is_errno_no (n : Int) (hn : (n == 4) = false) (w : World) :
    Calls Tryd.prog 22 #[.iface 24 (.int .i64 n), .iface 24 (.int .i64 4), .bool true] w fun e w' => e = .returned (.bool false) ∧ w' = w := by
  have f1 := taErrnoIs
  have f2 := taErrnoUnw
  have f3 := taErrnoUnws
  have f4 := taAheadIs
  have f5 := taAheadUnw
  have f6 := methodAheadUnwrap
  have f7 := taPageIs
  have f8 := taPageUnw
  have f9 := methodPageUnwrap
  have g1 := eql24
  have g2 := eql53
  have g3 := eql44
  go_enter Tryd.func22, Tryd.ntmps22
  go_wp2
  refine wp_loop_rounds 1 ?_
  rw [rounds_succ]
  go_wp2
  go_ret
  exact ⟨rfl, rfl⟩
theorem is_ahead_errno_yes (b : Nat) (w : World) (h : w.cell? ⟨b, 1, none⟩ = some (.iface 24 (.int .i64 4))) :
    Calls Tryd.prog 22 #[.iface 53 (.pointer (some ⟨b, 0, none⟩)), .iface 24 (.int .i64 4), .bool true] w fun e w' => e = .returned (.bool true) ∧ w' = w := by
  have f1 := taErrnoIs
  have f2 := taErrnoUnw
  have f3 := taErrnoUnws
  have f4 := taAheadIs
  have f5 := taAheadUnw
  have f6 := methodAheadUnwrap
  have f7 := taPageIs
  have f8 := taPageUnw
  have f9 := methodPageUnwrap
  have g1 := eql24
  have g2 := eql53
  have g3 := eql44
  go_enter Tryd.func22, Tryd.ntmps22
  go_wp2
  refine wp_loop_rounds 2 ?_
  rw [rounds_succ]
  go_wp2_with (go_at_call 70; refine (ahead_unwrap _ _ _ h).mono ?_; rintro e w' ⟨rfl, rfl⟩)
  rw [rounds_succ]
  go_wp2
  go_ret
  exact ⟨rfl, rfl⟩
theorem is_ahead_errno_no (b : Nat) (n : Int) (hn : (n == 4) = false) (w : World) (h : w.cell? ⟨b, 1, none⟩ = some (.iface 24 (.int .i64 n))) :
    Calls Tryd.prog 22 #[.iface 53 (.pointer (some ⟨b, 0, none⟩)), .iface 24 (.int .i64 4), .bool true] w fun e w' => e = .returned (.bool false) ∧ w' = w := by
  have f1 := taErrnoIs
  have f2 := taErrnoUnw
  have f3 := taErrnoUnws
  have f4 := taAheadIs
  have f5 := taAheadUnw
  have f6 := methodAheadUnwrap
  have f7 := taPageIs
  have f8 := taPageUnw
  have f9 := methodPageUnwrap
  have g1 := eql24
  have g2 := eql53
  have g3 := eql44
  go_enter Tryd.func22, Tryd.ntmps22
  go_wp2
  refine wp_loop_rounds 2 ?_
  rw [rounds_succ]
  go_wp2_with (go_at_call 70; refine (ahead_unwrap _ _ _ h).mono ?_; rintro e w' ⟨rfl, rfl⟩)
  rw [rounds_succ]
  go_wp2
  go_ret
  exact ⟨rfl, rfl⟩
theorem is_page (v : Value) (w : World) :
    Calls Tryd.prog 22 #[.iface 44 v, .iface 24 (.int .i64 4), .bool true] w fun e w' => e = .returned (.bool true) ∧ w' = w := by
  have f1 := taErrnoIs
  have f2 := taErrnoUnw
  have f3 := taErrnoUnws
  have f4 := taAheadIs
  have f5 := taAheadUnw
  have f6 := methodAheadUnwrap
  have f7 := taPageIs
  have f8 := taPageUnw
  have f9 := methodPageUnwrap
  have g1 := eql24
  have g2 := eql53
  have g3 := eql44
  go_enter Tryd.func22, Tryd.ntmps22
  go_wp2
  refine wp_loop_rounds 2 ?_
  rw [rounds_succ]
  go_wp2_with (go_at_call 15; refine (page_unwrap _ _).mono ?_; rintro e w' ⟨rfl, rfl⟩)
  rw [rounds_succ]
  go_wp2
  go_ret
  exact ⟨rfl, rfl⟩
theorem is_ahead_page (b : Nat) (v : Value) (w : World) (h : w.cell? ⟨b, 1, none⟩ = some (.iface 44 v)) :
    Calls Tryd.prog 22 #[.iface 53 (.pointer (some ⟨b, 0, none⟩)), .iface 24 (.int .i64 4), .bool true] w fun e w' => e = .returned (.bool true) ∧ w' = w := by
  have f1 := taErrnoIs
  have f2 := taErrnoUnw
  have f3 := taErrnoUnws
  have f4 := taAheadIs
  have f5 := taAheadUnw
  have f6 := methodAheadUnwrap
  have f7 := taPageIs
  have f8 := taPageUnw
  have f9 := methodPageUnwrap
  have g1 := eql24
  have g2 := eql53
  have g3 := eql44
  go_enter Tryd.func22, Tryd.ntmps22
  go_wp2
  refine wp_loop_rounds 3 ?_
  rw [rounds_succ]
  go_wp2_with (go_at_call 70; refine (ahead_unwrap _ _ _ h).mono ?_; rintro e w' ⟨rfl, rfl⟩)
  rw [rounds_succ]
  go_wp2_with (go_at_call 15; refine (page_unwrap _ _).mono ?_; rintro e w' ⟨rfl, rfl⟩)
  rw [rounds_succ]
  go_wp2
  go_ret
  exact ⟨rfl, rfl⟩
/-- Two that were joined: the first wraps a number, the second is a page fault. -/
theorem is_join (b g q : Nat) (c : Nat) (n : Int) (v : Value) (w : World) (h : w.cell? ⟨b, 0, none⟩ = some (.slice (some ⟨g, 0, none⟩) 2 c))
    (h0 : w.cell? ⟨g, 0, none⟩ = some (.iface 53 (.pointer (some ⟨q, 0, none⟩)))) (h1 : w.cell? ⟨g, 1, none⟩ = some (.iface 44 v)) (hq : w.cell? ⟨q, 1, none⟩ = some (.iface 24 (.int .i64 n))) :
    Calls Tryd.prog 22 #[.iface 50 (.pointer (some ⟨b, 0, none⟩)), .iface 24 (.int .i64 4), .bool true] w fun e w' => e = .returned (.bool true) ∧ w' = w := by
  have f1 := taJoinIs
  have f2 := taJoinUnw
  have f3 := taJoinUnws
  have f4 := methodJoinUnwrap
  have g3 := eql50
  cases hn : (n == 4) with
  | true =>
    have hn' : n = 4 := by simpa using hn
    subst hn'
    go_enter Tryd.func22, Tryd.ntmps22
    go_wp2
    refine wp_loop_rounds 1 ?_
    rw [rounds_succ]
    go_wp2_with (first | (go_at_call 68; refine (join_unwrap _ _ _ h).mono ?_; rintro e w' ⟨rfl, rfl⟩) | fail)
    refine wp_loop_rounds 1 ?_
    rw [rounds_succ]
    go_wp2_with (go_at_call 22; refine (is_ahead_errno_yes _ _ hq).mono ?_; rintro e w' ⟨rfl, rfl⟩)
    go_ret
    exact ⟨rfl, rfl⟩
  | false =>
    go_enter Tryd.func22, Tryd.ntmps22
    go_wp2
    refine wp_loop_rounds 1 ?_
    rw [rounds_succ]
    go_wp2_with (first | (go_at_call 68; refine (join_unwrap _ _ _ h).mono ?_; rintro e w' ⟨rfl, rfl⟩) | fail)
    refine wp_loop_rounds 2 ?_
    rw [rounds_succ]
    go_wp2_with (go_at_call 22; refine (is_ahead_errno_no _ _ hn _ hq).mono ?_; rintro e w' ⟨rfl, rfl⟩)
    rw [rounds_succ]
    go_wp2_with (go_at_call 22; refine (is_page _ _).mono ?_; rintro e w' ⟨rfl, rfl⟩)
    go_ret
    exact ⟨rfl, rfl⟩
end Go.Proofs.YtmljlebpoonecaaDoor
