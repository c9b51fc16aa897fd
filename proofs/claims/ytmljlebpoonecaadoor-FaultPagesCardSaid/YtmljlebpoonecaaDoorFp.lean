/- FaultPages of package dormerlaw07 answers true for every two addresses and every code, its inputs unchanged; the conditions: errors.errorType holds the handle of error and the three tables of math/bits and internal/strconv are as their texts lay them, which the card ties. -/
import Derived.Test.YtmljlebpoonecaaDoorFi
import Derived.Test.YtmljlebpoonecaaDoorFo
import Derived.Stop.LaidErr
import Derived.Lay
import Derived.Lib.LaidTab
import Derived.Lib.ItoaNum
namespace Go.Proofs.YtmljlebpoonecaaDoor
open Go.ChangeShapes Go.WideShapes Go.RowKit Go.ChangeMaps

def data3 : List (String × DataW Unit) := [("math/bits.deBruijn32tab", Rows.laid_math_bits_deBruijn32tab), ("math/bits.deBruijn64tab", Rows.laid_math_bits_deBruijn64tab), ("internal/strconv.uint64pow10", Rows.laid_internal_strconv_uint64pow10)]
def tab64 : List Int := [0, 1, 56, 2, 57, 49, 28, 3, 61, 58, 42, 50, 38, 29, 17, 4, 62, 47, 59, 36, 45, 43, 51, 22, 53, 39, 33, 30, 24, 18, 12, 5, 63, 55, 48, 27, 60, 41, 37, 16, 46, 35, 44, 21, 52, 32, 23, 11, 54, 26, 40, 15, 34, 20, 31, 10, 25, 14, 19, 9, 13, 8, 7, 6]
theorem tab64_data : (Rows.laid_math_bits_deBruijn64tab : DataW Unit) = Lib.tabData .u8 tab64 := rfl
theorem pow10_data : (Rows.laid_internal_strconv_uint64pow10 : DataW Unit) = Lib.tabData .u64 Lib.pow10Tab := rfl
theorem g64 : Tryd.prog.globalNamed "math/bits.deBruijn64tab" = some 3 := by kernel_rfl
theorem g10 : Tryd.prog.globalNamed "internal/strconv.uint64pow10" = some 1 := by kernel_rfl

theorem split_pages {W : World} (h : laidMetH Tryd.prog Rows.faultPagesRow.laid W) : laidMet Tryd.prog data3 W ∧ laidMetH Tryd.prog Rows.faultKindsRow.laid W := by
  have h' : laidMet Tryd.prog data3 W ∧ handlesMet Tryd.prog Rows.faultKindsRow.laid W := h
  exact ⟨h'.1, laidMet_nil _ _, h'.2⟩
theorem cells106 : Tryd.prog.cellsOf 106 = 64 := by kernel_rfl
theorem cells98 : Tryd.prog.cellsOf 98 = 20 := by kernel_rfl
theorem cells5 : Tryd.prog.cellsOf 5 = 1 := by kernel_rfl
theorem cells22 : Tryd.prog.cellsOf 22 = 1 := by kernel_rfl
theorem ty3 : (Tryd.prog.globals[3]?).map (·.type) = some 106 := by kernel_rfl
theorem ty1 : (Tryd.prog.globals[1]?).map (·.type) = some 98 := by kernel_rfl

theorem tab3_of {W : World} (h : laidMet Tryd.prog data3 W) : W.cell? ⟨3, 15, none⟩ = some (.int .u8 4) := by
  have h1 := laidMet.tail h
  rw [tab64_data] at h1
  exact (Lib.tabIs_of_head g64 ty3 Tryd.underlying106 Tryd.underlying5 cells5 cells106 h1).cell g64 15 (by decide)
theorem pow10_of {W : World} (h : laidMet Tryd.prog data3 W) : Lib.TabIs Tryd.prog W "internal/strconv.uint64pow10" .u64 Lib.pow10Tab := by
  have h1 := laidMet.tail (laidMet.tail h)
  rw [pow10_data] at h1
  exact Lib.tabIs_of_head g10 ty1 Tryd.underlying98 Tryd.underlying22 cells22 cells98 h1

/-- A world that meets the condition. -/
noncomputable def pagesWorld (os : Os) : World := (laidWorld os).layVars Tryd.prog data3
theorem pagesWorld_os (os : Os) : (pagesWorld os).os = os := World.layVars_os _ _ _
set_option maxRecDepth 100000 in
theorem pagesWorld_data (os : Os) : laidMet Tryd.prog data3 (pagesWorld os) := by
  have e1 : (data3.filter fun x => (data3.map (·.1)).contains x.1) = data3 := by kernel_rfl
  have e2 : (data3.filter fun x => !(data3.map (·.1)).contains x.1) = [] := by kernel_rfl
  exact laidMet_layVars (w0 := laidWorld os) (data3.map (·.1)) [] (by rw [e1]; rfl) (by rw [e1]; kernel_rfl) (by rw [e1]; kernel_rfl) (by rw [e2]; exact LaidIn.none)
theorem pagesWorld_met (os : Os) (args : Array Value) : laidMetH Tryd.prog Rows.faultPagesRow.laid ((pagesWorld os).forCall (fun _ _ => 0) ⟨#[], args, []⟩).memory :=
  laidMetH_of_parts ((pagesWorld_data os).of_heap (by simp [World.memory, World.forCall, Input.heap])) (by kernel_rfl)
set_option maxRecDepth 100000 in
theorem pages_lifted (os : Os) (started : os.Started) (H : Type) (enc : TypeId × Value → H) :
    ReturnsInHanded {} Tryd.checked os 4 .any (fun w args => (Rows.faultPagesSpec.pre enc Tryd.prog Tryd.f4 [] false w args ∧ laidMetH Tryd.prog Rows.faultPagesRow.laid w) ∧ sizedMet enc Tryd.prog Tryd.f4 (OpenSpec.ofChange Rows.faultPagesSpec) false w args)
      (Rows.faultPagesSpec.post enc Tryd.prog Tryd.f4 false true false false) := by
  refine returnsInHanded_of_change_and (C := Tryd.checked) (X := fun w _ => laidMetH Tryd.prog Rows.faultPagesRow.laid w) (fun _ _ _ hh h => h.of_heap hh) own started (by kernel_rfl) Tryd.func4
    (ChangeSpec.witness_at (enc := enc) (C := Tryd.checked) (os := os) (X := fun w _ => laidMetH Tryd.prog Rows.faultPagesRow.laid w) false (pagesWorld os) #[.int .u64 0, .int .u64 0, .int .u8 0] 8 (pagesWorld_os os) (by kernel_rfl) (by kernel_rfl) (by kernel_rfl) (by kernel_rfl) (by kernel_rfl) (pagesWorld_met os _)) ?_
  intro W base args ds gs before hval0 hW _ _ hL _
  have hval : ∀ (j : Nat) t v, Tryd.f4.params[j]? = some t → args[j]? = some v → Value.okWide Tryd.prog W .any base t v := hval0
  have hW' := hW
  obtain ⟨p, q, hA0, hV, rfl, hfz, hnd⟩ := hW
  have hA : DataW.TrodAll enc Tryd.prog W 0 (fun _ => true) true Tryd.f4.params.toList args.toList ds p := hA0
  rw [Tryd.params4] at hA hval
  obtain ⟨v0, v1, v2, d0, d1, d2, p0, p1, p2, rfl, rfl, rfl, h0, h1, h2⟩ := trodAll_three hA
  obtain ⟨a, rfl, rfl, rfl, wa⟩ := open_int Tryd.underlying22 (hval 0 22 v0 rfl rfl) h0
  obtain ⟨b, rfl, rfl, rfl, wb⟩ := open_int Tryd.underlying22 (hval 1 22 v1 rfl rfl) h1
  obtain ⟨n, rfl, rfl, rfl, wn⟩ := open_int Tryd.underlying5 (hval 2 5 v2 rfl rfl) h2
  obtain ⟨rfl, rfl⟩ := trodVars_none hV
  clear hA0 hval0
  obtain ⟨hD, hK⟩ := split_pages hL
  have hg := laid_of hK
  have ht : Tabs W := ⟨tab3_of hD, pow10_of hD⟩
  have ra : 0 ≤ a ∧ a ≤ 18446744073709551615 := by
    have := wa
    simp [Lit.wf, IntKind.min, IntKind.max, IntKind.bits, IntKind.signed] at this
    omega
  have rb : 0 ≤ b ∧ b ≤ 18446744073709551615 := by
    have := wb
    simp [Lit.wf, IntKind.min, IntKind.max, IntKind.bits, IntKind.signed] at this
    omega
  have rn : 0 ≤ n ∧ n ≤ 255 := by
    have := wn
    simp [Lit.wf, IntKind.min, IntKind.max, IntKind.bits, IntKind.signed] at this
    omega
  obtain ⟨a', rfl⟩ : ∃ a' : Nat, a = a' := ⟨a.toNat, by omega⟩
  obtain ⟨b', rfl⟩ : ∃ b' : Nat, b = b' := ⟨b.toNat, by omega⟩
  obtain ⟨n', rfl⟩ : ∃ n' : Nat, n = n' := ⟨n.toNat, by omega⟩
  refine (pages_walk a' b' n' (by omega) (by omega) W hg ht).mono fun e W' ⟨he, hb⟩ => ?_
  subst he
  refine ⟨_, rfl, _, _, _, [], [], [], hW', ?_, ?_, ?_, hb.frame _, fun h => by cases h⟩
  · exact trodAll_mk1 (shut_bool Tryd.underlying4 true)
  · exact trodAll_mk3 (shut_int Tryd.underlying22 wa) (shut_int Tryd.underlying22 wb) (shut_int Tryd.underlying5 wn)
  · rfl

theorem faultPages_holds : Rows.FaultPagesSaid :=
  OpenClaim.holds_of_wide 4 Tryd.f4 rfl rfl rfl rfl rfl rfl rfl ⟨rfl, rfl, rfl, rfl, rfl⟩ rfl rfl rfl rfl rfl (by kernel_rfl) Tryd.func4 (by kernel_rfl)
    (of_decide_eq_true (by kernel_rfl)) (by unfold Func.isWrapper; rw [if_neg (of_decide_eq_false (by kernel_rfl))]; exact ⟨rfl, rfl⟩)
    (fun os started H enc _ => pages_lifted os started H enc)
end Go.Proofs.YtmljlebpoonecaaDoor
