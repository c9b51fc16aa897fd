/- FaultPages of package dormerlaw07 returns true at every two addresses and every code in every world where errors.errorType and the tables are laid. -/
import Derived.Test.YtmljlebpoonecaaDoorFn
import Derived.Test.YtmljlebpoonecaaDoorFg
namespace Go.Proofs.YtmljlebpoonecaaDoor
open Go.RowKit Go.Extern.Stop Go.Stop Go.Extern

/-- fault.Of of a page fault. -/
theorem of_page (b : Nat) (addr code : Int) (w : World) (hg : Laid w) (hc0 : w.cell? ⟨b, 0, none⟩ = some (.int .u64 addr)) (hc1 : w.cell? ⟨b, 1, none⟩ = some (.int .i64 code)) :
    Calls Tryd.prog 12 #[.iface 44 (.pointer (some ⟨b, 0, none⟩))] w fun e w' => e = .returned (.tuple #[.agg #[.int .u64 addr, .int .i64 code], .bool true]) ∧ Below w.heap.size w w' :=
  of_hit 44 _ b addr code w hg hc0 hc1 (fun W _ => is_page _ W) (fun x a t old W _ ha ht hf => as_pageP ⟨b, 0, none⟩ x a t old W ha ht hf)

/-- fault.Of(fault.At(..)), the two calls as one. -/
theorem of_at (addr code : Int) (w : World) (hg : Laid w) :
    Calls Tryd.prog 12 #[.iface 44 (.pointer (some ⟨w.heap.size, 0, none⟩))] (w.alloc (.cells #[.int .u64 addr, .int .i64 code] 32)) fun e w' => e = .returned (.tuple #[.agg #[.int .u64 addr, .int .i64 code], .bool true]) ∧ Below w.heap.size w w' := by
  have hb := (Below.refl w.heap.size w).alloc (Nat.le_refl _) (.cells #[.int .u64 addr, .int .i64 code] 32)
  refine (of_page w.heap.size addr code _ (hg.below hb) (by simp) (by simp)).mono fun e w' ⟨he, h⟩ => ⟨he, hb.trans (h.mono (by simp))⟩

theorem page_error (a c : Nat) (ha : a < 18446744073709551616) (hc : c < 256) (b : Nat) (w : World) (ht : Tabs w)
    (hc0 : w.cell? ⟨b, 0, none⟩ = some (.int .u64 a)) (hc1 : w.cell? ⟨b, 1, none⟩ = some (.int .i64 c)) :
    Calls Tryd.prog 16 #[.pointer (some ⟨b, 0, none⟩)] w fun e w' => e = .returned (.string (pageText ⟨(hexDigits a).toArray⟩ ⟨(Lib.decDigits c).toArray⟩)) ∧ Below w.heap.size w w' :=
  page_error0 a c b w _ _ (by have := hexDigits_len 15 a (by simpa using ha); simp [ByteArray.size]; omega) (by have := decDigits_len c hc; simp [ByteArray.size]; omega) hc0 hc1
    (Lib.hid fun w' hb => fmt_uint a ha w' (ht.below hb).t) (Lib.hid fun w' hb => itoa_any c hc w' (ht.below hb))
theorem ref_page (a c : Nat) (ha : a < 18446744073709551616) (hc : c < 256) (w : World) :
    Calls Tryd.prog 17 #[.int .u64 a, .int .i64 c] w fun e w' => e = .returned (.string (pageText ⟨(hexDigits a).toArray⟩ ⟨(Lib.decDigits c).toArray⟩)) ∧ Below w.heap.size w w' :=
  ref_page0 a c w _ _ (by have := hexDigits_len 15 a (by simpa using ha); simp [ByteArray.size]; omega) (by have := decDigits_len c hc; simp [ByteArray.size]; omega)
    (Lib.hid fun w => hex_all a ha w) (Lib.hid fun w => fig_any c hc w)

set_option maxHeartbeats 1000000 in
set_option maxRecDepth 100000 in
/-- The walk where the two addresses are one. -/
theorem pages_eq (a c : Nat) (ha : a < 18446744073709551616) (hc : c < 256) (w : World) (hg : Laid w) (ht : Tabs w) :
    Calls Tryd.prog 4 #[.int .u64 a, .int .u64 a, .int .u8 c] w fun e w' => e = .returned (.bool true) ∧ Below w.heap.size w w' := by
  have HG := Lib.hid hg
  have HT := Lib.hid ht
  clear hg ht
  have hci : (c : Int) < 256 := by omega
  go_enter Tryd.func4, Tryd.ntmps4
  go_wp2_with fail
  refine (awake w HG.out).mono ?_
  rintro _ W1 ⟨rfl, hb1⟩
  have HB1 := Lib.hid hb1
  have HL1 := Lib.hid (HG.out.below hb1)
  have HT1 := Lib.hid (HT.out.below hb1)
  clear hb1
  go_wp2_with fail
  refine (at_any _ _ _).mono ?_
  rintro _ _ ⟨rfl, rfl⟩
  go_wp2_with fail
  have bA : Below W1.heap.size W1 (W1.alloc (.cells #[.int .u64 a, .int .i64 c] 32)) := (Below.refl _ _).alloc (Nat.le_refl _) _
  have HO := of_at a c (W1.alloc (.cells #[.int .u64 a, .int .i64 c] 32)) (HL1.out.below bA)
  rw [show (W1.alloc (.cells #[.int .u64 a, .int .i64 c] 32)).heap.size = W1.heap.size + 1 by simp] at HO
  refine HO.mono ?_
  rintro _ W2 ⟨rfl, hb2⟩
  have hs2 := hb2.size
  have p0 : W2.cell? ⟨W1.heap.size, 0, none⟩ = some (.int .u64 a) := by rw [hb2.cell (by simp)]; simp
  have p1 : W2.cell? ⟨W1.heap.size, 1, none⟩ = some (.int .i64 c) := by rw [hb2.cell (by simp)]; simp
  have HB2 := Lib.hid (bA.trans (hb2.mono (by simp)))
  have HL2 := Lib.hid (HL1.out.below HB2.out)
  clear HO hb2 bA
  have HP := Lib.hid (And.intro p0 p1)
  have hlt : W1.heap.size < W2.heap.size := by simp at hs2; omega
  have HS2 := Lib.hid hlt
  clear p0 p1 hs2 hlt
  go_wp2_with fail
  refine (at_any _ _ _).mono ?_
  rintro _ _ ⟨rfl, rfl⟩
  go_wp2_with fail
  have bA : Below W2.heap.size W2 (W2.alloc (.cells #[.int .u64 a, .int .i64 c] 32)) := (Below.refl _ _).alloc (Nat.le_refl _) _
  have HO := of_at a c (W2.alloc (.cells #[.int .u64 a, .int .i64 c] 32)) (HL2.out.below bA)
  rw [show (W2.alloc (.cells #[.int .u64 a, .int .i64 c] 32)).heap.size = W2.heap.size + 1 by simp] at HO
  refine HO.mono ?_
  rintro _ W3 ⟨rfl, hb3⟩
  have hs3 := hb3.size
  have hlt3 : W2.heap.size < W3.heap.size := by simp at hs3; omega
  have x0 : W3.cell? ⟨W2.heap.size, 0, none⟩ = some (.int .u64 a) := by rw [hb3.cell (by simp)]; simp
  have x1 : W3.cell? ⟨W2.heap.size, 1, none⟩ = some (.int .i64 c) := by rw [hb3.cell (by simp)]; simp
  have b3 : Below W2.heap.size W2 W3 := bA.trans (hb3.mono (by simp))
  have p0 : W3.cell? ⟨W1.heap.size, 0, none⟩ = some (.int .u64 a) := (b3.cell (p := ⟨W1.heap.size, 0, none⟩) HS2.out).trans HP.out.1
  have p1 : W3.cell? ⟨W1.heap.size, 1, none⟩ = some (.int .i64 c) := (b3.cell (p := ⟨W1.heap.size, 1, none⟩) HS2.out).trans HP.out.2
  have B3 : Below W1.heap.size W1 W3 := HB2.out.trans (b3.mono HB2.out.size)
  obtain ⟨W4, hW4⟩ : ∃ W4, W4 = W3.alloc (.cells #[.int .u64 a, .int .i64 c] 32) := ⟨_, rfl⟩
  have b4 : Below W3.heap.size W3 W4 := by rw [hW4]; exact (Below.refl _ _).alloc (Nat.le_refl _) _
  have B4 : Below W1.heap.size W1 W4 := B3.trans (b4.mono B3.size)
  have hp3 : W1.heap.size < W3.heap.size := Nat.lt_trans HS2.out hlt3
  have x0' : W4.cell? ⟨W2.heap.size, 0, none⟩ = some (.int .u64 a) := (b4.cell (p := ⟨W2.heap.size, 0, none⟩) hlt3).trans x0
  have x1' : W4.cell? ⟨W2.heap.size, 1, none⟩ = some (.int .i64 c) := (b4.cell (p := ⟨W2.heap.size, 1, none⟩) hlt3).trans x1
  have p0' : W4.cell? ⟨W1.heap.size, 0, none⟩ = some (.int .u64 a) := (b4.cell (p := ⟨W1.heap.size, 0, none⟩) hp3).trans p0
  have p1' : W4.cell? ⟨W1.heap.size, 1, none⟩ = some (.int .i64 c) := (b4.cell (p := ⟨W1.heap.size, 1, none⟩) hp3).trans p1
  have y0 : W4.cell? ⟨W3.heap.size, 0, none⟩ = some (.int .u64 a) := by rw [hW4]; simp
  have y1 : W4.cell? ⟨W3.heap.size, 1, none⟩ = some (.int .i64 c) := by rw [hW4]; simp
  have HE := Lib.hid (page_error a c ha hc W1.heap.size W4 (HT1.out.below B4) p0' p1')
  have HR := Lib.hid (fun w => ref_page a c ha hc w)
  have HB4 := Lib.hid B4
  have HW4 := Lib.hid hW4
  clear HO hb3 hs3 bA b3 x0' x1' p0' p1' y0 y1 B3 b4 B4 hW4
  go_wp2_with fail
  refine (page_unwrap _ _).mono ?_
  rintro _ _ ⟨rfl, rfl⟩
  go_wp2_with fail
  refine (Is_at 24 (.int .i64 4) 4 (.bool true) _ (is_errno_yes _)).mono ?_
  rintro _ _ ⟨rfl, rfl⟩
  go_wp2_with fail
  rw [← HW4.out]
  refine HE.out.mono ?_
  rintro _ W5 ⟨rfl, hb5⟩
  have HB5 := Lib.hid (HB4.out.trans (hb5.mono HB4.out.size))
  clear hb5 HW4 HE
  go_wp2_with fail
  refine (HR.out _).mono ?_
  rintro _ W6 ⟨rfl, hb6⟩
  have HB6 := Lib.hid (HB1.out.trans ((HB5.out.trans (hb6.mono HB5.out.size)).mono HB1.out.size))
  clear hb6 HR
  go_wp2
  go_ret
  exact ⟨rfl, HB6.out⟩
set_option maxHeartbeats 1000000 in
set_option maxRecDepth 100000 in
/-- The walk where they are two. -/
theorem pages_ne (a b c : Nat) (ha : a < 18446744073709551616) (hc : c < 256) (hab : ((a : Int) == (b : Int)) = false) (w : World) (hg : Laid w) (ht : Tabs w) :
    Calls Tryd.prog 4 #[.int .u64 a, .int .u64 b, .int .u8 c] w fun e w' => e = .returned (.bool true) ∧ Below w.heap.size w w' := by
  have HG := Lib.hid hg
  have HT := Lib.hid ht
  clear hg ht
  have hci : (c : Int) < 256 := by omega
  go_enter Tryd.func4, Tryd.ntmps4
  go_wp2_with fail
  refine (awake w HG.out).mono ?_
  rintro _ W1 ⟨rfl, hb1⟩
  have HB1 := Lib.hid hb1
  have HL1 := Lib.hid (HG.out.below hb1)
  have HT1 := Lib.hid (HT.out.below hb1)
  clear hb1
  go_wp2_with fail
  refine (at_any _ _ _).mono ?_
  rintro _ _ ⟨rfl, rfl⟩
  go_wp2_with fail
  have bA : Below W1.heap.size W1 (W1.alloc (.cells #[.int .u64 a, .int .i64 c] 32)) := (Below.refl _ _).alloc (Nat.le_refl _) _
  have HO := of_at a c (W1.alloc (.cells #[.int .u64 a, .int .i64 c] 32)) (HL1.out.below bA)
  rw [show (W1.alloc (.cells #[.int .u64 a, .int .i64 c] 32)).heap.size = W1.heap.size + 1 by simp] at HO
  refine HO.mono ?_
  rintro _ W2 ⟨rfl, hb2⟩
  have hs2 := hb2.size
  have p0 : W2.cell? ⟨W1.heap.size, 0, none⟩ = some (.int .u64 a) := by rw [hb2.cell (by simp)]; simp
  have p1 : W2.cell? ⟨W1.heap.size, 1, none⟩ = some (.int .i64 c) := by rw [hb2.cell (by simp)]; simp
  have HB2 := Lib.hid (bA.trans (hb2.mono (by simp)))
  have HL2 := Lib.hid (HL1.out.below HB2.out)
  clear HO hb2 bA
  have HP := Lib.hid (And.intro p0 p1)
  have hlt : W1.heap.size < W2.heap.size := by simp at hs2; omega
  have HS2 := Lib.hid hlt
  clear p0 p1 hs2 hlt
  go_wp2_with fail
  refine (at_any _ _ _).mono ?_
  rintro _ _ ⟨rfl, rfl⟩
  go_wp2_with fail
  have bA : Below W2.heap.size W2 (W2.alloc (.cells #[.int .u64 a, .int .i64 c] 32)) := (Below.refl _ _).alloc (Nat.le_refl _) _
  have HO := of_at b c (W2.alloc (.cells #[.int .u64 a, .int .i64 c] 32)) (HL2.out.below bA)
  rw [show (W2.alloc (.cells #[.int .u64 a, .int .i64 c] 32)).heap.size = W2.heap.size + 1 by simp] at HO
  refine HO.mono ?_
  rintro _ W3 ⟨rfl, hb3⟩
  have hs3 := hb3.size
  have hlt3 : W2.heap.size < W3.heap.size := by simp at hs3; omega
  have x0 : W3.cell? ⟨W2.heap.size, 0, none⟩ = some (.int .u64 a) := by rw [hb3.cell (by simp)]; simp
  have x1 : W3.cell? ⟨W2.heap.size, 1, none⟩ = some (.int .i64 c) := by rw [hb3.cell (by simp)]; simp
  have b3 : Below W2.heap.size W2 W3 := bA.trans (hb3.mono (by simp))
  have p0 : W3.cell? ⟨W1.heap.size, 0, none⟩ = some (.int .u64 a) := (b3.cell (p := ⟨W1.heap.size, 0, none⟩) HS2.out).trans HP.out.1
  have p1 : W3.cell? ⟨W1.heap.size, 1, none⟩ = some (.int .i64 c) := (b3.cell (p := ⟨W1.heap.size, 1, none⟩) HS2.out).trans HP.out.2
  have B3 : Below W1.heap.size W1 W3 := HB2.out.trans (b3.mono HB2.out.size)
  obtain ⟨W4, hW4⟩ : ∃ W4, W4 = W3.alloc (.cells #[.int .u64 b, .int .i64 c] 32) := ⟨_, rfl⟩
  have b4 : Below W3.heap.size W3 W4 := by rw [hW4]; exact (Below.refl _ _).alloc (Nat.le_refl _) _
  have B4 : Below W1.heap.size W1 W4 := B3.trans (b4.mono B3.size)
  have hp3 : W1.heap.size < W3.heap.size := Nat.lt_trans HS2.out hlt3
  have x0' : W4.cell? ⟨W2.heap.size, 0, none⟩ = some (.int .u64 a) := (b4.cell (p := ⟨W2.heap.size, 0, none⟩) hlt3).trans x0
  have x1' : W4.cell? ⟨W2.heap.size, 1, none⟩ = some (.int .i64 c) := (b4.cell (p := ⟨W2.heap.size, 1, none⟩) hlt3).trans x1
  have p0' : W4.cell? ⟨W1.heap.size, 0, none⟩ = some (.int .u64 a) := (b4.cell (p := ⟨W1.heap.size, 0, none⟩) hp3).trans p0
  have p1' : W4.cell? ⟨W1.heap.size, 1, none⟩ = some (.int .i64 c) := (b4.cell (p := ⟨W1.heap.size, 1, none⟩) hp3).trans p1
  have y0 : W4.cell? ⟨W3.heap.size, 0, none⟩ = some (.int .u64 b) := by rw [hW4]; simp
  have y1 : W4.cell? ⟨W3.heap.size, 1, none⟩ = some (.int .i64 c) := by rw [hW4]; simp
  have HE := Lib.hid (page_error a c ha hc W1.heap.size W4 (HT1.out.below B4) p0' p1')
  have HR := Lib.hid (fun w => ref_page a c ha hc w)
  have HB4 := Lib.hid B4
  have HW4 := Lib.hid hW4
  clear HO hb3 hs3 bA b3 x0' x1' p0' p1' y0 y1 B3 b4 B4 hW4
  go_wp2_with fail
  refine (page_unwrap _ _).mono ?_
  rintro _ _ ⟨rfl, rfl⟩
  go_wp2_with fail
  refine (Is_at 24 (.int .i64 4) 4 (.bool true) _ (is_errno_yes _)).mono ?_
  rintro _ _ ⟨rfl, rfl⟩
  go_wp2_with fail
  rw [← HW4.out]
  refine HE.out.mono ?_
  rintro _ W5 ⟨rfl, hb5⟩
  have HB5 := Lib.hid (HB4.out.trans (hb5.mono HB4.out.size))
  clear hb5 HW4 HE
  go_wp2_with fail
  refine (HR.out _).mono ?_
  rintro _ W6 ⟨rfl, hb6⟩
  have HB6 := Lib.hid (HB1.out.trans ((HB5.out.trans (hb6.mono HB5.out.size)).mono HB1.out.size))
  clear hb6 HR
  go_wp2
  go_ret
  exact ⟨rfl, HB6.out⟩
/-- THE LAW's WALK. -/
theorem pages_walk (a b c : Nat) (ha : a < 18446744073709551616) (hc : c < 256) (w : World) (hg : Laid w) (ht : Tabs w) :
    Calls Tryd.prog 4 #[.int .u64 a, .int .u64 b, .int .u8 c] w fun e w' => e = .returned (.bool true) ∧ Below w.heap.size w w' := by
  by_cases h : a = b
  · subst h; exact pages_eq a c ha hc w hg ht
  · exact pages_ne a b c ha hc (by simp; omega) w hg ht
end Go.Proofs.YtmljlebpoonecaaDoor
