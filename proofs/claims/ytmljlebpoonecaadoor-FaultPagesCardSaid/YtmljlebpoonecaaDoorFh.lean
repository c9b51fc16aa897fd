/- FaultKinds of package dormerlaw07 returns true at every kind, word and address in every world where errors.errorType is laid. -/
import Derived.Test.YtmljlebpoonecaaDoorFg
namespace Go.Proofs.YtmljlebpoonecaaDoor
open Go.RowKit Go.Extern.Stop Go.Stop Go.Extern

set_option maxHeartbeats 1000000 in
/-- THE LAW's WALK. -/
theorem kinds_walk (n addr : Int) (why : ByteArray) (hn0 : 0 ≤ n) (hn1 : n ≤ 255) (w : World) (hg : Laid w) :
    Calls Tryd.prog 3 #[.int .u8 n, .string why, .int .u64 addr] w fun e w' => e = .returned (.bool true) ∧ Below w.heap.size w w' := by
  have HG := Lib.hid hg
  clear hg
  go_enter Tryd.func3, Tryd.ntmps3
  go_wp2_with fail
  refine (awake w HG.out).mono ?_
  rintro _ W1 ⟨rfl, hb1⟩
  have HB1 := Lib.hid hb1
  have HL1 := Lib.hid (HG.out.below hb1)
  clear hb1
  go_wp2_with fail
  refine (new_any _ _).mono ?_
  rintro _ _ ⟨rfl, rfl⟩
  go_wp2_with fail
  refine (wrap_any _ _ _ _).mono ?_
  rintro _ _ ⟨rfl, rfl⟩
  go_wp2_with fail
  refine (at_any _ _ _).mono ?_
  rintro _ _ ⟨rfl, rfl⟩
  go_wp2_with fail
  obtain ⟨W2, hW2⟩ : ∃ W2, W2 = ((((W1.alloc (.cells #[.string why] 48)).alloc (.cells #[.string why, .iface 24 (.int .i64 (1 + n % 9))] 55)).alloc (.cells #[.int .u64 addr, .int .i64 1] 32)).alloc (.cells #[.iface 53 (.pointer (some ⟨W1.heap.size + 1, 0, none⟩)), .iface 44 (.pointer (some ⟨W1.heap.size + 1 + 1, 0, none⟩))] 26)) := ⟨_, rfl⟩
  rw [← hW2]
  have B2 : Below W1.heap.size W1 W2 := by rw [hW2]; exact ((((Below.refl _ _).alloc (Nat.le_refl _) _).alloc (by simp) _).alloc (by simp; omega) _).alloc (by simp; omega) _
  have s2 : W2.heap.size = W1.heap.size + 1 + 1 + 1 + 1 := by rw [hW2]; simp
  have c1 : W2.cell? ⟨W1.heap.size + 1, 1, none⟩ = some (.iface 24 (.int .i64 (1 + n % 9))) := by rw [hW2]; simp [go_sem]
  have c2 : W2.cell? ⟨W1.heap.size + 1 + 1, 0, none⟩ = some (.int .u64 addr) := by rw [hW2]; simp [go_sem]
  have c3 : W2.cell? ⟨W1.heap.size + 1 + 1, 1, none⟩ = some (.int .i64 1) := by rw [hW2]; simp [go_sem]
  have c4 : W2.cell? ⟨W1.heap.size + 1 + 1 + 1, 0, none⟩ = some (.iface 53 (.pointer (some ⟨W1.heap.size + 1, 0, none⟩))) := by rw [hW2]; simp [go_sem]
  have c5 : W2.cell? ⟨W1.heap.size + 1 + 1 + 1, 1, none⟩ = some (.iface 44 (.pointer (some ⟨W1.heap.size + 1 + 1, 0, none⟩))) := by rw [hW2]; simp [go_sem]
  have HJ := Lib.hid (join_two _ 2 _ _ _ _ W2 c4 c5)
  have HB2 := Lib.hid B2
  have HL2 := Lib.hid (HL1.out.below B2)
  have k1 : ∀ W, Below W2.heap.size W2 W → W.cell? ⟨W1.heap.size + 1, 1, none⟩ = some (.iface 24 (.int .i64 (1 + n % 9))) := fun W h => (h.cell (p := ⟨W1.heap.size + 1, 1, none⟩) (World.block_lt_of_cell? _ _ c1)).trans c1
  have k2 : ∀ W, Below W2.heap.size W2 W → W.cell? ⟨W1.heap.size + 1 + 1, 0, none⟩ = some (.int .u64 addr) := fun W h => (h.cell (p := ⟨W1.heap.size + 1 + 1, 0, none⟩) (World.block_lt_of_cell? _ _ c2)).trans c2
  have k3 : ∀ W, Below W2.heap.size W2 W → W.cell? ⟨W1.heap.size + 1 + 1, 1, none⟩ = some (.int .i64 1) := fun W h => (h.cell (p := ⟨W1.heap.size + 1 + 1, 1, none⟩) (World.block_lt_of_cell? _ _ c3)).trans c3
  have K1 := Lib.hid k1
  have K2 := Lib.hid k2
  have K3 := Lib.hid k3
  clear k1 k2 k3 c1 c2 c3 c4 c5 B2 s2 hW2
  refine HJ.out.mono ?_
  rintro _ W3 ⟨rfl, hb3, hz3, j0, j1, j2⟩
  have m0 : ∀ W, Below W3.heap.size W3 W → W.cell? ⟨W2.heap.size + 1, 0, none⟩ = some (.slice (some ⟨W2.heap.size, 0, none⟩) 2 2) := fun W h => (h.cell (p := ⟨W2.heap.size + 1, 0, none⟩) (World.block_lt_of_cell? _ _ j0)).trans j0
  have m1 : ∀ W, Below W3.heap.size W3 W → W.cell? ⟨W2.heap.size, 0, none⟩ = some (.iface 53 (.pointer (some ⟨W1.heap.size + 1, 0, none⟩))) := fun W h => (h.cell (p := ⟨W2.heap.size, 0, none⟩) (World.block_lt_of_cell? _ _ j1)).trans j1
  have m2 : ∀ W, Below W3.heap.size W3 W → W.cell? ⟨W2.heap.size, 1, none⟩ = some (.iface 44 (.pointer (some ⟨W1.heap.size + 1 + 1, 0, none⟩))) := fun W h => (h.cell (p := ⟨W2.heap.size, 1, none⟩) (World.block_lt_of_cell? _ _ j2)).trans j2
  have t3 : ∀ W, Below W3.heap.size W3 W → Below W2.heap.size W2 W := fun W h => hb3.trans (h.mono hb3.size)
  have q1 : ∀ W, Below W3.heap.size W3 W → W.cell? ⟨W1.heap.size + 1, 1, none⟩ = some (.iface 24 (.int .i64 (1 + n % 9))) := fun W h => K1.out W (t3 W h)
  have L3 := HL2.out.below hb3
  have HO := Lib.hid (of_hit 50 (.pointer (some ⟨W2.heap.size + 1, 0, none⟩)) (W1.heap.size + 1 + 1) addr 1 W3 L3 (K2.out _ hb3) (K3.out _ hb3)
    (fun W h => is_join _ _ _ _ _ _ W (m0 W h) (m1 W h) (m2 W h) (q1 W h)) (fun x a t old W h ha ht hf => as_joinP _ _ _ _ _ _ x a t old W (m0 W h) (m1 W h) (m2 W h) (q1 W h) ha ht hf))
  have HK := Lib.hid (fun W (h : Below W3.heap.size W3 W) => kind_hit 50 (.pointer (some ⟨W2.heap.size + 1, 0, none⟩)) (1 + n % 9) W (L3.below h)
    (fun x a t old W' h' ha ht hf => as_joinE _ _ _ _ _ _ x a t old W' (m0 W' (h.trans (h'.mono h.size))) (m1 W' (h.trans (h'.mono h.size))) (m2 W' (h.trans (h'.mono h.size))) (q1 W' (h.trans (h'.mono h.size))) ha ht hf))
  have HB3 := Lib.hid (HB2.out.trans (hb3.mono HB2.out.size))
  have HL3 := Lib.hid L3
  clear HJ hb3 hz3 j0 j1 j2 m0 m1 m2 t3 q1 L3 K1 K2 K3
  go_wp2_with fail
  refine HO.out.mono ?_
  rintro _ W4 ⟨rfl, hb4⟩
  have HB4 := Lib.hid hb4
  clear hb4 HO
  go_wp2_with fail
  refine (wrap_any _ _ _ _).mono ?_
  rintro _ _ ⟨rfl, rfl⟩
  obtain ⟨W5, hW5⟩ : ∃ W5, W5 = (W4.alloc (.cells #[.int .u64 addr, .int .i64 1] 32)).alloc (.cells #[.string why, .iface 24 (.int .i64 (1 + n % 9))] 55) := ⟨_, rfl⟩
  have B5 : Below W3.heap.size W3 W5 := by rw [hW5]; exact (HB4.out.alloc HB4.out.size _).alloc (by have := HB4.out.size; simp; omega) _
  have d0 : W5.cell? ⟨W4.heap.size, 0, none⟩ = some (.int .u64 addr) := by rw [hW5]; simp [go_sem]
  have d1 : W5.cell? ⟨W4.heap.size + 1, 1, none⟩ = some (.iface 24 (.int .i64 (1 + n % 9))) := by rw [hW5]; simp [go_sem]
  have HKA := Lib.hid (kind_ahead_errno _ _ W5 (HL3.out.below B5) d1)
  have kd : ∀ W, Below W5.heap.size W5 W → W.cell? ⟨W4.heap.size, 0, none⟩ = some (.int .u64 addr) := fun W h => (h.cell (p := ⟨W4.heap.size, 0, none⟩) (World.block_lt_of_cell? _ _ d0)).trans d0
  have KD := Lib.hid kd
  have HB5 := Lib.hid B5
  clear kd d0 d1 B5
  go_wp2_with fail
  rw [← hW5]
  clear hW5
  refine HKA.out.mono ?_
  rintro _ W6 ⟨rfl, hb6⟩
  have HB6 := Lib.hid hb6
  clear hb6 HKA HB4
  go_wp2_with fail
  refine (kind_errno _ _ ((HL3.out.below HB5.out).below HB6.out)).mono ?_
  rintro _ W7 ⟨rfl, hb7⟩
  have HB7 := Lib.hid (HB6.out.trans (hb7.mono HB6.out.size))
  clear hb7 HB6
  go_wp2_with fail
  refine (kind_str _ _ ((HL3.out.below HB5.out).below HB7.out)).mono ?_
  rintro _ W8 ⟨rfl, hb8⟩
  have HB8 := Lib.hid (HB7.out.trans (hb8.mono HB7.out.size))
  clear hb8 HB7
  go_wp2_with fail
  refine (wrap_any _ _ _ _).mono ?_
  rintro _ _ ⟨rfl, rfl⟩
  go_wp2_with fail
  refine (kind_ahead_str W8.heap.size _ _ (((HL3.out.below HB5.out).below HB8.out).below ((Below.refl _ _).alloc (Nat.le_refl _) _)) (by simp; rfl)).mono ?_
  rintro _ W9 ⟨rfl, hb9⟩
  have HB9 := Lib.hid ((HB8.out.alloc HB8.out.size _).trans (hb9.mono (by have := HB8.out.size; simp; omega)))
  clear hb9 HB8
  have d9 := KD.out _ HB9.out
  go_wp2_with fail
  refine (HK.out W9 (HB5.out.trans (HB9.out.mono HB5.out.size))).mono ?_
  rintro _ W10 ⟨rfl, hb10⟩
  have HB10 := Lib.hid (HB3.out.trans ((HB5.out.trans ((HB9.out.trans (hb10.mono HB9.out.size)).mono HB5.out.size)).mono HB3.out.size))
  clear hb10
  go_wp2
  go_ret
  exact ⟨rfl, HB1.out.trans (HB10.out.mono HB1.out.size)⟩
end Go.Proofs.YtmljlebpoonecaaDoor
