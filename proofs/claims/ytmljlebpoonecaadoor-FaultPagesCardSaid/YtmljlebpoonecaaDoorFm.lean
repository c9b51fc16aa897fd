/- internal/strconv.formatBits answers at the base 16 with the figures of every uint64; the one condition is that the place 15 of the table of math/bits holds 4. -/
import Derived.Test.YtmljlebpoonecaaDoorFl
import Derived.Lib.Walk
import Derived.Lib.ItoaWalk
namespace Go.Proofs.YtmljlebpoonecaaDoor
open Go.RowKit

theorem zeros65 (t : Nat) (h : t < 65) : Tryd.zeroCells100[t]? = some (.int .u8 0) := by
  have e : Tryd.zeroCells100 = Array.replicate 65 (.int .u8 0) := by kernel_rfl
  rw [e, Array.getElem?_replicate, if_pos h]

theorem digits_fin : ∀ m : Fin 16, Lib.digits36.data.toList.getD m.val 0 = hexd m.val := by decide +kernel
theorem idx_digits (k : IntKind) (m : Nat) (hm : m < 16) (w : World) :
    (Instr.index 9 (.string Lib.digits36) (.int k m)).run Tryd.prog w = .ok (.int .u8 ((hexd m).toNat : Int)) w := by
  rw [run_index_string w 9 Lib.digits36 k _ Tryd.underlying9, dif_pos ⟨by omega, by rw [Lib.digits36_size]; omega⟩]
  have e : ((m : Int)).toNat = m := by omega
  simp only [e]
  rw [Lib.getD_at Lib.digits36 m (by rw [Lib.digits36_size]; omega), digits_fin ⟨m, hm⟩]

theorem and15 (a : Nat) (h : a < 18446744073709551616) : bits BinOp.and IntKind.u64 (a : Int) 15 = ((a % 16 : Nat) : Int) := by
  have := u64_and_nat a 15 h (by omega)
  rw [show ((15 : Nat) : Int) = 15 from rfl] at this
  rw [this, show (15 : Nat) = 2 ^ 4 - 1 from rfl, Nat.and_two_pow_sub_one_eq_mod]

/-- What the loop keeps: behind place i lie the figures that are done; u' is what is left. -/
structure BInv (u : Nat) (w wr : World) (u' i : Nat) (ds : List UInt8) : Prop where
  len : ds.length + i = 65
  lo : 50 ≤ i
  small : u' < 16 ^ (i - 49)
  eq : hexDigits u = hexDigits u' ++ ds
  cells : ∀ j (h : j < ds.length), wr.cell? ⟨w.heap.size, i + j, none⟩ = some (.int .u8 (ds[j].toNat : Int))
  any : ∀ t, t < 65 → ∃ z, wr.cell? ⟨w.heap.size, t, none⟩ = some z
  fz : ∀ t, t < 65 → wr.frozen? ⟨w.heap.size, t, none⟩ = false
  below : Below w.heap.size w wr

theorem other_cell {w : World} {b k t : Nat} (v : Value) (h : k ≠ t) : (w.setCell ⟨b, k, none⟩ v).cell? ⟨b, t, none⟩ = w.cell? ⟨b, t, none⟩ := by
  refine World.cell?_setCell_other _ _ _ _ ?_
  intro e
  exact h (by injection e)
/-- One figure more. -/
theorem BInv.put {u : Nat} {w wr : World} {u' k : Nat} {ds : List UInt8} (h : BInv u w wr u' (k + 1) ds) (x : UInt8) :
    (∀ j (hj : j < (x :: ds).length), (wr.setCell ⟨w.heap.size, k, none⟩ (.int .u8 (x.toNat : Int))).cell? ⟨w.heap.size, k + j, none⟩ = some (.int .u8 ((x :: ds)[j].toNat : Int))) ∧
    (∀ t, t < 65 → ∃ z, (wr.setCell ⟨w.heap.size, k, none⟩ (.int .u8 (x.toNat : Int))).cell? ⟨w.heap.size, t, none⟩ = some z) ∧
    (∀ t, t < 65 → (wr.setCell ⟨w.heap.size, k, none⟩ (.int .u8 (x.toNat : Int))).frozen? ⟨w.heap.size, t, none⟩ = false) ∧
    Below w.heap.size w (wr.setCell ⟨w.heap.size, k, none⟩ (.int .u8 (x.toNat : Int))) := by
  have hk : k < 65 := by have := h.len; omega
  obtain ⟨z, hz⟩ := h.any k hk
  refine ⟨?_, ?_, ?_, h.below.setCell (Nat.le_refl _) _⟩
  · intro j hj
    cases j with
    | zero => exact World.cell?_setCell_same _ _ _ hz
    | succ j =>
      have hj' : j < ds.length := by simpa using hj
      have := h.cells j hj'
      rw [show k + 1 + j = k + (j + 1) by omega] at this
      exact (other_cell _ (by omega)).trans this
  · intro t ht
    by_cases e : t = k
    · subst e; exact ⟨_, World.cell?_setCell_same _ _ _ hz⟩
    · obtain ⟨y, hy⟩ := h.any t ht
      exact ⟨y, (other_cell _ (Ne.symm e)).trans hy⟩
  · intro t ht
    rw [World.frozen?_setCell]
    exact h.fz t ht
theorem BInv.step {u : Nat} {w wr : World} {u' k : Nat} {ds : List UInt8} (h : BInv u w wr u' (k + 1) ds) (h16 : 16 ≤ u') :
    BInv u w (wr.setCell ⟨w.heap.size, k, none⟩ (.int .u8 ((hexd (u' % 16)).toNat : Int))) (u' / 16) k (hexd (u' % 16) :: ds) := by
  obtain ⟨p1, p2, p3, p4⟩ := h.put (hexd (u' % 16))
  have hlo : 50 ≤ k := by
    rcases Nat.lt_or_ge k 50 with hk | hk
    · have h1 := h.small
      have h2 := h.lo
      have : k = 49 := by omega
      subst this
      simp at h1; omega
    · exact hk
  refine ⟨by have := h.len; simp; omega, hlo, ?_, ?_, p1, p2, p3, p4⟩
  · have h1 := h.small
    rw [show k + 1 - 49 = (k - 49) + 1 by omega, Nat.pow_succ] at h1
    omega
  · rw [h.eq, hexDigits.eq_1 u', dif_neg (by omega)]; simp
/-- The end: the figures read as one string. -/
theorem BInv.fin {u : Nat} {w wr : World} {u' k : Nat} {ds : List UInt8} (h : BInv u w wr u' (k + 1) ds) (h16 : u' < 16) :
    (convert 84 9 (.slice (some ⟨w.heap.size, k, none⟩) (65 - k) (65 - k))).run Tryd.prog (wr.setCell ⟨w.heap.size, k, none⟩ (.int .u8 ((hexd u').toNat : Int))) = .ok (.string ⟨(hexDigits u).toArray⟩) (wr.setCell ⟨w.heap.size, k, none⟩ (.int .u8 ((hexd u').toNat : Int))) ∧
    Below w.heap.size w (wr.setCell ⟨w.heap.size, k, none⟩ (.int .u8 ((hexd u').toNat : Int))) := by
  obtain ⟨p1, p2, p3, p4⟩ := h.put (hexd u')
  refine ⟨?_, p4⟩
  have e : hexDigits u = hexd u' :: ds := by rw [h.eq, hexDigits.eq_1 u', dif_pos h16]; rfl
  have el : (hexd u' :: ds).length = 65 - k := by have := h.len; simp; omega
  rw [e, ← el]
  refine run_convert_bytes_back _ 84 9 5 ⟨w.heap.size, k, none⟩ _ (hexd u' :: ds) Tryd.underlying84 Tryd.underlying5 Tryd.underlying9 fun j hj => ?_
  have := p1 j hj
  rw [← this]
  congr 1
  unfold Addr.add
  cases j <;> rfl

/-- The array sliced from place k on. -/
theorem slice65 (b k : Nat) (hk : k < 65) (w : World) :
    (Instr.sliceAt 100 (.pointer (some ⟨b, 0, none⟩)) (some (.int .i64 k)) none none).run Tryd.prog w = .ok (.slice (some ⟨b, k, none⟩) (65 - k) (65 - k)) w := by
  have hal : Tryd.prog.arrayLen 100 = 65 := by simp [Program.arrayLen, Tryd.underlying100]
  have hel : Tryd.prog.elem 100 = 5 := by simp [Program.elem, Tryd.underlying100]
  rw [run_sliceAt_array_l w 100 ⟨b, 0, none⟩ (by rw [hal, hel]; exact Tryd.underlying100) .i64 k (by omega) (by rw [hal]; omega)]
  rw [hal, hel]
  have hs : (sizeOf 5).run Tryd.prog w = .ok 1 w := by kernel_rfl
  rw [hs]
  have h65 : ¬ 65 = k := by omega
  simp [Result.andThen, slicedAt, h65, Addr.add]
  cases k <;> simp

set_option maxRecDepth 100000 in
theorem bits16 (u : Nat) (h : u < 18446744073709551616) (w : World) (hT : w.cell? ⟨3, 15, none⟩ = some (.int .u8 4)) :
    Calls Tryd.prog 39 #[.slice none 0 0, .int .u64 u, .int .i64 16, .bool false, .bool false] w fun e w' => e = .returned (.tuple #[.slice none 0 0, .string ⟨(hexDigits u).toArray⟩]) ∧ Below w.heap.size w w' := by
  have hg : 3 < w.heap.size := World.block_lt_of_cell? _ _ hT
  have hg1 : 3 < w.heap.size + 1 := by omega
  have hx : bits BinOp.and IntKind.u64 16 (IntKind.u64.wrap (-16)) = 16 := by kernel_rfl
  go_enter Tryd.func39, Tryd.ntmps39
  go_name_bytes MS hMS
  clear hMS
  go_name_bytes DG hDG
  have eDG : DG = Lib.digits36 := by rw [← hDG]; decide +kernel
  subst eDG
  clear hDG
  go_wp2
  go_loopw [1, 13] (fun vu vi wr => ∃ (u' i : Nat) (ds : List UInt8), vu = .int .u64 u' ∧ vi = .int .i64 i ∧ Hid (BInv u w wr u' i ds)) (fun vu _ _ => (RowKit.intOf vu).toNat)
  case atStart =>
    refine ⟨u, 65, [], rfl, rfl, Lib.hid ⟨rfl, by omega, by simpa using h, by simp, fun j h => by simp at h, fun t ht => ⟨.int .u8 0, ?_⟩, fun t ht => ?_, (Below.refl _ _).alloc (Nat.le_refl _) _⟩⟩
    · rw [World.cell?_alloc_new]; exact zeros65 t ht
    · exact World.frozen?_alloc_new _ _ _ _
  case round =>
    obtain ⟨u', i, ds, rfl, rfl, HI⟩ := hrel
    rename World => wr
    obtain ⟨k, rfl⟩ : ∃ k, i = k + 1 := ⟨i - 1, by have := HI.out.lo; omega⟩
    have hk : (k : Int) < 65 := by have := HI.out.len; omega
    obtain ⟨z, hz⟩ := HI.out.any k (by omega)
    have hf := HI.out.fz k (by omega)
    have hu : u' < 18446744073709551616 := by
      have h1 := HI.out.small
      exact Nat.lt_of_lt_of_le h1 (Nat.pow_le_pow_right (by omega) (by omega : k + 1 - 49 ≤ 16))
    by_cases h16 : 16 ≤ u'
    · have hd := idx_digits .u64 (u' % 16) (by omega)
      obtain ⟨m, hm⟩ : ∃ m : Int, m = ((u' % 16 : Nat) : Int) := ⟨_, rfl⟩
      obtain ⟨x, hx⟩ : ∃ x : Int, x = ((hexd (u' % 16)).toNat : Int) := ⟨_, rfl⟩
      have ha := and15 u' hu
      rw [← hm] at ha hd
      rw [← hx] at hd
      have HM := Lib.hid hm
      have HX := Lib.hid hx
      clear hm hx
      go_wp2
      refine ⟨⟨u' / 16, k, hexd (u' % 16) :: ds, rfl, rfl, Lib.hid ?_⟩, ?_⟩
      · rw [HX.out]; exact HI.out.step h16
      · simp [intOf]; omega
    · have hd := idx_digits .u64 u' (by omega)
      obtain ⟨x, hx⟩ : ∃ x : Int, x = ((hexd u').toNat : Int) := ⟨_, rfl⟩
      have hF := HI.out.fin (by omega)
      rw [← hx] at hd hF
      obtain ⟨hc, hb⟩ := hF
      have HX := Lib.hid hx
      have HB := Lib.hid hb
      have hsl := slice65 w.heap.size k (by omega) (wr.setCell ⟨w.heap.size, k, none⟩ (.int .u8 x))
      clear hx hb
      go_wp2
      refine bodyPost_ret (v := .tuple #[.slice none 0 0, .string ⟨(hexDigits u).toArray⟩]) (by simp [results, Tryd.results39, go_sem]) rfl ⟨rfl, HB.out⟩
end Go.Proofs.YtmljlebpoonecaaDoor
