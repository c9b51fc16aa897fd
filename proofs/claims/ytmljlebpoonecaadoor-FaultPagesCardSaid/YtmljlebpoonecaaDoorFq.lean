/- The tied card of FaultPages of package dormerlaw07: it answers true for every two addresses and every code, its inputs unchanged; no condition but the card's own. -/
import Derived.Test.YtmljlebpoonecaaDoorFp
import Derived.Test.YtmljlebpoonecaaDoorTie
import Derived.Test.YtmljlebpoonecaaDoorCards
import Derived.SevenTiedAt
namespace Go.Proofs.YtmljlebpoonecaaDoor
open Go

theorem faultPages_card_holds : Rows.FaultPagesCardSaid :=
  Claim7.holds_tied_plain_at .later [] [.data, .data, .data, .handle] true (true, "f92ffbeef20627dbbcff54de39cd08d310391fefe09bd0e9b4c49f81bb4ba0a2") true
    faultPages_holds (fun _ h => by cases h) (by kernel_rfl) (fun _ h => by cases h) faultPages_row_tie rfl ⟨rfl, rfl⟩ (by kernel_rfl) rfl
    (fun f fn hf hfn => by
      obtain rfl : f = 4 := Option.some.inj ((show Tryd.prog.funcNamed "dormer/dormerlaw07.FaultPages" = some 4 by kernel_rfl).symm.trans hf) |>.symm
      obtain rfl : fn = Tryd.f4 := (Option.some.inj (Tryd.func4.symm.trans hfn)).symm
      exact ⟨by kernel_rfl, fun j t ht => by
        rw [Tryd.params4] at ht
        have h3 : t = 22 ∨ t = 22 ∨ t = 5 := by
          rcases j with _ | _ | _ | j
          · exact .inl (by simpa using ht.symm)
          · exact .inr (.inl (by simpa using ht.symm))
          · exact .inr (.inr (by simpa using ht.symm))
          · simp at ht
        rcases h3 with rfl | rfl | rfl
        · exact (show Tryd.prog.wantsStandIn 22 = false by kernel_rfl)
        · exact (show Tryd.prog.wantsStandIn 22 = false by kernel_rfl)
        · exact (show Tryd.prog.wantsStandIn 5 = false by kernel_rfl)⟩)
    (by kernel_rfl)
end Go.Proofs.YtmljlebpoonecaaDoor
