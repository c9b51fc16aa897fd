/- The tied card of FaultKinds of package dormerlaw07: it answers true for every kind, word and address, its inputs unchanged; no condition but the card's own. -/
import Derived.Test.YtmljlebpoonecaaDoorFi
import Derived.Test.YtmljlebpoonecaaDoorTie
import Derived.Test.YtmljlebpoonecaaDoorCards
import Derived.SevenTiedAt
namespace Go.Proofs.YtmljlebpoonecaaDoor
open Go

theorem faultKinds_card_holds : Rows.FaultKindsCardSaid :=
  Claim7.holds_tied_plain_at .later [] [.handle] true (true, "f92ffbeef20627dbbcff54de39cd08d310391fefe09bd0e9b4c49f81bb4ba0a2") true
    faultKinds_holds (fun _ h => by cases h) (by kernel_rfl) (fun _ h => by cases h) faultKinds_row_tie rfl ⟨rfl, rfl⟩ (by kernel_rfl) rfl
    (fun f fn hf hfn => by
      obtain rfl : f = 3 := Option.some.inj ((show Tryd.prog.funcNamed "dormer/dormerlaw07.FaultKinds" = some 3 by kernel_rfl).symm.trans hf) |>.symm
      obtain rfl : fn = Tryd.f3 := (Option.some.inj (Tryd.func3.symm.trans hfn)).symm
      exact ⟨by kernel_rfl, fun j t ht => by
        rw [Tryd.params3] at ht
        have h3 : t = 5 ∨ t = 9 ∨ t = 22 := by
          rcases j with _ | _ | _ | j
          · exact .inl (by simpa using ht.symm)
          · exact .inr (.inl (by simpa using ht.symm))
          · exact .inr (.inr (by simpa using ht.symm))
          · simp at ht
        rcases h3 with rfl | rfl | rfl
        · exact (show Tryd.prog.wantsStandIn 5 = false by kernel_rfl)
        · exact (show Tryd.prog.wantsStandIn 9 = false by kernel_rfl)
        · exact (show Tryd.prog.wantsStandIn 22 = false by kernel_rfl)⟩)
    (by kernel_rfl)
end Go.Proofs.YtmljlebpoonecaaDoor
