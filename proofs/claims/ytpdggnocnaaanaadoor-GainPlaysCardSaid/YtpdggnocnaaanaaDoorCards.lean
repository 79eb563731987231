/-
  DERIVED. GIVEN WITH THE SEED: THE CARDS: each row of YtpdggnocnaaanaaDoorRows.lean that lists a variable, with what it lists TIED to the program's text (the seventh form; the later family's looks); each row that meets fmt, with fmt's text TOLD by the authors' own Lean function (tested against real Go, not proved from fmt's source: count such statements apart). THE CARD IS WHAT COUNTS. Prove the row's statement (the work); the ties are given (YtpdggnocnaaanaaDoorTie.lean); close each card by the builder's one call (the guide's Derived/Test/ToyasCard.lean, 'card_holds'). Laid BY PROGRAM, IN A SANDBOX (cutbox-door.mjs). By AI agents, Wed Nov 11 2026. No macro, syntax, notation, axiom, sorry.
-/
import Derived.Test.YtpdggnocnaaanaaDoorRows
import GoSem.ClaimSeven
namespace Go.Proofs.YtpdggnocnaaanaaDoor
namespace Rows

/-- THE TIED CARD OF 'aneroidlaw07.MotionRests'. -/
def motionRestsCard : Claim7 := { stood := { row := motionRestsRow, standIns := [], harness := (true, "42191c0cbbf5beb3d4aed4619ab2cae08c67889af151b6edcbe5a57d1837d29e"), looks := false }, kinds := [], alts := [], laidByText := true, laidKinds := [.data], laidTests := true, laidLooks := .later }
def MotionRestsCardSaid : Prop := Claim7.holds Tryd.pinned (.plain (OpenSpec.ofChange motionRestsSpec)) motionRestsCard

/-- THE TIED CARD OF 'aneroidlaw07.MotionShifts'. -/
def motionShiftsCard : Claim7 := { stood := { row := motionShiftsRow, standIns := [], harness := (true, "42191c0cbbf5beb3d4aed4619ab2cae08c67889af151b6edcbe5a57d1837d29e"), looks := false }, kinds := [], alts := [], laidByText := true, laidKinds := [.data], laidTests := true, laidLooks := .later }
def MotionShiftsCardSaid : Prop := Claim7.holds Tryd.pinned (.plain (OpenSpec.ofChange motionShiftsSpec)) motionShiftsCard

/-- THE TIED CARD OF 'aneroidlaw07.MotionOn'. -/
def motionOnCard : Claim7 := { stood := { row := motionOnRow, standIns := [], harness := (true, "42191c0cbbf5beb3d4aed4619ab2cae08c67889af151b6edcbe5a57d1837d29e"), looks := false }, kinds := [], alts := [], laidByText := true, laidKinds := [.data], laidTests := true, laidLooks := .later }
def MotionOnCardSaid : Prop := Claim7.holds Tryd.pinned (.plain (OpenSpec.ofChange motionOnSpec)) motionOnCard

/-- THE TIED CARD OF 'aneroidlaw11.GainLess'. -/
def gainLessCard : Claim7 := { stood := { row := gainLessRow, standIns := [], harness := (true, "42191c0cbbf5beb3d4aed4619ab2cae08c67889af151b6edcbe5a57d1837d29e"), looks := false }, kinds := [], alts := [], laidByText := true, laidKinds := [.data, .data], laidTests := true, laidLooks := .later }
def GainLessCardSaid : Prop := Claim7.holds Tryd.pinned (.plain (OpenSpec.ofChange gainLessSpec)) gainLessCard

/-- THE TIED CARD OF 'aneroidlaw11.GainMild'. -/
def gainMildCard : Claim7 := { stood := { row := gainMildRow, standIns := [], harness := (true, "42191c0cbbf5beb3d4aed4619ab2cae08c67889af151b6edcbe5a57d1837d29e"), looks := false }, kinds := [], alts := [], laidByText := true, laidKinds := [.data, .data], laidTests := true, laidLooks := .later }
def GainMildCardSaid : Prop := Claim7.holds Tryd.pinned (.plain (OpenSpec.ofChange gainMildSpec)) gainMildCard

/-- THE TIED CARD OF 'aneroidlaw08.SpreadOn'. -/
def spreadOnCard : Claim7 := { stood := { row := spreadOnRow, standIns := [], harness := (true, "42191c0cbbf5beb3d4aed4619ab2cae08c67889af151b6edcbe5a57d1837d29e"), looks := false }, kinds := [], alts := [], laidByText := true, laidKinds := [.data, .data, .data], laidTests := true, laidLooks := .later }
def SpreadOnCardSaid : Prop := Claim7.holds Tryd.pinned (.plain (OpenSpec.ofChange spreadOnSpec)) spreadOnCard

/-- THE TIED CARD OF 'aneroidlaw08.SpreadAdds'. -/
def spreadAddsCard : Claim7 := { stood := { row := spreadAddsRow, standIns := [], harness := (true, "42191c0cbbf5beb3d4aed4619ab2cae08c67889af151b6edcbe5a57d1837d29e"), looks := false }, kinds := [], alts := [], laidByText := true, laidKinds := [.data, .data, .data], laidTests := true, laidLooks := .later }
def SpreadAddsCardSaid : Prop := Claim7.holds Tryd.pinned (.plain (OpenSpec.ofChange spreadAddsSpec)) spreadAddsCard

/-- THE TIED CARD OF 'aneroidlaw08.SpreadGrows'. -/
def spreadGrowsCard : Claim7 := { stood := { row := spreadGrowsRow, standIns := [], harness := (true, "42191c0cbbf5beb3d4aed4619ab2cae08c67889af151b6edcbe5a57d1837d29e"), looks := false }, kinds := [], alts := [], laidByText := true, laidKinds := [.data, .data, .data], laidTests := true, laidLooks := .later }
def SpreadGrowsCardSaid : Prop := Claim7.holds Tryd.pinned (.plain (OpenSpec.ofChange spreadGrowsSpec)) spreadGrowsCard

/-- THE TIED CARD OF 'aneroidlaw11.GainPlays'. -/
def gainPlaysCard : Claim7 := { stood := { row := gainPlaysRow, standIns := [], harness := (true, "42191c0cbbf5beb3d4aed4619ab2cae08c67889af151b6edcbe5a57d1837d29e"), looks := false }, kinds := [], alts := [], laidByText := true, laidKinds := [.data, .data], laidTests := true, laidLooks := .later }
def GainPlaysCardSaid : Prop := Claim7.holds Tryd.pinned (.plain (OpenSpec.ofChange gainPlaysSpec)) gainPlaysCard

/-- THE TIED CARD OF 'aneroidlaw10.GateLooks'. -/
def gateLooksCard : Claim7 := { stood := { row := gateLooksRow, standIns := [], harness := (true, "42191c0cbbf5beb3d4aed4619ab2cae08c67889af151b6edcbe5a57d1837d29e"), looks := false }, kinds := [], alts := [], laidByText := true, laidKinds := [.data], laidTests := true, laidLooks := .later }
def GateLooksCardSaid : Prop := Claim7.holds Tryd.pinned (.plain (OpenSpec.ofChange gateLooksSpec)) gateLooksCard

/-- THE SECOND FORM's CARD OF 'aneroidlaw07.MotionRests'. -/
def motionRestsUptoCard : Claim7 := { stood := { row := motionRestsUptoRow, standIns := [], harness := (true, "42191c0cbbf5beb3d4aed4619ab2cae08c67889af151b6edcbe5a57d1837d29e"), looks := false }, kinds := [], alts := [], laidByText := true, laidKinds := [.data], laidTests := true, laidLooks := .later }
def MotionRestsUptoCardSaid : Prop := Claim7.holds Tryd.pinned (.plain (OpenSpec.upto motionRestsSpec)) motionRestsUptoCard

/-- THE SECOND FORM's CARD OF 'aneroidlaw07.MotionShifts'. -/
def motionShiftsUptoCard : Claim7 := { stood := { row := motionShiftsUptoRow, standIns := [], harness := (true, "42191c0cbbf5beb3d4aed4619ab2cae08c67889af151b6edcbe5a57d1837d29e"), looks := false }, kinds := [], alts := [], laidByText := true, laidKinds := [.data], laidTests := true, laidLooks := .later }
def MotionShiftsUptoCardSaid : Prop := Claim7.holds Tryd.pinned (.plain (OpenSpec.upto motionShiftsSpec)) motionShiftsUptoCard

/-- THE SECOND FORM's CARD OF 'aneroidlaw07.MotionOn'. -/
def motionOnUptoCard : Claim7 := { stood := { row := motionOnUptoRow, standIns := [], harness := (true, "42191c0cbbf5beb3d4aed4619ab2cae08c67889af151b6edcbe5a57d1837d29e"), looks := false }, kinds := [], alts := [], laidByText := true, laidKinds := [.data], laidTests := true, laidLooks := .later }
def MotionOnUptoCardSaid : Prop := Claim7.holds Tryd.pinned (.plain (OpenSpec.upto motionOnSpec)) motionOnUptoCard

/-- THE SECOND FORM's CARD OF 'aneroidlaw11.GainLess'. -/
def gainLessUptoCard : Claim7 := { stood := { row := gainLessUptoRow, standIns := [], harness := (true, "42191c0cbbf5beb3d4aed4619ab2cae08c67889af151b6edcbe5a57d1837d29e"), looks := false }, kinds := [], alts := [], laidByText := true, laidKinds := [.data, .data], laidTests := true, laidLooks := .later }
def GainLessUptoCardSaid : Prop := Claim7.holds Tryd.pinned (.plain (OpenSpec.upto gainLessSpec)) gainLessUptoCard

/-- THE SECOND FORM's CARD OF 'aneroidlaw11.GainMild'. -/
def gainMildUptoCard : Claim7 := { stood := { row := gainMildUptoRow, standIns := [], harness := (true, "42191c0cbbf5beb3d4aed4619ab2cae08c67889af151b6edcbe5a57d1837d29e"), looks := false }, kinds := [], alts := [], laidByText := true, laidKinds := [.data, .data], laidTests := true, laidLooks := .later }
def GainMildUptoCardSaid : Prop := Claim7.holds Tryd.pinned (.plain (OpenSpec.upto gainMildSpec)) gainMildUptoCard

/-- THE SECOND FORM's CARD OF 'aneroidlaw08.SpreadOn'. -/
def spreadOnUptoCard : Claim7 := { stood := { row := spreadOnUptoRow, standIns := [], harness := (true, "42191c0cbbf5beb3d4aed4619ab2cae08c67889af151b6edcbe5a57d1837d29e"), looks := false }, kinds := [], alts := [], laidByText := true, laidKinds := [.data, .data, .data], laidTests := true, laidLooks := .later }
def SpreadOnUptoCardSaid : Prop := Claim7.holds Tryd.pinned (.plain (OpenSpec.upto spreadOnSpec)) spreadOnUptoCard

/-- THE SECOND FORM's CARD OF 'aneroidlaw08.SpreadAdds'. -/
def spreadAddsUptoCard : Claim7 := { stood := { row := spreadAddsUptoRow, standIns := [], harness := (true, "42191c0cbbf5beb3d4aed4619ab2cae08c67889af151b6edcbe5a57d1837d29e"), looks := false }, kinds := [], alts := [], laidByText := true, laidKinds := [.data, .data, .data], laidTests := true, laidLooks := .later }
def SpreadAddsUptoCardSaid : Prop := Claim7.holds Tryd.pinned (.plain (OpenSpec.upto spreadAddsSpec)) spreadAddsUptoCard

/-- THE SECOND FORM's CARD OF 'aneroidlaw08.SpreadGrows'. -/
def spreadGrowsUptoCard : Claim7 := { stood := { row := spreadGrowsUptoRow, standIns := [], harness := (true, "42191c0cbbf5beb3d4aed4619ab2cae08c67889af151b6edcbe5a57d1837d29e"), looks := false }, kinds := [], alts := [], laidByText := true, laidKinds := [.data, .data, .data], laidTests := true, laidLooks := .later }
def SpreadGrowsUptoCardSaid : Prop := Claim7.holds Tryd.pinned (.plain (OpenSpec.upto spreadGrowsSpec)) spreadGrowsUptoCard

/-- THE SECOND FORM's CARD OF 'aneroidlaw11.GainPlays'. -/
def gainPlaysUptoCard : Claim7 := { stood := { row := gainPlaysUptoRow, standIns := [], harness := (true, "42191c0cbbf5beb3d4aed4619ab2cae08c67889af151b6edcbe5a57d1837d29e"), looks := false }, kinds := [], alts := [], laidByText := true, laidKinds := [.data, .data], laidTests := true, laidLooks := .later }
def GainPlaysUptoCardSaid : Prop := Claim7.holds Tryd.pinned (.plain (OpenSpec.upto gainPlaysSpec)) gainPlaysUptoCard

/-- THE SECOND FORM's CARD OF 'aneroidlaw10.GateLooks'. -/
def gateLooksUptoCard : Claim7 := { stood := { row := gateLooksUptoRow, standIns := [], harness := (true, "42191c0cbbf5beb3d4aed4619ab2cae08c67889af151b6edcbe5a57d1837d29e"), looks := false }, kinds := [], alts := [], laidByText := true, laidKinds := [.data], laidTests := true, laidLooks := .later }
def GateLooksUptoCardSaid : Prop := Claim7.holds Tryd.pinned (.plain (OpenSpec.upto gateLooksSpec)) gateLooksUptoCard
end Rows
end Go.Proofs.YtpdggnocnaaanaaDoor
