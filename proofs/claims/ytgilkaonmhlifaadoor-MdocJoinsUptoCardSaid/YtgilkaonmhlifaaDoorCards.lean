/-
  DERIVED. GIVEN WITH THE SEED: THE CARDS: each row of YtgilkaonmhlifaaDoorRows.lean that lists a variable, with what it lists TIED to the program's text (the seventh form; the later family's looks); each row that meets fmt, with fmt's text TOLD by the authors' own Lean function (tested against real Go, not proved from fmt's source: count such statements apart). THE CARD IS WHAT COUNTS. Prove the row's statement (the work); the ties are given (YtgilkaonmhlifaaDoorTie.lean); close each card by the builder's one call (the guide's Derived/Test/ToyasCard.lean, 'card_holds'). Laid BY PROGRAM, IN A SANDBOX (cutbox-door.mjs). By AI agents, Wed Nov 11 2026. No macro, syntax, notation, axiom, sorry.
-/
import Derived.Test.YtgilkaonmhlifaaDoorRows
import GoSem.ClaimSeven
namespace Go.Proofs.YtgilkaonmhlifaaDoor
namespace Rows

/-- THE TIED CARD OF 'flonglaw06.StylesLines'. -/
def stylesLinesCard : Claim7 := { stood := { row := stylesLinesRow, standIns := [], harness := (true, "56e9fe9a91f80af4202eb2bf2e64c876cfdb4ae7a5e31c79e6897a994f699218"), looks := false }, kinds := [], alts := [], laidByText := true, laidKinds := [.mapped, .mapped, .data], laidTests := true, laidLooks := .later }
def StylesLinesCardSaid : Prop := Claim7.holds Tryd.pinned (.plain (OpenSpec.ofChange stylesLinesSpec)) stylesLinesCard

/-- THE TIED CARD OF 'flonglaw06.StylesJoins'. -/
def stylesJoinsCard : Claim7 := { stood := { row := stylesJoinsRow, standIns := [], harness := (true, "56e9fe9a91f80af4202eb2bf2e64c876cfdb4ae7a5e31c79e6897a994f699218"), looks := false }, kinds := [], alts := [], laidByText := true, laidKinds := [.mapped, .mapped, .data], laidTests := true, laidLooks := .later }
def StylesJoinsCardSaid : Prop := Claim7.holds Tryd.pinned (.plain (OpenSpec.ofChange stylesJoinsSpec)) stylesJoinsCard

/-- THE TIED CARD OF 'flonglaw07.TreeOwn'. -/
def treeOwnCard : Claim7 := { stood := { row := treeOwnRow, standIns := [], harness := (true, "56e9fe9a91f80af4202eb2bf2e64c876cfdb4ae7a5e31c79e6897a994f699218"), looks := false }, kinds := [], alts := [], laidByText := true, laidKinds := [.data, .data, .pinned], laidTests := true, laidLooks := .later }
def TreeOwnCardSaid : Prop := Claim7.holds Tryd.pinned (.plain (OpenSpec.ofChange treeOwnSpec)) treeOwnCard

/-- THE TIED CARD OF 'flonglaw11.MdocJoins'. -/
def mdocJoinsCard : Claim7 := { stood := { row := mdocJoinsRow, standIns := [], harness := (true, "56e9fe9a91f80af4202eb2bf2e64c876cfdb4ae7a5e31c79e6897a994f699218"), looks := false }, kinds := [], alts := [], laidByText := true, laidKinds := [.mapped, .mapped, .data], laidTests := true, laidLooks := .later }
def MdocJoinsCardSaid : Prop := Claim7.holds Tryd.pinned (.plain (OpenSpec.ofChange mdocJoinsSpec)) mdocJoinsCard

/-- THE TIED CARD OF 'flonglaw11.MdocSigns'. -/
def mdocSignsCard : Claim7 := { stood := { row := mdocSignsRow, standIns := [], harness := (true, "56e9fe9a91f80af4202eb2bf2e64c876cfdb4ae7a5e31c79e6897a994f699218"), looks := false }, kinds := [], alts := [], laidByText := true, laidKinds := [.mapped, .mapped, .data], laidTests := true, laidLooks := .later }
def MdocSignsCardSaid : Prop := Claim7.holds Tryd.pinned (.plain (OpenSpec.ofChange mdocSignsSpec)) mdocSignsCard

/-- THE TIED CARD OF 'flonglaw08.BuildTexts'. -/
def buildTextsCard : Claim7 := { stood := { row := buildTextsRow, standIns := [], harness := (true, "56e9fe9a91f80af4202eb2bf2e64c876cfdb4ae7a5e31c79e6897a994f699218"), looks := false }, kinds := [], alts := [], laidByText := true, laidKinds := [.data, .data, .data, .pinned], laidTests := true, laidLooks := .later }
def BuildTextsCardSaid : Prop := Claim7.holds Tryd.pinned (.plain (OpenSpec.ofChange buildTextsSpec)) buildTextsCard

/-- THE TIED CARD OF 'flonglaw15.LowerKeeps'. -/
def lowerKeepsCard : Claim7 := { stood := { row := lowerKeepsRow, standIns := [], harness := (true, "56e9fe9a91f80af4202eb2bf2e64c876cfdb4ae7a5e31c79e6897a994f699218"), looks := false }, kinds := [], alts := [], laidByText := true, laidKinds := [.data, .data, .pinned], laidTests := true, laidLooks := .later }
def LowerKeepsCardSaid : Prop := Claim7.holds Tryd.pinned (.plain (OpenSpec.ofChange lowerKeepsSpec)) lowerKeepsCard

/-- THE TIED CARD OF 'flonglaw08.BuildSteps'. -/
def buildStepsCard : Claim7 := { stood := { row := buildStepsRow, standIns := [], harness := (true, "56e9fe9a91f80af4202eb2bf2e64c876cfdb4ae7a5e31c79e6897a994f699218"), looks := false }, kinds := [], alts := [], laidByText := true, laidKinds := [.data, .data, .data, .pinned], laidTests := true, laidLooks := .later }
def BuildStepsCardSaid : Prop := Claim7.holds Tryd.pinned (.plain (OpenSpec.ofChange buildStepsSpec)) buildStepsCard

/-- THE TIED CARD OF 'flonglaw08.BuildOwn'. -/
def buildOwnCard : Claim7 := { stood := { row := buildOwnRow, standIns := [], harness := (true, "56e9fe9a91f80af4202eb2bf2e64c876cfdb4ae7a5e31c79e6897a994f699218"), looks := false }, kinds := [], alts := [], laidByText := true, laidKinds := [.data, .data, .data, .pinned], laidTests := true, laidLooks := .later }
def BuildOwnCardSaid : Prop := Claim7.holds Tryd.pinned (.plain (OpenSpec.ofChange buildOwnSpec)) buildOwnCard

/-- THE TIED CARD OF 'flonglaw08.BuildEnds'. -/
def buildEndsCard : Claim7 := { stood := { row := buildEndsRow, standIns := [], harness := (true, "56e9fe9a91f80af4202eb2bf2e64c876cfdb4ae7a5e31c79e6897a994f699218"), looks := false }, kinds := [], alts := [], laidByText := true, laidKinds := [.data, .data, .data, .pinned], laidTests := true, laidLooks := .later }
def BuildEndsCardSaid : Prop := Claim7.holds Tryd.pinned (.plain (OpenSpec.ofChange buildEndsSpec)) buildEndsCard

/-- THE TIED CARD OF 'flonglaw08.BuildCloses'. -/
def buildClosesCard : Claim7 := { stood := { row := buildClosesRow, standIns := [], harness := (true, "56e9fe9a91f80af4202eb2bf2e64c876cfdb4ae7a5e31c79e6897a994f699218"), looks := false }, kinds := [], alts := [], laidByText := true, laidKinds := [.data, .data, .data, .pinned], laidTests := true, laidLooks := .later }
def BuildClosesCardSaid : Prop := Claim7.holds Tryd.pinned (.plain (OpenSpec.ofChange buildClosesSpec)) buildClosesCard

/-- THE SECOND FORM's CARD OF 'flonglaw06.StylesLines'. -/
def stylesLinesUptoCard : Claim7 := { stood := { row := stylesLinesUptoRow, standIns := [], harness := (true, "56e9fe9a91f80af4202eb2bf2e64c876cfdb4ae7a5e31c79e6897a994f699218"), looks := false }, kinds := [], alts := [], laidByText := true, laidKinds := [.mapped, .mapped, .data], laidTests := true, laidLooks := .later }
def StylesLinesUptoCardSaid : Prop := Claim7.holds Tryd.pinned (.plain (OpenSpec.upto stylesLinesSpec)) stylesLinesUptoCard

/-- THE SECOND FORM's CARD OF 'flonglaw06.StylesJoins'. -/
def stylesJoinsUptoCard : Claim7 := { stood := { row := stylesJoinsUptoRow, standIns := [], harness := (true, "56e9fe9a91f80af4202eb2bf2e64c876cfdb4ae7a5e31c79e6897a994f699218"), looks := false }, kinds := [], alts := [], laidByText := true, laidKinds := [.mapped, .mapped, .data], laidTests := true, laidLooks := .later }
def StylesJoinsUptoCardSaid : Prop := Claim7.holds Tryd.pinned (.plain (OpenSpec.upto stylesJoinsSpec)) stylesJoinsUptoCard

/-- THE SECOND FORM's CARD OF 'flonglaw07.TreeOwn'. -/
def treeOwnUptoCard : Claim7 := { stood := { row := treeOwnUptoRow, standIns := [], harness := (true, "56e9fe9a91f80af4202eb2bf2e64c876cfdb4ae7a5e31c79e6897a994f699218"), looks := false }, kinds := [], alts := [], laidByText := true, laidKinds := [.data, .data, .pinned], laidTests := true, laidLooks := .later }
def TreeOwnUptoCardSaid : Prop := Claim7.holds Tryd.pinned (.plain (OpenSpec.upto treeOwnSpec)) treeOwnUptoCard

/-- THE SECOND FORM's CARD OF 'flonglaw11.MdocJoins'. -/
def mdocJoinsUptoCard : Claim7 := { stood := { row := mdocJoinsUptoRow, standIns := [], harness := (true, "56e9fe9a91f80af4202eb2bf2e64c876cfdb4ae7a5e31c79e6897a994f699218"), looks := false }, kinds := [], alts := [], laidByText := true, laidKinds := [.mapped, .mapped, .data], laidTests := true, laidLooks := .later }
def MdocJoinsUptoCardSaid : Prop := Claim7.holds Tryd.pinned (.plain (OpenSpec.upto mdocJoinsSpec)) mdocJoinsUptoCard

/-- THE SECOND FORM's CARD OF 'flonglaw11.MdocSigns'. -/
def mdocSignsUptoCard : Claim7 := { stood := { row := mdocSignsUptoRow, standIns := [], harness := (true, "56e9fe9a91f80af4202eb2bf2e64c876cfdb4ae7a5e31c79e6897a994f699218"), looks := false }, kinds := [], alts := [], laidByText := true, laidKinds := [.mapped, .mapped, .data], laidTests := true, laidLooks := .later }
def MdocSignsUptoCardSaid : Prop := Claim7.holds Tryd.pinned (.plain (OpenSpec.upto mdocSignsSpec)) mdocSignsUptoCard

/-- THE SECOND FORM's CARD OF 'flonglaw08.BuildTexts'. -/
def buildTextsUptoCard : Claim7 := { stood := { row := buildTextsUptoRow, standIns := [], harness := (true, "56e9fe9a91f80af4202eb2bf2e64c876cfdb4ae7a5e31c79e6897a994f699218"), looks := false }, kinds := [], alts := [], laidByText := true, laidKinds := [.data, .data, .data, .pinned], laidTests := true, laidLooks := .later }
def BuildTextsUptoCardSaid : Prop := Claim7.holds Tryd.pinned (.plain (OpenSpec.upto buildTextsSpec)) buildTextsUptoCard

/-- THE SECOND FORM's CARD OF 'flonglaw15.LowerKeeps'. -/
def lowerKeepsUptoCard : Claim7 := { stood := { row := lowerKeepsUptoRow, standIns := [], harness := (true, "56e9fe9a91f80af4202eb2bf2e64c876cfdb4ae7a5e31c79e6897a994f699218"), looks := false }, kinds := [], alts := [], laidByText := true, laidKinds := [.data, .data, .pinned], laidTests := true, laidLooks := .later }
def LowerKeepsUptoCardSaid : Prop := Claim7.holds Tryd.pinned (.plain (OpenSpec.upto lowerKeepsSpec)) lowerKeepsUptoCard

/-- THE SECOND FORM's CARD OF 'flonglaw08.BuildSteps'. -/
def buildStepsUptoCard : Claim7 := { stood := { row := buildStepsUptoRow, standIns := [], harness := (true, "56e9fe9a91f80af4202eb2bf2e64c876cfdb4ae7a5e31c79e6897a994f699218"), looks := false }, kinds := [], alts := [], laidByText := true, laidKinds := [.data, .data, .data, .pinned], laidTests := true, laidLooks := .later }
def BuildStepsUptoCardSaid : Prop := Claim7.holds Tryd.pinned (.plain (OpenSpec.upto buildStepsSpec)) buildStepsUptoCard

/-- THE SECOND FORM's CARD OF 'flonglaw08.BuildOwn'. -/
def buildOwnUptoCard : Claim7 := { stood := { row := buildOwnUptoRow, standIns := [], harness := (true, "56e9fe9a91f80af4202eb2bf2e64c876cfdb4ae7a5e31c79e6897a994f699218"), looks := false }, kinds := [], alts := [], laidByText := true, laidKinds := [.data, .data, .data, .pinned], laidTests := true, laidLooks := .later }
def BuildOwnUptoCardSaid : Prop := Claim7.holds Tryd.pinned (.plain (OpenSpec.upto buildOwnSpec)) buildOwnUptoCard

/-- THE SECOND FORM's CARD OF 'flonglaw08.BuildEnds'. -/
def buildEndsUptoCard : Claim7 := { stood := { row := buildEndsUptoRow, standIns := [], harness := (true, "56e9fe9a91f80af4202eb2bf2e64c876cfdb4ae7a5e31c79e6897a994f699218"), looks := false }, kinds := [], alts := [], laidByText := true, laidKinds := [.data, .data, .data, .pinned], laidTests := true, laidLooks := .later }
def BuildEndsUptoCardSaid : Prop := Claim7.holds Tryd.pinned (.plain (OpenSpec.upto buildEndsSpec)) buildEndsUptoCard

/-- THE SECOND FORM's CARD OF 'flonglaw08.BuildCloses'. -/
def buildClosesUptoCard : Claim7 := { stood := { row := buildClosesUptoRow, standIns := [], harness := (true, "56e9fe9a91f80af4202eb2bf2e64c876cfdb4ae7a5e31c79e6897a994f699218"), looks := false }, kinds := [], alts := [], laidByText := true, laidKinds := [.data, .data, .data, .pinned], laidTests := true, laidLooks := .later }
def BuildClosesUptoCardSaid : Prop := Claim7.holds Tryd.pinned (.plain (OpenSpec.upto buildClosesSpec)) buildClosesUptoCard
end Rows
end Go.Proofs.YtgilkaonmhlifaaDoor
