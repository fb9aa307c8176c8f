/-
  DERIVED. GIVEN WITH THE SEED: THE CARDS: each row of YtecfmifgcebifaaGreatDoorRows.lean that lists a variable, with what it lists TIED to the program's text (the seventh form; the later family's looks); each row that meets fmt, with fmt's text TOLD by the authors' own Lean function (tested against real Go, not proved from fmt's source: count such statements apart). THE CARD IS WHAT COUNTS. Prove the row's statement (the work); the ties are given (YtecfmifgcebifaaGreatDoorTie.lean); close each card by the builder's one call (the guide's Derived/Test/ToyasCard.lean, 'card_holds'). Laid BY PROGRAM, IN A SANDBOX (cutbox-door.mjs). By AI agents, Wed Nov 11 2026. No macro, syntax, notation, axiom, sorry.
-/
import Derived.Test.YtecfmifgcebifaaGreatDoorRows
import GoSem.ClaimSeven
namespace Go.Proofs.YtecfmifgcebifaaGreatDoor
namespace Rows

/-- THE TIED CARD OF 'rubriclaw14.SchemaRounds'. -/
def schemaRoundsCard : Claim7 := { stood := { row := schemaRoundsRow, standIns := [], harness := (true, "3587954646f803f049a47c87ea8e4c05bd12f0fcb8a96461ac3c45660da73a79"), looks := true }, kinds := [], alts := [], laidByText := true, laidKinds := [.data, .data, .data, .data, .sentinel, .sentinel, .pinned], laidTests := true, laidLooks := .later }
def SchemaRoundsCardSaid : Prop := Claim7.holds Tryz.pinned (.plain (OpenSpec.ofChange schemaRoundsSpec)) schemaRoundsCard

/-- THE TIED CARD OF 'rubriclaw14.SchemaMany'. -/
def schemaManyCard : Claim7 := { stood := { row := schemaManyRow, standIns := [], harness := (true, "3587954646f803f049a47c87ea8e4c05bd12f0fcb8a96461ac3c45660da73a79"), looks := true }, kinds := [], alts := [], laidByText := true, laidKinds := [.data, .data, .data, .data, .sentinel, .sentinel, .pinned], laidTests := true, laidLooks := .later }
def SchemaManyCardSaid : Prop := Claim7.holds Tryz.pinned (.plain (OpenSpec.ofChange schemaManySpec)) schemaManyCard

/-- THE TIED CARD OF 'rubriclaw14.SchemaSound'. -/
def schemaSoundCard : Claim7 := { stood := { row := schemaSoundRow, standIns := [], harness := (true, "3587954646f803f049a47c87ea8e4c05bd12f0fcb8a96461ac3c45660da73a79"), looks := true }, kinds := [], alts := [], laidByText := true, laidKinds := [.data, .data, .data, .data, .sentinel, .sentinel, .pinned], laidTests := true, laidLooks := .later }
def SchemaSoundCardSaid : Prop := Claim7.holds Tryz.pinned (.plain (OpenSpec.ofChange schemaSoundSpec)) schemaSoundCard

/-- THE TIED CARD OF 'rubriclaw18.ArgsKnown'. -/
def argsKnownCard : Claim7 := { stood := { row := argsKnownRow, standIns := [], harness := (true, "3587954646f803f049a47c87ea8e4c05bd12f0fcb8a96461ac3c45660da73a79"), looks := true }, kinds := [], alts := [], laidByText := true, laidKinds := [.data, .data, .data, .data, .sentinel, .sentinel, .pinned], laidTests := true, laidLooks := .later }
def ArgsKnownCardSaid : Prop := Claim7.holds Tryz.pinned (.plain (OpenSpec.ofChange argsKnownSpec)) argsKnownCard

/-- THE SECOND FORM's CARD OF 'rubriclaw14.SchemaRounds'. -/
def schemaRoundsUptoCard : Claim7 := { stood := { row := schemaRoundsUptoRow, standIns := [], harness := (true, "3587954646f803f049a47c87ea8e4c05bd12f0fcb8a96461ac3c45660da73a79"), looks := true }, kinds := [], alts := [], laidByText := true, laidKinds := [.data, .data, .data, .data, .sentinel, .sentinel, .pinned], laidTests := true, laidLooks := .later }
def SchemaRoundsUptoCardSaid : Prop := Claim7.holds Tryz.pinned (.plain (OpenSpec.upto schemaRoundsSpec)) schemaRoundsUptoCard

/-- THE SECOND FORM's CARD OF 'rubriclaw14.SchemaMany'. -/
def schemaManyUptoCard : Claim7 := { stood := { row := schemaManyUptoRow, standIns := [], harness := (true, "3587954646f803f049a47c87ea8e4c05bd12f0fcb8a96461ac3c45660da73a79"), looks := true }, kinds := [], alts := [], laidByText := true, laidKinds := [.data, .data, .data, .data, .sentinel, .sentinel, .pinned], laidTests := true, laidLooks := .later }
def SchemaManyUptoCardSaid : Prop := Claim7.holds Tryz.pinned (.plain (OpenSpec.upto schemaManySpec)) schemaManyUptoCard

/-- THE SECOND FORM's CARD OF 'rubriclaw14.SchemaSound'. -/
def schemaSoundUptoCard : Claim7 := { stood := { row := schemaSoundUptoRow, standIns := [], harness := (true, "3587954646f803f049a47c87ea8e4c05bd12f0fcb8a96461ac3c45660da73a79"), looks := true }, kinds := [], alts := [], laidByText := true, laidKinds := [.data, .data, .data, .data, .sentinel, .sentinel, .pinned], laidTests := true, laidLooks := .later }
def SchemaSoundUptoCardSaid : Prop := Claim7.holds Tryz.pinned (.plain (OpenSpec.upto schemaSoundSpec)) schemaSoundUptoCard

/-- THE SECOND FORM's CARD OF 'rubriclaw18.ArgsKnown'. -/
def argsKnownUptoCard : Claim7 := { stood := { row := argsKnownUptoRow, standIns := [], harness := (true, "3587954646f803f049a47c87ea8e4c05bd12f0fcb8a96461ac3c45660da73a79"), looks := true }, kinds := [], alts := [], laidByText := true, laidKinds := [.data, .data, .data, .data, .sentinel, .sentinel, .pinned], laidTests := true, laidLooks := .later }
def ArgsKnownUptoCardSaid : Prop := Claim7.holds Tryz.pinned (.plain (OpenSpec.upto argsKnownSpec)) argsKnownUptoCard
end Rows
end Go.Proofs.YtecfmifgcebifaaGreatDoor
