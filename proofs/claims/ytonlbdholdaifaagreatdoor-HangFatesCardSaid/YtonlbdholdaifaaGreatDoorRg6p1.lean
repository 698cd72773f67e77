import Derived.Test.YtonlbdholdaifaaGreatDoorProg
import Derived.Test.YtonlbdholdaifaaGreatDoorRfp4
set_option linter.unusedVariables false
set_option linter.unusedSimpArgs false
set_option maxRecDepth 10000
namespace Go.Proofs.YtonlbdholdaifaaGreatDoor
open Go Go.Rf Go.Proofs
structure ApiSelector where
 kind : Int
 name : List UInt8
 index : Int
 start : Int
 stop : Int
 hasStart : Bool
 hasEnd : Bool
 stride : Int
instance : Inhabited ApiSelector := ⟨⟨0, [], 0, 0, 0, false, false, 0⟩⟩
structure ApiSegment where
 deep : Bool
 selectors : List ApiSelector
instance : Inhabited ApiSegment := ⟨⟨false, []⟩⟩
structure ApiValue where
 kind : Int
 frm : Int
 to : Int
 text : List UInt8
 items : List ApiValue
 names : List (List UInt8)
instance : Inhabited ApiValue := ⟨⟨0, 0, 0, [], [], []⟩⟩
structure Ref17Fate where
 may : Bool
 holds : Int
 fails : Int
instance : Inhabited Ref17Fate := ⟨⟨false, 0, 0⟩⟩
structure HangFate where
 may : Bool
 holds : Int
 fails : Int
instance : Inhabited HangFate := ⟨⟨false, 0, 0⟩⟩
structure ApiStep where
 named : Bool
 name : List UInt8
 index : Int
instance : Inhabited ApiStep := ⟨⟨false, [], 0⟩⟩
structure Ref16Node where
 value : ApiValue
 steps : List ApiStep
instance : Inhabited Ref16Node := ⟨⟨default, []⟩⟩
structure ApiVerdict where
 kind : Int
 pos : Int
instance : Inhabited ApiVerdict := ⟨⟨0, 0⟩⟩
structure Ref10Part where
 value : ApiValue
 begun : Bool
 pos : Int
 fault : Int
instance : Inhabited Ref10Part := ⟨⟨default, false, 0, 0⟩⟩
structure UtfWalk where
 left : Int
 low : Int
 top : Int
 sign : Int
instance : Inhabited UtfWalk := ⟨⟨0, 0, 0, 0⟩⟩
structure QueryReader where
 s : List UInt8
 pos : Int
 bad : Bool
instance : Inhabited QueryReader := ⟨⟨[], 0, false⟩⟩
structure QuoteWalk where
 pos : Int
 sign : UtfWalk
 text : List UInt8
 left : Int
 unit : Int
 first : Int
instance : Inhabited QuoteWalk := ⟨⟨0, default, [], 0, 0, 0⟩⟩
structure HangHit where
 query : Int
 steps : List ApiStep
 frm : Int
 to : Int
 ready : Int
instance : Inhabited HangHit := ⟨⟨0, [], 0, 0, 0⟩⟩
structure HangWalker where
 number : Int
 q : List ApiSegment
 out : List HangHit
instance : Inhabited HangWalker := ⟨⟨0, [], []⟩⟩
inductive Ty where
 | u8 | i64 | sApiValue | str | sApiSelector | sApiSegment | sHangFate | sApiStep | sHangHit | lsApiSegment | sRef16Node | li64 | sRef17Fate | sApiVerdict | sRef10Part | sUtfWalk | sQueryReader | sQuoteWalk | sHangWalker
noncomputable instance : GU Ty where
 den := fun | .u8 => UInt8 | .i64 => Int | .sApiValue => ApiValue | .str => List UInt8 | .sApiSelector => ApiSelector | .sApiSegment => ApiSegment | .sHangFate => HangFate | .sApiStep => ApiStep | .sHangHit => HangHit | .lsApiSegment => List ApiSegment | .sRef16Node => Ref16Node | .li64 => List Int | .sRef17Fate => Ref17Fate | .sApiVerdict => ApiVerdict | .sRef10Part => Ref10Part | .sUtfWalk => UtfWalk | .sQueryReader => QueryReader | .sQuoteWalk => QuoteWalk | .sHangWalker => HangWalker
 width := fun | .u8 => 1 | .i64 => 1 | .sApiValue => 6 | .str => 1 | .sApiSelector => 8 | .sApiSegment => 2 | .sHangFate => 3 | .sApiStep => 3 | .sHangHit => 5 | .lsApiSegment => 1 | .sRef16Node => 7 | .li64 => 1 | .sRef17Fate => 3 | .sApiVerdict => 2 | .sRef10Part => 9 | .sUtfWalk => 4 | .sQueryReader => 3 | .sQuoteWalk => 9 | .sHangWalker => 3
noncomputable def cellsT : (τ : Ty) → GU.den τ → List (PV Ty)
 | .u8, (x : UInt8) => [.int .u8 (x.toNat : Int)]
 | .i64, (x : Int) => [.int .i64 x]
 | .sApiValue, (x : ApiValue) => [.int .i64 x.kind, .int .i64 x.frm, .int .i64 x.to, .str x.text, .sl Ty.sApiValue x.items, .sl Ty.str x.names]
 | .str, (x : List UInt8) => [.str x]
 | .sApiSelector, (x : ApiSelector) => [.int .i64 x.kind, .str x.name, .int .i64 x.index, .int .i64 x.start, .int .i64 x.stop, .bool x.hasStart, .bool x.hasEnd, .int .i64 x.stride]
 | .sApiSegment, (x : ApiSegment) => [.bool x.deep, .sl Ty.sApiSelector x.selectors]
 | .sHangFate, (x : HangFate) => [.bool x.may, .int .i64 x.holds, .int .i64 x.fails]
 | .sApiStep, (x : ApiStep) => [.bool x.named, .str x.name, .int .i64 x.index]
 | .sHangHit, (x : HangHit) => [.int .i64 x.query, .sl Ty.sApiStep x.steps, .int .i64 x.frm, .int .i64 x.to, .int .i64 x.ready]
 | .lsApiSegment, (x : List ApiSegment) => [.sl Ty.sApiSegment x]
 | .sRef16Node, (x : Ref16Node) => [.int .i64 x.value.kind, .int .i64 x.value.frm, .int .i64 x.value.to, .str x.value.text, .sl Ty.sApiValue x.value.items, .sl Ty.str x.value.names, .sl Ty.sApiStep x.steps]
 | .li64, (x : List Int) => [.sl Ty.i64 x]
 | .sRef17Fate, (x : Ref17Fate) => [.bool x.may, .int .i64 x.holds, .int .i64 x.fails]
 | .sApiVerdict, (x : ApiVerdict) => [.int .i64 x.kind, .int .i64 x.pos]
 | .sRef10Part, (x : Ref10Part) => [.int .i64 x.value.kind, .int .i64 x.value.frm, .int .i64 x.value.to, .str x.value.text, .sl Ty.sApiValue x.value.items, .sl Ty.str x.value.names, .bool x.begun, .int .i64 x.pos, .int .i64 x.fault]
 | .sUtfWalk, (x : UtfWalk) => [.int .i64 x.left, .int .u8 x.low, .int .u8 x.top, .int .i32 x.sign]
 | .sQueryReader, (x : QueryReader) => [.str x.s, .int .i64 x.pos, .bool x.bad]
 | .sQuoteWalk, (x : QuoteWalk) => [.int .i64 x.pos, .int .i64 x.sign.left, .int .u8 x.sign.low, .int .u8 x.sign.top, .int .i32 x.sign.sign, .sl Ty.u8 x.text, .int .i64 x.left, .int .i64 x.unit, .int .i64 x.first]
 | .sHangWalker, (x : HangWalker) => [.int .i64 x.number, .sl Ty.sApiSegment x.q, .sl Ty.sHangHit x.out]
noncomputable instance : GC Ty where
 cells := cellsT
 cells_length := by intro τ x; cases τ <;> rfl
 cells_closed := by intro τ x; cases τ <;> rfl
 width_pos := by intro τ; cases τ <;> decide
 cells_one := by intro τ x; cases τ <;> rfl
abbrev GG : List (Nat × List (PV Ty)) := []
theorem fl66 : FlatOK Tryz.prog 66 [4, 3, 3] := ⟨by kernel_rfl, by kernel_rfl, by kernel_rfl, by kernel_rfl, by kernel_rfl⟩
theorem fl67 : FlatOK Tryz.prog 67 [4, 3, 3] := ⟨by kernel_rfl, by kernel_rfl, by kernel_rfl, by kernel_rfl, by kernel_rfl⟩
theorem fo29_0 : fieldOf Tryz.prog 29 0 = some (0, 3) := by kernel_rfl
theorem fo29_1 : fieldOf Tryz.prog 29 1 = some (1, 3) := by kernel_rfl
theorem fo29_2 : fieldOf Tryz.prog 29 2 = some (2, 3) := by kernel_rfl
theorem fo29_3 : fieldOf Tryz.prog 29 3 = some (3, 9) := by kernel_rfl
theorem fo29_4 : fieldOf Tryz.prog 29 4 = some (4, 26) := by kernel_rfl
theorem fo29_5 : fieldOf Tryz.prog 29 5 = some (5, 27) := by kernel_rfl
theorem fo47_0 : fieldOf Tryz.prog 47 0 = some (0, 4) := by kernel_rfl
theorem fo47_1 : fieldOf Tryz.prog 47 1 = some (1, 45) := by kernel_rfl
theorem fo49_0 : fieldOf Tryz.prog 49 0 = some (0, 3) := by kernel_rfl
theorem fo49_1 : fieldOf Tryz.prog 49 1 = some (1, 9) := by kernel_rfl
theorem fo49_2 : fieldOf Tryz.prog 49 2 = some (2, 3) := by kernel_rfl
theorem fo49_3 : fieldOf Tryz.prog 49 3 = some (3, 3) := by kernel_rfl
theorem fo49_4 : fieldOf Tryz.prog 49 4 = some (4, 3) := by kernel_rfl
theorem fo49_5 : fieldOf Tryz.prog 49 5 = some (5, 4) := by kernel_rfl
theorem fo49_6 : fieldOf Tryz.prog 49 6 = some (6, 4) := by kernel_rfl
theorem fo49_7 : fieldOf Tryz.prog 49 7 = some (7, 3) := by kernel_rfl
theorem fo57_0 : fieldOf Tryz.prog 57 0 = some (0, 3) := by kernel_rfl
theorem fo64_0 : fieldOf Tryz.prog 64 0 = some (0, 29) := by kernel_rfl
theorem fo64_1 : fieldOf Tryz.prog 64 1 = some (6, 38) := by kernel_rfl
theorem fo66_0 : fieldOf Tryz.prog 66 0 = some (0, 4) := by kernel_rfl
theorem fo66_1 : fieldOf Tryz.prog 66 1 = some (1, 3) := by kernel_rfl
theorem fo66_2 : fieldOf Tryz.prog 66 2 = some (2, 3) := by kernel_rfl
theorem fo67_0 : fieldOf Tryz.prog 67 0 = some (0, 4) := by kernel_rfl
theorem fo67_1 : fieldOf Tryz.prog 67 1 = some (1, 3) := by kernel_rfl
theorem fo67_2 : fieldOf Tryz.prog 67 2 = some (2, 3) := by kernel_rfl
theorem fo85_3 : fieldOf Tryz.prog 85 3 = some (3, 3) := by kernel_rfl
theorem fo85_4 : fieldOf Tryz.prog 85 4 = some (4, 3) := by kernel_rfl
theorem fo125_0 : fieldOf Tryz.prog 125 0 = some (0, 9) := by kernel_rfl
theorem fo125_1 : fieldOf Tryz.prog 125 1 = some (1, 3) := by kernel_rfl
theorem fo125_2 : fieldOf Tryz.prog 125 2 = some (2, 4) := by kernel_rfl
theorem fo139_0 : fieldOf Tryz.prog 139 0 = some (0, 29) := by kernel_rfl
theorem fo139_1 : fieldOf Tryz.prog 139 1 = some (6, 4) := by kernel_rfl
theorem fo139_2 : fieldOf Tryz.prog 139 2 = some (7, 3) := by kernel_rfl
theorem fo139_3 : fieldOf Tryz.prog 139 3 = some (8, 3) := by kernel_rfl
theorem fo160_0 : fieldOf Tryz.prog 160 0 = some (0, 3) := by kernel_rfl
theorem fo160_1 : fieldOf Tryz.prog 160 1 = some (1, 24) := by kernel_rfl
theorem fo160_2 : fieldOf Tryz.prog 160 2 = some (2, 80) := by kernel_rfl
theorem fo189_0 : fieldOf Tryz.prog 189 0 = some (0, 3) := by kernel_rfl
theorem fo189_1 : fieldOf Tryz.prog 189 1 = some (1, 5) := by kernel_rfl
theorem fo189_2 : fieldOf Tryz.prog 189 2 = some (2, 5) := by kernel_rfl
theorem fo189_3 : fieldOf Tryz.prog 189 3 = some (3, 21) := by kernel_rfl
theorem pl29 : Places Tryz.prog 29 [(0, 1), (1, 1), (2, 1), (3, 1), (4, 1), (5, 1)] := ⟨by kernel_rfl, fun w => by kernel_rfl⟩
theorem pl49 : Places Tryz.prog 49 [(0, 1), (1, 1), (2, 1), (3, 1), (4, 1), (5, 1), (6, 1), (7, 1)] := ⟨by kernel_rfl, fun w => by kernel_rfl⟩
theorem pl57 : Places Tryz.prog 57 [(0, 1), (1, 1)] := ⟨by kernel_rfl, fun w => by kernel_rfl⟩
theorem pl64 : Places Tryz.prog 64 [(0, 6), (6, 1)] := ⟨by kernel_rfl, fun w => by kernel_rfl⟩
theorem pl66 : Places Tryz.prog 66 [(0, 1), (1, 1), (2, 1)] := ⟨by kernel_rfl, fun w => by kernel_rfl⟩
theorem pl67 : Places Tryz.prog 67 [(0, 1), (1, 1), (2, 1)] := ⟨by kernel_rfl, fun w => by kernel_rfl⟩
theorem pl85 : Places Tryz.prog 85 [(0, 1), (1, 1), (2, 1), (3, 1), (4, 1)] := ⟨by kernel_rfl, fun w => by kernel_rfl⟩
theorem pl121 : Places Tryz.prog 121 [(0, 1), (1, 1), (2, 1)] := ⟨by kernel_rfl, fun w => by kernel_rfl⟩
theorem pl125 : Places Tryz.prog 125 [(0, 1), (1, 1), (2, 1)] := ⟨by kernel_rfl, fun w => by kernel_rfl⟩
theorem pl139 : Places Tryz.prog 139 [(0, 6), (6, 1), (7, 1), (8, 1)] := ⟨by kernel_rfl, fun w => by kernel_rfl⟩
theorem pl160 : Places Tryz.prog 160 [(0, 1), (1, 1), (2, 1)] := ⟨by kernel_rfl, fun w => by kernel_rfl⟩
theorem ty3 : TyOK Tryz.prog 3 1 8 false [.int .i64 0] := ⟨by kernel_rfl, by kernel_rfl, rfl⟩
theorem ty4 : TyOK Tryz.prog 4 1 1 false [.bool false] := ⟨by kernel_rfl, by kernel_rfl, rfl⟩
theorem ty5 : TyOK Tryz.prog 5 1 1 false [.int .u8 0] := ⟨by kernel_rfl, by kernel_rfl, rfl⟩
theorem ty9 : TyOK Tryz.prog 9 1 16 false [.string ⟨#[]⟩] := ⟨by kernel_rfl, by kernel_rfl, rfl⟩
theorem ty21 : TyOK Tryz.prog 21 1 4 false [.int .i32 0] := ⟨by kernel_rfl, by kernel_rfl, rfl⟩
theorem ty24 : TyOK Tryz.prog 24 1 24 false [.slice none 0 0] := ⟨by kernel_rfl, by kernel_rfl, rfl⟩
theorem ty26 : TyOK Tryz.prog 26 1 24 false [.slice none 0 0] := ⟨by kernel_rfl, by kernel_rfl, rfl⟩
theorem ty27 : TyOK Tryz.prog 27 1 24 false [.slice none 0 0] := ⟨by kernel_rfl, by kernel_rfl, rfl⟩
theorem ty29 : TyOK Tryz.prog 29 6 88 true [.int .i64 0, .int .i64 0, .int .i64 0, .string ⟨#[]⟩, .slice none 0 0, .slice none 0 0] := ⟨by kernel_rfl, by kernel_rfl, rfl⟩
theorem ty38 : TyOK Tryz.prog 38 1 24 false [.slice none 0 0] := ⟨by kernel_rfl, by kernel_rfl, rfl⟩
theorem ty45 : TyOK Tryz.prog 45 1 24 false [.slice none 0 0] := ⟨by kernel_rfl, by kernel_rfl, rfl⟩
theorem ty47 : TyOK Tryz.prog 47 2 32 true [.bool false, .slice none 0 0] := ⟨by kernel_rfl, by kernel_rfl, rfl⟩
theorem ty49 : TyOK Tryz.prog 49 8 64 true [.int .i64 0, .string ⟨#[]⟩, .int .i64 0, .int .i64 0, .int .i64 0, .bool false, .bool false, .int .i64 0] := ⟨by kernel_rfl, by kernel_rfl, rfl⟩
theorem ty50 : TyOK Tryz.prog 50 1 24 false [.slice none 0 0] := ⟨by kernel_rfl, by kernel_rfl, rfl⟩
theorem ty57 : TyOK Tryz.prog 57 2 16 true [.int .i64 0, .int .i64 0] := ⟨by kernel_rfl, by kernel_rfl, rfl⟩
theorem ty64 : TyOK Tryz.prog 64 7 112 true [.int .i64 0, .int .i64 0, .int .i64 0, .string ⟨#[]⟩, .slice none 0 0, .slice none 0 0, .slice none 0 0] := ⟨by kernel_rfl, by kernel_rfl, rfl⟩
theorem ty66 : TyOK Tryz.prog 66 3 24 true [.bool false, .int .i64 0, .int .i64 0] := ⟨by kernel_rfl, by kernel_rfl, rfl⟩
theorem ty67 : TyOK Tryz.prog 67 3 24 true [.bool false, .int .i64 0, .int .i64 0] := ⟨by kernel_rfl, by kernel_rfl, rfl⟩
theorem ty80 : TyOK Tryz.prog 80 1 24 false [.slice none 0 0] := ⟨by kernel_rfl, by kernel_rfl, rfl⟩
theorem ty85 : TyOK Tryz.prog 85 5 56 true [.int .i64 0, .slice none 0 0, .int .i64 0, .int .i64 0, .int .i64 0] := ⟨by kernel_rfl, by kernel_rfl, rfl⟩
theorem ty121 : TyOK Tryz.prog 121 3 32 true [.bool false, .string ⟨#[]⟩, .int .i64 0] := ⟨by kernel_rfl, by kernel_rfl, rfl⟩
theorem ty125 : TyOK Tryz.prog 125 3 32 true [.string ⟨#[]⟩, .int .i64 0, .bool false] := ⟨by kernel_rfl, by kernel_rfl, rfl⟩
theorem ty139 : TyOK Tryz.prog 139 9 112 true [.int .i64 0, .int .i64 0, .int .i64 0, .string ⟨#[]⟩, .slice none 0 0, .slice none 0 0, .bool false, .int .i64 0, .int .i64 0] := ⟨by kernel_rfl, by kernel_rfl, rfl⟩
theorem ty160 : TyOK Tryz.prog 160 3 56 true [.int .i64 0, .slice none 0 0, .slice none 0 0] := ⟨by kernel_rfl, by kernel_rfl, rfl⟩
theorem ty189 : TyOK Tryz.prog 189 4 16 true [.int .i64 0, .int .u8 0, .int .u8 0, .int .i32 0] := ⟨by kernel_rfl, by kernel_rfl, rfl⟩
end Go.Proofs.YtonlbdholdaifaaGreatDoor
