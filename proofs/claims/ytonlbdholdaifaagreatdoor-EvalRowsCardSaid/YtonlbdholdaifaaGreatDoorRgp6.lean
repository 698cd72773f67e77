import Derived.Test.YtonlbdholdaifaaGreatDoorProg
import Derived.Test.YtonlbdholdaifaaGreatDoorRfp4
import Derived.Test.YtonlbdholdaifaaGreatDoorRgp1
import Derived.Test.YtonlbdholdaifaaGreatDoorRgp5
section
set_option linter.unusedVariables false
set_option linter.unusedSimpArgs false
set_option maxRecDepth 10000
namespace Go.Proofs.YtonlbdholdaifaaGreatDoor
open Go Go.Rf Go.Proofs
/-- internal/strconv.underscoreOK -/
noncomputable abbrev b276 : Code := codeOf Tryz.f276
inductive L276 where
 | e276 (a0 : List UInt8)
noncomputable def f276 : L276 → Option Bool
 | .e276 a0 =>
  none
def M276 : L276 → Bool → Prop
 | .e276 a0, r => ∀ (w : World) (F : Nat → Prop) (ρ : Rho), AK Tryz.prog (ctx GG 94 w F ρ []) 276 [.code b276] (argE 0 [.str a0]) [] (fun z _ => z = .bool r)
theorem w276 : ∀ (l : L276) (r : Bool), f276 l = some r → M276 l r := (by
 intro l r h
 cases l with
 | e276 a0 =>
  intro w F ρ
  dsimp only [f276] at h
  exact no_of h)
theorem d276 {a0 : List UInt8} {r : Bool} (h : f276 (.e276 a0) = some r) : Does Tryz.prog GG 276 [.str a0] [] (fun z _ => z = .bool r) := fn_of (fn := Tryz.f276) Tryz.func276 rfl Tryz.ntmps276 rfl (w276 _ _ h)
/-- internal/strconv.ParseUint -/
noncomputable abbrev b272 : Code := codeOf Tryz.f272
inductive L272 where
 | e272 (a0 : List UInt8) (a1 : Int) (a2 : Int)
noncomputable def f272 : L272 → Option (Int × Unit)
 | .e272 a0 a1 a2 =>
  none
def M272 : L272 → (Int × Unit) → Prop
 | .e272 a0 a1 a2, r => ∀ (w : World) (F : Nat → Prop) (ρ : Rho), AK Tryz.prog (ctx GG 172 w F ρ []) 272 [.code b272] (argE 0 [.str a0, .int .i64 a1, .int .i64 a2]) [] (fun z _ => z = .tup [.int .u64 r.1, .nili])
theorem w272 : ∀ (l : L272) (r : Int × Unit), f272 l = some r → M272 l r := (by
 intro l r h
 cases l with
 | e272 a0 a1 a2 =>
  intro w F ρ
  dsimp only [f272] at h
  exact no_of h)
theorem d272 {a0 : List UInt8} {a1 : Int} {a2 : Int} {r : Int × Unit} (h : f272 (.e272 a0 a1 a2) = some r) : Does Tryz.prog GG 272 [.str a0, .int .i64 a1, .int .i64 a2] [] (fun z _ => z = .tup [.int .u64 r.1, .nili]) := fn_of (fn := Tryz.f272) Tryz.func272 rfl Tryz.ntmps272 rfl (w272 _ _ h)
/-- internal/strconv.ParseInt -/
noncomputable abbrev b267 : Code := codeOf Tryz.f267
inductive L267 where
 | e267 (a0 : List UInt8) (a1 : Int) (a2 : Int)
noncomputable def f267 : L267 → Option (Int × Unit)
 | .e267 a0 a1 a2 =>
  none
def M267 : L267 → (Int × Unit) → Prop
 | .e267 a0 a1 a2, r => ∀ (w : World) (F : Nat → Prop) (ρ : Rho), AK Tryz.prog (ctx GG 73 w F ρ []) 267 [.code b267] (argE 0 [.str a0, .int .i64 a1, .int .i64 a2]) [] (fun z _ => z = .tup [.int .i64 r.1, .nili])
theorem w267 : ∀ (l : L267) (r : Int × Unit), f267 l = some r → M267 l r := (by
 intro l r h
 cases l with
 | e267 a0 a1 a2 =>
  intro w F ρ
  dsimp only [f267] at h
  exact no_of h)
theorem d267 {a0 : List UInt8} {a1 : Int} {a2 : Int} {r : Int × Unit} (h : f267 (.e267 a0 a1 a2) = some r) : Does Tryz.prog GG 267 [.str a0, .int .i64 a1, .int .i64 a2] [] (fun z _ => z = .tup [.int .i64 r.1, .nili]) := fn_of (fn := Tryz.f267) Tryz.func267 rfl Tryz.ntmps267 rfl (w267 _ _ h)
/-- internal/strconv.Atoi -/
noncomputable abbrev b265 : Code := codeOf Tryz.f265
inductive L265 where
 | e265 (a0 : List UInt8)
noncomputable def f265 : L265 → Option (Int × Unit)
 | .e265 a0 =>
  none
def M265 : L265 → (Int × Unit) → Prop
 | .e265 a0, r => ∀ (w : World) (F : Nat → Prop) (ρ : Rho), AK Tryz.prog (ctx GG 77 w F ρ []) 265 [.code b265] (argE 0 [.str a0]) [] (fun z _ => z = .tup [.int .i64 r.1, .nili])
theorem w265 : ∀ (l : L265) (r : Int × Unit), f265 l = some r → M265 l r := (by
 intro l r h
 cases l with
 | e265 a0 =>
  intro w F ρ
  dsimp only [f265] at h
  exact no_of h)
theorem d265 {a0 : List UInt8} {r : Int × Unit} (h : f265 (.e265 a0) = some r) : Does Tryz.prog GG 265 [.str a0] [] (fun z _ => z = .tup [.int .i64 r.1, .nili]) := fn_of (fn := Tryz.f265) Tryz.func265 rfl Tryz.ntmps265 rfl (w265 _ _ h)
/-- internal/stringslite.Clone -/
noncomputable abbrev b273 : Code := codeOf Tryz.f273
inductive L273 where
 | e273 (a0 : List UInt8)
noncomputable def f273 : L273 → Option (List UInt8)
 | .e273 a0 =>
  none
def M273 : L273 → (List UInt8) → Prop
 | .e273 a0, r => ∀ (w : World) (F : Nat → Prop) (ρ : Rho), AK Tryz.prog (ctx GG 18 w F ρ []) 273 [.code b273] (argE 0 [.str a0]) [] (fun z _ => z = .str r)
theorem w273 : ∀ (l : L273) (r : List UInt8), f273 l = some r → M273 l r := (by
 intro l r h
 cases l with
 | e273 a0 =>
  intro w F ρ
  dsimp only [f273] at h
  exact no_of h)
theorem d273 {a0 : List UInt8} {r : List UInt8} (h : f273 (.e273 a0) = some r) : Does Tryz.prog GG 273 [.str a0] [] (fun z _ => z = .str r) := fn_of (fn := Tryz.f273) Tryz.func273 rfl Tryz.ntmps273 rfl (w273 _ _ h)
/-- internal/strconv.small -/
noncomputable abbrev b240 : Code := codeOf Tryz.f240
inductive L240 where
 | e240 (a0 : Int)
noncomputable def f240 : L240 → Option (List UInt8)
 | .e240 a0 =>
  none
def M240 : L240 → (List UInt8) → Prop
 | .e240 a0, r => ∀ (w : World) (F : Nat → Prop) (ρ : Rho), AK Tryz.prog (ctx GG 15 w F ρ []) 240 [.code b240] (argE 0 [.int .i64 a0]) [] (fun z _ => z = .str r)
theorem w240 : ∀ (l : L240) (r : List UInt8), f240 l = some r → M240 l r := (by
 intro l r h
 cases l with
 | e240 a0 =>
  intro w F ρ
  dsimp only [f240] at h
  exact no_of h)
theorem d240 {a0 : Int} {r : List UInt8} (h : f240 (.e240 a0) = some r) : Does Tryz.prog GG 240 [.int .i64 a0] [] (fun z _ => z = .str r) := fn_of (fn := Tryz.f240) Tryz.func240 rfl Tryz.ntmps240 rfl (w240 _ _ h)
/-- math/bits.Len64 -/
noncomputable abbrev b253 : Code := codeOf Tryz.f253
inductive L253 where
 | e253 (a0 : Int)
noncomputable def f253 : L253 → Option Int
 | .e253 a0 =>
  none
def M253 : L253 → Int → Prop
 | .e253 a0, r => ∀ (w : World) (F : Nat → Prop) (ρ : Rho), AK Tryz.prog (ctx GG 25 w F ρ []) 253 [.code b253] (argE 0 [.int .u64 a0]) [] (fun z _ => z = .int .i64 r)
theorem w253 : ∀ (l : L253) (r : Int), f253 l = some r → M253 l r := (by
 intro l r h
 cases l with
 | e253 a0 =>
  intro w F ρ
  dsimp only [f253] at h
  exact no_of h)
theorem d253 {a0 : Int} {r : Int} (h : f253 (.e253 a0) = some r) : Does Tryz.prog GG 253 [.int .u64 a0] [] (fun z _ => z = .int .i64 r) := fn_of (fn := Tryz.f253) Tryz.func253 rfl Tryz.ntmps253 rfl (w253 _ _ h)
/-- internal/strconv.log10Pow2 -/
noncomputable abbrev b252 : Code := codeOf Tryz.f252
inductive L252 where
 | e252 (a0 : Int)
noncomputable def f252 : L252 → Option Int
 | .e252 a0 =>
  none
def M252 : L252 → Int → Prop
 | .e252 a0, r => ∀ (w : World) (F : Nat → Prop) (ρ : Rho), AK Tryz.prog (ctx GG 6 w F ρ []) 252 [.code b252] (argE 0 [.int .i64 a0]) [] (fun z _ => z = .int .i64 r)
theorem w252 : ∀ (l : L252) (r : Int), f252 l = some r → M252 l r := (by
 intro l r h
 cases l with
 | e252 a0 =>
  intro w F ρ
  dsimp only [f252] at h
  exact no_of h)
theorem d252 {a0 : Int} {r : Int} (h : f252 (.e252 a0) = some r) : Does Tryz.prog GG 252 [.int .i64 a0] [] (fun z _ => z = .int .i64 r) := fn_of (fn := Tryz.f252) Tryz.func252 rfl Tryz.ntmps252 rfl (w252 _ _ h)
/-- internal/strconv.bool2[int] -/
noncomputable abbrev b254 : Code := codeOf Tryz.f254
inductive L254 where
 | e254 (a0 : Bool)
noncomputable def f254 : L254 → Option Int
 | .e254 a0 =>
  none
def M254 : L254 → Int → Prop
 | .e254 a0, r => ∀ (w : World) (F : Nat → Prop) (ρ : Rho), AK Tryz.prog (ctx GG 4 w F ρ []) 254 [.code b254] (argE 0 [.bool a0]) [] (fun z _ => z = .int .i64 r)
theorem w254 : ∀ (l : L254) (r : Int), f254 l = some r → M254 l r := (by
 intro l r h
 cases l with
 | e254 a0 =>
  intro w F ρ
  dsimp only [f254] at h
  exact no_of h)
theorem d254 {a0 : Bool} {r : Int} (h : f254 (.e254 a0) = some r) : Does Tryz.prog GG 254 [.bool a0] [] (fun z _ => z = .int .i64 r) := fn_of (fn := Tryz.f254) Tryz.func254 rfl Tryz.ntmps254 rfl (w254 _ _ h)
/-- internal/strconv.numDigits -/
noncomputable abbrev b241 : Code := codeOf Tryz.f241
inductive L241 where
 | e241 (a0 : Int)
noncomputable def f241 : L241 → Option Int
 | .e241 a0 =>
  none
def M241 : L241 → Int → Prop
 | .e241 a0, r => ∀ (w : World) (F : Nat → Prop) (ρ : Rho), AK Tryz.prog (ctx GG 15 w F ρ []) 241 [.code b241] (argE 0 [.int .u64 a0]) [] (fun z _ => z = .int .i64 r)
theorem w241 : ∀ (l : L241) (r : Int), f241 l = some r → M241 l r := (by
 intro l r h
 cases l with
 | e241 a0 =>
  intro w F ρ
  dsimp only [f241] at h
  exact no_of h)
theorem d241 {a0 : Int} {r : Int} (h : f241 (.e241 a0) = some r) : Does Tryz.prog GG 241 [.int .u64 a0] [] (fun z _ => z = .int .i64 r) := fn_of (fn := Tryz.f241) Tryz.func241 rfl Tryz.ntmps241 rfl (w241 _ _ h)
/-- internal/strconv.formatBase10 -/
noncomputable abbrev b242 : Code := codeOf Tryz.f242
inductive L242 where
 | e242 (a0 : List UInt8) (a1 : Int)
noncomputable def f242 : L242 → Option (List UInt8)
 | .e242 a0 a1 =>
  none
def M242 : L242 → (List UInt8) → Prop
 | .e242 a0 a1, r => ∀ (w : World) (F : Nat → Prop) (ρ : Rho), AK Tryz.prog (ctx GG 167 w F ρ [(10000, .arr 5 Ty.u8 a0)]) 242 [.code b242] (argE 0 [.mf 1 10000, .int .u64 a1]) [(10000, .arr 5 Ty.u8 a0)] (fun z σ' => z = .tup [] ∧ σ' = [(10000, .arr 5 Ty.u8 r)])
theorem w242 : ∀ (l : L242) (r : List UInt8), f242 l = some r → M242 l r := (by
 intro l r h
 cases l with
 | e242 a0 a1 =>
  intro w F ρ
  dsimp only [f242] at h
  exact no_of h)
theorem d242 {a0 : List UInt8} {a1 : Int} {r : List UInt8} (h : f242 (.e242 a0 a1) = some r) : Does Tryz.prog GG 242 [.mf 1 10000, .int .u64 a1] [(10000, .arr 5 Ty.u8 a0)] (fun z σ' => z = .tup [] ∧ σ' = [(10000, .arr 5 Ty.u8 r)]) := fn_of (fn := Tryz.f242) Tryz.func242 rfl Tryz.ntmps242 rfl (w242 _ _ h)
/-- internal/strconv.isPowerOfTwo -/
noncomputable abbrev b255 : Code := codeOf Tryz.f255
inductive L255 where
 | e255 (a0 : Int)
noncomputable def f255 : L255 → Option Bool
 | .e255 a0 =>
  none
def M255 : L255 → Bool → Prop
 | .e255 a0, r => ∀ (w : World) (F : Nat → Prop) (ρ : Rho), AK Tryz.prog (ctx GG 8 w F ρ []) 255 [.code b255] (argE 0 [.int .i64 a0]) [] (fun z _ => z = .bool r)
theorem w255 : ∀ (l : L255) (r : Bool), f255 l = some r → M255 l r := (by
 intro l r h
 cases l with
 | e255 a0 =>
  intro w F ρ
  dsimp only [f255] at h
  exact no_of h)
theorem d255 {a0 : Int} {r : Bool} (h : f255 (.e255 a0) = some r) : Does Tryz.prog GG 255 [.int .i64 a0] [] (fun z _ => z = .bool r) := fn_of (fn := Tryz.f255) Tryz.func255 rfl Tryz.ntmps255 rfl (w255 _ _ h)
/-- math/bits.TrailingZeros32 -/
noncomputable abbrev b263 : Code := codeOf Tryz.f263
inductive L263 where
 | e263 (a0 : Int)
noncomputable def f263 : L263 → Option Int
 | .e263 a0 =>
  none
def M263 : L263 → Int → Prop
 | .e263 a0, r => ∀ (w : World) (F : Nat → Prop) (ρ : Rho), AK Tryz.prog (ctx GG 14 w F ρ []) 263 [.code b263] (argE 0 [.int .u32 a0]) [] (fun z _ => z = .int .i64 r)
theorem w263 : ∀ (l : L263) (r : Int), f263 l = some r → M263 l r := (by
 intro l r h
 cases l with
 | e263 a0 =>
  intro w F ρ
  dsimp only [f263] at h
  exact no_of h)
theorem d263 {a0 : Int} {r : Int} (h : f263 (.e263 a0) = some r) : Does Tryz.prog GG 263 [.int .u32 a0] [] (fun z _ => z = .int .i64 r) := fn_of (fn := Tryz.f263) Tryz.func263 rfl Tryz.ntmps263 rfl (w263 _ _ h)
/-- math/bits.TrailingZeros64 -/
noncomputable abbrev b264 : Code := codeOf Tryz.f264
inductive L264 where
 | e264 (a0 : Int)
noncomputable def f264 : L264 → Option Int
 | .e264 a0 =>
  none
def M264 : L264 → Int → Prop
 | .e264 a0, r => ∀ (w : World) (F : Nat → Prop) (ρ : Rho), AK Tryz.prog (ctx GG 14 w F ρ []) 264 [.code b264] (argE 0 [.int .u64 a0]) [] (fun z _ => z = .int .i64 r)
theorem w264 : ∀ (l : L264) (r : Int), f264 l = some r → M264 l r := (by
 intro l r h
 cases l with
 | e264 a0 =>
  intro w F ρ
  dsimp only [f264] at h
  exact no_of h)
theorem d264 {a0 : Int} {r : Int} (h : f264 (.e264 a0) = some r) : Does Tryz.prog GG 264 [.int .u64 a0] [] (fun z _ => z = .int .i64 r) := fn_of (fn := Tryz.f264) Tryz.func264 rfl Tryz.ntmps264 rfl (w264 _ _ h)
/-- math/bits.TrailingZeros -/
noncomputable abbrev b256 : Code := codeOf Tryz.f256
inductive L256 where
 | e256 (a0 : Int)
noncomputable def f256 : L256 → Option Int
 | .e256 a0 =>
  none
def M256 : L256 → Int → Prop
 | .e256 a0, r => ∀ (w : World) (F : Nat → Prop) (ρ : Rho), AK Tryz.prog (ctx GG 8 w F ρ []) 256 [.code b256] (argE 0 [.int .u64 a0]) [] (fun z _ => z = .int .i64 r)
theorem w256 : ∀ (l : L256) (r : Int), f256 l = some r → M256 l r := (by
 intro l r h
 cases l with
 | e256 a0 =>
  intro w F ρ
  dsimp only [f256] at h
  exact no_of h)
theorem d256 {a0 : Int} {r : Int} (h : f256 (.e256 a0) = some r) : Does Tryz.prog GG 256 [.int .u64 a0] [] (fun z _ => z = .int .i64 r) := fn_of (fn := Tryz.f256) Tryz.func256 rfl Tryz.ntmps256 rfl (w256 _ _ h)
/-- internal/strconv.formatBits -/
noncomputable abbrev b243 : Code := codeOf Tryz.f243
inductive L243 where
 | e243 (a0 : List UInt8) (a1 : Int) (a2 : Int) (a3 : Bool) (a4 : Bool)
noncomputable def f243 : L243 → Option ((List UInt8) × (List UInt8))
 | .e243 a0 a1 a2 a3 a4 =>
  none
def M243 : L243 → ((List UInt8) × (List UInt8)) → Prop
 | .e243 a0 a1 a2 a3 a4, r => ∀ (w : World) (F : Nat → Prop) (ρ : Rho), AK Tryz.prog (ctx GG 102 w F ρ [(20000, .arr 5 Ty.u8 a0)]) 243 [.code b243] (argE 0 [.mf 1 20000, .int .u64 a1, .int .i64 a2, .bool a3, .bool a4]) [(20000, .arr 5 Ty.u8 a0)] (fun z σ' => z = .tup [.mf 1 30000, .str r.2] ∧ σ' = [(30000, .arr 5 Ty.u8 r.1)])
theorem w243 : ∀ (l : L243) (r : (List UInt8) × (List UInt8)), f243 l = some r → M243 l r := (by
 intro l r h
 cases l with
 | e243 a0 a1 a2 a3 a4 =>
  intro w F ρ
  dsimp only [f243] at h
  exact no_of h)
theorem d243 {a0 : List UInt8} {a1 : Int} {a2 : Int} {a3 : Bool} {a4 : Bool} {r : (List UInt8) × (List UInt8)} (h : f243 (.e243 a0 a1 a2 a3 a4) = some r) : Does Tryz.prog GG 243 [.mf 1 20000, .int .u64 a1, .int .i64 a2, .bool a3, .bool a4] [(20000, .arr 5 Ty.u8 a0)] (fun z σ' => z = .tup [.mf 1 30000, .str r.2] ∧ σ' = [(30000, .arr 5 Ty.u8 r.1)]) := fn_of (fn := Tryz.f243) Tryz.func243 rfl Tryz.ntmps243 rfl (w243 _ _ h)
/-- internal/strconv.FormatInt -/
noncomputable abbrev b219 : Code := codeOf Tryz.f219
inductive L219 where
 | e219 (a0 : Int) (a1 : Int)
noncomputable def f219 : L219 → Option (List UInt8)
 | .e219 a0 a1 =>
  none
def M219 : L219 → (List UInt8) → Prop
 | .e219 a0 a1, r => ∀ (w : World) (F : Nat → Prop) (ρ : Rho), AK Tryz.prog (ctx GG 54 w F ρ []) 219 [.code b219] (argE 0 [.int .i64 a0, .int .i64 a1]) [] (fun z _ => z = .str r)
theorem w219 : ∀ (l : L219) (r : List UInt8), f219 l = some r → M219 l r := (by
 intro l r h
 cases l with
 | e219 a0 a1 =>
  intro w F ρ
  dsimp only [f219] at h
  exact no_of h)
theorem d219 {a0 : Int} {a1 : Int} {r : List UInt8} (h : f219 (.e219 a0 a1) = some r) : Does Tryz.prog GG 219 [.int .i64 a0, .int .i64 a1] [] (fun z _ => z = .str r) := fn_of (fn := Tryz.f219) Tryz.func219 rfl Tryz.ntmps219 rfl (w219 _ _ h)
/-- internal/strconv.Itoa -/
noncomputable abbrev b195 : Code := codeOf Tryz.f195
inductive L195 where
 | e195 (a0 : Int)
noncomputable def f195 : L195 → Option (List UInt8)
 | .e195 a0 =>
  none
def M195 : L195 → (List UInt8) → Prop
 | .e195 a0, r => ∀ (w : World) (F : Nat → Prop) (ρ : Rho), AK Tryz.prog (ctx GG 5 w F ρ []) 195 [.code b195] (argE 0 [.int .i64 a0]) [] (fun z _ => z = .str r)
theorem w195 : ∀ (l : L195) (r : List UInt8), f195 l = some r → M195 l r := (by
 intro l r h
 cases l with
 | e195 a0 =>
  intro w F ρ
  dsimp only [f195] at h
  exact no_of h)
theorem d195 {a0 : Int} {r : List UInt8} (h : f195 (.e195 a0) = some r) : Does Tryz.prog GG 195 [.int .i64 a0] [] (fun z _ => z = .str r) := fn_of (fn := Tryz.f195) Tryz.func195 rfl Tryz.ntmps195 rfl (w195 _ _ h)
/-- strconv.Itoa -/
noncomputable abbrev b150 : Code := codeOf Tryz.f150
inductive L150 where
 | e150 (a0 : Int)
noncomputable def f150 : L150 → Option (List UInt8)
 | .e150 a0 =>
  none
def M150 : L150 → (List UInt8) → Prop
 | .e150 a0, r => ∀ (w : World) (F : Nat → Prop) (ρ : Rho), AK Tryz.prog (ctx GG 5 w F ρ []) 150 [.code b150] (argE 0 [.int .i64 a0]) [] (fun z _ => z = .str r)
theorem w150 : ∀ (l : L150) (r : List UInt8), f150 l = some r → M150 l r := (by
 intro l r h
 cases l with
 | e150 a0 =>
  intro w F ρ
  dsimp only [f150] at h
  exact no_of h)
theorem d150 {a0 : Int} {r : List UInt8} (h : f150 (.e150 a0) = some r) : Does Tryz.prog GG 150 [.int .i64 a0] [] (fun z _ => z = .str r) := fn_of (fn := Tryz.f150) Tryz.func150 rfl Tryz.ntmps150 rfl (w150 _ _ h)
/-- errors.New -/
noncomputable abbrev b274 : Code := codeOf Tryz.f274
inductive L274 where
 | e274 (a0 : List UInt8)
noncomputable def f274 : L274 → Option Unit
 | .e274 a0 =>
  none
def M274 : L274 → Unit → Prop
 | .e274 a0, r => ∀ (w : World) (F : Nat → Prop) (ρ : Rho), AK Tryz.prog (ctx GG 7 w F ρ []) 274 [.code b274] (argE 0 [.str a0]) [] (fun z _ => z = .nili)
theorem w274 : ∀ (l : L274) (r : Unit), f274 l = some r → M274 l r := (by
 intro l r h
 cases l with
 | e274 a0 =>
  intro w F ρ
  dsimp only [f274] at h
  exact no_of h)
theorem d274 {a0 : List UInt8} {r : Unit} (h : f274 (.e274 a0) = some r) : Does Tryz.prog GG 274 [.str a0] [] (fun z _ => z = .nili) := fn_of (fn := Tryz.f274) Tryz.func274 rfl Tryz.ntmps274 rfl (w274 _ _ h)
/-- strconv.toError -/
noncomputable abbrev b266 : Code := codeOf Tryz.f266
inductive L266 where
 | e266 (a0 : List UInt8) (a1 : List UInt8) (a2 : Int) (a3 : Int) (a4 : Unit)
noncomputable def f266 : L266 → Option Unit
 | .e266 a0 a1 a2 a3 a4 =>
  none
def M266 : L266 → Unit → Prop
 | .e266 a0 a1 a2 a3 a4, r => ∀ (w : World) (F : Nat → Prop) (ρ : Rho), AK Tryz.prog (ctx GG 43 w F ρ []) 266 [.code b266] (argE 0 [.str a0, .str a1, .int .i64 a2, .int .i64 a3, .nili]) [] (fun z _ => z = .nili)
theorem w266 : ∀ (l : L266) (r : Unit), f266 l = some r → M266 l r := (by
 intro l r h
 cases l with
 | e266 a0 a1 a2 a3 a4 =>
  intro w F ρ
  dsimp only [f266] at h
  exact no_of h)
theorem d266 {a0 : List UInt8} {a1 : List UInt8} {a2 : Int} {a3 : Int} {a4 : Unit} {r : Unit} (h : f266 (.e266 a0 a1 a2 a3 a4) = some r) : Does Tryz.prog GG 266 [.str a0, .str a1, .int .i64 a2, .int .i64 a3, .nili] [] (fun z _ => z = .nili) := fn_of (fn := Tryz.f266) Tryz.func266 rfl Tryz.ntmps266 rfl (w266 _ _ h)
/-- strconv.Atoi -/
noncomputable abbrev b262 : Code := codeOf Tryz.f262
inductive L262 where
 | e262 (a0 : List UInt8)
noncomputable def f262 : L262 → Option (Int × Unit)
 | .e262 a0 =>
  none
def M262 : L262 → (Int × Unit) → Prop
 | .e262 a0, r => ∀ (w : World) (F : Nat → Prop) (ρ : Rho), AK Tryz.prog (ctx GG 18 w F ρ []) 262 [.code b262] (argE 0 [.str a0]) [] (fun z _ => z = .tup [.int .i64 r.1, .nili])
theorem w262 : ∀ (l : L262) (r : Int × Unit), f262 l = some r → M262 l r := (by
 intro l r h
 cases l with
 | e262 a0 =>
  intro w F ρ
  dsimp only [f262] at h
  exact no_of h)
theorem d262 {a0 : List UInt8} {r : Int × Unit} (h : f262 (.e262 a0) = some r) : Does Tryz.prog GG 262 [.str a0] [] (fun z _ => z = .tup [.int .i64 r.1, .nili]) := fn_of (fn := Tryz.f262) Tryz.func262 rfl Tryz.ntmps262 rfl (w262 _ _ h)
/-- riffle/query.Int -/
noncomputable abbrev b248 : Code := codeOf Tryz.f248
inductive L248 where
 | e248 (a0 : List UInt8)
noncomputable def f248 : L248 → Option (Int × Int × Bool)
 | .e248 a0 =>
  none
def M248 : L248 → (Int × Int × Bool) → Prop
 | .e248 a0, r => ∀ (w : World) (F : Nat → Prop) (ρ : Rho), AK Tryz.prog (ctx GG 63 w F ρ []) 248 [.code b248] (argE 0 [.str a0]) [] (fun z _ => z = .tup [.int .i64 r.1, .int .i64 r.2.1, .bool r.2.2])
theorem w248 : ∀ (l : L248) (r : Int × Int × Bool), f248 l = some r → M248 l r := (by
 intro l r h
 cases l with
 | e248 a0 =>
  intro w F ρ
  dsimp only [f248] at h
  exact no_of h)
theorem d248 {a0 : List UInt8} {r : Int × Int × Bool} (h : f248 (.e248 a0) = some r) : Does Tryz.prog GG 248 [.str a0] [] (fun z _ => z = .tup [.int .i64 r.1, .int .i64 r.2.1, .bool r.2.2]) := fn_of (fn := Tryz.f248) Tryz.func248 rfl Tryz.ntmps248 rfl (w248 _ _ h)
/-- (*riffle/query.reader).integer -/
noncomputable abbrev b235 : Code := codeOf Tryz.f235
inductive L235 where
 | e235 (a0 : QueryReader)
noncomputable def f235 : L235 → Option (Int × Bool × QueryReader)
 | .e235 a0 =>
  none
def M235 : L235 → (Int × Bool × QueryReader) → Prop
 | .e235 a0, r => ∀ (w : World) (F : Nat → Prop) (ρ : Rho), AK Tryz.prog (ctx GG 51 w F ρ [(10000, .cells 125 [.str a0.s, .int .i64 a0.pos, .bool a0.bad])]) 235 [.code b235] (argE 0 [.ref 10000 0]) [(10000, .cells 125 [.str a0.s, .int .i64 a0.pos, .bool a0.bad])] (fun z σ' => z = .tup [.int .i64 r.1, .bool r.2.1] ∧ σ' = [(10000, .cells 125 [.str r.2.2.s, .int .i64 r.2.2.pos, .bool r.2.2.bad])])
theorem w235 : ∀ (l : L235) (r : Int × Bool × QueryReader), f235 l = some r → M235 l r := (by
 intro l r h
 cases l with
 | e235 a0 =>
  intro w F ρ
  dsimp only [f235] at h
  exact no_of h)
theorem d235 {a0 : QueryReader} {r : Int × Bool × QueryReader} (h : f235 (.e235 a0) = some r) : Does Tryz.prog GG 235 [.ref 10000 0] [(10000, .cells 125 [.str a0.s, .int .i64 a0.pos, .bool a0.bad])] (fun z σ' => z = .tup [.int .i64 r.1, .bool r.2.1] ∧ σ' = [(10000, .cells 125 [.str r.2.2.s, .int .i64 r.2.2.pos, .bool r.2.2.bad])]) := fn_of (fn := Tryz.f235) Tryz.func235 rfl Tryz.ntmps235 rfl (w235 _ _ h)
/-- (*riffle/query.reader).numbered -/
noncomputable abbrev b207 : Code := codeOf Tryz.f207
inductive L207 where
 | e207 (a0 : QueryReader)
noncomputable def f207 : L207 → Option (ApiSelector × QueryReader)
 | .e207 a0 =>
  none
def M207 : L207 → (ApiSelector × QueryReader) → Prop
 | .e207 a0, r => ∀ (w : World) (F : Nat → Prop) (ρ : Rho), AK Tryz.prog (ctx GG 97 w F ρ [(10000, .cells 125 [.str a0.s, .int .i64 a0.pos, .bool a0.bad])]) 207 [.code b207] (argE 0 [.ref 10000 0]) [(10000, .cells 125 [.str a0.s, .int .i64 a0.pos, .bool a0.bad])] (fun z σ' => z = .agg [.int .i64 r.1.kind, .str r.1.name, .int .i64 r.1.index, .int .i64 r.1.start, .int .i64 r.1.stop, .bool r.1.hasStart, .bool r.1.hasEnd, .int .i64 r.1.stride] ∧ σ' = [(10000, .cells 125 [.str r.2.s, .int .i64 r.2.pos, .bool r.2.bad])])
theorem w207 : ∀ (l : L207) (r : ApiSelector × QueryReader), f207 l = some r → M207 l r := (by
 intro l r h
 cases l with
 | e207 a0 =>
  intro w F ρ
  dsimp only [f207] at h
  exact no_of h)
theorem d207 {a0 : QueryReader} {r : ApiSelector × QueryReader} (h : f207 (.e207 a0) = some r) : Does Tryz.prog GG 207 [.ref 10000 0] [(10000, .cells 125 [.str a0.s, .int .i64 a0.pos, .bool a0.bad])] (fun z σ' => z = .agg [.int .i64 r.1.kind, .str r.1.name, .int .i64 r.1.index, .int .i64 r.1.start, .int .i64 r.1.stop, .bool r.1.hasStart, .bool r.1.hasEnd, .int .i64 r.1.stride] ∧ σ' = [(10000, .cells 125 [.str r.2.s, .int .i64 r.2.pos, .bool r.2.bad])]) := fn_of (fn := Tryz.f207) Tryz.func207 rfl Tryz.ntmps207 rfl (w207 _ _ h)
/-- (*riffle/query.reader).selector -/
noncomputable abbrev b174 : Code := codeOf Tryz.f174
inductive L174 where
 | e174 (a0 : QueryReader)
noncomputable def f174 : L174 → Option (ApiSelector × QueryReader)
 | .e174 a0 =>
  none
def M174 : L174 → (ApiSelector × QueryReader) → Prop
 | .e174 a0, r => ∀ (w : World) (F : Nat → Prop) (ρ : Rho), AK Tryz.prog (ctx GG 21 w F ρ [(10000, .cells 125 [.str a0.s, .int .i64 a0.pos, .bool a0.bad])]) 174 [.code b174] (argE 0 [.ref 10000 0]) [(10000, .cells 125 [.str a0.s, .int .i64 a0.pos, .bool a0.bad])] (fun z σ' => z = .agg [.int .i64 r.1.kind, .str r.1.name, .int .i64 r.1.index, .int .i64 r.1.start, .int .i64 r.1.stop, .bool r.1.hasStart, .bool r.1.hasEnd, .int .i64 r.1.stride] ∧ σ' = [(10000, .cells 125 [.str r.2.s, .int .i64 r.2.pos, .bool r.2.bad])])
theorem w174 : ∀ (l : L174) (r : ApiSelector × QueryReader), f174 l = some r → M174 l r := (by
 intro l r h
 cases l with
 | e174 a0 =>
  intro w F ρ
  dsimp only [f174] at h
  exact no_of h)
theorem d174 {a0 : QueryReader} {r : ApiSelector × QueryReader} (h : f174 (.e174 a0) = some r) : Does Tryz.prog GG 174 [.ref 10000 0] [(10000, .cells 125 [.str a0.s, .int .i64 a0.pos, .bool a0.bad])] (fun z σ' => z = .agg [.int .i64 r.1.kind, .str r.1.name, .int .i64 r.1.index, .int .i64 r.1.start, .int .i64 r.1.stop, .bool r.1.hasStart, .bool r.1.hasEnd, .int .i64 r.1.stride] ∧ σ' = [(10000, .cells 125 [.str r.2.s, .int .i64 r.2.pos, .bool r.2.bad])]) := fn_of (fn := Tryz.f174) Tryz.func174 rfl Tryz.ntmps174 rfl (w174 _ _ h)
/-- (*riffle/query.reader).bracketed -/
noncomputable abbrev b122 : Code := codeOf Tryz.f122
inductive L122 where
 | e122 (a0 : QueryReader)
noncomputable def f122 : L122 → Option ((List ApiSelector) × QueryReader)
 | .e122 a0 =>
  none
def M122 : L122 → ((List ApiSelector) × QueryReader) → Prop
 | .e122 a0, r => ∀ (w : World) (F : Nat → Prop) (ρ : Rho), AK Tryz.prog (ctx GG 33 w F ρ [(10000, .cells 125 [.str a0.s, .int .i64 a0.pos, .bool a0.bad])]) 122 [.code b122] (argE 0 [.ref 10000 0]) [(10000, .cells 125 [.str a0.s, .int .i64 a0.pos, .bool a0.bad])] (fun z σ' => z = .sl Ty.sApiSelector r.1 ∧ σ' = [(10000, .cells 125 [.str r.2.s, .int .i64 r.2.pos, .bool r.2.bad])])
theorem w122 : ∀ (l : L122) (r : (List ApiSelector) × QueryReader), f122 l = some r → M122 l r := (by
 intro l r h
 cases l with
 | e122 a0 =>
  intro w F ρ
  dsimp only [f122] at h
  exact no_of h)
theorem d122 {a0 : QueryReader} {r : (List ApiSelector) × QueryReader} (h : f122 (.e122 a0) = some r) : Does Tryz.prog GG 122 [.ref 10000 0] [(10000, .cells 125 [.str a0.s, .int .i64 a0.pos, .bool a0.bad])] (fun z σ' => z = .sl Ty.sApiSelector r.1 ∧ σ' = [(10000, .cells 125 [.str r.2.s, .int .i64 r.2.pos, .bool r.2.bad])]) := fn_of (fn := Tryz.f122) Tryz.func122 rfl Tryz.ntmps122 rfl (w122 _ _ h)
/-- riffle/octet.Alpha -/
noncomputable abbrev b175 : Code := codeOf Tryz.f175
inductive L175 where
 | e175 (a0 : Int)
noncomputable def f175 : L175 → Option Bool
 | .e175 a0 =>
  some (((decide ((97 : Int) ≤ a0)) && (decide (a0 ≤ (122 : Int)))) || ((decide ((65 : Int) ≤ a0)) && (decide (a0 ≤ (90 : Int)))))
def M175 : L175 → Bool → Prop
 | .e175 a0, r => ∀ (w : World) (F : Nat → Prop) (ρ : Rho), AK Tryz.prog (ctx GG 17 w F ρ []) 175 [.code b175] (argE 0 [.int .u8 a0]) [] (fun z _ => z = .bool r)
theorem w175 : ∀ (l : L175) (r : Bool), f175 l = some r → M175 l r := (by
 intro l r h
 cases l with
 | e175 a0 =>
  intro w F ρ
  dsimp only [f175] at h
  refine ak_seq ?_
  refine ak_regionS (.cons rfl (ok_assign (dlt rfl rfl) rfl rfl) (.nil ?_))
  refine ak_seq ?_
  refine ak_regionS (.cons rfl (ok_move (dlt rfl rfl) rfl rfl) (.cons rfl (ok_geq (dlt rfl rfl) rfl rfl rfl) (.cons rfl (ok_move (dlt rfl rfl) rfl rfl) (.consG (pre := []) (dlt rfl rfl) rfl rfl rfl rfl .nil (fun he => ok_move (dlt rfl rfl) rfl rfl) (.consG (pre := [(6, .int .u8 a0)]) (dlt rfl rfl) rfl rfl rfl rfl (.cons rfl (fun he => he) .nil) (fun he => ok_leq (dlt rfl rfl) rfl rfl rfl) (.cons rfl (ok_andW (dlt rfl rfl) rfl rfl rfl (fun h => h)) (.cons rfl (ok_move (dlt rfl rfl) rfl rfl) (.consG (pre := []) (dlt rfl rfl) rfl rfl rfl rfl .nil (fun he => ok_move (dlt rfl rfl) rfl rfl) (.consG (pre := [(10, .int .u8 a0)]) (dlt rfl rfl) rfl rfl rfl rfl (.cons rfl (fun he => he) .nil) (fun he => ok_geq (dlt rfl rfl) rfl rfl rfl) (.consG (pre := [(11, .bool (decide ((65 : Int) ≤ a0)))]) (dlt rfl rfl) rfl rfl rfl rfl (.cons rfl (fun he => he) .nil) (fun he => ok_move (dlt rfl rfl) rfl rfl) (.consG (pre := []) (dlt rfl rfl) rfl rfl rfl rfl .nil (fun he => ok_move (dlt rfl rfl) rfl rfl) (.consG (pre := [(13, .int .u8 a0)]) (dlt rfl rfl) rfl rfl rfl rfl (.cons rfl (fun he => he) .nil) (fun he => ok_leq (dlt rfl rfl) rfl rfl rfl) (.consG (pre := [(12, .bool (decide ((65 : Int) ≤ a0)))]) (dlt rfl rfl) rfl rfl rfl rfl (.cons rfl (fun he => he) .nil) (fun he => ok_andW (dlt rfl rfl) rfl rfl rfl (fun h => band_i he h)) (.cons rfl (ok_orW (dlt rfl rfl) rfl rfl rfl (fun h => (bnot_t h))) (.cons rfl (ok_assign (dlt rfl rfl) rfl rfl) (.nil ?_))))))))))))))))
  obtain rfl := Option.some.inj h
  refine ak_conv (Γ' := [(2, .bool (((decide ((97 : Int) ≤ a0)) && (decide (a0 ≤ (122 : Int)))) || ((decide ((65 : Int) ≤ a0)) && (decide (a0 ≤ (90 : Int))))))]) (σ' := []) (.cons rfl (.refl _) (.nil _)) (.nil _) ?_
  exact ak_ret (fn := Tryz.f175) Tryz.func175 rfl trivial rfl)
theorem d175 {a0 : Int} {r : Bool} (h : f175 (.e175 a0) = some r) : Does Tryz.prog GG 175 [.int .u8 a0] [] (fun z _ => z = .bool r) := fn_of (fn := Tryz.f175) Tryz.func175 rfl Tryz.ntmps175 rfl (w175 _ _ h)
end Go.Proofs.YtonlbdholdaifaaGreatDoor
end
section
set_option linter.unusedVariables false
set_option linter.unusedSimpArgs false
set_option maxRecDepth 10000
namespace Go.Proofs.YtonlbdholdaifaaGreatDoor
open Go Go.Rf Go.Proofs
/-- (*riffle/query.reader).plain -/
noncomputable abbrev b123 : Code := codeOf Tryz.f123
inductive L123 where
 | e123 (a0 : QueryReader)
 | l123_0 (a0 : Int) (a1 : QueryReader)
noncomputable def f123 : L123 → Option ((List UInt8) × QueryReader)
 | .e123 a0 =>
  f123 (.l123_0 a0.pos a0)
 | .l123_0 a0 a1 =>
  if (decide (a1.pos < (a1.s.length : Int))) = true then
   idx a1.s a1.pos >>= fun v1 =>
   f175 (.e175 (v1.toNat : Int)) >>= fun v2 =>
   gd ((((!v2) && ((v1.toNat : Int) != (95 : Int))) && (decide ((v1.toNat : Int) < (128 : Int)))) && !(a1.pos == a0)) (f173 (.e173 (v1.toNat : Int))) >>= fun v3 =>
   if ((((!v2) && ((v1.toNat : Int) != (95 : Int))) && (decide ((v1.toNat : Int) < (128 : Int)))) && ((a1.pos == a0) || (!v3))) = true then
    none
   else
    f123 (.l123_0 a0 (⟨a1.s, IntKind.wrap .i64 (a1.pos + (1 : Int)), a1.bad⟩ : QueryReader))
  else
   need (0 ≤ a0 ∧ a0 ≤ a1.pos ∧ a1.pos ≤ (a1.s.length : Int)) >>= fun v4 =>
   some ((a1.s.take a1.pos.toNat).drop a0.toNat, a1)
 partial_fixpoint
def M123 : L123 → ((List UInt8) × QueryReader) → Prop
 | .e123 a0, r => ∀ (w : World) (F : Nat → Prop) (ρ : Rho), AK Tryz.prog (ctx GG 69 w F ρ [(10000, .cells 125 [.str a0.s, .int .i64 a0.pos, .bool a0.bad])]) 123 [.code b123] (argE 0 [.ref 10000 0]) [(10000, .cells 125 [.str a0.s, .int .i64 a0.pos, .bool a0.bad])] (fun z σ' => z = .str r.1 ∧ σ' = [(10000, .cells 125 [.str r.2.s, .int .i64 r.2.pos, .bool r.2.bad])])
 | .l123_0 a0 a1, r => ∀ (w : World) (F : Nat → Prop) (ρ : Rho) (S : Nat → Prop), AK Tryz.prog (ctxL GG 69 w F ρ S [10000]) 123 [.code (c1 (c1 (c1 (c2 (c2 b123))))), .inLoop (c1 (c1 (c1 (c2 (c2 b123))))), .inBlock 0, .code (c2 (c2 (c2 b123)))] [(0, .ref 10000 0), (3, .int .i64 a0)] [(10000, .cells 125 [.str a1.s, .int .i64 a1.pos, .bool a1.bad])] (fun z σ' => z = .str r.1 ∧ σ' = [(10000, .cells 125 [.str r.2.s, .int .i64 r.2.pos, .bool r.2.bad])])
theorem w123 : ∀ (l : L123) (r : (List UInt8) × QueryReader), f123 l = some r → M123 l r := f123.partial_correctness M123 (by
 intro f ih l r h
 cases l with
 | e123 a0 =>
  intro w F ρ
  dsimp only at h
  refine ak_seq ?_
  refine ak_regionS (.cons rfl (ok_assign (dlt rfl rfl) rfl rfl) (.nil ?_))
  refine ak_seq ?_
  refine ak_regionS (.cons rfl (ok_move (dlt rfl rfl) rfl rfl) (.cons rfl (ok_nilCheckV (dlt rfl rfl) rfl rfl) (.cons rfl (ok_fieldV (dlt rfl rfl) rfl fo125_1 ty3 (by decide) rfl) (.cons rfl (ok_loadV (dlt rfl rfl) rfl ty3 rfl rfl rfl) (.cons rfl (ok_assign (dlt rfl rfl) rfl rfl) (.nil ?_))))))
  refine ak_seq ?_
  refine ak_block ?_
  refine ak_loop ?_
  exact ak_conv (.cons rfl (.refl _) (.cons rfl (.refl _) (.nil _))) (.cons rfl (.refl _) (.nil _)) (ih _ _ h w F ρ _)
 | l123_0 a0 a1 =>
  intro w F ρ S
  dsimp only at h
  refine ak_seq ?_
  refine ak_seq ?_
  refine ak_drawL [⟨some 9, [(0, .ref 10000 0)], none, true, .ref 10000 0, [], []⟩,
  ⟨some 10, [(9, .ref 10000 0)], none, true, .ref 10000 0, [], []⟩,
  ⟨some 11, [(10, .ref 10000 0)], none, true, .ref 10000 1, [], []⟩,
  ⟨some 12, [(11, .ref 10000 1)], none, true, .int .i64 a1.pos, [(10000, .cells 125 [.str a1.s, .int .i64 a1.pos, .bool a1.bad])], []⟩,
  ⟨some 13, [(0, .ref 10000 0)], none, true, .ref 10000 0, [], []⟩,
  ⟨some 14, [(13, .ref 10000 0)], none, true, .ref 10000 0, [], []⟩,
  ⟨some 15, [(14, .ref 10000 0)], none, true, .ref 10000 0, [], []⟩,
  ⟨some 16, [(15, .ref 10000 0)], none, true, .str a1.s, [(10000, .cells 125 [.str a1.s, .int .i64 a1.pos, .bool a1.bad])], []⟩,
  ⟨some 17, [(16, .str a1.s)], none, true, .int .i64 (a1.s.length : Int), [], []⟩,
  ⟨some 18, [(12, .int .i64 a1.pos), (17, .int .i64 (a1.s.length : Int))], none, true, .bool (decide (a1.pos < (a1.s.length : Int))), [], []⟩] [[], [0], [0, 1], [0, 1, 2], [], [4], [4, 5], [4, 5, 6], [4, 5, 6, 7], [0, 1, 2, 3, 4, 5, 6, 7, 8]] (by kernel_rfl) (by kernel_rfl) (.cons (qok (dlt rfl rfl) rfl (.same rfl .nil) (NeedQ.all .nil) (fun Γx σx => ok_move (dlt rfl rfl) rfl rfl)) (.cons (qok (dlt rfl rfl) rfl (.same rfl .nil) (NeedQ.all .nil) (fun Γx σx => ok_nilCheckV (dlt rfl rfl) rfl rfl)) (.cons (qok (dlt rfl rfl) rfl (.same rfl .nil) (NeedQ.all .nil) (fun Γx σx => ok_fieldV (dlt rfl rfl) rfl fo125_1 ty3 (by decide) rfl)) (.cons (qok (dlt rfl rfl) rfl (.same rfl .nil) (NeedQ.all (.cons rfl .nil)) (fun Γx σx => ok_loadV (dlt rfl rfl) rfl ty3 rfl rfl rfl)) (.cons (qok (dlt rfl rfl) rfl (.same rfl .nil) (NeedQ.all .nil) (fun Γx σx => ok_move (dlt rfl rfl) rfl rfl)) (.cons (qok (dlt rfl rfl) rfl (.same rfl .nil) (NeedQ.all .nil) (fun Γx σx => ok_nilCheckV (dlt rfl rfl) rfl rfl)) (.cons (qok (dlt rfl rfl) rfl (.same rfl .nil) (NeedQ.all .nil) (fun Γx σx => ok_fieldV (dlt rfl rfl) rfl fo125_0 ty9 (by decide) rfl)) (.cons (qok (dlt rfl rfl) rfl (.same rfl .nil) (NeedQ.all (.cons rfl .nil)) (fun Γx σx => ok_loadV (dlt rfl rfl) rfl ty9 rfl rfl rfl)) (.cons (qok (dlt rfl rfl) rfl (.same rfl .nil) (NeedQ.all .nil) (fun Γx σx => ok_lenT (s := a1.s) (dlt rfl rfl) rfl Tryz.underlying9 rfl)) (.cons (qok (dlt rfl rfl) rfl (.same rfl (.same rfl .nil)) (NeedQ.all .nil) (fun Γx σx => ok_lss (dlt rfl rfl) rfl rfl rfl)) (.nil _ _))))))))))) (.nil ?_)
  refine ak_cond rfl (fun ht => ?_) (fun ht => ?_)
  ·have h := cond_t ht h
   refine ak_skip ?_
   refine ak_block ?_
   refine ak_seq ?_
   obtain ⟨v1, hv1, h⟩ := bind_of h
   refine ak_drawL [⟨some 19, [(0, .ref 10000 0)], none, true, .ref 10000 0, [], []⟩,
  ⟨some 20, [(19, .ref 10000 0)], none, true, .ref 10000 0, [], []⟩,
  ⟨some 21, [(20, .ref 10000 0)], none, true, .ref 10000 0, [], []⟩,
  ⟨some 22, [(21, .ref 10000 0)], none, true, .str a1.s, [(10000, .cells 125 [.str a1.s, .int .i64 a1.pos, .bool a1.bad])], []⟩,
  ⟨some 23, [(0, .ref 10000 0)], none, true, .ref 10000 0, [], []⟩,
  ⟨some 24, [(23, .ref 10000 0)], none, true, .ref 10000 0, [], []⟩,
  ⟨some 25, [(24, .ref 10000 0)], none, true, .ref 10000 1, [], []⟩,
  ⟨some 26, [(25, .ref 10000 1)], none, true, .int .i64 a1.pos, [(10000, .cells 125 [.str a1.s, .int .i64 a1.pos, .bool a1.bad])], []⟩,
  ⟨some 27, [(22, .str a1.s), (26, .int .i64 a1.pos)], none, true, .int .u8 (v1.toNat : Int), [], []⟩,
  ⟨some 4, [(27, .int .u8 (v1.toNat : Int))], none, true, .int .u8 (v1.toNat : Int), [], []⟩] [[], [0], [0, 1], [0, 1, 2], [], [4], [4, 5], [4, 5, 6], [0, 1, 2, 3, 4, 5, 6, 7], [0, 1, 2, 3, 4, 5, 6, 7, 8]] (by kernel_rfl) (by kernel_rfl) (.cons (qok (dlt rfl rfl) rfl (.same rfl .nil) (NeedQ.all .nil) (fun Γx σx => ok_move (dlt rfl rfl) rfl rfl)) (.cons (qok (dlt rfl rfl) rfl (.same rfl .nil) (NeedQ.all .nil) (fun Γx σx => ok_nilCheckV (dlt rfl rfl) rfl rfl)) (.cons (qok (dlt rfl rfl) rfl (.same rfl .nil) (NeedQ.all .nil) (fun Γx σx => ok_fieldV (dlt rfl rfl) rfl fo125_0 ty9 (by decide) rfl)) (.cons (qok (dlt rfl rfl) rfl (.same rfl .nil) (NeedQ.all (.cons rfl .nil)) (fun Γx σx => ok_loadV (dlt rfl rfl) rfl ty9 rfl rfl rfl)) (.cons (qok (dlt rfl rfl) rfl (.same rfl .nil) (NeedQ.all .nil) (fun Γx σx => ok_move (dlt rfl rfl) rfl rfl)) (.cons (qok (dlt rfl rfl) rfl (.same rfl .nil) (NeedQ.all .nil) (fun Γx σx => ok_nilCheckV (dlt rfl rfl) rfl rfl)) (.cons (qok (dlt rfl rfl) rfl (.same rfl .nil) (NeedQ.all .nil) (fun Γx σx => ok_fieldV (dlt rfl rfl) rfl fo125_1 ty3 (by decide) rfl)) (.cons (qok (dlt rfl rfl) rfl (.same rfl .nil) (NeedQ.all (.cons rfl .nil)) (fun Γx σx => ok_loadV (dlt rfl rfl) rfl ty3 rfl rfl rfl)) (.cons (qok (dlt rfl rfl) rfl (.same rfl (.same rfl .nil)) (NeedQ.all .nil) (fun Γx σx => ok_byte (s := a1.s) (c := v1) (dlt rfl rfl) rfl Tryz.underlying9 rfl rfl (idx_0 hv1) (idx_1 hv1))) (.cons (qok (dlt rfl rfl) rfl (.same rfl .nil) (NeedQ.all .nil) (fun Γx σx => ok_assign (dlt rfl rfl) rfl rfl)) (.nil _ _))))))))))) (.nil ?_)
   refine ak_seq ?_
   refine ak_seq ?_
   obtain ⟨v2, hv2, h⟩ := bind_of h
   obtain ⟨v3, hv3, h⟩ := bind_of h
   refine ak_regionS (.cons rfl (ok_move (dlt rfl rfl) rfl rfl) (.cons rfl (ok_call (xs := [.int .u8 (v1.toNat : Int)]) (caps := []) (dlt rfl rfl) rfl rfl Tryz.func175 rfl rfl rfl (d175 hv2) rfl) (.cons rfl (ok_not (dlt rfl rfl) rfl rfl) (.cons rfl (ok_move (dlt rfl rfl) rfl rfl) (.consG (pre := []) (dlt rfl rfl) rfl rfl rfl rfl .nil (fun he => ok_move (dlt rfl rfl) rfl rfl) (.consG (pre := [(32, .int .u8 (v1.toNat : Int))]) (dlt rfl rfl) rfl rfl rfl rfl (.cons rfl (fun he => he) .nil) (fun he => ok_neq (dlt rfl rfl) rfl rfl rfl) (.cons rfl (ok_andW (dlt rfl rfl) rfl rfl rfl (fun h => h)) (.cons rfl (ok_move (dlt rfl rfl) rfl rfl) (.consG (pre := []) (dlt rfl rfl) rfl rfl rfl rfl .nil (fun he => ok_move (dlt rfl rfl) rfl rfl) (.consG (pre := [(36, .int .u8 (v1.toNat : Int))]) (dlt rfl rfl) rfl rfl rfl rfl (.cons rfl (fun he => he) .nil) (fun he => ok_lss (dlt rfl rfl) rfl rfl rfl) (.cons rfl (ok_andW (dlt rfl rfl) rfl rfl rfl (fun h => h)) (.cons rfl (ok_move (dlt rfl rfl) rfl rfl) (.consG (pre := []) (dlt rfl rfl) rfl rfl rfl rfl .nil (fun he => ok_move (dlt rfl rfl) rfl rfl) (.consG (pre := [(40, .ref 10000 0)]) (dlt rfl rfl) rfl rfl rfl rfl (.cons rfl (fun he => he) .nil) (fun he => ok_nilCheckV (dlt rfl rfl) rfl rfl) (.consG (pre := [(41, .ref 10000 0)]) (dlt rfl rfl) rfl rfl rfl rfl (.cons rfl (fun he => he) .nil) (fun he => ok_fieldV (dlt rfl rfl) rfl fo125_1 ty3 (by decide) rfl) (.consG (pre := [(42, .ref 10000 1)]) (dlt rfl rfl) rfl rfl rfl rfl (.cons rfl (fun he => he) .nil) (fun he => ok_loadV (dlt rfl rfl) rfl ty3 rfl rfl rfl) (.consG (pre := []) (dlt rfl rfl) rfl rfl rfl rfl .nil (fun he => ok_move (dlt rfl rfl) rfl rfl) (.consG (pre := [(43, .int .i64 a1.pos), (44, .int .i64 a0)]) (dlt rfl rfl) rfl rfl rfl rfl (.cons rfl (fun he => he) (.cons rfl (fun he => he) .nil)) (fun he => ok_eql (dlt rfl rfl) rfl rfl rfl) (.consG (pre := [(45, .bool (a1.pos == a0))]) (dlt rfl rfl) rfl rfl rfl rfl (.cons rfl (fun he => he) .nil) (fun he => ok_move (dlt rfl rfl) rfl rfl) (.consG (pre := []) (dlt rfl rfl) rfl rfl rfl rfl .nil (fun he => ok_move (dlt rfl rfl) rfl rfl) (.consG (pre := [(47, .int .u8 (v1.toNat : Int))]) (dlt rfl rfl) rfl rfl rfl rfl (.cons rfl (fun he => he) .nil) (fun he => ok_call (xs := [.int .u8 (v1.toNat : Int)]) (caps := []) (dlt rfl rfl) rfl rfl Tryz.func173 rfl rfl rfl (d173 (gd_t hv3 he)) rfl) (.consG (pre := [(48, .bool v3)]) (dlt rfl rfl) rfl rfl rfl rfl (.cons rfl (fun he => he) .nil) (fun he => ok_not (dlt rfl rfl) rfl rfl) (.consG (pre := [(46, .bool (a1.pos == a0))]) (dlt rfl rfl) rfl rfl rfl rfl (.cons rfl (fun he => he) .nil) (fun he => ok_orW (dlt rfl rfl) rfl rfl rfl (fun h => band_i he (bnot_t h))) (.cons rfl (ok_andW (dlt rfl rfl) rfl rfl rfl (fun h => h)) (.nil ?_)))))))))))))))))))))))))
   refine ak_cond rfl (fun ht => ?_) (fun ht => ?_)
   ·have h := cond_t ht h
    exact no_of h
   ·have h := cond_f ht h
    refine ak_skip ?_
    refine ak_regionS (.cons rfl (ok_move (dlt rfl rfl) rfl rfl) (.cons rfl (ok_nilCheckV (dlt rfl rfl) rfl rfl) (.cons rfl (ok_fieldV (dlt rfl rfl) rfl fo125_1 ty3 (by decide) rfl) (.cons rfl (ok_loadV (dlt rfl rfl) rfl ty3 rfl rfl rfl) (.cons rfl (ok_add (dlt rfl rfl) rfl rfl rfl) (.cons rfl (ok_nilCheckV (dlt rfl rfl) rfl rfl) (.cons rfl (ok_fieldV (dlt rfl rfl) rfl fo125_1 ty3 (by decide) rfl) (.cons rfl (ok_storeV rfl rfl ty3 rfl rfl rfl rfl (by decide) rfl rfl) (.nil ?_)))))))))
    refine ak_inBlock ?_
    refine ak_inLoop ?_
    exact ak_conv (.cons rfl (.refl _) (.cons rfl (.refl _) (.nil _))) (.cons rfl (.refl _) (.nil _)) (ih _ _ h w F ρ _)
  ·have h := cond_f ht h
   refine ak_exit rfl ?_
   refine ak_seq ?_
   obtain ⟨v4, hv4, h⟩ := bind_of h
   refine ak_drawL [⟨some 59, [(0, .ref 10000 0)], none, true, .ref 10000 0, [], []⟩,
  ⟨some 60, [(59, .ref 10000 0)], none, true, .ref 10000 0, [], []⟩,
  ⟨some 61, [(60, .ref 10000 0)], none, true, .ref 10000 0, [], []⟩,
  ⟨some 62, [(61, .ref 10000 0)], none, true, .str a1.s, [(10000, .cells 125 [.str a1.s, .int .i64 a1.pos, .bool a1.bad])], []⟩,
  ⟨some 63, [(3, .int .i64 a0)], none, true, .int .i64 a0, [], []⟩,
  ⟨some 64, [(0, .ref 10000 0)], none, true, .ref 10000 0, [], []⟩,
  ⟨some 65, [(64, .ref 10000 0)], none, true, .ref 10000 0, [], []⟩,
  ⟨some 66, [(65, .ref 10000 0)], none, true, .ref 10000 1, [], []⟩,
  ⟨some 67, [(66, .ref 10000 1)], none, true, .int .i64 a1.pos, [(10000, .cells 125 [.str a1.s, .int .i64 a1.pos, .bool a1.bad])], []⟩,
  ⟨some 68, [(62, .str a1.s), (63, .int .i64 a0), (67, .int .i64 a1.pos)], none, true, .str ((a1.s.take a1.pos.toNat).drop a0.toNat), [], []⟩,
  ⟨some 2, [(68, .str ((a1.s.take a1.pos.toNat).drop a0.toNat))], none, true, .str ((a1.s.take a1.pos.toNat).drop a0.toNat), [], []⟩] [[], [0], [0, 1], [0, 1, 2], [], [], [5], [5, 6], [5, 6, 7], [0, 1, 2, 3, 4, 5, 6, 7, 8], [0, 1, 2, 3, 4, 5, 6, 7, 8, 9]] (by kernel_rfl) (by kernel_rfl) (.cons (qok (dlt rfl rfl) rfl (.same rfl .nil) (NeedQ.all .nil) (fun Γx σx => ok_move (dlt rfl rfl) rfl rfl)) (.cons (qok (dlt rfl rfl) rfl (.same rfl .nil) (NeedQ.all .nil) (fun Γx σx => ok_nilCheckV (dlt rfl rfl) rfl rfl)) (.cons (qok (dlt rfl rfl) rfl (.same rfl .nil) (NeedQ.all .nil) (fun Γx σx => ok_fieldV (dlt rfl rfl) rfl fo125_0 ty9 (by decide) rfl)) (.cons (qok (dlt rfl rfl) rfl (.same rfl .nil) (NeedQ.all (.cons rfl .nil)) (fun Γx σx => ok_loadV (dlt rfl rfl) rfl ty9 rfl rfl rfl)) (.cons (qok (dlt rfl rfl) rfl (.same rfl .nil) (NeedQ.all .nil) (fun Γx σx => ok_move (dlt rfl rfl) rfl rfl)) (.cons (qok (dlt rfl rfl) rfl (.same rfl .nil) (NeedQ.all .nil) (fun Γx σx => ok_move (dlt rfl rfl) rfl rfl)) (.cons (qok (dlt rfl rfl) rfl (.same rfl .nil) (NeedQ.all .nil) (fun Γx σx => ok_nilCheckV (dlt rfl rfl) rfl rfl)) (.cons (qok (dlt rfl rfl) rfl (.same rfl .nil) (NeedQ.all .nil) (fun Γx σx => ok_fieldV (dlt rfl rfl) rfl fo125_1 ty3 (by decide) rfl)) (.cons (qok (dlt rfl rfl) rfl (.same rfl .nil) (NeedQ.all (.cons rfl .nil)) (fun Γx σx => ok_loadV (dlt rfl rfl) rfl ty3 rfl rfl rfl)) (.cons (qok (dlt rfl rfl) rfl (.same rfl (.same rfl (.same rfl .nil))) (NeedQ.all .nil) (fun Γx σx => ok_cutLH (dlt rfl rfl) rfl Tryz.underlying9 rfl rfl rfl (need_of hv4).1 (need_of hv4).2.1 (need_of hv4).2.2)) (.cons (qok (dlt rfl rfl) rfl (.same rfl .nil) (NeedQ.all .nil) (fun Γx σx => ok_assign (dlt rfl rfl) rfl rfl)) (.nil _ _)))))))))))) (.nil ?_)
   obtain rfl := Option.some.inj h
   refine ak_conv (Γ' := [(2, .str ((a1.s.take a1.pos.toNat).drop a0.toNat))]) (σ' := [(10000, .cells 125 [.str a1.s, .int .i64 a1.pos, .bool a1.bad])]) (.cons rfl (.refl _) (.nil _)) (.cons rfl (.cells (.cons (.refl _) (.cons (.refl _) (.cons (.refl _) (.nil))))) (.nil _)) ?_
   exact ak_retC (fn := Tryz.f123) [(10000, .cells 125 [.str a1.s, .int .i64 a1.pos, .bool a1.bad])] (.cons rfl (.refl _) (.nil _)) Tryz.func123 rfl trivial ⟨rfl, rfl⟩)
theorem d123 {a0 : QueryReader} {r : (List UInt8) × QueryReader} (h : f123 (.e123 a0) = some r) : Does Tryz.prog GG 123 [.ref 10000 0] [(10000, .cells 125 [.str a0.s, .int .i64 a0.pos, .bool a0.bad])] (fun z σ' => z = .str r.1 ∧ σ' = [(10000, .cells 125 [.str r.2.s, .int .i64 r.2.pos, .bool r.2.bad])]) := fn_of (fn := Tryz.f123) Tryz.func123 rfl Tryz.ntmps123 rfl (w123 _ _ h)
end Go.Proofs.YtonlbdholdaifaaGreatDoor
end
section
set_option linter.unusedVariables false
set_option linter.unusedSimpArgs false
set_option maxRecDepth 10000
namespace Go.Proofs.YtonlbdholdaifaaGreatDoor
open Go Go.Rf Go.Proofs
/-- (*riffle/query.reader).segment -/
noncomputable abbrev b70 : Code := codeOf Tryz.f70
inductive L70 where
 | e70 (a0 : QueryReader)
 | l70_0 (a0 : Bool) (a1 : Bool) (a2 : Bool) (a3 : QueryReader)
 | l70_1 (a0 : Bool) (a1 : Bool) (a2 : Bool) (a3 : Bool) (a4 : QueryReader)
 | l70_2 (a0 : Bool) (a1 : Bool) (a2 : Bool) (a3 : Bool) (a4 : QueryReader)
 | l70_3 (a0 : Bool) (a1 : List ApiSelector) (a2 : Bool) (a3 : List UInt8) (a4 : Int) (a5 : Bool)
noncomputable def f70 : L70 → Option (ApiSegment × QueryReader)
 | .e70 a0 =>
  f68 (.e68 a0 ([46, 46] : List UInt8)) >>= fun v1 =>
  if (!v1.1) = true then
   f68 (.e68 v1.2 ([46] : List UInt8)) >>= fun v2 =>
   f70 (.l70_0 ((!v1.1) && v2.1) v1.1 false v2.2)
  else
   f70 (.l70_0 ((!v1.1) && false) v1.1 false v1.2)
 | .l70_0 a0 a1 a2 a3 =>
  if (!a0) = true then
   f68 (.e68 a3 ([91] : List UInt8)) >>= fun v3 =>
   f70 (.l70_1 a0 ((!a0) && v3.1) a1 a2 v3.2)
  else
   f70 (.l70_1 a0 ((!a0) && false) a1 a2 a3)
 | .l70_1 a0 a1 a2 a3 a4 =>
  if a1 = true then
   none
  else
   if (a0 || a2) = true then
    f68 (.e68 a4 ([42] : List UInt8)) >>= fun v4 =>
    f70 (.l70_2 a0 ((a0 || a2) && v4.1) a2 a3 v4.2)
   else
    f70 (.l70_2 a0 ((a0 || a2) && false) a2 a3 a4)
 | .l70_2 a0 a1 a2 a3 a4 =>
  if a1 = true then
   none
  else
   if (a0 || a2) = true then
    f123 (.e123 a4) >>= fun v5 =>
    f70 (.l70_3 a2 ([(⟨0, v5.1, 0, 0, 0, false, false, 0⟩ : ApiSelector)] : List ApiSelector) a3 v5.2.s v5.2.pos (v5.2.bad || (v5.1 == ([] : List UInt8))))
   else
    none
 | .l70_3 a0 a1 a2 a3 a4 a5 =>
  some ((⟨a0, a1⟩ : ApiSegment), (⟨a3, a4, a5⟩ : QueryReader))
 partial_fixpoint
def M70 : L70 → (ApiSegment × QueryReader) → Prop
 | .e70 a0, r => ∀ (w : World) (F : Nat → Prop) (ρ : Rho), AK Tryz.prog (ctx GG 66 w F ρ [(10000, .cells 125 [.str a0.s, .int .i64 a0.pos, .bool a0.bad])]) 70 [.code b70] (argE 0 [.ref 10000 0]) [(10000, .cells 125 [.str a0.s, .int .i64 a0.pos, .bool a0.bad])] (fun z σ' => z = .agg [.bool r.1.deep, .sl Ty.sApiSelector r.1.selectors] ∧ σ' = [(10000, .cells 125 [.str r.2.s, .int .i64 r.2.pos, .bool r.2.bad])])
 | .l70_0 a0 a1 a2 a3, r => ∀ (w : World) (F : Nat → Prop) (ρ : Rho) (S : Nat → Prop), AK Tryz.prog (ctxL GG 66 w F ρ S [10000]) 70 [.code (c2 (c2 (c2 (c2 b70))))] [(0, .ref 10000 0), (2, .ref 2 0), (3, .ref 3 0), (4, .bool a0)] [(3, .cells 47 [.bool a1, .nils]), (2, .cells 47 [.bool a2, .nils]), (10000, .cells 125 [.str a3.s, .int .i64 a3.pos, .bool a3.bad])] (fun z σ' => z = .agg [.bool r.1.deep, .sl Ty.sApiSelector r.1.selectors] ∧ σ' = [(10000, .cells 125 [.str r.2.s, .int .i64 r.2.pos, .bool r.2.bad])])
 | .l70_1 a0 a1 a2 a3 a4, r => ∀ (w : World) (F : Nat → Prop) (ρ : Rho) (S : Nat → Prop), AK Tryz.prog (ctxL GG 66 w F ρ S [10000]) 70 [.code (c2 (c1 (c1 (c2 (c2 (c2 (c2 b70))))))), .inBlock 0, .code (c2 (c2 (c2 (c2 (c2 b70)))))] [(0, .ref 10000 0), (2, .ref 2 0), (3, .ref 3 0), (4, .bool a0), (19, .bool a1)] [(3, .cells 47 [.bool a2, .nils]), (2, .cells 47 [.bool a3, .nils]), (10000, .cells 125 [.str a4.s, .int .i64 a4.pos, .bool a4.bad])] (fun z σ' => z = .agg [.bool r.1.deep, .sl Ty.sApiSelector r.1.selectors] ∧ σ' = [(10000, .cells 125 [.str r.2.s, .int .i64 r.2.pos, .bool r.2.bad])])
 | .l70_2 a0 a1 a2 a3 a4, r => ∀ (w : World) (F : Nat → Prop) (ρ : Rho) (S : Nat → Prop), AK Tryz.prog (ctxL GG 66 w F ρ S [10000]) 70 [.code (c2 (c2 (c2 (c1 (c1 (c2 (c2 (c2 (c2 b70))))))))), .inBlock 0, .code (c2 (c2 (c2 (c2 (c2 b70)))))] [(0, .ref 10000 0), (2, .ref 2 0), (3, .ref 3 0), (4, .bool a0), (29, .bool a1)] [(3, .cells 47 [.bool a2, .nils]), (2, .cells 47 [.bool a3, .nils]), (10000, .cells 125 [.str a4.s, .int .i64 a4.pos, .bool a4.bad])] (fun z σ' => z = .agg [.bool r.1.deep, .sl Ty.sApiSelector r.1.selectors] ∧ σ' = [(10000, .cells 125 [.str r.2.s, .int .i64 r.2.pos, .bool r.2.bad])])
 | .l70_3 a0 a1 a2 a3 a4 a5, r => ∀ (w : World) (F : Nat → Prop) (ρ : Rho) (S : Nat → Prop), AK Tryz.prog (ctxL GG 66 w F ρ S [10000]) 70 [.inBlock 0, .code (c2 (c2 (c2 (c2 (c2 b70)))))] [(2, .ref 2 0), (3, .ref 3 0)] [(3, .cells 47 [.bool a0, .sf Ty.sApiSelector a1]), (2, .cells 47 [.bool a2, .nils]), (10000, .cells 125 [.str a3, .int .i64 a4, .bool a5])] (fun z σ' => z = .agg [.bool r.1.deep, .sl Ty.sApiSelector r.1.selectors] ∧ σ' = [(10000, .cells 125 [.str r.2.s, .int .i64 r.2.pos, .bool r.2.bad])])
theorem w70 : ∀ (l : L70) (r : ApiSegment × QueryReader), f70 l = some r → M70 l r := f70.partial_correctness M70 (by
 intro f ih l r h
 cases l with
 | e70 a0 =>
  intro w F ρ
  dsimp only at h
  refine ak_seq ?_
  refine ak_regionS (.cons rfl (ok_alloc (d := 2) (dlt rfl rfl) rfl ty47 rfl rfl rfl) (.nil ?_))
  refine ak_seq ?_
  refine ak_regionS (.cons rfl (ok_alloc (d := 3) (dlt rfl rfl) rfl ty47 rfl rfl rfl) (.nil ?_))
  refine ak_seq ?_
  obtain ⟨v1, hv1, h⟩ := bind_of h
  refine ak_regionS (.cons rfl (ok_move (dlt rfl rfl) rfl rfl) (.cons rfl (ok_callL (xs := [.ref 10000 0, .str ([46, 46] : List UInt8)]) (caps := []) (xs1 := [.ref 10000 0, .str ([46, 46] : List UInt8)]) (z := .bool v1.1) (ups := [(10000, .cells 125 [.str v1.2.s, .int .i64 v1.2.pos, .bool v1.2.bad])]) (dlt rfl rfl) [(10000, (10000, some (0, 3)))] [] rfl rfl Tryz.func68 rfl rfl rfl (.cons (.refl _) (.cons (.refl _) (.nil))) (.cons (.ref rfl rfl) (.cons (.same rfl) (.nil))) (.cells rfl rfl (by decide) rfl (.cons (.refl _) (.cons (.refl _) (.cons (.refl _) (.nil)))) (.cons (.same rfl) (.cons (.same rfl) (.cons (.same rfl) (.nil)))) .nil) rfl (d68 hv1) (.cells (l := 10000) rfl rfl rfl rfl (.cons (.same rfl) (.cons (.same rfl) (.cons (.same rfl) (.nil)))) (Nat.succ_ne_zero _) rfl .nil) rfl rfl rfl (by intro d h; simp at h) rfl (.same rfl)) (.cons rfl (ok_fieldV (dlt rfl rfl) rfl fo47_0 ty4 (by decide) rfl) (.cons rfl (ok_storeV rfl rfl ty4 rfl rfl rfl rfl (by decide) rfl rfl) (.nil ?_)))))
  refine ak_seq ?_
  refine ak_regionS (.cons rfl (ok_fieldV (dlt rfl rfl) rfl fo47_0 ty4 (by decide) rfl) (.cons rfl (ok_loadV (dlt rfl rfl) rfl ty4 rfl rfl rfl) (.cons rfl (ok_not (dlt rfl rfl) rfl rfl) (.cons rfl (ok_move (dlt rfl rfl) rfl rfl) (.consG (pre := []) (dlt rfl rfl) rfl rfl rfl rfl .nil (fun he => ok_move (dlt rfl rfl) rfl rfl) (.split (!v1.1) (fun he1 => ?_) (fun he1 => ?_)))))))
  ·have h := cond_t he1 h
   obtain ⟨v2, hv2, h⟩ := bind_of h
   refine (.pre (pre := [(13, .ref 10000 0)]) he1 (.cons rfl (fun _ => he1) .nil) (.run rfl rfl rfl rfl he1 (ok_callL (xs := [.ref 10000 0, .str ([46] : List UInt8)]) (caps := []) (xs1 := [.ref 10000 0, .str ([46] : List UInt8)]) (z := .bool v2.1) (ups := [(10000, .cells 125 [.str v2.2.s, .int .i64 v2.2.pos, .bool v2.2.bad])]) (dlt rfl rfl) [(10000, (10000, some (0, 3)))] [] rfl rfl Tryz.func68 rfl rfl rfl (.cons (.refl _) (.cons (.refl _) (.nil))) (.cons (.ref rfl rfl) (.cons (.same rfl) (.nil))) (.cells rfl rfl (by decide) rfl (.cons (.refl _) (.cons (.refl _) (.cons (.refl _) (.nil)))) (.cons (.same rfl) (.cons (.same rfl) (.cons (.same rfl) (.nil)))) .nil) rfl (d68 hv2) (.cells (l := 10000) rfl rfl rfl rfl (.cons (.same rfl) (.cons (.same rfl) (.cons (.same rfl) (.nil)))) (Nat.succ_ne_zero _) rfl .nil) rfl rfl rfl (by intro d h; simp at h) rfl (.same rfl)) (.cons rfl (ok_andP (dlt rfl rfl) rfl rfl rfl) (.cons rfl (ok_assign (dlt rfl rfl) rfl rfl) (.nil ?_)))))
   exact ak_conv (.cons rfl (.refl _) (.cons rfl (.refl _) (.cons rfl (.refl _) (.cons rfl (.refl _) (.nil _))))) (.cons rfl (.refl _) (.cons rfl (.refl _) (.cons rfl (.refl _) (.nil _)))) (ih _ _ h w F ρ _)
  ·have h := cond_f he1 h
   refine (.skip (.bool false) (dlt rfl rfl) rfl rfl rfl rfl he1 (.cons rfl (ok_andW (dlt rfl rfl) rfl rfl rfl (fun h => h)) (.cons rfl (ok_assign (dlt rfl rfl) rfl rfl) (.nil ?_))))
   exact ak_conv (.cons rfl (.refl _) (.cons rfl (.refl _) (.cons rfl (.refl _) (.cons rfl (.refl _) (.nil _))))) (.cons rfl (.refl _) (.cons rfl (.refl _) (.cons rfl (.refl _) (.nil _)))) (ih _ _ h w F ρ _)
 | l70_0 a0 a1 a2 a3 =>
  intro w F ρ S
  dsimp only at h
  refine ak_seq ?_
  refine ak_block ?_
  refine ak_seq ?_
  refine ak_regionS (.cons rfl (ok_move (dlt rfl rfl) rfl rfl) (.cons rfl (ok_not (dlt rfl rfl) rfl rfl) (.cons rfl (ok_move (dlt rfl rfl) rfl rfl) (.consG (pre := []) (dlt rfl rfl) rfl rfl rfl rfl .nil (fun he => ok_move (dlt rfl rfl) rfl rfl) (.split (!a0) (fun he2 => ?_) (fun he2 => ?_))))))
  ·have h := cond_t he2 h
   obtain ⟨v3, hv3, h⟩ := bind_of h
   refine (.pre (pre := [(23, .ref 10000 0)]) he2 (.cons rfl (fun _ => he2) .nil) (.run rfl rfl rfl rfl he2 (ok_callL (xs := [.ref 10000 0, .str ([91] : List UInt8)]) (caps := []) (xs1 := [.ref 10000 0, .str ([91] : List UInt8)]) (z := .bool v3.1) (ups := [(10000, .cells 125 [.str v3.2.s, .int .i64 v3.2.pos, .bool v3.2.bad])]) (dlt rfl rfl) [(10000, (10000, some (0, 3)))] [] rfl rfl Tryz.func68 rfl rfl rfl (.cons (.refl _) (.cons (.refl _) (.nil))) (.cons (.ref rfl rfl) (.cons (.same rfl) (.nil))) (.cells rfl rfl (by decide) rfl (.cons (.refl _) (.cons (.refl _) (.cons (.refl _) (.nil)))) (.cons (.same rfl) (.cons (.same rfl) (.cons (.same rfl) (.nil)))) .nil) rfl (d68 hv3) (.cells (l := 10000) rfl rfl rfl rfl (.cons (.same rfl) (.cons (.same rfl) (.cons (.same rfl) (.nil)))) (Nat.succ_ne_zero _) rfl .nil) rfl rfl rfl (by intro d h; simp at h) rfl (.same rfl)) (.cons rfl (ok_andP (dlt rfl rfl) rfl rfl rfl) (.cons rfl (ok_assign (dlt rfl rfl) rfl rfl) (.nil ?_)))))
   exact ak_conv (.cons rfl (.refl _) (.cons rfl (.refl _) (.cons rfl (.refl _) (.cons rfl (.refl _) (.cons rfl (.refl _) (.nil _)))))) (.cons rfl (.refl _) (.cons rfl (.refl _) (.cons rfl (.refl _) (.nil _)))) (ih _ _ h w F ρ _)
  ·have h := cond_f he2 h
   refine (.skip (.bool false) (dlt rfl rfl) rfl rfl rfl rfl he2 (.cons rfl (ok_andW (dlt rfl rfl) rfl rfl rfl (fun h => h)) (.cons rfl (ok_assign (dlt rfl rfl) rfl rfl) (.nil ?_))))
   exact ak_conv (.cons rfl (.refl _) (.cons rfl (.refl _) (.cons rfl (.refl _) (.cons rfl (.refl _) (.cons rfl (.refl _) (.nil _)))))) (.cons rfl (.refl _) (.cons rfl (.refl _) (.cons rfl (.refl _) (.nil _)))) (ih _ _ h w F ρ _)
 | l70_1 a0 a1 a2 a3 a4 =>
  intro w F ρ S
  dsimp only at h
  refine ak_cond rfl (fun ht => ?_) (fun ht => ?_)
  ·have h := cond_t ht h
   exact no_of h
  ·have h := cond_f ht h
   refine ak_seq ?_
   refine ak_regionS (.cons rfl (ok_move (dlt rfl rfl) rfl rfl) (.cons rfl (ok_move (dlt rfl rfl) rfl rfl) (.consG (pre := []) (dlt rfl rfl) rfl rfl rfl rfl .nil (fun he => ok_fieldV (dlt rfl rfl) rfl fo47_0 ty4 (by decide) rfl) (.consG (pre := [(32, .ref 3 0)]) (dlt rfl rfl) rfl rfl rfl rfl (.cons rfl (fun he => he) .nil) (fun he => ok_loadV (dlt rfl rfl) rfl ty4 rfl rfl rfl) (.cons rfl (ok_orW (dlt rfl rfl) rfl rfl rfl (fun h => (bnot_t h))) (.cons rfl (ok_move (dlt rfl rfl) rfl rfl) (.consG (pre := []) (dlt rfl rfl) rfl rfl rfl rfl .nil (fun he => ok_move (dlt rfl rfl) rfl rfl) (.split ((a0 || a2)) (fun he3 => ?_) (fun he3 => ?_)))))))))
   ·have h := cond_t he3 h
    obtain ⟨v4, hv4, h⟩ := bind_of h
    refine (.pre (pre := [(36, .ref 10000 0)]) he3 (.cons rfl (fun _ => he3) .nil) (.run rfl rfl rfl rfl he3 (ok_callL (xs := [.ref 10000 0, .str ([42] : List UInt8)]) (caps := []) (xs1 := [.ref 10000 0, .str ([42] : List UInt8)]) (z := .bool v4.1) (ups := [(10000, .cells 125 [.str v4.2.s, .int .i64 v4.2.pos, .bool v4.2.bad])]) (dlt rfl rfl) [(10000, (10000, some (0, 3)))] [] rfl rfl Tryz.func68 rfl rfl rfl (.cons (.refl _) (.cons (.refl _) (.nil))) (.cons (.ref rfl rfl) (.cons (.same rfl) (.nil))) (.cells rfl rfl (by decide) rfl (.cons (.refl _) (.cons (.refl _) (.cons (.refl _) (.nil)))) (.cons (.same rfl) (.cons (.same rfl) (.cons (.same rfl) (.nil)))) .nil) rfl (d68 hv4) (.cells (l := 10000) rfl rfl rfl rfl (.cons (.same rfl) (.cons (.same rfl) (.cons (.same rfl) (.nil)))) (Nat.succ_ne_zero _) rfl .nil) rfl rfl rfl (by intro d h; simp at h) rfl (.same rfl)) (.cons rfl (ok_andP (dlt rfl rfl) rfl rfl rfl) (.cons rfl (ok_assign (dlt rfl rfl) rfl rfl) (.nil ?_)))))
    exact ak_conv (.cons rfl (.refl _) (.cons rfl (.refl _) (.cons rfl (.refl _) (.cons rfl (.refl _) (.cons rfl (.refl _) (.nil _)))))) (.cons rfl (.refl _) (.cons rfl (.refl _) (.cons rfl (.refl _) (.nil _)))) (ih _ _ h w F ρ _)
   ·have h := cond_f he3 h
    refine (.skip (.bool false) (dlt rfl rfl) rfl rfl rfl rfl he3 (.cons rfl (ok_andW (dlt rfl rfl) rfl rfl rfl (fun h => h)) (.cons rfl (ok_assign (dlt rfl rfl) rfl rfl) (.nil ?_))))
    exact ak_conv (.cons rfl (.refl _) (.cons rfl (.refl _) (.cons rfl (.refl _) (.cons rfl (.refl _) (.cons rfl (.refl _) (.nil _)))))) (.cons rfl (.refl _) (.cons rfl (.refl _) (.cons rfl (.refl _) (.nil _)))) (ih _ _ h w F ρ _)
 | l70_2 a0 a1 a2 a3 a4 =>
  intro w F ρ S
  dsimp only at h
  refine ak_cond rfl (fun ht => ?_) (fun ht => ?_)
  ·have h := cond_t ht h
   exact no_of h
  ·have h := cond_f ht h
   refine ak_seq ?_
   refine ak_regionS (.cons rfl (ok_move (dlt rfl rfl) rfl rfl) (.cons rfl (ok_move (dlt rfl rfl) rfl rfl) (.consG (pre := []) (dlt rfl rfl) rfl rfl rfl rfl .nil (fun he => ok_fieldV (dlt rfl rfl) rfl fo47_0 ty4 (by decide) rfl) (.consG (pre := [(45, .ref 3 0)]) (dlt rfl rfl) rfl rfl rfl rfl (.cons rfl (fun he => he) .nil) (fun he => ok_loadV (dlt rfl rfl) rfl ty4 rfl rfl rfl) (.cons rfl (ok_orW (dlt rfl rfl) rfl rfl rfl (fun h => (bnot_t h))) (.cons rfl (ok_assign (dlt rfl rfl) rfl rfl) (.nil ?_)))))))
   refine ak_cond rfl (fun ht => ?_) (fun ht => ?_)
   ·have h := cond_t ht h
    refine ak_seq ?_
    obtain ⟨v5, hv5, h⟩ := bind_of h
    refine ak_regionS (.cons rfl (ok_move (dlt rfl rfl) rfl rfl) (.cons rfl (ok_callL (xs := [.ref 10000 0]) (caps := []) (xs1 := [.ref 10000 0]) (z := .str v5.1) (ups := [(10000, .cells 125 [.str v5.2.s, .int .i64 v5.2.pos, .bool v5.2.bad])]) (dlt rfl rfl) [(10000, (10000, some (0, 3)))] [] rfl rfl Tryz.func123 rfl rfl rfl (.cons (.refl _) (.nil)) (.cons (.ref rfl rfl) (.nil)) (.cells rfl rfl (by decide) rfl (.cons (.refl _) (.cons (.refl _) (.cons (.refl _) (.nil)))) (.cons (.same rfl) (.cons (.same rfl) (.cons (.same rfl) (.nil)))) .nil) rfl (d123 hv5) (.cells (l := 10000) rfl rfl rfl rfl (.cons (.same rfl) (.cons (.same rfl) (.cons (.same rfl) (.nil)))) (Nat.succ_ne_zero _) rfl .nil) rfl rfl rfl (by intro d h; simp at h) rfl (.same rfl)) (.cons rfl (ok_assign (dlt rfl rfl) rfl rfl) (.nil ?_))))
    refine ak_seq ?_
    refine ak_regionS (.cons rfl (ok_move (dlt rfl rfl) rfl rfl) (.cons rfl (ok_move (dlt rfl rfl) rfl rfl) (.cons rfl (ok_nilCheckV (dlt rfl rfl) rfl rfl) (.cons rfl (ok_fieldV (dlt rfl rfl) rfl fo125_2 ty4 (by decide) rfl) (.cons rfl (ok_loadV (dlt rfl rfl) rfl ty4 rfl rfl rfl) (.cons rfl (ok_move (dlt rfl rfl) rfl rfl) (.consG (pre := []) (dlt rfl rfl) rfl rfl rfl rfl .nil (fun he => ok_move (dlt rfl rfl) rfl rfl) (.consG (pre := [(56, .str v5.1)]) (dlt rfl rfl) rfl rfl rfl rfl (.cons rfl (fun he => he) .nil) (fun he => ok_eqlS (dlt rfl rfl) rfl rfl rfl) (.cons rfl (ok_orW (dlt rfl rfl) rfl rfl rfl (fun h => (bnot_t h))) (.cons rfl (ok_nilCheckV (dlt rfl rfl) rfl rfl) (.cons rfl (ok_fieldV (dlt rfl rfl) rfl fo125_2 ty4 (by decide) rfl) (.cons rfl (ok_storeV rfl rfl ty4 rfl rfl rfl rfl (by decide) rfl rfl) (.nil ?_)))))))))))))
    refine ak_regionS (.cons rfl (ok_move (dlt rfl rfl) rfl rfl) (.cons rfl (ok_build (dlt rfl rfl) rfl ty49 rfl pl49 rfl rfl rfl) (.cons rfl (ok_lit (τ := Ty.sApiSelector) (dlt rfl rfl) ([(⟨0, v5.1, 0, 0, 0, false, false, 0⟩ : ApiSelector)] : List ApiSelector) rfl Tryz.underlying45 ty49 rfl rfl rfl rfl rfl (by decide) (by decide) rfl) (.cons rfl (ok_fieldV (dlt rfl rfl) rfl fo47_1 ty45 (by decide) rfl) (.cons rfl (ok_storeV rfl rfl ty45 rfl rfl rfl rfl (by decide) rfl rfl) (.nil ?_))))))
    exact ak_conv (.cons rfl (.refl _) (.cons rfl (.refl _) (.nil _))) (.cons rfl (.refl _) (.cons rfl (.refl _) (.cons rfl (.refl _) (.nil _)))) (ih _ _ h w F ρ _)
   ·have h := cond_f ht h
    exact no_of h
 | l70_3 a0 a1 a2 a3 a4 a5 =>
  intro w F ρ S
  dsimp only at h
  refine ak_inBlock ?_
  refine ak_seq ?_
  refine ak_regionS (.cons rfl (ok_loadVT (dlt rfl rfl) rfl ty47 rfl rfl (by decide) rfl) (.cons rfl (ok_storeV rfl rfl ty47 rfl rfl rfl rfl (by decide) rfl rfl) (.nil ?_)))
  obtain rfl := Option.some.inj h
  refine ak_conv (Γ' := [(2, .ref 2 0)]) (σ' := [(2, .cells 47 [.bool ((⟨a0, a1⟩ : ApiSegment).deep), .sl Ty.sApiSelector ((⟨a0, a1⟩ : ApiSegment).selectors)]), (10000, .cells 125 [.str ((⟨a3, a4, a5⟩ : QueryReader).s), .int .i64 ((⟨a3, a4, a5⟩ : QueryReader).pos), .bool ((⟨a3, a4, a5⟩ : QueryReader).bad)])]) (.cons rfl (.refl _) (.nil _)) (.cons rfl (.cells (.cons (.refl _) (.cons (sub_sf Ty.sApiSelector _) (.nil)))) (.cons rfl (.cells (.cons (.refl _) (.cons (.refl _) (.cons (.refl _) (.nil))))) (.nil _))) ?_
  exact ak_retC (fn := Tryz.f70) [(10000, .cells 125 [.str ((⟨a3, a4, a5⟩ : QueryReader).s), .int .i64 ((⟨a3, a4, a5⟩ : QueryReader).pos), .bool ((⟨a3, a4, a5⟩ : QueryReader).bad)])] (.cons rfl (.refl _) (.nil _)) Tryz.func70 rfl ⟨⟨_, _, _, _, _, _, rfl, rfl, ty47⟩, trivial⟩ ⟨rfl, rfl⟩)
theorem d70 {a0 : QueryReader} {r : ApiSegment × QueryReader} (h : f70 (.e70 a0) = some r) : Does Tryz.prog GG 70 [.ref 10000 0] [(10000, .cells 125 [.str a0.s, .int .i64 a0.pos, .bool a0.bad])] (fun z σ' => z = .agg [.bool r.1.deep, .sl Ty.sApiSelector r.1.selectors] ∧ σ' = [(10000, .cells 125 [.str r.2.s, .int .i64 r.2.pos, .bool r.2.bad])]) := fn_of (fn := Tryz.f70) Tryz.func70 rfl Tryz.ntmps70 rfl (w70 _ _ h)
/-- riffle/query.Parse -/
noncomputable abbrev b19 : Code := codeOf Tryz.f19
inductive L19 where
 | e19 (a0 : List UInt8)
 | l19_0 (a0 : List UInt8) (a1 : Bool) (a2 : QueryReader)
 | l19_1 (a0 : List UInt8) (a1 : List ApiSegment) (a2 : QueryReader)
noncomputable def f19 : L19 → Option ((List ApiSegment) × Bool)
 | .e19 a0 =>
  f67 (.e67 a0) >>= fun v1 =>
  if (!(decide ((0 : Int) ≤ v1))) = true then
   f68 (.e68 (⟨a0, 0, false⟩ : QueryReader) ([36] : List UInt8)) >>= fun v2 =>
   f19 (.l19_0 a0 ((decide ((0 : Int) ≤ v1)) || (!v2.1)) v2.2)
  else
   f19 (.l19_0 a0 ((decide ((0 : Int) ≤ v1)) || false) (⟨a0, 0, false⟩ : QueryReader))
 | .l19_0 a0 a1 a2 =>
  if a1 = true then
   none
  else
   f19 (.l19_1 a0 ([] : List ApiSegment) a2)
 | .l19_1 a0 a1 a2 =>
  if ((decide (a2.pos < (a0.length : Int))) && (!a2.bad)) = true then
   f69 (.e69 a2) >>= fun v3 =>
   f70 (.e70 v3) >>= fun v4 =>
   room a1.length ([v4.1] : List ApiSegment).length 32 >>= fun v5 =>
   f19 (.l19_1 a0 (a1 ++ ([v4.1] : List ApiSegment)) v4.2)
  else
   if a2.bad = true then
    none
   else
    some (a1, true)
 partial_fixpoint
def M19 : L19 → ((List ApiSegment) × Bool) → Prop
 | .e19 a0, r => ∀ (w : World) (F : Nat → Prop) (ρ : Rho), AK Tryz.prog (ctx GG 43 w F ρ []) 19 [.code b19] (argE 0 [.str a0]) [] (fun z _ => z = .tup [.sl Ty.sApiSegment r.1, .bool r.2])
 | .l19_0 a0 a1 a2, r => ∀ (w : World) (F : Nat → Prop) (ρ : Rho), AK Tryz.prog (ctx GG 43 w F ρ []) 19 [.code (c2 (c1 (c2 (c2 b19)))), .code (c2 (c2 (c2 b19)))] [(0, .str a0), (4, .ref 8 0), (16, .bool a1)] [(8, .cells 125 [.str a2.s, .int .i64 a2.pos, .bool a2.bad])] (fun z _ => z = .tup [.sl Ty.sApiSegment r.1, .bool r.2])
 | .l19_1 a0 a1 a2, r => ∀ (w : World) (F : Nat → Prop) (ρ : Rho), AK Tryz.prog (ctx GG 43 w F ρ []) 19 [.code (c1 (c1 (c1 (c2 (c2 (c2 (c2 b19))))))), .inLoop (c1 (c1 (c1 (c2 (c2 (c2 (c2 b19))))))), .inBlock 0, .code (c2 (c2 (c2 (c2 (c2 b19)))))] [(0, .str a0), (4, .ref 8 0), (5, .mf 2 1005)] [(1005, .arr 47 Ty.sApiSegment a1), (8, .cells 125 [.str a2.s, .int .i64 a2.pos, .bool a2.bad])] (fun z _ => z = .tup [.sl Ty.sApiSegment r.1, .bool r.2])
theorem w19 : ∀ (l : L19) (r : (List ApiSegment) × Bool), f19 l = some r → M19 l r := f19.partial_correctness M19 (by
 intro f ih l r h
 cases l with
 | e19 a0 =>
  intro w F ρ
  dsimp only at h
  refine ak_seq ?_
  refine ak_regionS (.cons rfl (ok_assign (dlt rfl rfl) rfl rfl) (.cons rfl (ok_assign (dlt rfl rfl) rfl rfl) (.nil ?_)))
  refine ak_seq ?_
  refine ak_regionS (.cons rfl (ok_move (dlt rfl rfl) rfl rfl) (.cons rfl (ok_build (dlt rfl rfl) rfl ty125 rfl pl125 rfl rfl rfl) (.cons rfl (ok_box (d := 8) (dlt rfl rfl) rfl rfl rfl rfl rfl) (.cons rfl (ok_assign (dlt rfl rfl) rfl rfl) (.nil ?_)))))
  refine ak_seq ?_
  refine ak_seq ?_
  obtain ⟨v1, hv1, h⟩ := bind_of h
  refine ak_regionS (.cons rfl (ok_move (dlt rfl rfl) rfl rfl) (.cons rfl (ok_call (xs := [.str a0]) (caps := []) (dlt rfl rfl) rfl rfl Tryz.func67 rfl rfl rfl (d67 hv1) rfl) (.cons rfl (ok_geq (dlt rfl rfl) rfl rfl rfl) (.cons rfl (ok_move (dlt rfl rfl) rfl rfl) (.consG (pre := []) (dlt rfl rfl) rfl rfl rfl rfl .nil (fun he => ok_move (dlt rfl rfl) rfl rfl) (.split (!(decide ((0 : Int) ≤ v1))) (fun he1 => ?_) (fun he1 => ?_)))))))
  ·have h := cond_t he1 h
   obtain ⟨v2, hv2, h⟩ := bind_of h
   refine (.pre (pre := [(13, .ref 8 0)]) he1 (.cons rfl (fun _ => he1) .nil) (.run rfl rfl rfl rfl he1 (ok_callL (xs := [.ref 8 0, .str ([36] : List UInt8)]) (caps := []) (xs1 := [.ref 8 0, .str ([36] : List UInt8)]) (z := .bool v2.1) (ups := [(8, .cells 125 [.str v2.2.s, .int .i64 v2.2.pos, .bool v2.2.bad])]) (dlt rfl rfl) [(10000, (8, some (0, 3)))] [] rfl rfl Tryz.func68 rfl rfl rfl (.cons (.refl _) (.cons (.refl _) (.nil))) (.cons (.ref rfl rfl) (.cons (.same rfl) (.nil))) (.cells rfl rfl (by decide) rfl (.cons (.refl _) (.cons (.refl _) (.cons (.refl _) (.nil)))) (.cons (.same rfl) (.cons (.same rfl) (.cons (.same rfl) (.nil)))) .nil) rfl (d68 hv2) (.cells (l := 10000) rfl rfl rfl rfl (.cons (.same rfl) (.cons (.same rfl) (.cons (.same rfl) (.nil)))) (Nat.succ_ne_zero _) rfl .nil) rfl rfl rfl (by intro d h; simp at h) rfl (.same rfl)) (.run rfl rfl rfl rfl he1 (ok_not (dlt rfl rfl) rfl rfl) (.cons rfl (ok_orP (dlt rfl rfl) rfl rfl rfl) (.nil ?_)))))
   exact ak_conv (.cons rfl (.refl _) (.cons rfl (.refl _) (.cons rfl (.refl _) (.nil _)))) (.cons rfl (.refl _) (.nil _)) (ih _ _ h w F ρ)
  ·have h := cond_f he1 h
   refine (.skip (.bool false) (dlt rfl rfl) rfl rfl rfl rfl he1 (.skip (.bool false) (dlt rfl rfl) rfl rfl rfl rfl he1 (.cons rfl (ok_orW (dlt rfl rfl) rfl rfl rfl (fun h => (bnot_t h))) (.nil ?_))))
   exact ak_conv (.cons rfl (.refl _) (.cons rfl (.refl _) (.cons rfl (.refl _) (.nil _)))) (.cons rfl (.refl _) (.nil _)) (ih _ _ h w F ρ)
 | l19_0 a0 a1 a2 =>
  intro w F ρ
  dsimp only at h
  refine ak_cond rfl (fun ht => ?_) (fun ht => ?_)
  ·have h := cond_t ht h
   exact no_of h
  ·have h := cond_f ht h
   refine ak_skip ?_
   refine ak_seq ?_
   refine ak_regionS (.cons rfl (ok_assign (dlt rfl rfl) rfl rfl) (.nil ?_))
   refine ak_nilRow (s := 5) (d := 1005) (e := 47) Ty.sApiSegment rfl rfl rfl ?_
   refine ak_seq ?_
   refine ak_block ?_
   refine ak_loop ?_
   exact ak_conv (.cons rfl (.refl _) (.cons rfl (.refl _) (.cons rfl (.refl _) (.nil _)))) (.cons rfl (.refl _) (.cons rfl (.refl _) (.nil _))) (ih _ _ h w F ρ)
 | l19_1 a0 a1 a2 =>
  intro w F ρ
  dsimp only at h
  refine ak_seq ?_
  refine ak_seq ?_
  refine ak_regionS (.cons rfl (ok_move (dlt rfl rfl) rfl rfl) (.cons rfl (ok_nilCheckV (dlt rfl rfl) rfl rfl) (.cons rfl (ok_fieldV (dlt rfl rfl) rfl fo125_1 ty3 (by decide) rfl) (.cons rfl (ok_loadV (dlt rfl rfl) rfl ty3 rfl rfl rfl) (.cons rfl (ok_move (dlt rfl rfl) rfl rfl) (.cons rfl (ok_lenT (s := a0) (dlt rfl rfl) rfl Tryz.underlying9 rfl) (.cons rfl (ok_lss (dlt rfl rfl) rfl rfl rfl) (.cons rfl (ok_move (dlt rfl rfl) rfl rfl) (.consG (pre := []) (dlt rfl rfl) rfl rfl rfl rfl .nil (fun he => ok_move (dlt rfl rfl) rfl rfl) (.consG (pre := [(25, .ref 8 0)]) (dlt rfl rfl) rfl rfl rfl rfl (.cons rfl (fun he => he) .nil) (fun he => ok_nilCheckV (dlt rfl rfl) rfl rfl) (.consG (pre := [(26, .ref 8 0)]) (dlt rfl rfl) rfl rfl rfl rfl (.cons rfl (fun he => he) .nil) (fun he => ok_fieldV (dlt rfl rfl) rfl fo125_2 ty4 (by decide) rfl) (.consG (pre := [(27, .ref 8 2)]) (dlt rfl rfl) rfl rfl rfl rfl (.cons rfl (fun he => he) .nil) (fun he => ok_loadV (dlt rfl rfl) rfl ty4 rfl rfl rfl) (.consG (pre := [(28, .bool a2.bad)]) (dlt rfl rfl) rfl rfl rfl rfl (.cons rfl (fun he => he) .nil) (fun he => ok_not (dlt rfl rfl) rfl rfl) (.cons rfl (ok_andW (dlt rfl rfl) rfl rfl rfl (fun h => h)) (.nil ?_)))))))))))))))
  refine ak_cond rfl (fun ht => ?_) (fun ht => ?_)
  ·have h := cond_t ht h
   refine ak_skip ?_
   refine ak_block ?_
   refine ak_seq ?_
   obtain ⟨v3, hv3, h⟩ := bind_of h
   refine ak_regionS (.cons rfl (ok_move (dlt rfl rfl) rfl rfl) (.cons rfl (ok_callL (xs := [.ref 8 0]) (caps := []) (xs1 := [.ref 8 0]) (z := .tup []) (ups := [(8, .cells 125 [.str v3.s, .int .i64 v3.pos, .bool v3.bad])]) (dlt rfl rfl) [(10000, (8, some (0, 3)))] [] rfl rfl Tryz.func69 rfl rfl rfl (.cons (.refl _) (.nil)) (.cons (.ref rfl rfl) (.nil)) (.cells rfl rfl (by decide) rfl (.cons (.refl _) (.cons (.refl _) (.cons (.refl _) (.nil)))) (.cons (.same rfl) (.cons (.same rfl) (.cons (.same rfl) (.nil)))) .nil) rfl (d69 hv3) (.cells (l := 10000) rfl rfl rfl rfl (.cons (.same rfl) (.cons (.same rfl) (.cons (.same rfl) (.nil)))) (Nat.succ_ne_zero _) rfl .nil) rfl rfl rfl (by intro d h; simp at h) rfl (.same rfl)) (.nil ?_)))
   obtain ⟨v4, hv4, h⟩ := bind_of h
   obtain ⟨v5, hv5, h⟩ := bind_of h
   refine ak_regionS (.cons rfl (ok_move (dlt rfl rfl) rfl rfl) (.cons rfl (ok_move (dlt rfl rfl) rfl rfl) (.cons rfl (ok_callL (xs := [.ref 8 0]) (caps := []) (xs1 := [.ref 8 0]) (z := .agg [.bool v4.1.deep, .sl Ty.sApiSelector v4.1.selectors]) (ups := [(8, .cells 125 [.str v4.2.s, .int .i64 v4.2.pos, .bool v4.2.bad])]) (dlt rfl rfl) [(10000, (8, some (0, 3)))] [] rfl rfl Tryz.func70 rfl rfl rfl (.cons (.refl _) (.nil)) (.cons (.ref rfl rfl) (.nil)) (.cells rfl rfl (by decide) rfl (.cons (.refl _) (.cons (.refl _) (.cons (.refl _) (.nil)))) (.cons (.same rfl) (.cons (.same rfl) (.cons (.same rfl) (.nil)))) .nil) rfl (d70 hv4) (.cells (l := 10000) rfl rfl rfl rfl (.cons (.same rfl) (.cons (.same rfl) (.cons (.same rfl) (.nil)))) (Nat.succ_ne_zero _) rfl .nil) rfl rfl rfl (by intro d h; simp at h) rfl (.same rfl)) (.cons rfl (ok_lit (τ := Ty.sApiSegment) (dlt rfl rfl) ([v4.1] : List ApiSegment) rfl Tryz.underlying24 ty47 rfl rfl rfl rfl rfl (by decide) (by decide) rfl) (.cons rfl (ok_appendF (τ := Ty.sApiSegment) (xs := a1) (ys := ([v4.1] : List ApiSegment)) (dlt rfl rfl) rfl Tryz.underlying24 ty47 rfl rfl rfl rfl (room_1 hv5) (room_2 hv5)) (.cons rfl (ok_assign (dlt rfl rfl) rfl rfl) (.nil ?_)))))))
   refine ak_inBlock ?_
   refine ak_inLoop ?_
   exact ak_conv (.cons rfl (.refl _) (.cons rfl (.refl _) (.cons rfl (.refl _) (.nil _)))) (.cons rfl (.refl _) (.cons rfl (.refl _) (.nil _))) (ih _ _ h w F ρ)
  ·have h := cond_f ht h
   refine ak_exit rfl ?_
   refine ak_seq ?_
   refine ak_seq ?_
   refine ak_regionS (.cons rfl (ok_move (dlt rfl rfl) rfl rfl) (.cons rfl (ok_nilCheckV (dlt rfl rfl) rfl rfl) (.cons rfl (ok_fieldV (dlt rfl rfl) rfl fo125_2 ty4 (by decide) rfl) (.cons rfl (ok_loadV (dlt rfl rfl) rfl ty4 rfl rfl rfl) (.nil ?_)))))
   refine ak_cond rfl (fun ht => ?_) (fun ht => ?_)
   ·have h := cond_t ht h
    exact no_of h
   ·have h := cond_f ht h
    refine ak_skip ?_
    refine ak_seq ?_
    refine ak_regionS (.cons rfl (ok_move (dlt rfl rfl) rfl rfl) (.cons rfl (ok_assign (dlt rfl rfl) rfl rfl) (.cons rfl (ok_assign (dlt rfl rfl) rfl rfl) (.nil ?_))))
    obtain rfl := Option.some.inj h
    refine ak_freeze 1005 rfl ?_
    refine ak_conv (Γ' := [(2, .sl Ty.sApiSegment a1), (3, .bool true)]) (σ' := []) (.cons rfl (.refl _) (.cons rfl (.refl _) (.nil _))) (.nil _) ?_
    exact ak_ret (fn := Tryz.f19) Tryz.func19 rfl trivial rfl)
theorem d19 {a0 : List UInt8} {r : (List ApiSegment) × Bool} (h : f19 (.e19 a0) = some r) : Does Tryz.prog GG 19 [.str a0] [] (fun z _ => z = .tup [.sl Ty.sApiSegment r.1, .bool r.2]) := fn_of (fn := Tryz.f19) Tryz.func19 rfl Tryz.ntmps19 rfl (w19 _ _ h)
end Go.Proofs.YtonlbdholdaifaaGreatDoor
end
section
set_option linter.unusedVariables false
set_option linter.unusedSimpArgs false
set_option maxRecDepth 10000
namespace Go.Proofs.YtonlbdholdaifaaGreatDoor
open Go Go.Rf Go.Proofs
/-- riffle/slice.Place -/
noncomputable abbrev b127 : Code := codeOf Tryz.f127
inductive L127 where
 | e127 (a0 : Int) (a1 : Int)
noncomputable def f127 : L127 → Option Int
 | .e127 a0 a1 =>
  if (decide (a0 < (0 : Int))) = true then
   some (IntKind.wrap .i64 (a1 + a0))
  else
   some a0
def M127 : L127 → Int → Prop
 | .e127 a0 a1, r => ∀ (w : World) (F : Nat → Prop) (ρ : Rho), AK Tryz.prog (ctx GG 11 w F ρ []) 127 [.code b127] (argE 0 [.int .i64 a0, .int .i64 a1]) [] (fun z _ => z = .int .i64 r)
theorem w127 : ∀ (l : L127) (r : Int), f127 l = some r → M127 l r := (by
 intro l r h
 cases l with
 | e127 a0 a1 =>
  intro w F ρ
  dsimp only [f127] at h
  refine ak_seq ?_
  refine ak_regionS (.cons rfl (ok_assign (dlt rfl rfl) rfl rfl) (.nil ?_))
  refine ak_seq ?_
  refine ak_seq ?_
  refine ak_regionS (.cons rfl (ok_move (dlt rfl rfl) rfl rfl) (.cons rfl (ok_lss (dlt rfl rfl) rfl rfl rfl) (.nil ?_)))
  refine ak_cond rfl (fun ht => ?_) (fun ht => ?_)
  ·have h := cond_t ht h
   refine ak_seq ?_
   refine ak_regionS (.cons rfl (ok_move (dlt rfl rfl) rfl rfl) (.cons rfl (ok_move (dlt rfl rfl) rfl rfl) (.cons rfl (ok_add (dlt rfl rfl) rfl rfl rfl) (.cons rfl (ok_assign (dlt rfl rfl) rfl rfl) (.nil ?_)))))
   obtain rfl := Option.some.inj h
   refine ak_conv (Γ' := [(4, .int .i64 (IntKind.wrap .i64 (a1 + a0)))]) (σ' := []) (.cons rfl (.refl _) (.nil _)) (.nil _) ?_
   exact ak_ret (fn := Tryz.f127) Tryz.func127 rfl trivial rfl
  ·have h := cond_f ht h
   refine ak_skip ?_
   refine ak_seq ?_
   refine ak_regionS (.cons rfl (ok_move (dlt rfl rfl) rfl rfl) (.cons rfl (ok_assign (dlt rfl rfl) rfl rfl) (.nil ?_)))
   obtain rfl := Option.some.inj h
   refine ak_conv (Γ' := [(4, .int .i64 a0)]) (σ' := []) (.cons rfl (.refl _) (.nil _)) (.nil _) ?_
   exact ak_ret (fn := Tryz.f127) Tryz.func127 rfl trivial rfl)
theorem d127 {a0 : Int} {a1 : Int} {r : Int} (h : f127 (.e127 a0 a1) = some r) : Does Tryz.prog GG 127 [.int .i64 a0, .int .i64 a1] [] (fun z _ => z = .int .i64 r) := fn_of (fn := Tryz.f127) Tryz.func127 rfl Tryz.ntmps127 rfl (w127 _ _ h)
/-- riffle/slice.Bounds -/
noncomputable abbrev b126 : Code := codeOf Tryz.f126
inductive L126 where
 | e126 (a0 : ApiSelector) (a1 : Int)
 | l126_0 (a0 : Int) (a1 : Int) (a2 : Int) (a3 : ApiSelector)
 | l126_1 (a0 : Int) (a1 : Int) (a2 : Int) (a3 : ApiSelector)
 | l126_2 (a0 : Int) (a1 : Int) (a2 : Int)
 | l126_3 (a0 : Int) (a1 : Int) (a2 : Int)
noncomputable def f126 : L126 → Option (Int × Int)
 | .e126 a0 a1 =>
  f127 (.e127 a0.start a1) >>= fun v1 =>
  f127 (.e127 a0.stop a1) >>= fun v2 =>
  if (decide ((0 : Int) < a0.stride)) = true then
   if (!a0.hasStart) = true then
    f126 (.l126_0 a1 (0 : Int) v2 a0)
   else
    f126 (.l126_0 a1 v1 v2 a0)
  else
   if (decide (a0.stride < (0 : Int))) = true then
    if (!a0.hasStart) = true then
     f126 (.l126_1 a1 (IntKind.wrap .i64 (a1 - (1 : Int))) v2 a0)
    else
     f126 (.l126_1 a1 v1 v2 a0)
   else
    some (0, 0)
 | .l126_0 a0 a1 a2 a3 =>
  if (!a3.hasEnd) = true then
   f126 (.l126_2 a0 a1 a0)
  else
   f126 (.l126_2 a0 a1 a2)
 | .l126_1 a0 a1 a2 a3 =>
  if (!a3.hasEnd) = true then
   f126 (.l126_3 a0 a1 (-1))
  else
   f126 (.l126_3 a0 a1 a2)
 | .l126_2 a0 a1 a2 =>
  some (gmin (gmax a1 (0 : Int)) a0, gmin (gmax a2 (0 : Int)) a0)
 | .l126_3 a0 a1 a2 =>
  some (gmin (gmax a2 (-1)) (IntKind.wrap .i64 (a0 - (1 : Int))), gmin (gmax a1 (-1)) (IntKind.wrap .i64 (a0 - (1 : Int))))
 partial_fixpoint
def M126 : L126 → (Int × Int) → Prop
 | .e126 a0 a1, r => ∀ (w : World) (F : Nat → Prop) (ρ : Rho), AK Tryz.prog (ctx GG 57 w F ρ []) 126 [.code b126] (argE 0 [.agg [.int .i64 a0.kind, .str a0.name, .int .i64 a0.index, .int .i64 a0.start, .int .i64 a0.stop, .bool a0.hasStart, .bool a0.hasEnd, .int .i64 a0.stride], .int .i64 a1]) [] (fun z _ => z = .tup [.int .i64 r.1, .int .i64 r.2])
 | .l126_0 a0 a1 a2 a3, r => ∀ (w : World) (F : Nat → Prop) (ρ : Rho), AK Tryz.prog (ctx GG 57 w F ρ []) 126 [.code (c2 (c1 (c2 (c1 (c1 (c2 (c2 b126))))))), .inBlock 0, .code (c2 (c2 (c2 b126)))] [(1, .int .i64 a0), (2, .ref 2 0), (6, .int .i64 a1), (7, .int .i64 a2)] [(2, .cells 49 [.int .i64 a3.kind, .str a3.name, .int .i64 a3.index, .int .i64 a3.start, .int .i64 a3.stop, .bool a3.hasStart, .bool a3.hasEnd, .int .i64 a3.stride])] (fun z _ => z = .tup [.int .i64 r.1, .int .i64 r.2])
 | .l126_1 a0 a1 a2 a3, r => ∀ (w : World) (F : Nat → Prop) (ρ : Rho), AK Tryz.prog (ctx GG 57 w F ρ []) 126 [.code (c2 (c1 (c2 (c2 (c2 (c1 (c1 (c2 (c2 b126))))))))), .inBlock 0, .code (c2 (c2 (c2 b126)))] [(1, .int .i64 a0), (2, .ref 2 0), (6, .int .i64 a1), (7, .int .i64 a2)] [(2, .cells 49 [.int .i64 a3.kind, .str a3.name, .int .i64 a3.index, .int .i64 a3.start, .int .i64 a3.stop, .bool a3.hasStart, .bool a3.hasEnd, .int .i64 a3.stride])] (fun z _ => z = .tup [.int .i64 r.1, .int .i64 r.2])
 | .l126_2 a0 a1 a2, r => ∀ (w : World) (F : Nat → Prop) (ρ : Rho), AK Tryz.prog (ctx GG 57 w F ρ []) 126 [.code (c2 (c2 (c1 (c2 (c1 (c1 (c2 (c2 b126)))))))), .inBlock 0, .code (c2 (c2 (c2 b126)))] [(1, .int .i64 a0), (6, .int .i64 a1), (7, .int .i64 a2)] [] (fun z _ => z = .tup [.int .i64 r.1, .int .i64 r.2])
 | .l126_3 a0 a1 a2, r => ∀ (w : World) (F : Nat → Prop) (ρ : Rho), AK Tryz.prog (ctx GG 57 w F ρ []) 126 [.code (c2 (c2 (c1 (c2 (c2 (c2 (c1 (c1 (c2 (c2 b126)))))))))), .inBlock 0, .code (c2 (c2 (c2 b126)))] [(1, .int .i64 a0), (6, .int .i64 a1), (7, .int .i64 a2)] [] (fun z _ => z = .tup [.int .i64 r.1, .int .i64 r.2])
theorem w126 : ∀ (l : L126) (r : Int × Int), f126 l = some r → M126 l r := f126.partial_correctness M126 (by
 intro f ih l r h
 cases l with
 | e126 a0 a1 =>
  intro w F ρ
  dsimp only at h
  refine ak_seq ?_
  refine ak_regionS (.cons rfl (ok_box (d := 2) (dlt rfl rfl) rfl rfl rfl rfl rfl) (.cons rfl (ok_assign (dlt rfl rfl) rfl rfl) (.cons rfl (ok_assign (dlt rfl rfl) rfl rfl) (.nil ?_))))
  refine ak_seq ?_
  obtain ⟨v1, hv1, h⟩ := bind_of h
  obtain ⟨v2, hv2, h⟩ := bind_of h
  refine ak_drawL [⟨some 8, [(2, .ref 2 0)], none, true, .ref 2 3, [], []⟩,
  ⟨some 9, [(8, .ref 2 3)], none, true, .int .i64 a0.start, [(2, .cells 49 [.int .i64 a0.kind, .str a0.name, .int .i64 a0.index, .int .i64 a0.start, .int .i64 a0.stop, .bool a0.hasStart, .bool a0.hasEnd, .int .i64 a0.stride])], []⟩,
  ⟨some 10, [(1, .int .i64 a1)], none, true, .int .i64 a1, [], []⟩,
  ⟨some 11, [(9, .int .i64 a0.start), (10, .int .i64 a1)], none, true, .int .i64 v1, [], []⟩,
  ⟨some 12, [(2, .ref 2 0)], none, true, .ref 2 4, [], []⟩,
  ⟨some 13, [(12, .ref 2 4)], none, true, .int .i64 a0.stop, [(2, .cells 49 [.int .i64 a0.kind, .str a0.name, .int .i64 a0.index, .int .i64 a0.start, .int .i64 a0.stop, .bool a0.hasStart, .bool a0.hasEnd, .int .i64 a0.stride])], []⟩,
  ⟨some 14, [(1, .int .i64 a1)], none, true, .int .i64 a1, [], []⟩,
  ⟨some 15, [(13, .int .i64 a0.stop), (14, .int .i64 a1)], none, true, .int .i64 v2, [], []⟩,
  ⟨some 6, [(11, .int .i64 v1)], none, true, .int .i64 v1, [], []⟩,
  ⟨some 7, [(15, .int .i64 v2)], none, true, .int .i64 v2, [], []⟩] [[], [0], [], [0, 1, 2], [], [4], [], [0, 1, 2, 3, 4, 5, 6], [0, 1, 2, 3, 4, 5, 6, 7], [0, 1, 2, 3, 4, 5, 6, 7, 8]] (by kernel_rfl) (by kernel_rfl) (.cons (qok (dlt rfl rfl) rfl (.same rfl .nil) (NeedQ.all .nil) (fun Γx σx => ok_fieldV (dlt rfl rfl) rfl fo49_3 ty3 (by decide) rfl)) (.cons (qok (dlt rfl rfl) rfl (.same rfl .nil) (NeedQ.all (.cons rfl .nil)) (fun Γx σx => ok_loadV (dlt rfl rfl) rfl ty3 rfl rfl rfl)) (.cons (qok (dlt rfl rfl) rfl (.same rfl .nil) (NeedQ.all .nil) (fun Γx σx => ok_move (dlt rfl rfl) rfl rfl)) (.cons (qok (dlt rfl rfl) rfl (.same rfl (.same rfl .nil)) (NeedQ.all .nil) (fun Γx σx => ok_call (xs := [.int .i64 a0.start, .int .i64 a1]) (caps := []) (dlt rfl rfl) rfl rfl Tryz.func127 rfl rfl rfl (d127 hv1) rfl)) (.cons (qok (dlt rfl rfl) rfl (.same rfl .nil) (NeedQ.all .nil) (fun Γx σx => ok_fieldV (dlt rfl rfl) rfl fo49_4 ty3 (by decide) rfl)) (.cons (qok (dlt rfl rfl) rfl (.same rfl .nil) (NeedQ.all (.cons rfl .nil)) (fun Γx σx => ok_loadV (dlt rfl rfl) rfl ty3 rfl rfl rfl)) (.cons (qok (dlt rfl rfl) rfl (.same rfl .nil) (NeedQ.all .nil) (fun Γx σx => ok_move (dlt rfl rfl) rfl rfl)) (.cons (qok (dlt rfl rfl) rfl (.same rfl (.same rfl .nil)) (NeedQ.all .nil) (fun Γx σx => ok_call (xs := [.int .i64 a0.stop, .int .i64 a1]) (caps := []) (dlt rfl rfl) rfl rfl Tryz.func127 rfl rfl rfl (d127 hv2) rfl)) (.cons (qok (dlt rfl rfl) rfl (.same rfl .nil) (NeedQ.all .nil) (fun Γx σx => ok_assign (dlt rfl rfl) rfl rfl)) (.cons (qok (dlt rfl rfl) rfl (.same rfl .nil) (NeedQ.all .nil) (fun Γx σx => ok_assign (dlt rfl rfl) rfl rfl)) (.nil _ _))))))))))) (.nil ?_)
  refine ak_seq ?_
  refine ak_block ?_
  refine ak_seq ?_
  refine ak_regionS (.cons rfl (ok_fieldV (dlt rfl rfl) rfl fo49_7 ty3 (by decide) rfl) (.cons rfl (ok_loadV (dlt rfl rfl) rfl ty3 rfl rfl rfl) (.cons rfl (ok_gtr (dlt rfl rfl) rfl rfl rfl) (.cons rfl (ok_assign (dlt rfl rfl) rfl rfl) (.nil ?_)))))
  refine ak_cond rfl (fun ht => ?_) (fun ht => ?_)
  ·have h := cond_t ht h
   refine ak_seq ?_
   refine ak_seq ?_
   refine ak_regionS (.cons rfl (ok_fieldV (dlt rfl rfl) rfl fo49_5 ty4 (by decide) rfl) (.cons rfl (ok_loadV (dlt rfl rfl) rfl ty4 rfl rfl rfl) (.cons rfl (ok_not (dlt rfl rfl) rfl rfl) (.nil ?_))))
   refine ak_cond rfl (fun ht => ?_) (fun ht => ?_)
   ·have h := cond_t ht h
    refine ak_regionS (.cons rfl (ok_assign (dlt rfl rfl) rfl rfl) (.nil ?_))
    exact ak_conv (.cons rfl (.refl _) (.cons rfl (.refl _) (.cons rfl (.refl _) (.cons rfl (.refl _) (.nil _))))) (.cons rfl (.refl _) (.nil _)) (ih _ _ h w F ρ)
   ·have h := cond_f ht h
    refine ak_skip ?_
    exact ak_conv (.cons rfl (.refl _) (.cons rfl (.refl _) (.cons rfl (.refl _) (.cons rfl (.refl _) (.nil _))))) (.cons rfl (.refl _) (.nil _)) (ih _ _ h w F ρ)
  ·have h := cond_f ht h
   refine ak_seq ?_
   refine ak_regionS (.cons rfl (ok_fieldV (dlt rfl rfl) rfl fo49_7 ty3 (by decide) rfl) (.cons rfl (ok_loadV (dlt rfl rfl) rfl ty3 rfl rfl rfl) (.cons rfl (ok_lss (dlt rfl rfl) rfl rfl rfl) (.cons rfl (ok_assign (dlt rfl rfl) rfl rfl) (.nil ?_)))))
   refine ak_cond rfl (fun ht => ?_) (fun ht => ?_)
   ·have h := cond_t ht h
    refine ak_seq ?_
    refine ak_seq ?_
    refine ak_regionS (.cons rfl (ok_fieldV (dlt rfl rfl) rfl fo49_5 ty4 (by decide) rfl) (.cons rfl (ok_loadV (dlt rfl rfl) rfl ty4 rfl rfl rfl) (.cons rfl (ok_not (dlt rfl rfl) rfl rfl) (.nil ?_))))
    refine ak_cond rfl (fun ht => ?_) (fun ht => ?_)
    ·have h := cond_t ht h
     refine ak_regionS (.cons rfl (ok_move (dlt rfl rfl) rfl rfl) (.cons rfl (ok_sub (dlt rfl rfl) rfl rfl rfl) (.cons rfl (ok_assign (dlt rfl rfl) rfl rfl) (.nil ?_))))
     exact ak_conv (.cons rfl (.refl _) (.cons rfl (.refl _) (.cons rfl (.refl _) (.cons rfl (.refl _) (.nil _))))) (.cons rfl (.refl _) (.nil _)) (ih _ _ h w F ρ)
    ·have h := cond_f ht h
     refine ak_skip ?_
     exact ak_conv (.cons rfl (.refl _) (.cons rfl (.refl _) (.cons rfl (.refl _) (.cons rfl (.refl _) (.nil _))))) (.cons rfl (.refl _) (.nil _)) (ih _ _ h w F ρ)
   ·have h := cond_f ht h
    refine ak_skip ?_
    refine ak_inBlock ?_
    refine ak_seq ?_
    refine ak_regionS (.cons rfl (ok_assign (dlt rfl rfl) rfl rfl) (.cons rfl (ok_assign (dlt rfl rfl) rfl rfl) (.nil ?_)))
    obtain rfl := Option.some.inj h
    refine ak_conv (Γ' := [(4, .int .i64 (0 : Int)), (5, .int .i64 (0 : Int))]) (σ' := []) (.cons rfl (.refl _) (.cons rfl (.refl _) (.nil _))) (.nil _) ?_
    exact ak_ret (fn := Tryz.f126) Tryz.func126 rfl trivial rfl
 | l126_0 a0 a1 a2 a3 =>
  intro w F ρ
  dsimp only at h
  refine ak_seq ?_
  refine ak_seq ?_
  refine ak_regionS (.cons rfl (ok_fieldV (dlt rfl rfl) rfl fo49_6 ty4 (by decide) rfl) (.cons rfl (ok_loadV (dlt rfl rfl) rfl ty4 rfl rfl rfl) (.cons rfl (ok_not (dlt rfl rfl) rfl rfl) (.nil ?_))))
  refine ak_cond rfl (fun ht => ?_) (fun ht => ?_)
  ·have h := cond_t ht h
   refine ak_regionS (.cons rfl (ok_move (dlt rfl rfl) rfl rfl) (.cons rfl (ok_assign (dlt rfl rfl) rfl rfl) (.nil ?_)))
   exact ak_conv (.cons rfl (.refl _) (.cons rfl (.refl _) (.cons rfl (.refl _) (.nil _)))) (.nil _) (ih _ _ h w F ρ)
  ·have h := cond_f ht h
   refine ak_skip ?_
   exact ak_conv (.cons rfl (.refl _) (.cons rfl (.refl _) (.cons rfl (.refl _) (.nil _)))) (.nil _) (ih _ _ h w F ρ)
 | l126_1 a0 a1 a2 a3 =>
  intro w F ρ
  dsimp only at h
  refine ak_seq ?_
  refine ak_seq ?_
  refine ak_regionS (.cons rfl (ok_fieldV (dlt rfl rfl) rfl fo49_6 ty4 (by decide) rfl) (.cons rfl (ok_loadV (dlt rfl rfl) rfl ty4 rfl rfl rfl) (.cons rfl (ok_not (dlt rfl rfl) rfl rfl) (.nil ?_))))
  refine ak_cond rfl (fun ht => ?_) (fun ht => ?_)
  ·have h := cond_t ht h
   refine ak_regionS (.cons rfl (ok_assign (dlt rfl rfl) rfl rfl) (.nil ?_))
   exact ak_conv (.cons rfl (.refl _) (.cons rfl (.refl _) (.cons rfl (.refl _) (.nil _)))) (.nil _) (ih _ _ h w F ρ)
  ·have h := cond_f ht h
   refine ak_skip ?_
   exact ak_conv (.cons rfl (.refl _) (.cons rfl (.refl _) (.cons rfl (.refl _) (.nil _)))) (.nil _) (ih _ _ h w F ρ)
 | l126_2 a0 a1 a2 =>
  intro w F ρ
  dsimp only at h
  refine ak_seq ?_
  refine ak_regionS (.cons rfl (ok_move (dlt rfl rfl) rfl rfl) (.cons rfl (ok_max (dlt rfl rfl) rfl rfl rfl) (.cons rfl (ok_move (dlt rfl rfl) rfl rfl) (.cons rfl (ok_min (dlt rfl rfl) rfl rfl rfl) (.cons rfl (ok_move (dlt rfl rfl) rfl rfl) (.cons rfl (ok_max (dlt rfl rfl) rfl rfl rfl) (.cons rfl (ok_move (dlt rfl rfl) rfl rfl) (.cons rfl (ok_min (dlt rfl rfl) rfl rfl rfl) (.cons rfl (ok_assign (dlt rfl rfl) rfl rfl) (.cons rfl (ok_assign (dlt rfl rfl) rfl rfl) (.nil ?_)))))))))))
  obtain rfl := Option.some.inj h
  refine ak_conv (Γ' := [(4, .int .i64 (gmin (gmax a1 (0 : Int)) a0)), (5, .int .i64 (gmin (gmax a2 (0 : Int)) a0))]) (σ' := []) (.cons rfl (.refl _) (.cons rfl (.refl _) (.nil _))) (.nil _) ?_
  exact ak_ret (fn := Tryz.f126) Tryz.func126 rfl trivial rfl
 | l126_3 a0 a1 a2 =>
  intro w F ρ
  dsimp only at h
  refine ak_seq ?_
  refine ak_regionS (.cons rfl (ok_move (dlt rfl rfl) rfl rfl) (.cons rfl (ok_max (dlt rfl rfl) rfl rfl rfl) (.cons rfl (ok_move (dlt rfl rfl) rfl rfl) (.cons rfl (ok_sub (dlt rfl rfl) rfl rfl rfl) (.cons rfl (ok_min (dlt rfl rfl) rfl rfl rfl) (.cons rfl (ok_move (dlt rfl rfl) rfl rfl) (.cons rfl (ok_max (dlt rfl rfl) rfl rfl rfl) (.cons rfl (ok_move (dlt rfl rfl) rfl rfl) (.cons rfl (ok_sub (dlt rfl rfl) rfl rfl rfl) (.cons rfl (ok_min (dlt rfl rfl) rfl rfl rfl) (.cons rfl (ok_assign (dlt rfl rfl) rfl rfl) (.cons rfl (ok_assign (dlt rfl rfl) rfl rfl) (.nil ?_)))))))))))))
  obtain rfl := Option.some.inj h
  refine ak_conv (Γ' := [(4, .int .i64 (gmin (gmax a2 (-1)) (IntKind.wrap .i64 (a0 - (1 : Int))))), (5, .int .i64 (gmin (gmax a1 (-1)) (IntKind.wrap .i64 (a0 - (1 : Int)))))]) (σ' := []) (.cons rfl (.refl _) (.cons rfl (.refl _) (.nil _))) (.nil _) ?_
  exact ak_ret (fn := Tryz.f126) Tryz.func126 rfl trivial rfl)
theorem d126 {a0 : ApiSelector} {a1 : Int} {r : Int × Int} (h : f126 (.e126 a0 a1) = some r) : Does Tryz.prog GG 126 [.agg [.int .i64 a0.kind, .str a0.name, .int .i64 a0.index, .int .i64 a0.start, .int .i64 a0.stop, .bool a0.hasStart, .bool a0.hasEnd, .int .i64 a0.stride], .int .i64 a1] [] (fun z _ => z = .tup [.int .i64 r.1, .int .i64 r.2]) := fn_of (fn := Tryz.f126) Tryz.func126 rfl Tryz.ntmps126 rfl (w126 _ _ h)
/-- riffle/slice.Has -/
noncomputable abbrev b74 : Code := codeOf Tryz.f74
inductive L74 where
 | e74 (a0 : ApiSelector) (a1 : Int) (a2 : Int)
noncomputable def f74 : L74 → Option Bool
 | .e74 a0 a1 a2 =>
  if ((decide (a1 < (0 : Int))) || (decide (a2 ≤ a1))) = true then
   some false
  else
   f126 (.e126 a0 a2) >>= fun v1 =>
   if (a0.kind == (2 : Int)) = true then
    f127 (.e127 a0.index a2) >>= fun v2 =>
    some (v2 == a1)
   else
    if (a0.kind != (3 : Int)) = true then
     some false
    else
     if (decide ((0 : Int) < a0.stride)) = true then
      gd ((decide (v1.1 ≤ a1)) && (decide (a1 < v1.2))) (need (¬ a0.stride = 0)) >>= fun v3 =>
      some (((decide (v1.1 ≤ a1)) && (decide (a1 < v1.2))) && (((IntKind.wrap .i64 (a1 - v1.1)).tmod a0.stride) == (0 : Int)))
     else
      if (decide (a0.stride < (0 : Int))) = true then
       gd ((decide (v1.1 < a1)) && (decide (a1 ≤ v1.2))) (need (¬ a0.stride = 0)) >>= fun v4 =>
       some (((decide (v1.1 < a1)) && (decide (a1 ≤ v1.2))) && (((IntKind.wrap .i64 (v1.2 - a1)).tmod a0.stride) == (0 : Int)))
      else
       some false
def M74 : L74 → Bool → Prop
 | .e74 a0 a1 a2, r => ∀ (w : World) (F : Nat → Prop) (ρ : Rho), AK Tryz.prog (ctx GG 78 w F ρ []) 74 [.code b74] (argE 0 [.agg [.int .i64 a0.kind, .str a0.name, .int .i64 a0.index, .int .i64 a0.start, .int .i64 a0.stop, .bool a0.hasStart, .bool a0.hasEnd, .int .i64 a0.stride], .int .i64 a1, .int .i64 a2]) [] (fun z _ => z = .bool r)
theorem w74 : ∀ (l : L74) (r : Bool), f74 l = some r → M74 l r := (by
 intro l r h
 cases l with
 | e74 a0 a1 a2 =>
  intro w F ρ
  dsimp only [f74] at h
  refine ak_seq ?_
  refine ak_regionS (.cons rfl (ok_box (d := 3) (dlt rfl rfl) rfl rfl rfl rfl rfl) (.cons rfl (ok_assign (dlt rfl rfl) rfl rfl) (.nil ?_)))
  refine ak_seq ?_
  refine ak_seq ?_
  refine ak_regionS (.cons rfl (ok_move (dlt rfl rfl) rfl rfl) (.cons rfl (ok_lss (dlt rfl rfl) rfl rfl rfl) (.cons rfl (ok_move (dlt rfl rfl) rfl rfl) (.consG (pre := []) (dlt rfl rfl) rfl rfl rfl rfl .nil (fun he => ok_move (dlt rfl rfl) rfl rfl) (.consG (pre := []) (dlt rfl rfl) rfl rfl rfl rfl .nil (fun he => ok_move (dlt rfl rfl) rfl rfl) (.consG (pre := [(12, .int .i64 a1), (13, .int .i64 a2)]) (dlt rfl rfl) rfl rfl rfl rfl (.cons rfl (fun he => he) (.cons rfl (fun he => he) .nil)) (fun he => ok_geq (dlt rfl rfl) rfl rfl rfl) (.cons rfl (ok_orW (dlt rfl rfl) rfl rfl rfl (fun h => (bnot_t h))) (.nil ?_))))))))
  refine ak_cond rfl (fun ht => ?_) (fun ht => ?_)
  ·have h := cond_t ht h
   refine ak_seq ?_
   refine ak_regionS (.cons rfl (ok_assign (dlt rfl rfl) rfl rfl) (.nil ?_))
   obtain rfl := Option.some.inj h
   refine ak_conv (Γ' := [(6, .bool false)]) (σ' := []) (.cons rfl (.refl _) (.nil _)) (.nil _) ?_
   exact ak_ret (fn := Tryz.f74) Tryz.func74 rfl trivial rfl
  ·have h := cond_f ht h
   refine ak_skip ?_
   refine ak_seq ?_
   obtain ⟨v1, hv1, h⟩ := bind_of h
   refine ak_regionS (.cons rfl (ok_loadVT (dlt rfl rfl) rfl ty49 rfl rfl (by decide) rfl) (.cons rfl (ok_move (dlt rfl rfl) rfl rfl) (.cons rfl (ok_call (xs := [.agg [.int .i64 a0.kind, .str a0.name, .int .i64 a0.index, .int .i64 a0.start, .int .i64 a0.stop, .bool a0.hasStart, .bool a0.hasEnd, .int .i64 a0.stride], .int .i64 a2]) (caps := []) (dlt rfl rfl) rfl rfl Tryz.func126 rfl rfl rfl (d126 hv1) rfl) (.cons rfl (ok_move (dlt rfl rfl) rfl rfl) (.cons rfl (ok_extract (dlt rfl rfl) rfl rfl rfl) (.cons rfl (ok_extract (dlt rfl rfl) rfl rfl rfl) (.cons rfl (ok_assign (dlt rfl rfl) rfl rfl) (.cons rfl (ok_assign (dlt rfl rfl) rfl rfl) (.nil ?_)))))))))
   refine ak_seq ?_
   refine ak_block ?_
   refine ak_seq ?_
   refine ak_regionS (.cons rfl (ok_fieldV (dlt rfl rfl) rfl fo49_0 ty3 (by decide) rfl) (.cons rfl (ok_loadV (dlt rfl rfl) rfl ty3 rfl rfl rfl) (.cons rfl (ok_eql (dlt rfl rfl) rfl rfl rfl) (.cons rfl (ok_assign (dlt rfl rfl) rfl rfl) (.nil ?_)))))
   refine ak_cond rfl (fun ht => ?_) (fun ht => ?_)
   ·have h := cond_t ht h
    refine ak_seq ?_
    obtain ⟨v2, hv2, h⟩ := bind_of h
    refine ak_regionS (.cons rfl (ok_fieldV (dlt rfl rfl) rfl fo49_2 ty3 (by decide) rfl) (.cons rfl (ok_loadV (dlt rfl rfl) rfl ty3 rfl rfl rfl) (.cons rfl (ok_move (dlt rfl rfl) rfl rfl) (.cons rfl (ok_call (xs := [.int .i64 a0.index, .int .i64 a2]) (caps := []) (dlt rfl rfl) rfl rfl Tryz.func127 rfl rfl rfl (d127 hv2) rfl) (.cons rfl (ok_move (dlt rfl rfl) rfl rfl) (.cons rfl (ok_eql (dlt rfl rfl) rfl rfl rfl) (.cons rfl (ok_assign (dlt rfl rfl) rfl rfl) (.nil ?_))))))))
    obtain rfl := Option.some.inj h
    refine ak_conv (Γ' := [(6, .bool (v2 == a1))]) (σ' := []) (.cons rfl (.refl _) (.nil _)) (.nil _) ?_
    exact ak_ret (fn := Tryz.f74) Tryz.func74 rfl trivial rfl
   ·have h := cond_f ht h
    refine ak_seq ?_
    refine ak_regionS (.cons rfl (ok_fieldV (dlt rfl rfl) rfl fo49_0 ty3 (by decide) rfl) (.cons rfl (ok_loadV (dlt rfl rfl) rfl ty3 rfl rfl rfl) (.cons rfl (ok_neq (dlt rfl rfl) rfl rfl rfl) (.cons rfl (ok_assign (dlt rfl rfl) rfl rfl) (.nil ?_)))))
    refine ak_cond rfl (fun ht => ?_) (fun ht => ?_)
    ·have h := cond_t ht h
     refine ak_seq ?_
     refine ak_regionS (.cons rfl (ok_assign (dlt rfl rfl) rfl rfl) (.nil ?_))
     obtain rfl := Option.some.inj h
     refine ak_conv (Γ' := [(6, .bool false)]) (σ' := []) (.cons rfl (.refl _) (.nil _)) (.nil _) ?_
     exact ak_ret (fn := Tryz.f74) Tryz.func74 rfl trivial rfl
    ·have h := cond_f ht h
     refine ak_seq ?_
     refine ak_regionS (.cons rfl (ok_fieldV (dlt rfl rfl) rfl fo49_7 ty3 (by decide) rfl) (.cons rfl (ok_loadV (dlt rfl rfl) rfl ty3 rfl rfl rfl) (.cons rfl (ok_gtr (dlt rfl rfl) rfl rfl rfl) (.cons rfl (ok_assign (dlt rfl rfl) rfl rfl) (.nil ?_)))))
     refine ak_cond rfl (fun ht => ?_) (fun ht => ?_)
     ·have h := cond_t ht h
      refine ak_seq ?_
      obtain ⟨v3, hv3, h⟩ := bind_of h
      refine ak_regionS (.cons rfl (ok_move (dlt rfl rfl) rfl rfl) (.cons rfl (ok_move (dlt rfl rfl) rfl rfl) (.cons rfl (ok_geq (dlt rfl rfl) rfl rfl rfl) (.cons rfl (ok_move (dlt rfl rfl) rfl rfl) (.consG (pre := []) (dlt rfl rfl) rfl rfl rfl rfl .nil (fun he => ok_move (dlt rfl rfl) rfl rfl) (.consG (pre := []) (dlt rfl rfl) rfl rfl rfl rfl .nil (fun he => ok_move (dlt rfl rfl) rfl rfl) (.consG (pre := [(44, .int .i64 a1), (45, .int .i64 v1.2)]) (dlt rfl rfl) rfl rfl rfl rfl (.cons rfl (fun he => he) (.cons rfl (fun he => he) .nil)) (fun he => ok_lss (dlt rfl rfl) rfl rfl rfl) (.cons rfl (ok_andW (dlt rfl rfl) rfl rfl rfl (fun h => h)) (.cons rfl (ok_move (dlt rfl rfl) rfl rfl) (.consG (pre := []) (dlt rfl rfl) rfl rfl rfl rfl .nil (fun he => ok_move (dlt rfl rfl) rfl rfl) (.consG (pre := []) (dlt rfl rfl) rfl rfl rfl rfl .nil (fun he => ok_move (dlt rfl rfl) rfl rfl) (.consG (pre := [(49, .int .i64 a1), (50, .int .i64 v1.1)]) (dlt rfl rfl) rfl rfl rfl rfl (.cons rfl (fun he => he) (.cons rfl (fun he => he) .nil)) (fun he => ok_sub (dlt rfl rfl) rfl rfl rfl) (.consG (pre := []) (dlt rfl rfl) rfl rfl rfl rfl .nil (fun he => ok_fieldV (dlt rfl rfl) rfl fo49_7 ty3 (by decide) rfl) (.consG (pre := [(52, .ref 3 7)]) (dlt rfl rfl) rfl rfl rfl rfl (.cons rfl (fun he => he) .nil) (fun he => ok_loadV (dlt rfl rfl) rfl ty3 rfl rfl rfl) (.consG (pre := [(51, .int .i64 (IntKind.wrap .i64 (a1 - v1.1))), (53, .int .i64 a0.stride)]) (dlt rfl rfl) rfl rfl rfl rfl (.cons rfl (fun he => he) (.cons rfl (fun he => he) .nil)) (fun he => ok_rem (dlt rfl rfl) rfl rfl rfl (need_of (gd_t hv3 he))) (.consG (pre := [(54, .int .i64 ((IntKind.wrap .i64 (a1 - v1.1)).tmod a0.stride))]) (dlt rfl rfl) rfl rfl rfl rfl (.cons rfl (fun he => he) .nil) (fun he => ok_eql (dlt rfl rfl) rfl rfl rfl) (.cons rfl (ok_andW (dlt rfl rfl) rfl rfl rfl (fun h => h)) (.cons rfl (ok_assign (dlt rfl rfl) rfl rfl) (.nil ?_)))))))))))))))))))
      obtain rfl := Option.some.inj h
      refine ak_conv (Γ' := [(6, .bool (((decide (v1.1 ≤ a1)) && (decide (a1 < v1.2))) && (((IntKind.wrap .i64 (a1 - v1.1)).tmod a0.stride) == (0 : Int))))]) (σ' := []) (.cons rfl (.refl _) (.nil _)) (.nil _) ?_
      exact ak_ret (fn := Tryz.f74) Tryz.func74 rfl trivial rfl
     ·have h := cond_f ht h
      refine ak_seq ?_
      refine ak_regionS (.cons rfl (ok_fieldV (dlt rfl rfl) rfl fo49_7 ty3 (by decide) rfl) (.cons rfl (ok_loadV (dlt rfl rfl) rfl ty3 rfl rfl rfl) (.cons rfl (ok_lss (dlt rfl rfl) rfl rfl rfl) (.cons rfl (ok_assign (dlt rfl rfl) rfl rfl) (.nil ?_)))))
      refine ak_cond rfl (fun ht => ?_) (fun ht => ?_)
      ·have h := cond_t ht h
       refine ak_seq ?_
       obtain ⟨v4, hv4, h⟩ := bind_of h
       refine ak_regionS (.cons rfl (ok_move (dlt rfl rfl) rfl rfl) (.cons rfl (ok_move (dlt rfl rfl) rfl rfl) (.cons rfl (ok_gtr (dlt rfl rfl) rfl rfl rfl) (.cons rfl (ok_move (dlt rfl rfl) rfl rfl) (.consG (pre := []) (dlt rfl rfl) rfl rfl rfl rfl .nil (fun he => ok_move (dlt rfl rfl) rfl rfl) (.consG (pre := []) (dlt rfl rfl) rfl rfl rfl rfl .nil (fun he => ok_move (dlt rfl rfl) rfl rfl) (.consG (pre := [(65, .int .i64 a1), (66, .int .i64 v1.2)]) (dlt rfl rfl) rfl rfl rfl rfl (.cons rfl (fun he => he) (.cons rfl (fun he => he) .nil)) (fun he => ok_leq (dlt rfl rfl) rfl rfl rfl) (.cons rfl (ok_andW (dlt rfl rfl) rfl rfl rfl (fun h => h)) (.cons rfl (ok_move (dlt rfl rfl) rfl rfl) (.consG (pre := []) (dlt rfl rfl) rfl rfl rfl rfl .nil (fun he => ok_move (dlt rfl rfl) rfl rfl) (.consG (pre := []) (dlt rfl rfl) rfl rfl rfl rfl .nil (fun he => ok_move (dlt rfl rfl) rfl rfl) (.consG (pre := [(70, .int .i64 v1.2), (71, .int .i64 a1)]) (dlt rfl rfl) rfl rfl rfl rfl (.cons rfl (fun he => he) (.cons rfl (fun he => he) .nil)) (fun he => ok_sub (dlt rfl rfl) rfl rfl rfl) (.consG (pre := []) (dlt rfl rfl) rfl rfl rfl rfl .nil (fun he => ok_fieldV (dlt rfl rfl) rfl fo49_7 ty3 (by decide) rfl) (.consG (pre := [(73, .ref 3 7)]) (dlt rfl rfl) rfl rfl rfl rfl (.cons rfl (fun he => he) .nil) (fun he => ok_loadV (dlt rfl rfl) rfl ty3 rfl rfl rfl) (.consG (pre := [(72, .int .i64 (IntKind.wrap .i64 (v1.2 - a1))), (74, .int .i64 a0.stride)]) (dlt rfl rfl) rfl rfl rfl rfl (.cons rfl (fun he => he) (.cons rfl (fun he => he) .nil)) (fun he => ok_rem (dlt rfl rfl) rfl rfl rfl (need_of (gd_t hv4 he))) (.consG (pre := [(75, .int .i64 ((IntKind.wrap .i64 (v1.2 - a1)).tmod a0.stride))]) (dlt rfl rfl) rfl rfl rfl rfl (.cons rfl (fun he => he) .nil) (fun he => ok_eql (dlt rfl rfl) rfl rfl rfl) (.cons rfl (ok_andW (dlt rfl rfl) rfl rfl rfl (fun h => h)) (.cons rfl (ok_assign (dlt rfl rfl) rfl rfl) (.nil ?_)))))))))))))))))))
       obtain rfl := Option.some.inj h
       refine ak_conv (Γ' := [(6, .bool (((decide (v1.1 < a1)) && (decide (a1 ≤ v1.2))) && (((IntKind.wrap .i64 (v1.2 - a1)).tmod a0.stride) == (0 : Int))))]) (σ' := []) (.cons rfl (.refl _) (.nil _)) (.nil _) ?_
       exact ak_ret (fn := Tryz.f74) Tryz.func74 rfl trivial rfl
      ·have h := cond_f ht h
       refine ak_skip ?_
       refine ak_inBlock ?_
       refine ak_seq ?_
       refine ak_regionS (.cons rfl (ok_assign (dlt rfl rfl) rfl rfl) (.nil ?_))
       obtain rfl := Option.some.inj h
       refine ak_conv (Γ' := [(6, .bool false)]) (σ' := []) (.cons rfl (.refl _) (.nil _)) (.nil _) ?_
       exact ak_ret (fn := Tryz.f74) Tryz.func74 rfl trivial rfl)
theorem d74 {a0 : ApiSelector} {a1 : Int} {a2 : Int} {r : Bool} (h : f74 (.e74 a0 a1 a2) = some r) : Does Tryz.prog GG 74 [.agg [.int .i64 a0.kind, .str a0.name, .int .i64 a0.index, .int .i64 a0.start, .int .i64 a0.stop, .bool a0.hasStart, .bool a0.hasEnd, .int .i64 a0.stride], .int .i64 a1, .int .i64 a2] [] (fun z _ => z = .bool r) := fn_of (fn := Tryz.f74) Tryz.func74 rfl Tryz.ntmps74 rfl (w74 _ _ h)
end Go.Proofs.YtonlbdholdaifaaGreatDoor
end
