/- A library for the proof (part 3): Fc Sl19 Sl20 Fx Dk0 Su0 Su1 Lg0 Pm Dk1 Dk2 Dk3. -/
import Derived.Test.YtoapkonigbkcgaaGreatDoorL02
import Derived.KernelRfl
import Derived.Laws.Externs
import Derived.Lib.Bytealg
import Derived.Test.YtoapkonigbkcgaaGreatDoorProg
set_option linter.unusedVariables false
set_option linter.unusedSimpArgs false
set_option linter.unusedSectionVars false
namespace Go.Sl
open Go Go.Proofs
noncomputable abbrev P := Tryz.prog
theorem mixedOrders : P.follows .mixedOrders = true := by kernel_rfl
theorem ul2 : P.underlying 2 = some (.int .i64) := by kernel_rfl
theorem zr3 : Zr P 3 (.int .i64 0) := Zr.of (by kernel_rfl)
theorem ul3 : P.underlying 3 = some (.int .i64) := by kernel_rfl
theorem ul4 : P.underlying 4 = some (.bool) := by kernel_rfl
theorem zr5 : Zr P 5 (.int .u8 0) := Zr.of (by kernel_rfl)
theorem ul5 : P.underlying 5 = some (.int .u8) := by kernel_rfl
theorem zr9 : Zr P 9 (str []) := Zr.of (by kernel_rfl)
theorem ul9 : P.underlying 9 = some (.string) := by kernel_rfl
theorem ul21 : P.underlying 21 = some (.int .i32) := by kernel_rfl
theorem ul24 : P.underlying 30 = some (.pointer 98) := by kernel_rfl
theorem zr27 : Zr P 27 (.int .i64 0) := Zr.of (by kernel_rfl)
theorem ul27 : P.underlying 27 = some (.int .i64) := by kernel_rfl
theorem zr32 : Zr P 25 (.slice none 0 0) := Zr.of (by kernel_rfl)
theorem ul32 : P.underlying 25 = some (.slice 3) := by kernel_rfl
theorem zr33 : Zr P 22 (.slice none 0 0) := Zr.of (by kernel_rfl)
theorem ul33 : P.underlying 22 = some (.slice 9) := by kernel_rfl
theorem zr46 : Zr P 24 (.agg #[str [], .slice none 0 0, .slice none 0 0]) := Zr.of (by kernel_rfl)
theorem ul47 : P.underlying 26 = some (.pointer 90) := by kernel_rfl
theorem zr52 : Zr P 34 (.agg #[.int .i64 0, .int .i64 0, .int .i64 0, .int .i64 0, .int .i64 0, str [], .slice none 0 0, .slice none 0 0, .slice none 0 0]) := Zr.of (by kernel_rfl)
theorem zr54 : Zr P 36 (.agg #[.int .i64 0, str [], .slice none 0 0, .slice none 0 0, .int .i64 0, .int .i64 0, .int .i64 0, .slice none 0 0, .int .i64 0, .int .i64 0, .int .i64 0, .int .i64 0, .int .i64 0, str [], .slice none 0 0, .slice none 0 0, .slice none 0 0, .bool false]) := Zr.of (by kernel_rfl)
theorem ul61 : P.underlying 45 = some (.slice 24) := by kernel_rfl
theorem zr62 : Zr P 46 (.slice none 0 0) := Zr.of (by kernel_rfl)
theorem ul62 : P.underlying 46 = some (.slice 5) := by kernel_rfl
theorem ul68 : P.underlying 53 = some (.pointer 112) := by kernel_rfl
theorem ul76 : P.underlying 61 = some (.slice 65) := by kernel_rfl
theorem zr80 : Zr P 65 (.agg #[.int .i64 0, str [], .slice none 0 0, .slice none 0 0, .int .i64 0]) := Zr.of (by kernel_rfl)
theorem ul81 : P.underlying 66 = some (.slice 34) := by kernel_rfl
theorem zr83 : Zr P 68 (.agg #[.slice none 0 0, .slice none 0 0, .int .i64 0, .int .i64 0]) := Zr.of (by kernel_rfl)
theorem ul86 : P.underlying 72 = some (.slice 36) := by kernel_rfl
theorem ul94 : P.underlying 80 = some (.int .u16) := by kernel_rfl
theorem ul172 : P.underlying 95 = some (.map 9 46) := by kernel_rfl
theorem ul173 : P.underlying 96 = some (.slice 109) := by kernel_rfl
theorem zr175 : Zr P 98 (.agg #[.map none, .map none, .slice none 0 0, .int .i64 0, .int .i64 0, .bool false]) := Zr.of (by kernel_rfl)
theorem ul176 : P.underlying 82 = some (.pointer 126) := by kernel_rfl
theorem ul182 : P.underlying 91 = some (.slice 46) := by kernel_rfl
theorem zr194 : Zr P 109 (.agg #[.int .i64 0, str [], str [], .slice none 0 0]) := Zr.of (by kernel_rfl)
theorem zr197 : Zr P 85 (.map none) := Zr.of (by kernel_rfl)
theorem ul197 : P.underlying 85 = some (.map 3 34) := by kernel_rfl
theorem zr198 : Zr P 86 (.map none) := Zr.of (by kernel_rfl)
theorem ul198 : P.underlying 86 = some (.map 3 3) := by kernel_rfl
theorem zr200 : Zr P 88 (.agg #[.map none, .map none, .int .i64 0, .int .i64 0]) := Zr.of (by kernel_rfl)
theorem zr202 : Zr P 90 (.agg #[.map none, .map none, .int .i64 0, .int .i64 0, .pointer none, .bool false, .bool false]) := Zr.of (by kernel_rfl)
theorem zr211 : Zr P 112 (.agg #[.pointer none]) := Zr.of (by kernel_rfl)
theorem ul256 : P.underlying 195 = some (.int .u64) := by kernel_rfl
theorem zr262 : Zr P 134 (.nilFunc) := Zr.of (by kernel_rfl)
theorem zr271 : Zr P 126 (.agg #[.pointer none, str [], .slice none 0 0, .bool false]) := Zr.of (by kernel_rfl)
theorem ul273 : P.underlying 141 = some (.int .u64) := by kernel_rfl
theorem zr295 : Zr P 131 (.agg #[.int .i64 0, .int .i64 0, .int .i64 0, .int .i64 0, .int .i64 0]) := Zr.of (by kernel_rfl)
theorem ul316 : P.underlying 170 = some (.pointer 172) := by kernel_rfl
theorem zr318 : Zr P 172 (.agg #[.pointer none, .slice none 0 0]) := Zr.of (by kernel_rfl)
theorem ul362 : P.underlying 208 = some (.pointer 5) := by kernel_rfl
theorem ul370 : P.underlying 163 = some (.int .u32) := by kernel_rfl
theorem zr382 : Zr P 182 (.agg #[.slice none 0 0]) := Zr.of (by kernel_rfl)
theorem ul384 : P.underlying 185 = some (.int .i64) := by kernel_rfl
theorem zr426 : Zr P 198 (.agg #[str [], .bool false]) := Zr.of (by kernel_rfl)
theorem zr428 : Zr P 201 (.pointer none) := Zr.of (by kernel_rfl)
theorem zr430 : Zr P 203 (.agg #[.slice none 0 0, .bool false]) := Zr.of (by kernel_rfl)
theorem zr433 : Zr P 209 (.int .u64 0) := Zr.of (by kernel_rfl)
theorem ul433 : P.underlying 209 = some (.int .u64) := by kernel_rfl
theorem zr467 : Zr P 229 (.agg #[.int .u8 0, .int .u8 0, .int .u8 0, .int .u8 0, .int .u8 0, .int .u8 0, .int .u8 0, .int .u8 0, .int .u8 0, .int .u8 0, .int .u8 0, .int .u8 0, .int .u8 0, .int .u8 0, .int .u8 0, .int .u8 0, .int .u8 0, .int .u8 0, .int .u8 0, .int .u8 0, .int .u8 0, .int .u8 0, .int .u8 0, .int .u8 0]) := Zr.of (by kernel_rfl)
theorem zr503 : Zr P 242 (.agg #[.int .u8 0, .int .u8 0, .int .u8 0, .int .u8 0, .int .u8 0, .int .u8 0, .int .u8 0, .int .u8 0, .int .u8 0, .int .u8 0, .int .u8 0, .int .u8 0, .int .u8 0, .int .u8 0, .int .u8 0, .int .u8 0, .int .u8 0, .int .u8 0, .int .u8 0, .int .u8 0, .int .u8 0, .int .u8 0, .int .u8 0, .int .u8 0, .int .u8 0, .int .u8 0, .int .u8 0, .int .u8 0, .int .u8 0, .int .u8 0, .int .u8 0, .int .u8 0, .int .u8 0, .int .u8 0, .int .u8 0, .int .u8 0, .int .u8 0, .int .u8 0, .int .u8 0, .int .u8 0, .int .u8 0, .int .u8 0, .int .u8 0, .int .u8 0, .int .u8 0, .int .u8 0, .int .u8 0, .int .u8 0, .int .u8 0, .int .u8 0, .int .u8 0, .int .u8 0, .int .u8 0, .int .u8 0, .int .u8 0, .int .u8 0, .int .u8 0, .int .u8 0, .int .u8 0, .int .u8 0, .int .u8 0, .int .u8 0, .int .u8 0, .int .u8 0, .int .u8 0]) := Zr.of (by kernel_rfl)
theorem zr511 : Zr P 246 (.agg #[str [], str [], .nilIface]) := Zr.of (by kernel_rfl)
theorem zr515 : Zr P 260 (.agg #[.int .u8 0, .int .u8 0]) := Zr.of (by kernel_rfl)
theorem zr522 : Zr P 255 (.agg #[str []]) := Zr.of (by kernel_rfl)
theorem us2 : ∃ ds, P.underlying 2 = some ds := ul_some (by kernel_rfl)
theorem sc3 : Sc1 P 3 := Sc1.of (by kernel_rfl)
theorem sz3 : Sz P 3 1 := Sz.of (by kernel_rfl)
theorem us3 : ∃ ds, P.underlying 3 = some ds := ul_some (by kernel_rfl)
theorem ki3 : KeyT P 3 kvI := KeyT.int ul3
theorem sc4 : Sc1 P 4 := Sc1.of (by kernel_rfl)
theorem sz4 : Sz P 4 1 := Sz.of (by kernel_rfl)
theorem sc5 : Sc1 P 5 := Sc1.of (by kernel_rfl)
theorem sz5 : Sz P 5 1 := Sz.of (by kernel_rfl)
theorem us5 : ∃ ds, P.underlying 5 = some ds := ul_some (by kernel_rfl)
theorem sc9 : Sc1 P 9 := Sc1.of (by kernel_rfl)
theorem sz9 : Sz P 9 1 := Sz.of (by kernel_rfl)
theorem us9 : ∃ ds, P.underlying 9 = some ds := ul_some (by kernel_rfl)
theorem ni9 : ∃ ds, P.underlying 9 = some ds ∧ ∀ k, ds ≠ .int k := noInt (by kernel_rfl)
theorem ks9 : KeyT P 9 kvS := KeyT.str ul9
theorem sc24 : Sc1 P 30 := Sc1.of (by kernel_rfl)
theorem sz27 : Sz P 27 1 := Sz.of (by kernel_rfl)
theorem sc32 : Sc1 P 25 := Sc1.of (by kernel_rfl)
theorem sz32 : Sz P 25 1 := Sz.of (by kernel_rfl)
theorem slt32 : SlT P 25 3 1 8 := SlT.of ul32 (by kernel_rfl) (by kernel_rfl) zr3 rfl
theorem ni32 : ∃ ds, P.underlying 25 = some ds ∧ ∀ k, ds ≠ .int k := noInt (by kernel_rfl)
theorem sc33 : Sc1 P 22 := Sc1.of (by kernel_rfl)
theorem sz33 : Sz P 22 1 := Sz.of (by kernel_rfl)
theorem slt33 : SlT P 22 9 1 16 := SlT.of ul33 (by kernel_rfl) (by kernel_rfl) zr9 rfl
theorem ni33 : ∃ ds, P.underlying 22 = some ds ∧ ∀ k, ds ≠ .int k := noInt (by kernel_rfl)
theorem ag46 : Ag P 24 3 := Ag.of (by kernel_rfl)
theorem sz46 : Sz P 24 3 := Sz.of (by kernel_rfl)
theorem fo46_0 : FO P 24 0 0 := FO.of (by kernel_rfl)
theorem fo46_1 : FO P 24 1 1 := FO.of (by kernel_rfl)
theorem fo46_2 : FO P 24 2 2 := FO.of (by kernel_rfl)
theorem bt46 : BtT P 24 [(0, 1), (1, 1), (2, 1)] [str [], .slice none 0 0, .slice none 0 0] := BtT.of (by kernel_rfl) zr46
theorem sc47 : Sc1 P 26 := Sc1.of (by kernel_rfl)
theorem ag52 : Ag P 34 9 := Ag.of (by kernel_rfl)
theorem sz52 : Sz P 34 9 := Sz.of (by kernel_rfl)
theorem fo52_0 : FO P 34 0 0 := FO.of (by kernel_rfl)
theorem fo52_1 : FO P 34 1 1 := FO.of (by kernel_rfl)
theorem fo52_2 : FO P 34 2 2 := FO.of (by kernel_rfl)
theorem fo52_3 : FO P 34 3 3 := FO.of (by kernel_rfl)
theorem fo52_4 : FO P 34 4 4 := FO.of (by kernel_rfl)
theorem fo52_5 : FO P 34 5 5 := FO.of (by kernel_rfl)
theorem fo52_6 : FO P 34 6 6 := FO.of (by kernel_rfl)
theorem fo52_7 : FO P 34 7 7 := FO.of (by kernel_rfl)
theorem fo52_8 : FO P 34 8 8 := FO.of (by kernel_rfl)
theorem bt52 : BtT P 34 [(0, 1), (1, 1), (2, 1), (3, 1), (4, 1), (5, 1), (6, 1), (7, 1), (8, 1)] [.int .i64 0, .int .i64 0, .int .i64 0, .int .i64 0, .int .i64 0, str [], .slice none 0 0, .slice none 0 0, .slice none 0 0] := BtT.of (by kernel_rfl) zr52
theorem ag54 : Ag P 36 18 := Ag.of (by kernel_rfl)
theorem sz54 : Sz P 36 18 := Sz.of (by kernel_rfl)
theorem fo54_0 : FO P 36 0 0 := FO.of (by kernel_rfl)
theorem fo54_1 : FO P 36 1 1 := FO.of (by kernel_rfl)
theorem fo54_2 : FO P 36 2 4 := FO.of (by kernel_rfl)
theorem fo54_3 : FO P 36 3 5 := FO.of (by kernel_rfl)
theorem fo54_4 : FO P 36 4 6 := FO.of (by kernel_rfl)
theorem fo54_5 : FO P 36 5 7 := FO.of (by kernel_rfl)
theorem fo54_6 : FO P 36 6 8 := FO.of (by kernel_rfl)
theorem fo54_7 : FO P 36 7 17 := FO.of (by kernel_rfl)
theorem bt54 : BtT P 36 [(0, 1), (1, 3), (4, 1), (5, 1), (6, 1), (7, 1), (8, 9), (17, 1)] [.int .i64 0, str [], .slice none 0 0, .slice none 0 0, .int .i64 0, .int .i64 0, .int .i64 0, .slice none 0 0, .int .i64 0, .int .i64 0, .int .i64 0, .int .i64 0, .int .i64 0, str [], .slice none 0 0, .slice none 0 0, .slice none 0 0, .bool false] := BtT.of (by kernel_rfl) zr54
theorem slt61 : SlT P 45 24 3 64 := SlT.of ul61 (by kernel_rfl) (by kernel_rfl) zr46 rfl
theorem ni61 : ∃ ds, P.underlying 45 = some ds ∧ ∀ k, ds ≠ .int k := noInt (by kernel_rfl)
theorem sc62 : Sc1 P 46 := Sc1.of (by kernel_rfl)
theorem sz62 : Sz P 46 1 := Sz.of (by kernel_rfl)
theorem slt62 : SlT P 46 5 1 1 := SlT.of ul62 (by kernel_rfl) (by kernel_rfl) zr5 rfl
theorem us62 : ∃ ds, P.underlying 46 = some ds := ul_some (by kernel_rfl)
theorem ni62 : ∃ ds, P.underlying 46 = some ds ∧ ∀ k, ds ≠ .int k := noInt (by kernel_rfl)
theorem slt76 : SlT P 61 65 5 80 := SlT.of ul76 (by kernel_rfl) (by kernel_rfl) zr80 rfl
theorem ni76 : ∃ ds, P.underlying 61 = some ds ∧ ∀ k, ds ≠ .int k := noInt (by kernel_rfl)
theorem ag80 : Ag P 65 5 := Ag.of (by kernel_rfl)
theorem sz80 : Sz P 65 5 := Sz.of (by kernel_rfl)
theorem fo80_0 : FO P 65 0 0 := FO.of (by kernel_rfl)
theorem fo80_1 : FO P 65 1 1 := FO.of (by kernel_rfl)
theorem fo80_2 : FO P 65 2 4 := FO.of (by kernel_rfl)
theorem sc81 : Sc1 P 66 := Sc1.of (by kernel_rfl)
theorem sz81 : Sz P 66 1 := Sz.of (by kernel_rfl)
theorem slt81 : SlT P 66 34 9 128 := SlT.of ul81 (by kernel_rfl) (by kernel_rfl) zr52 rfl
theorem ni81 : ∃ ds, P.underlying 66 = some ds ∧ ∀ k, ds ≠ .int k := noInt (by kernel_rfl)
theorem fo83_0 : FO P 68 0 0 := FO.of (by kernel_rfl)
theorem fo83_1 : FO P 68 1 1 := FO.of (by kernel_rfl)
theorem fo83_2 : FO P 68 2 2 := FO.of (by kernel_rfl)
theorem fo83_3 : FO P 68 3 3 := FO.of (by kernel_rfl)
theorem bt83 : BtT P 68 [(0, 1), (1, 1), (2, 1), (3, 1)] [.slice none 0 0, .slice none 0 0, .int .i64 0, .int .i64 0] := BtT.of (by kernel_rfl) zr83
theorem slt86 : SlT P 72 36 18 256 := SlT.of ul86 (by kernel_rfl) (by kernel_rfl) zr54 rfl
theorem ni86 : ∃ ds, P.underlying 72 = some ds ∧ ∀ k, ds ≠ .int k := noInt (by kernel_rfl)
theorem us94 : ∃ ds, P.underlying 80 = some ds := ul_some (by kernel_rfl)
theorem sc172 : Sc1 P 95 := Sc1.of (by kernel_rfl)
theorem sz172 : Sz P 95 1 := Sz.of (by kernel_rfl)
theorem ni172 : ∃ ds, P.underlying 95 = some ds ∧ ∀ k, ds ≠ .int k := noInt (by kernel_rfl)
theorem sc173 : Sc1 P 96 := Sc1.of (by kernel_rfl)
theorem sz173 : Sz P 96 1 := Sz.of (by kernel_rfl)
theorem slt173 : SlT P 96 109 4 64 := SlT.of ul173 (by kernel_rfl) (by kernel_rfl) zr194 rfl
theorem ni173 : ∃ ds, P.underlying 96 = some ds ∧ ∀ k, ds ≠ .int k := noInt (by kernel_rfl)
theorem fo175_0 : FO P 98 0 0 := FO.of (by kernel_rfl)
theorem fo175_1 : FO P 98 1 1 := FO.of (by kernel_rfl)
theorem fo175_2 : FO P 98 2 2 := FO.of (by kernel_rfl)
theorem fo175_3 : FO P 98 3 3 := FO.of (by kernel_rfl)
theorem fo175_4 : FO P 98 4 4 := FO.of (by kernel_rfl)
theorem fo175_5 : FO P 98 5 5 := FO.of (by kernel_rfl)
theorem bt175 : BtT P 98 [(0, 1), (1, 1), (2, 1), (3, 1), (4, 1), (5, 1)] [.map none, .map none, .slice none 0 0, .int .i64 0, .int .i64 0, .bool false] := BtT.of (by kernel_rfl) zr175
theorem sc176 : Sc1 P 82 := Sc1.of (by kernel_rfl)
theorem sc182 : Sc1 P 91 := Sc1.of (by kernel_rfl)
theorem sz182 : Sz P 91 1 := Sz.of (by kernel_rfl)
theorem slt182 : SlT P 91 46 1 24 := SlT.of ul182 (by kernel_rfl) (by kernel_rfl) zr62 rfl
theorem ni182 : ∃ ds, P.underlying 91 = some ds ∧ ∀ k, ds ≠ .int k := noInt (by kernel_rfl)
theorem ag194 : Ag P 109 4 := Ag.of (by kernel_rfl)
theorem sz194 : Sz P 109 4 := Sz.of (by kernel_rfl)
theorem fo194_0 : FO P 109 0 0 := FO.of (by kernel_rfl)
theorem fo194_1 : FO P 109 1 1 := FO.of (by kernel_rfl)
theorem fo194_2 : FO P 109 2 2 := FO.of (by kernel_rfl)
theorem fo194_3 : FO P 109 3 3 := FO.of (by kernel_rfl)
theorem bt194 : BtT P 109 [(0, 1), (1, 1), (2, 1), (3, 1)] [.int .i64 0, str [], str [], .slice none 0 0] := BtT.of (by kernel_rfl) zr194
theorem sc197 : Sc1 P 85 := Sc1.of (by kernel_rfl)
theorem ni197 : ∃ ds, P.underlying 85 = some ds ∧ ∀ k, ds ≠ .int k := noInt (by kernel_rfl)
theorem sc198 : Sc1 P 86 := Sc1.of (by kernel_rfl)
theorem ni198 : ∃ ds, P.underlying 86 = some ds ∧ ∀ k, ds ≠ .int k := noInt (by kernel_rfl)
theorem ag200 : Ag P 88 4 := Ag.of (by kernel_rfl)
theorem sz200 : Sz P 88 4 := Sz.of (by kernel_rfl)
theorem fo200_0 : FO P 88 0 0 := FO.of (by kernel_rfl)
theorem fo200_1 : FO P 88 1 1 := FO.of (by kernel_rfl)
theorem fo200_2 : FO P 88 2 2 := FO.of (by kernel_rfl)
theorem fo200_3 : FO P 88 3 3 := FO.of (by kernel_rfl)
theorem bt200 : BtT P 88 [(0, 1), (1, 1), (2, 1), (3, 1)] [.map none, .map none, .int .i64 0, .int .i64 0] := BtT.of (by kernel_rfl) zr200
theorem fo202_0 : FO P 90 0 0 := FO.of (by kernel_rfl)
theorem fo202_1 : FO P 90 1 4 := FO.of (by kernel_rfl)
theorem fo202_2 : FO P 90 2 5 := FO.of (by kernel_rfl)
theorem fo202_3 : FO P 90 3 6 := FO.of (by kernel_rfl)
theorem bt202 : BtT P 90 [(0, 4), (4, 1), (5, 1), (6, 1)] [.map none, .map none, .int .i64 0, .int .i64 0, .pointer none, .bool false, .bool false] := BtT.of (by kernel_rfl) zr202
theorem fo211_0 : FO P 112 0 0 := FO.of (by kernel_rfl)
theorem bt211 : BtT P 112 [(0, 1)] [.pointer none] := BtT.of (by kernel_rfl) zr211
theorem sc256 : Sc1 P 195 := Sc1.of (by kernel_rfl)
theorem sz256 : Sz P 195 1 := Sz.of (by kernel_rfl)
theorem us256 : ∃ ds, P.underlying 195 = some ds := ul_some (by kernel_rfl)
theorem sz262 : Sz P 134 1 := Sz.of (by kernel_rfl)
theorem fo271_0 : FO P 126 0 0 := FO.of (by kernel_rfl)
theorem fo271_1 : FO P 126 1 1 := FO.of (by kernel_rfl)
theorem fo271_2 : FO P 126 2 2 := FO.of (by kernel_rfl)
theorem fo271_3 : FO P 126 3 3 := FO.of (by kernel_rfl)
theorem bt271 : BtT P 126 [(0, 1), (1, 1), (2, 1), (3, 1)] [.pointer none, str [], .slice none 0 0, .bool false] := BtT.of (by kernel_rfl) zr271
theorem us273 : ∃ ds, P.underlying 141 = some ds := ul_some (by kernel_rfl)
theorem sz295 : Sz P 131 5 := Sz.of (by kernel_rfl)
theorem sc316 : Sc1 P 170 := Sc1.of (by kernel_rfl)
theorem sz316 : Sz P 170 1 := Sz.of (by kernel_rfl)
theorem us316 : ∃ ds, P.underlying 170 = some ds := ul_some (by kernel_rfl)
theorem fo318_0 : FO P 172 0 0 := FO.of (by kernel_rfl)
theorem fo318_1 : FO P 172 1 1 := FO.of (by kernel_rfl)
theorem sc320 : Sc1 P 174 := Sc1.of (by kernel_rfl)
theorem ni362 : ∃ ds, P.underlying 208 = some ds ∧ ∀ k, ds ≠ .int k := noInt (by kernel_rfl)
theorem us370 : ∃ ds, P.underlying 163 = some ds := ul_some (by kernel_rfl)
theorem fo382_0 : FO P 182 0 0 := FO.of (by kernel_rfl)
theorem bt382 : BtT P 182 [(0, 1)] [.slice none 0 0] := BtT.of (by kernel_rfl) zr382
theorem us403 : ∃ ds, P.underlying 219 = some ds := ul_some (by kernel_rfl)
theorem fo426_0 : FO P 198 0 0 := FO.of (by kernel_rfl)
theorem fo426_1 : FO P 198 1 1 := FO.of (by kernel_rfl)
theorem bt426 : BtT P 198 [(0, 1), (1, 1)] [str [], .bool false] := BtT.of (by kernel_rfl) zr426
theorem sc428 : Sc1 P 201 := Sc1.of (by kernel_rfl)
theorem sz428 : Sz P 201 1 := Sz.of (by kernel_rfl)
theorem fo430_0 : FO P 203 0 0 := FO.of (by kernel_rfl)
theorem fo430_1 : FO P 203 1 1 := FO.of (by kernel_rfl)
theorem bt430 : BtT P 203 [(0, 1), (1, 1)] [.slice none 0 0, .bool false] := BtT.of (by kernel_rfl) zr430
theorem sc433 : Sc1 P 209 := Sc1.of (by kernel_rfl)
theorem sz433 : Sz P 209 1 := Sz.of (by kernel_rfl)
theorem ni478 : ∃ ds, P.underlying 236 = some ds ∧ ∀ k, ds ≠ .int k := noInt (by kernel_rfl)
theorem bt511 : BtT P 246 [(0, 1), (1, 1), (2, 1)] [str [], str [], .nilIface] := BtT.of (by kernel_rfl) zr511
theorem ag515 : Ag P 260 2 := Ag.of (by kernel_rfl)
theorem sz515 : Sz P 260 2 := Sz.of (by kernel_rfl)
theorem fo515_0 : FO P 260 0 0 := FO.of (by kernel_rfl)
theorem fo515_1 : FO P 260 1 1 := FO.of (by kernel_rfl)
theorem ni520 : ∃ ds, P.underlying 253 = some ds ∧ ∀ k, ds ≠ .int k := noInt (by kernel_rfl)
theorem bt522 : BtT P 255 [(0, 1)] [str []] := BtT.of (by kernel_rfl) zr522
theorem cb4 : Cb P 3 := Cb.of (by kernel_rfl)
theorem cb5 : Cb P 4 := Cb.of (by kernel_rfl)
theorem cb6 : Cb P 5 := Cb.of (by kernel_rfl)
theorem cb7 : Cb P 6 := Cb.of (by kernel_rfl)
theorem cb8 : Cb P 7 := Cb.of (by kernel_rfl)
theorem cb9 : Cb P 8 := Cb.of (by kernel_rfl)
theorem cb10 : Cb P 9 := Cb.of (by kernel_rfl)
theorem cb11 : Cb P 10 := Cb.of (by kernel_rfl)
theorem cb12 : Cb P 11 := Cb.of (by kernel_rfl)
theorem cb13 : Cb P 12 := Cb.of (by kernel_rfl)
theorem cb14 : Cb P 13 := Cb.of (by kernel_rfl)
theorem cb15 : Cb P 14 := Cb.of (by kernel_rfl)
theorem cb29 : Cb P 16 := Cb.of (by kernel_rfl)
theorem cb31 : Cb P 39 := Cb.of (by kernel_rfl)
theorem cb36 : Cb P 25 := Cb.of (by kernel_rfl)
theorem cb38 : Cb P 15 := Cb.of (by kernel_rfl)
theorem cb39 : Cb P 17 := Cb.of (by kernel_rfl)
theorem cb40 : Cb P 18 := Cb.of (by kernel_rfl)
theorem cb41 : Cb P 19 := Cb.of (by kernel_rfl)
theorem cb42 : Cb P 20 := Cb.of (by kernel_rfl)
theorem cb43 : Cb P 21 := Cb.of (by kernel_rfl)
theorem cb44 : Cb P 22 := Cb.of (by kernel_rfl)
theorem cb45 : Cb P 23 := Cb.of (by kernel_rfl)
theorem cb46 : Cb P 24 := Cb.of (by kernel_rfl)
theorem cb47 : Cb P 26 := Cb.of (by kernel_rfl)
theorem cb48 : Cb P 27 := Cb.of (by kernel_rfl)
theorem cb49 : Cb P 28 := Cb.of (by kernel_rfl)
theorem cb50 : Cb P 29 := Cb.of (by kernel_rfl)
theorem cb51 : Cb P 30 := Cb.of (by kernel_rfl)
theorem cb52 : Cb P 31 := Cb.of (by kernel_rfl)
theorem cb53 : Cb P 32 := Cb.of (by kernel_rfl)
theorem cb54 : Cb P 33 := Cb.of (by kernel_rfl)
theorem cb55 : Cb P 34 := Cb.of (by kernel_rfl)
theorem cb56 : Cb P 35 := Cb.of (by kernel_rfl)
theorem cb57 : Cb P 36 := Cb.of (by kernel_rfl)
theorem cb58 : Cb P 37 := Cb.of (by kernel_rfl)
theorem cb59 : Cb P 38 := Cb.of (by kernel_rfl)
theorem cb60 : Cb P 40 := Cb.of (by kernel_rfl)
theorem cb61 : Cb P 41 := Cb.of (by kernel_rfl)
theorem cb62 : Cb P 42 := Cb.of (by kernel_rfl)
theorem cb63 : Cb P 43 := Cb.of (by kernel_rfl)
theorem cb64 : Cb P 44 := Cb.of (by kernel_rfl)
theorem cb65 : Cb P 45 := Cb.of (by kernel_rfl)
theorem cb66 : Cb P 46 := Cb.of (by kernel_rfl)
theorem cb67 : Cb P 47 := Cb.of (by kernel_rfl)
theorem cb81 : Cb P 58 := Cb.of (by kernel_rfl)
theorem cb107 : Cb P 48 := Cb.of (by kernel_rfl)
theorem cb108 : Cb P 49 := Cb.of (by kernel_rfl)
theorem cb114 : Cb P 122 := Cb.of (by kernel_rfl)
theorem cb116 : Cb P 120 := Cb.of (by kernel_rfl)
theorem cb117 : Cb P 60 := Cb.of (by kernel_rfl)
theorem cb118 : Cb P 61 := Cb.of (by kernel_rfl)
theorem cb122 : Cb P 50 := Cb.of (by kernel_rfl)
theorem cb123 : Cb P 51 := Cb.of (by kernel_rfl)
theorem cb124 : Cb P 52 := Cb.of (by kernel_rfl)
theorem cb125 : Cb P 53 := Cb.of (by kernel_rfl)
theorem cb126 : Cb P 54 := Cb.of (by kernel_rfl)
theorem cb127 : Cb P 55 := Cb.of (by kernel_rfl)
theorem cb128 : Cb P 56 := Cb.of (by kernel_rfl)
theorem cb129 : Cb P 57 := Cb.of (by kernel_rfl)
theorem cb130 : Cb P 59 := Cb.of (by kernel_rfl)
theorem cb131 : Cb P 62 := Cb.of (by kernel_rfl)
theorem cb132 : Cb P 63 := Cb.of (by kernel_rfl)
theorem cb133 : Cb P 64 := Cb.of (by kernel_rfl)
theorem cb134 : Cb P 65 := Cb.of (by kernel_rfl)
theorem cb135 : Cb P 66 := Cb.of (by kernel_rfl)
theorem cb136 : Cb P 67 := Cb.of (by kernel_rfl)
theorem cb137 : Cb P 68 := Cb.of (by kernel_rfl)
theorem cb138 : Cb P 69 := Cb.of (by kernel_rfl)
theorem cb139 : Cb P 70 := Cb.of (by kernel_rfl)
theorem cb140 : Cb P 71 := Cb.of (by kernel_rfl)
theorem cb141 : Cb P 72 := Cb.of (by kernel_rfl)
theorem cb156 : Cb P 129 := Cb.of (by kernel_rfl)
theorem cb158 : Cb P 161 := Cb.of (by kernel_rfl)
theorem cb159 : Cb P 162 := Cb.of (by kernel_rfl)
theorem cb160 : Cb P 175 := Cb.of (by kernel_rfl)
theorem cb164 : Cb P 173 := Cb.of (by kernel_rfl)
theorem cb169 : Cb P 100 := Cb.of (by kernel_rfl)
theorem cb174 : Cb P 73 := Cb.of (by kernel_rfl)
theorem cb175 : Cb P 74 := Cb.of (by kernel_rfl)
theorem cb176 : Cb P 75 := Cb.of (by kernel_rfl)
theorem cb177 : Cb P 76 := Cb.of (by kernel_rfl)
theorem cb178 : Cb P 77 := Cb.of (by kernel_rfl)
theorem cb179 : Cb P 78 := Cb.of (by kernel_rfl)
theorem cb186 : Cb P 142 := Cb.of (by kernel_rfl)
theorem cb187 : Cb P 143 := Cb.of (by kernel_rfl)
theorem cb190 : Cb P 205 := Cb.of (by kernel_rfl)
theorem cb191 : Cb P 107 := Cb.of (by kernel_rfl)
theorem cb192 : Cb P 105 := Cb.of (by kernel_rfl)
theorem cb193 : Cb P 108 := Cb.of (by kernel_rfl)
theorem cb194 : Cb P 79 := Cb.of (by kernel_rfl)
theorem cb195 : Cb P 80 := Cb.of (by kernel_rfl)
theorem cb196 : Cb P 81 := Cb.of (by kernel_rfl)
theorem cb197 : Cb P 82 := Cb.of (by kernel_rfl)
theorem cb198 : Cb P 83 := Cb.of (by kernel_rfl)
theorem cb199 : Cb P 84 := Cb.of (by kernel_rfl)
theorem cb200 : Cb P 85 := Cb.of (by kernel_rfl)
theorem cb201 : Cb P 86 := Cb.of (by kernel_rfl)
theorem cb202 : Cb P 87 := Cb.of (by kernel_rfl)
theorem cb203 : Cb P 88 := Cb.of (by kernel_rfl)
theorem cb204 : Cb P 89 := Cb.of (by kernel_rfl)
theorem cb205 : Cb P 90 := Cb.of (by kernel_rfl)
theorem cb206 : Cb P 91 := Cb.of (by kernel_rfl)
theorem cb207 : Cb P 92 := Cb.of (by kernel_rfl)
theorem cb208 : Cb P 93 := Cb.of (by kernel_rfl)
theorem cb209 : Cb P 94 := Cb.of (by kernel_rfl)
theorem cb210 : Cb P 95 := Cb.of (by kernel_rfl)
theorem cb211 : Cb P 96 := Cb.of (by kernel_rfl)
theorem cb212 : Cb P 97 := Cb.of (by kernel_rfl)
theorem cb213 : Cb P 98 := Cb.of (by kernel_rfl)
theorem cb214 : Cb P 99 := Cb.of (by kernel_rfl)
theorem cb215 : Cb P 101 := Cb.of (by kernel_rfl)
theorem cb227 : Cb P 187 := Cb.of (by kernel_rfl)
theorem cb228 : Cb P 188 := Cb.of (by kernel_rfl)
theorem cb229 : Cb P 189 := Cb.of (by kernel_rfl)
theorem cb230 : Cb P 199 := Cb.of (by kernel_rfl)
theorem cb231 : Cb P 200 := Cb.of (by kernel_rfl)
theorem cb232 : Cb P 198 := Cb.of (by kernel_rfl)
theorem cb235 : Cb P 194 := Cb.of (by kernel_rfl)
theorem cb238 : Cb P 145 := Cb.of (by kernel_rfl)
theorem cb239 : Cb P 146 := Cb.of (by kernel_rfl)
theorem cb241 : Cb P 147 := Cb.of (by kernel_rfl)
theorem cb242 : Cb P 130 := Cb.of (by kernel_rfl)
theorem cb243 : Cb P 131 := Cb.of (by kernel_rfl)
theorem cb245 : Cb P 102 := Cb.of (by kernel_rfl)
theorem cb246 : Cb P 103 := Cb.of (by kernel_rfl)
theorem cb247 : Cb P 104 := Cb.of (by kernel_rfl)
theorem cb248 : Cb P 106 := Cb.of (by kernel_rfl)
theorem cb249 : Cb P 109 := Cb.of (by kernel_rfl)
theorem cb251 : Cb P 116 := Cb.of (by kernel_rfl)
theorem cb260 : Cb P 177 := Cb.of (by kernel_rfl)
theorem cb261 : Cb P 178 := Cb.of (by kernel_rfl)
theorem cb262 : Cb P 135 := Cb.of (by kernel_rfl)
theorem cb263 : Cb P 133 := Cb.of (by kernel_rfl)
theorem cb264 : Cb P 132 := Cb.of (by kernel_rfl)
theorem cb265 : Cb P 110 := Cb.of (by kernel_rfl)
theorem cb266 : Cb P 111 := Cb.of (by kernel_rfl)
theorem cb267 : Cb P 112 := Cb.of (by kernel_rfl)
theorem cb268 : Cb P 113 := Cb.of (by kernel_rfl)
theorem cb269 : Cb P 114 := Cb.of (by kernel_rfl)
theorem cb270 : Cb P 115 := Cb.of (by kernel_rfl)
theorem cb271 : Cb P 117 := Cb.of (by kernel_rfl)
theorem cb272 : Cb P 118 := Cb.of (by kernel_rfl)
theorem cb273 : Cb P 119 := Cb.of (by kernel_rfl)
theorem cb274 : Cb P 121 := Cb.of (by kernel_rfl)
theorem cb275 : Cb P 123 := Cb.of (by kernel_rfl)
theorem cb276 : Cb P 124 := Cb.of (by kernel_rfl)
theorem cb277 : Cb P 125 := Cb.of (by kernel_rfl)
theorem cb278 : Cb P 126 := Cb.of (by kernel_rfl)
theorem cb279 : Cb P 127 := Cb.of (by kernel_rfl)
theorem cb280 : Cb P 128 := Cb.of (by kernel_rfl)
theorem cb288 : Cb P 206 := Cb.of (by kernel_rfl)
theorem cb289 : Cb P 213 := Cb.of (by kernel_rfl)
theorem cb290 : Cb P 211 := Cb.of (by kernel_rfl)
theorem cb291 : Cb P 196 := Cb.of (by kernel_rfl)
theorem cb292 : Cb P 212 := Cb.of (by kernel_rfl)
theorem cb306 : Cb P 210 := Cb.of (by kernel_rfl)
theorem cb310 : Cb P 179 := Cb.of (by kernel_rfl)
theorem cb311 : Cb P 180 := Cb.of (by kernel_rfl)
theorem cb322 : Cb P 134 := Cb.of (by kernel_rfl)
theorem cb323 : Cb P 140 := Cb.of (by kernel_rfl)
theorem cb330 : Cb P 190 := Cb.of (by kernel_rfl)
theorem cb333 : Cb P 201 := Cb.of (by kernel_rfl)
theorem cb334 : Cb P 136 := Cb.of (by kernel_rfl)
theorem cb335 : Cb P 137 := Cb.of (by kernel_rfl)
theorem cb336 : Cb P 138 := Cb.of (by kernel_rfl)
theorem cb337 : Cb P 139 := Cb.of (by kernel_rfl)
theorem cb339 : Cb P 144 := Cb.of (by kernel_rfl)
theorem cb340 : Cb P 148 := Cb.of (by kernel_rfl)
theorem cb341 : Cb P 149 := Cb.of (by kernel_rfl)
theorem cb342 : Cb P 150 := Cb.of (by kernel_rfl)
theorem cb343 : Cb P 151 := Cb.of (by kernel_rfl)
theorem cb344 : Cb P 152 := Cb.of (by kernel_rfl)
theorem cb345 : Cb P 153 := Cb.of (by kernel_rfl)
theorem cb346 : Cb P 154 := Cb.of (by kernel_rfl)
theorem cb347 : Cb P 155 := Cb.of (by kernel_rfl)
theorem cb348 : Cb P 156 := Cb.of (by kernel_rfl)
theorem cb349 : Cb P 157 := Cb.of (by kernel_rfl)
theorem cb350 : Cb P 158 := Cb.of (by kernel_rfl)
theorem cb351 : Cb P 159 := Cb.of (by kernel_rfl)
theorem cb352 : Cb P 160 := Cb.of (by kernel_rfl)
theorem cb359 : Cb P 226 := Cb.of (by kernel_rfl)
theorem cb360 : Cb P 227 := Cb.of (by kernel_rfl)
theorem cb361 : Cb P 228 := Cb.of (by kernel_rfl)
theorem cb377 : Cb P 224 := Cb.of (by kernel_rfl)
theorem cb378 : Cb P 225 := Cb.of (by kernel_rfl)
theorem cb379 : Cb P 165 := Cb.of (by kernel_rfl)
theorem cb384 : Cb P 203 := Cb.of (by kernel_rfl)
theorem cb400 : Cb P 207 := Cb.of (by kernel_rfl)
theorem cb401 : Cb P 208 := Cb.of (by kernel_rfl)
theorem cb403 : Cb P 163 := Cb.of (by kernel_rfl)
theorem cb404 : Cb P 164 := Cb.of (by kernel_rfl)
theorem cb405 : Cb P 166 := Cb.of (by kernel_rfl)
theorem cb406 : Cb P 167 := Cb.of (by kernel_rfl)
theorem cb407 : Cb P 168 := Cb.of (by kernel_rfl)
theorem cb408 : Cb P 169 := Cb.of (by kernel_rfl)
theorem cb409 : Cb P 170 := Cb.of (by kernel_rfl)
theorem cb410 : Cb P 171 := Cb.of (by kernel_rfl)
theorem cb411 : Cb P 172 := Cb.of (by kernel_rfl)
theorem cb412 : Cb P 174 := Cb.of (by kernel_rfl)
theorem cb413 : Cb P 181 := Cb.of (by kernel_rfl)
theorem cb414 : Cb P 182 := Cb.of (by kernel_rfl)
theorem cb415 : Cb P 183 := Cb.of (by kernel_rfl)
theorem cb416 : Cb P 184 := Cb.of (by kernel_rfl)
theorem cb417 : Cb P 185 := Cb.of (by kernel_rfl)
theorem cb418 : Cb P 186 := Cb.of (by kernel_rfl)
theorem cb420 : Cb P 237 := Cb.of (by kernel_rfl)
theorem cb421 : Cb P 238 := Cb.of (by kernel_rfl)
theorem cb441 : Cb P 236 := Cb.of (by kernel_rfl)
theorem cb442 : Cb P 192 := Cb.of (by kernel_rfl)
theorem cb443 : Cb P 191 := Cb.of (by kernel_rfl)
theorem cb446 : Cb P 214 := Cb.of (by kernel_rfl)
theorem cb447 : Cb P 215 := Cb.of (by kernel_rfl)
theorem cb448 : Cb P 216 := Cb.of (by kernel_rfl)
theorem cb449 : Cb P 217 := Cb.of (by kernel_rfl)
theorem cb461 : Cb P 218 := Cb.of (by kernel_rfl)
theorem cb462 : Cb P 219 := Cb.of (by kernel_rfl)
theorem cb463 : Cb P 220 := Cb.of (by kernel_rfl)
theorem cb464 : Cb P 221 := Cb.of (by kernel_rfl)
theorem cb465 : Cb P 222 := Cb.of (by kernel_rfl)
theorem cb466 : Cb P 193 := Cb.of (by kernel_rfl)
theorem cb467 : Cb P 195 := Cb.of (by kernel_rfl)
theorem cb468 : Cb P 197 := Cb.of (by kernel_rfl)
theorem cb469 : Cb P 204 := Cb.of (by kernel_rfl)
theorem cb470 : Cb P 244 := Cb.of (by kernel_rfl)
theorem cb485 : Cb P 209 := Cb.of (by kernel_rfl)
theorem cb493 : Cb P 233 := Cb.of (by kernel_rfl)
theorem cb494 : Cb P 229 := Cb.of (by kernel_rfl)
theorem cb495 : Cb P 230 := Cb.of (by kernel_rfl)
theorem cb496 : Cb P 231 := Cb.of (by kernel_rfl)
theorem cb497 : Cb P 232 := Cb.of (by kernel_rfl)
theorem cb504 : Cb P 234 := Cb.of (by kernel_rfl)
theorem cb505 : Cb P 235 := Cb.of (by kernel_rfl)
theorem cb519 : Cb P 242 := Cb.of (by kernel_rfl)
theorem cb520 : Cb P 243 := Cb.of (by kernel_rfl)
theorem cb521 : Cb P 240 := Cb.of (by kernel_rfl)
theorem cb522 : Cb P 241 := Cb.of (by kernel_rfl)
end Go.Sl
/-! Cuts of slices that nobody writes: where they lie is forgotten. -/
namespace Go.Sl
open Go
section
variable {P : Program} {ρ : Env} {H : List Res} {d : Option Tmp} {ty : TypeId} {pos : String} {af : Array Edge} {g : Option (Nat × Bool)} {x : Operand}
variable {α : Type} {K : Kd α} {p : SP} {xs : List α} {t e : Nat}
/-- The part of a list from l to h. -/
def part (xs : List α) (l h : Int) : List α := (xs.drop l.toNat).take (h.toNat - l.toNat)
theorem part_len {l h : Int} (h0 : 0 ≤ l) (h1 : l ≤ h) (h2 : h ≤ xs.length) : (part xs l h).length = h.toNat - l.toNat := by
  unfold part; rw [List.length_take, List.length_drop]; omega
theorem part_lenI {l h : Int} (h0 : 0 ≤ l) (h1 : l ≤ h) (h2 : h ≤ xs.length) : ((part xs l h).length : Int) = h - l := by
  rw [part_len h0 h1 h2]; omega
theorem sl_of_holds {w : World} (i : Nat) (hi : H[i]? = some (sl K p xs)) (hw : Holds H w) : xs.length ≤ p.c := (sl_fact i hi w hw).1
theorem OpX.cutS {lo hi : Option Operand} {l h : Int} (i : Nat) (ht : P.underlying t = some (.slice e)) (hs : Sz P e K.sz) (hx : ev ρ x = some (p.v xs.length))
    (hl : match lo with | some q => ev ρ q = some (.int .i64 l) | none => l = 0) (hh : match hi with | some q => ev ρ q = some (.int .i64 h) | none => h = xs.length)
    (hr : H[i]? = some (sl K p xs)) (h0 : 0 ≤ l) (h1 : l ≤ h) (h2 : h ≤ xs.length) :
    OpX P ⟨d, .slice t x lo hi none, ty, pos, af, g⟩ ρ H (fun q : SP => q.v (part xs l h).length) (fun q => sl K q (part xs l h) :: H) := by
  intro n a w ha hw next Q kk
  have hc := sl_of_holds i hr hw
  rw [PV.cutL ht hs hx hl hh h0 h1 (by omega) n a w ha]
  have hw' : Holds (sl K (p.cut K.sz l.toNat p.c) (part xs l h) :: H) w := by
    have h3 := (hw.pick hr).ent (H := [sl K p xs]) (Ent.cutK K p xs l.toNat p.c (h.toNat - l.toNat) (Nat.le_refl _) (by omega))
    have h4 : Holds (sl K (p.cut K.sz l.toNat p.c) (part xs l h) :: (sl K p xs :: rem H i)) w := h3
    exact h4.perm ((perm_rem hr).symm.cons _)
  have := kk (p.cut K.sz l.toNat p.c) w hw'
  simp only [part_len h0 h1 h2] at this
  exact this
theorem OpX.cutS3 {lo : Option Operand} {qh qm : Operand} {l h m : Int} (i : Nat) (ht : P.underlying t = some (.slice e)) (hs : Sz P e K.sz) (hx : ev ρ x = some (p.v xs.length))
    (hl : match lo with | some q => ev ρ q = some (.int .i64 l) | none => l = 0) (hh : ev ρ qh = some (.int .i64 h)) (hm : ev ρ qm = some (.int .i64 m))
    (hr : H[i]? = some (sl K p xs)) (h0 : 0 ≤ l) (h1 : l ≤ h) (h2 : h ≤ m) (h3 : m ≤ xs.length) :
    OpX P ⟨d, .slice t x lo (some qh) (some qm), ty, pos, af, g⟩ ρ H (fun q : SP => q.v (part xs l h).length) (fun q => sl K q (part xs l h) :: H) := by
  intro n a w ha hw next Q kk
  have hc := sl_of_holds i hr hw
  rw [PV.cutM ht hs hx hl hh hm h0 h1 h2 (by omega) n a w ha]
  have hw' : Holds (sl K (p.cut K.sz l.toNat m.toNat) (part xs l h) :: H) w := by
    have h3 := (hw.pick hr).ent (H := [sl K p xs]) (Ent.cutK K p xs l.toNat m.toNat (h.toNat - l.toNat) (by omega) (by omega))
    have h4 : Holds (sl K (p.cut K.sz l.toNat m.toNat) (part xs l h) :: (sl K p xs :: rem H i)) w := h3
    exact h4.perm ((perm_rem hr).symm.cons _)
  have := kk (p.cut K.sz l.toNat m.toNat) w hw'
  simp only [part_len (xs := xs) h0 h1 (by omega)] at this
  exact this
end
end Go.Sl
/-! Calls of functions for which the model stands in; clones of maps; written bytes. -/
namespace Go.Sl
open Go
section
variable {P : Program} {ρ : Env} {H : List Res} {d : Option Tmp} {ty : TypeId} {pos : String} {af : Array Edge} {g : Option (Nat × Bool)} {x y : Operand} {v : Value}
/-- A function of the program without a body, for which the model has an entry. -/
def Xt (P : Program) (f : FuncId) (e : Array Value → Sem Value) : Prop :=
  ∃ fn, P.funcs[f]? = some fn ∧ (fn.name == "runtime.NumGoroutine") = false ∧ fn.body.isNone = true ∧ Extern.findNext fn = none ∧ Extern.find fn = some e
theorem run_xt {n : Nat} {f : FuncId} {e : Array Value → Sem Value} {asx : Array Operand} {ts : Array TypeId} {args : List Value} {a : Act} {w : World} (hX : Xt P f e) (hA : EnvOk n ρ a) (ha : evs ρ asx.toList = some args) :
    (execOp a.eval ⟨d, .call ⟨.value (.func f), asx, ts⟩, ty, pos, af, g⟩).run P w = ((e args.toArray).run P w).andThen fun v w' => .ok (.value v) w' := by
  have e1 : asx.map a.eval = args.toArray := by apply Array.ext'; simp [hA.evs ha]
  obtain ⟨fn, h1, h2, h3, h4, h5⟩ := hX
  simp only [execOp, resolve, Act.eval, Deferred.ofValue, e1, pure_bind, invoke, Array.append_empty, Array.empty_append]
  exact Go.run_callFunc_extern h1 h2 h3 h4 h5 args.toArray w
theorem PV.xt {f : FuncId} {e : Array Value → Sem Value} {asx : Array Operand} {ts : Array TypeId} {args : List Value} (hX : Xt P f e) (ha : evs ρ asx.toList = some args) (hr : ∀ w, (e args.toArray).run P w = .ok v w) :
    PV P ⟨d, .call ⟨.value (.func f), asx, ts⟩, ty, pos, af, g⟩ ρ v := fun n a w hA => by rw [run_xt hX hA ha, hr]; rfl
/-- Where the first one is; -1: nowhere. -/
def idxB (s : List UInt8) (c : UInt8) : Int := match s.findIdx? (· == c) with | some k => k | none => -1
theorem lib_idxB : ∀ (s : List UInt8) (c : UInt8), Lib.indexByte s c = idxB s c
  | [], c => rfl
  | b :: s, c => by
    have ih := lib_idxB s c
    unfold Lib.indexByte idxB
    rw [List.findIdx?_cons]
    cases h : b == c
    · simp only [Bool.false_eq_true, if_false]
      rw [ih]
      unfold idxB
      cases h2 : s.findIdx? (· == c) with
      | none => simp
      | some k =>
        simp only [Option.map_some]
        have : ((k : Int) == -1) = false := by rw [beq_eq_false_iff_ne]; omega
        rw [this]; simp
    · simp
theorem PV.idxB {f : FuncId} {asx : Array Operand} {ts : Array TypeId} {s : List UInt8} {c : UInt8} (hX : Xt P f Extern.BytealgIndexByte.indexByte) (ha : evs ρ asx.toList = some [str s, .int .u8 c.toNat]) :
    PV P ⟨d, .call ⟨.value (.func f), asx, ts⟩, ty, pos, af, g⟩ ρ (.int .i64 (Sl.idxB s c)) := PV.xt hX ha fun w => by
  show (Extern.BytealgIndexByte.indexByte #[.string ⟨s.toArray⟩, .int .u8 c.toNat]).run P w = _
  rw [Lib.run_indexByteString, lib_idxB]; simp
theorem PV.cntB {f : FuncId} {asx : Array Operand} {ts : Array TypeId} {s : List UInt8} {c : UInt8} (hX : Xt P f Extern.BytealgCount.count) (ha : evs ρ asx.toList = some [str s, .int .u8 c.toNat]) :
    PV P ⟨d, .call ⟨.value (.func f), asx, ts⟩, ty, pos, af, g⟩ ρ (.int .i64 (s.count c)) := PV.xt hX ha fun w => by
  show (Extern.BytealgCount.count #[.string ⟨s.toArray⟩, .int .u8 c.toNat]).run P w = _
  rw [Lib.run_countString]; simp [Lib.countByte]
/-- x.(T), where it is one. -/
theorem PV.ta {t xT : TypeId} {ds : TypeDesc} {u : Value} (hd : P.underlying t = some ds) (hn : ∀ ms, ds ≠ .interface ms) (hx : ev ρ x = some (.iface t u)) : PV P ⟨d, .typeAssert x xT t false, ty, pos, af, g⟩ ρ u := fun n a w ha => by
  simp only [execOp, ha.ev hx, Instr.typeAssert]
  cases ds <;> first | exact (hn _ rfl).elim | (simp [run_underlying hd])
theorem OpX.mclone {κ α : Type} {kv : κ → Value} {K : Kd α} {f : FuncId} {asx : Array Operand} {ts : Array TypeId} {t : TypeId} {r : Nat} {m : List (κ × α)} (i : Nat) (hX : Xt P f Extern.MapsClone.clone) (ha : evs ρ asx.toList = some [.iface t (.map (some r))])
    (hi : H[i]? = some (mp kv K r m)) :
    OpX P ⟨d, .call ⟨.value (.func f), asx, ts⟩, ty, pos, af, g⟩ ρ H (fun r' : Nat => .iface t (.map (some r'))) (fun r' => mp kv K r' m :: H) := by
  intro n a w hA hw next Q kk
  obtain ⟨O, R, hs⟩ := hw
  obtain ⟨O1, R1, O2, R2, h0, g2, d1, d2, eo, er⟩ := hs.perm (perm_rem hi)
  obtain ⟨h1, h2, es, clock, h3, h4, h5, h6, h7⟩ := h0
  have hrun : (Extern.MapsClone.clone #[.iface t (.map (some r))]).run P w = .ok (.iface t (.map (some w.heap.size))) (w.alloc (.map es clock)) := by
    have e : Extern.MapsClone.clone #[.iface t (.map (some r))] = (getObj r >>= fun o => match o with
      | .map entries clock => (newObj (.map entries clock) >>= fun n => pure (.iface t (.map (some n))))
      | _ => stuck "maps.clone: a map expected") := rfl
    rw [e, run_bind (run_getObj h3)]
    rfl
  rw [run_xt hX hA ha, hrun]
  refine kk w.heap.size _ ?_
  have hrs : r < w.heap.size := (Array.getElem?_eq_some_iff.1 h3).1
  have ht : Trans w (w.alloc (.map es clock)) [mp kv K r m] [mp kv K w.heap.size m, mp kv K r m] := by
    rintro O R ⟨O3, R3, O4, R4, ⟨k1, k2, es', clock', k3, k4, k5, k6, k7⟩, ⟨n1, n2⟩, e1, e2, e3, e4⟩
    rw [h3] at k3; cases k3
    have hb : ∀ b i, R3 b i → b < w.heap.size := fun b i hb => isSome_lt (k2 b i hb).1
    have hc : ∀ b i, R3 b i → (w.alloc (.map es clock)).cell? ⟨b, i, none⟩ = w.cell? ⟨b, i, none⟩ := fun b i hb' => by
      have := lookO_alloc (o := .map es clock) (j := i) (hb b i hb')
      simp only [lookO, Prod.mk.injEq] at this
      exact this.1
    have hin : ∀ (i : Nat) (x : κ × α), m[i]? = some x → ∃ e : MapEntry, es[i]? = some e ∧ e.key = kv x.1 ∧ ∃ q, e.val = K.val x.2 q ∧ ∀ s, s ∈ K.inner x.2 q → ∃ R', s.holds (w.alloc (.map es clock)) none0 R' ∧ ∀ b i, R' b i → R3 b i := by
      intro i x hx
      obtain ⟨e, g1, g2, q, g3, g4⟩ := k7 i x hx
      refine ⟨e, g1, g2, q, g3, fun s hs => ?_⟩
      obtain ⟨R', u1, u2⟩ := g4 s hs
      exact ⟨R', s.loc u1 ⟨fun _ _ h => h.elim, fun b i hb' => hc b i (u2 b i hb')⟩, u2⟩
    refine ⟨fun b j => b = w.heap.size ∨ O3 b j, R3, ⟨fun b _ => b = w.heap.size, R3, O3, R3, ⟨fun _ _ => Iff.rfl, fun b i hb' => ⟨by rw [hc b i hb']; exact (k2 b i hb').1, by have := hb b i hb'; omega⟩, es, clock, heap_alloc_new .., k4, k5, k6, hin⟩,
      ⟨O3, R3, none0, none0, ⟨k1, fun b i hb' => ⟨by rw [hc b i hb']; exact (k2 b i hb').1, (k2 b i hb').2⟩, es, clock, by rw [heap_alloc_old _ _ hrs]; exact h3, k4, k5, k6, hin⟩, ⟨fun _ _ h => h, fun _ _ h => h⟩, fun _ _ _ => ⟨fun h => h, fun h => h⟩, fun _ _ h => h.elim, fun _ _ => by simp [none0], fun _ _ => by simp [none0]⟩,
      ?_, ?_, fun _ _ => Iff.rfl, fun _ _ => by simp⟩, ?_, ?_, fun b j hlt _ => lookO_alloc hlt⟩
    · intro b i hb'
      refine ⟨fun h => ?_, fun h => ?_⟩
      · have := (k1 b i).1 h; omega
      · have := hb b i h; omega
    · intro b i hb' h
      exact (k2 b i h).2 ((k1 b i).1 hb')
    · rintro b j (hb' | hb')
      · exact .inr (by omega)
      · exact .inl ((e3 b j).2 (.inl hb'))
    · intro b j hb'
      exact .inr (.inl ((e4 b j).2 (.inl hb')))
  have h8 : Holds ([mp kv K r m] ++ rem H i) w := ⟨O, R, hs.perm (perm_rem hi)⟩
  have h9 := Holds.trans ht h8
  exact h9.perm ((perm_rem hi).symm.cons _)
/-- A load of a byte that may be written. -/
theorem LdD.own1B {p : SP} {xs : List UInt8} {t j k : Nat} (i : Nat) (ht : Sc1 P t) (hx : ev ρ x = some (p.ptr (j * k))) (hi : H[i]? = some (own Kb p xs)) (hk : k = 1) (hj : j < xs.length) : LdD P ρ H t x (.int .u8 xs[j].toNat) :=
  LdD.own1 (K := Kb) i j ht rfl hx hi (by subst hk; rfl) (List.getElem?_eq_getElem hj) (fun _ => rfl) rfl
end
end Go.Sl
/-! Functions for which the model stands in. -/
namespace Go.Sl
open Go Go.Proofs
theorem xt399 : Xt P 176 Extern.BytealgIndexByte.indexByte := ⟨_, Tryz.func176, by kernel_rfl, by kernel_rfl, by kernel_rfl, by kernel_rfl⟩
theorem xt422 : Xt P 239 Extern.BytealgCount.count := ⟨_, Tryz.func239, by kernel_rfl, by kernel_rfl, by kernel_rfl, by kernel_rfl⟩
theorem xt338 : Xt P 141 Extern.MapsClone.clone := ⟨_, Tryz.func141, by kernel_rfl, by kernel_rfl, by kernel_rfl, by kernel_rfl⟩
end Go.Sl
namespace Go.Sl
open Go Go.Proofs
theorem ua295 : P.underlying 131 = some (.array 5 3) := by kernel_rfl
theorem ag295 : Ag P 131 5 := Ag.of (by kernel_rfl)
theorem ba295 : BtA P 131 1 [.int .i64 0, .int .i64 0, .int .i64 0, .int .i64 0, .int .i64 0] := ⟨5, 3, _, ua295, zr295, rfl, sz3⟩
end Go.Sl
/-! The disk: what it has, and its first functions. -/
namespace Go.Sl
open Go Go.Proofs
set_option maxRecDepth 20000
abbrev Bytes := List UInt8
structure Wr where
  kind : Int
  frm : Bytes
  to : Bytes
  b : Bytes
def Kwr : Kd Wr where
  π := SP
  sz := 4
  val w p := .agg #[.int .i64 w.kind, str w.frm, str w.to, p.v w.b.length]
  inner w p := [sl Kb p w.b]
  len _ _ := rfl
  pers w p r h := by simp only [List.mem_singleton] at h; subst h; exact sl_pers Kb p _
  na w p u h := NAs.mem (vs := [_, _, _, _]) ⟨NA.int _ _, NA.str _, NA.str _, NA.sl _ _ _, trivial⟩ u h
structure DM where
  now : List (Bytes × Bytes)
  sure : List (Bytes × Bytes)
  loose : List Wr
  room : Int
  fuse : Int
  down : Bool
/-- Files: which come first does not matter. -/
def fs (r : Nat) (m : List (Bytes × Bytes)) : Res := ex (List (Bytes × Bytes)) fun m' => [pr (m'.Perm m ∧ (m'.map (·.1)).Nodup), mp kvS (Ksl Kb) r m']
theorem FV.lenFs {ρ : Env} {H : List Res} {d : Option Tmp} {ty : TypeId} {pos : String} {af : Array Edge} {g : Option (Nat × Bool)} {x : Operand} {t kt et r : Nat} {m : List (Bytes × Bytes)} {ts : Array TypeId} (i : Nat) (ht : MapT P t kt et) (hts : ts[0]? = some t) (hx : ev ρ x = some (.map (some r))) (hi : H[i]? = some (fs r m)) :
    FV P ⟨d, .call ⟨.builtin .len, #[x], ts⟩, ty, pos, af, g⟩ ρ H (.int .i64 m.length) := by
  intro n a w ha hw
  obtain ⟨m', h⟩ := (hw.pick hi).ex
  obtain ⟨hm, h'⟩ := Holds.pr h
  have := FV.lenM (P := P) (d := d) (ty := ty) (pos := pos) (af := af) (g := g) 0 ht hts hx (H := mp kvS (Ksl Kb) r m' :: rem H i) rfl n a w ha h'
  rw [hm.1.length_eq] at this
  exact this
def dskF (g : Nat) (D : DM) (x : Nat × Nat × SP) : List Res := [pt g 0 [.map (some x.1), .map (some x.2.1), x.2.2.v D.loose.length, .int .i64 D.room, .int .i64 D.fuse, .bool D.down], fs x.1 D.now, fs x.2.1 D.sure, sl Kwr x.2.2 D.loose, tl 4 x.2.2 D.loose.length]
def dsk (g : Nat) (D : DM) : Res := ex (Nat × Nat × SP) (dskF g D)
/-- May it be a name? -/
def okc (c : UInt8) : Bool := !((c.toNat < 97 || 122 < c.toNat) && c.toNat != 46)
def dname (s : Bytes) : Bool := s.all okc && (s != [] && decide (s.length ≤ 32))
theorem c245 {s : Bytes} (hs : s.length < 2^62) : Spec P 102 [str s] [] (fun (_ : Unit) => .bool (dname s)) (fun _ => []) := by
  refine Spec.intro Tryz.func102 rfl rfl rfl fun F => ?_
  refine W.rseq ?_
  refine WL.p rfl rfl rfl (PV.as rfl) ?_
  refine WL.next [(2, _), (0, _)] ⟨rfl, rfl, trivial⟩ ?_
  refine W.seq ?_
  refine W.rseq ?_
  refine WL.p rfl rfl rfl (PV.mv rfl) ?_
  refine WL.p rfl rfl rfl (PV.lenS ul9 rfl rfl) ?_
  refine WL.p rfl rfl rfl (PV.mv rfl) ?_
  refine WL.next [(6, _), (5, _), (2, _), (0, _)] ⟨rfl, rfl, rfl, rfl, trivial⟩ ?_
  refine W.block ?_
  rotate_left
  refine W.loopP (X := Nat) (fun k => k ≤ s.length ∧ (s.take k).all okc = true) (fun k => [(6, .int .i64 k), (5, .int .i64 s.length), (2, .bool false), (0, str s)]) (fun _ => F) (fun k => s.length - k) 0 (by simp) ⟨rfl, rfl, rfl, rfl, trivial⟩ (Ent.refl _) fun k hI => ?_
  have hk := hI.1; have ha := hI.2; clear hI
  refine W.rseq ?_
  refine WL.p rfl rfl rfl (PV.lt rfl rfl) ?_
  refine WL.next [(7, _), (6, _), (5, _), (2, _), (0, _)] ⟨rfl, rfl, rfl, rfl, rfl, trivial⟩ ?_
  refine W.seq ?_
  refine W.condD rfl (fun h0 => ?_) (fun h0 => ?_)
  refine W.skip ?_
  refine K.next [(6, _), (5, _), (2, _), (0, _)] ⟨rfl, rfl, rfl, rfl, trivial⟩ ?_
  refine W.bseq ?_
  refine W.rseq ?_
  refine WL.p rfl rfl rfl (PV.mv rfl) ?_
  refine WL.p rfl rfl rfl (PV.as rfl) ?_
  refine WL.next [(3, _), (6, _), (5, _), (2, _), (0, _)] ⟨rfl, rfl, rfl, rfl, rfl, trivial⟩ ?_
  refine W.rseq ?_
  refine WL.p rfl rfl rfl (PV.mv rfl) ?_
  refine WL.p rfl rfl rfl (PV.mv rfl) ?_
  refine WL.p rfl rfl rfl (PV.atN ul9 rfl rfl (by omega)) ?_
  refine WL.p rfl rfl rfl (PV.lt rfl rfl) ?_
  refine WL.p rfl rfl rfl (PV.mv rfl) ?_
  refine WL.splitD (t := 13) rfl (fun h1 => ?_) (fun h1 => ?_)
  refine WL.no (dj := 13) rfl rfl rfl (decide_eq_true (by assumption)) rfl ?_
  refine WL.no (dj := 13) rfl rfl rfl (decide_eq_true (by assumption)) rfl ?_
  refine WL.no (dj := 13) rfl rfl rfl (decide_eq_true (by assumption)) rfl ?_
  refine WL.no (dj := 13) rfl rfl rfl (decide_eq_true (by assumption)) rfl ?_
  refine WL.p rfl rfl rfl (PV.pickT rfl (decide_eq_true (by assumption)) rfl) ?_
  refine WL.p rfl rfl rfl (PV.mv rfl) ?_
  refine WL.yes (dj := 19) rfl rfl rfl rfl rfl rfl (OpD.fv (PV.fv (PV.mv rfl))) ?_
  refine WL.yes (dj := 19) rfl rfl rfl rfl rfl rfl (OpD.fv (PV.fv (PV.mv rfl))) ?_
  refine WL.yes (dj := 19) rfl rfl rfl rfl rfl rfl (OpD.fv (PV.fv (PV.atN ul9 rfl rfl (by omega)))) ?_
  refine WL.yes (dj := 19) rfl rfl rfl rfl rfl rfl (OpD.fv (PV.fv (PV.neI rfl rfl))) ?_
  refine WL.p rfl rfl rfl (PV.pickT rfl rfl rfl) ?_
  refine WL.next [(24, _), (6, _), (5, _), (2, _), (0, _)] ⟨rfl, rfl, rfl, rfl, rfl, trivial⟩ ?_
  refine W.condD rfl (fun h2 => ?_) (fun h2 => ?_)
  refine W.rseq ?_
  refine WL.p rfl rfl rfl (PV.as rfl) ?_
  refine WL.next [(2, _), (6, _), (5, _), (0, _)] ⟨rfl, rfl, rfl, rfl, trivial⟩ ?_
  refine W.ret ?_
  refine K.retB ?_
  refine K.retT ?_
  refine K.retT ?_
  refine K.retB ?_
  refine K.retT ?_
  rotate_left
  refine W.skip ?_
  refine K.out ?_
  refine K.next [(6, _), (5, _), (2, _), (0, _)] ⟨rfl, rfl, rfl, rfl, trivial⟩ ?_
  refine W.region ?_
  refine WL.p rfl rfl rfl (PV.add64 rfl rfl (by omega)) ?_
  refine WL.p rfl rfl rfl (PV.mv rfl) ?_
  refine WL.nil ?_
  rotate_left
  refine WL.yes (dj := 13) rfl rfl rfl (decide_eq_false (by assumption)) rfl rfl (OpD.fv (PV.fv (PV.mv rfl))) ?_
  refine WL.yes (dj := 13) rfl rfl rfl (decide_eq_false (by assumption)) rfl rfl (OpD.fv (PV.fv (PV.mv rfl))) ?_
  refine WL.yes (dj := 13) rfl rfl rfl (decide_eq_false (by assumption)) rfl rfl (OpD.fv (PV.fv (PV.atN ul9 rfl rfl (by omega)))) ?_
  refine WL.yes (dj := 13) rfl rfl rfl (decide_eq_false (by assumption)) rfl rfl (OpD.fv (PV.fv (PV.gt rfl rfl))) ?_
  refine WL.p rfl rfl rfl (PV.pickF rfl (decide_eq_false (by assumption)) rfl) ?_
  refine WL.p rfl rfl rfl (PV.mv rfl) ?_
  refine WL.splitD (t := 19) rfl (fun h3 => ?_) (fun h3 => ?_)
  refine WL.yes (dj := 19) rfl rfl rfl (decide_eq_true (by assumption)) rfl rfl (OpD.fv (PV.fv (PV.mv rfl))) ?_
  refine WL.yes (dj := 19) rfl rfl rfl (decide_eq_true (by assumption)) rfl rfl (OpD.fv (PV.fv (PV.mv rfl))) ?_
  refine WL.yes (dj := 19) rfl rfl rfl (decide_eq_true (by assumption)) rfl rfl (OpD.fv (PV.fv (PV.atN ul9 rfl rfl (by omega)))) ?_
  refine WL.yes (dj := 19) rfl rfl rfl (decide_eq_true (by assumption)) rfl rfl (OpD.fv (PV.fv (PV.neI rfl rfl))) ?_
  refine WL.p rfl rfl rfl (PV.pickT rfl (decide_eq_true (by assumption)) rfl) ?_
  refine WL.next [(24, _), (6, _), (5, _), (2, _), (0, _)] ⟨rfl, rfl, rfl, rfl, rfl, trivial⟩ ?_
  refine W.condD rfl (fun h4 => ?_) (fun h4 => ?_)
  refine W.rseq ?_
  refine WL.p rfl rfl rfl (PV.as rfl) ?_
  refine WL.next [(2, _), (6, _), (5, _), (0, _)] ⟨rfl, rfl, rfl, rfl, trivial⟩ ?_
  refine W.ret ?_
  refine K.retB ?_
  refine K.retT ?_
  refine K.retT ?_
  refine K.retB ?_
  refine K.retT ?_
  rotate_left
  refine W.skip ?_
  refine K.out ?_
  refine K.next [(6, _), (5, _), (2, _), (0, _)] ⟨rfl, rfl, rfl, rfl, trivial⟩ ?_
  refine W.region ?_
  refine WL.p rfl rfl rfl (PV.add64 rfl rfl (by omega)) ?_
  refine WL.p rfl rfl rfl (PV.mv rfl) ?_
  refine WL.nil ?_
  rotate_left
  refine WL.no (dj := 19) rfl rfl rfl (decide_eq_false (by assumption)) rfl ?_
  refine WL.no (dj := 19) rfl rfl rfl (decide_eq_false (by assumption)) rfl ?_
  refine WL.no (dj := 19) rfl rfl rfl (decide_eq_false (by assumption)) rfl ?_
  refine WL.no (dj := 19) rfl rfl rfl (decide_eq_false (by assumption)) rfl ?_
  refine WL.p rfl rfl rfl (PV.pickF rfl (decide_eq_false (by assumption)) rfl) ?_
  refine WL.next [(24, _), (6, _), (5, _), (2, _), (0, _)] ⟨rfl, rfl, rfl, rfl, rfl, trivial⟩ ?_
  refine W.cF rfl ?_
  refine W.skip ?_
  refine K.out ?_
  refine K.next [(6, _), (5, _), (2, _), (0, _)] ⟨rfl, rfl, rfl, rfl, trivial⟩ ?_
  refine W.region ?_
  refine WL.p rfl rfl rfl (PV.add64 rfl rfl (by omega)) ?_
  refine WL.p rfl rfl rfl (PV.mv rfl) ?_
  refine WL.nil ?_
  rotate_left
  refine W.exit ?_
  refine K.exitT ?_
  refine K.exitT ?_
  refine K.exit ?_
  refine K.next [(2, _), (0, _)] ⟨rfl, rfl, trivial⟩ ?_
  refine W.rseq ?_
  refine WL.p rfl rfl rfl (PV.mv rfl) ?_
  refine WL.p rfl rfl rfl (PV.neS rfl rfl) ?_
  refine WL.p rfl rfl rfl (PV.mv rfl) ?_
  refine WL.splitD (t := 28) rfl (fun h5 => ?_) (fun h5 => ?_)
  refine WL.yes (dj := 28) rfl rfl rfl (decide_eq_true (by assumption)) rfl rfl (OpD.fv (PV.fv (PV.mv rfl))) ?_
  refine WL.yes (dj := 28) rfl rfl rfl (decide_eq_true (by assumption)) rfl rfl (OpD.fv (PV.fv (PV.lenS ul9 rfl rfl))) ?_
  refine WL.yes (dj := 28) rfl rfl rfl (decide_eq_true (by assumption)) rfl rfl (OpD.fv (PV.fv (PV.le rfl rfl))) ?_
  refine WL.p rfl rfl rfl (PV.pickT rfl (decide_eq_true (by assumption)) rfl) ?_
  refine WL.p rfl rfl rfl (PV.as rfl) ?_
  refine WL.next [(2, _)] ⟨rfl, trivial⟩ ?_
  refine W.ret ?_
  rotate_left
  refine WL.no (dj := 28) rfl rfl rfl (decide_eq_false (by assumption)) rfl ?_
  refine WL.no (dj := 28) rfl rfl rfl (decide_eq_false (by assumption)) rfl ?_
  refine WL.no (dj := 28) rfl rfl rfl (decide_eq_false (by assumption)) rfl ?_
  refine WL.p rfl rfl rfl (PV.pickF rfl (decide_eq_false (by assumption)) rfl) ?_
  refine WL.p rfl rfl rfl (PV.as rfl) ?_
  refine WL.next [(2, _)] ⟨rfl, trivial⟩ ?_
  refine W.ret ?_
  rotate_left
  · refine K.fin (vs := [_]) () ⟨rfl, trivial⟩ ?_ (Ent.refl _)
    simp [resVal, dname, all_false_at (p := okc) (s := s) (k := k) (by omega) (by simp [okc]; omega)]
  · exact K.againP (k + 1) ⟨by omega, take_all_succ (by omega) ha (by simp [okc]; omega)⟩ (by omega) ⟨rfl, rfl, rfl, rfl, trivial⟩ (Ent.refl _)
  · refine K.fin (vs := [_]) () ⟨rfl, trivial⟩ ?_ (Ent.refl _)
    simp [resVal, dname, all_false_at (p := okc) (s := s) (k := k) (by omega) (by simp [okc]; omega)]
  · exact K.againP (k + 1) ⟨by omega, take_all_succ (by omega) ha (by simp [okc]; omega)⟩ (by omega) ⟨rfl, rfl, rfl, rfl, trivial⟩ (Ent.refl _)
  · exact K.againP (k + 1) ⟨by omega, take_all_succ (by omega) ha (by simp [okc]; omega)⟩ (by omega) ⟨rfl, rfl, rfl, rfl, trivial⟩ (Ent.refl _)
  · refine K.fin (vs := [_]) () ⟨rfl, trivial⟩ ?_ (Ent.refl _)
    have := all_of_take (by omega) ha
    simp [resVal, dname, this]; rw [Bool.eq_iff_iff]; simp [h5]; omega
  · refine K.fin (vs := [_]) () ⟨rfl, trivial⟩ ?_ (Ent.refl _)
    simp [resVal, dname]; simp at h5; simp [h5]
end Go.Sl
/-! Sums. -/
namespace Go.Sl
open Go Go.Proofs
set_option maxRecDepth 20000
/-- One bit of a sum. -/
def cbit (n : Int) : Int :=
  if IntKind.u32.wrap (BitVec.ofInt IntKind.u32.bits n &&& BitVec.ofInt IntKind.u32.bits 1).toNat = 1 then
    IntKind.u32.wrap (BitVec.ofInt IntKind.u32.bits (n.fdiv (2 ^ min (Int.toNat 1) IntKind.u32.bits)) ^^^ BitVec.ofInt IntKind.u32.bits 3988292384).toNat
  else n.fdiv (2 ^ min (Int.toNat 1) IntKind.u32.bits)
def cbits : Nat → Int → Int
  | 0, n => n
  | k + 1, n => cbit (cbits k n)
def cbyte (n : Int) (b : UInt8) : Int := cbits 8 (IntKind.u32.wrap (BitVec.ofInt IntKind.u32.bits n ^^^ BitVec.ofInt IntKind.u32.bits (IntKind.u32.wrap b.toNat)).toNat)
def csum (bs : Bytes) : Int := bs.foldl cbyte 4294967295
def crc (bs : Bytes) : Int := IntKind.u32.wrap (BitVec.ofInt IntKind.u32.bits (if IntKind.u32.signed then -1 else IntKind.u32.max) ^^^ BitVec.ofInt IntKind.u32.bits (csum bs)).toNat
theorem c322 {p : SP} {bs : Bytes} (hl : bs.length ≤ 2 ^ 50) : Spec P 134 [p.v bs.length] [sl Kb p bs] (fun _ : Unit => .int .u32 (crc bs)) (fun _ => [sl Kb p bs]) := by
  refine Spec.intro Tryz.func134 rfl rfl rfl fun F => ?_
  refine W.fact (sl_fact 0 rfl) fun hp => ?_
  refine W.rseq ?_
  refine WL.p rfl rfl rfl (PV.as rfl) ?_
  refine WL.next [(2, _), (0, _)] ⟨rfl, rfl, trivial⟩ ?_
  refine W.rseq ?_
  refine WL.p rfl rfl rfl (PV.as rfl) ?_
  refine WL.next [(3, _), (2, _), (0, _)] ⟨rfl, rfl, rfl, trivial⟩ ?_
  refine W.seq ?_
  refine W.rseq ?_
  refine WL.p rfl rfl rfl (PV.mv rfl) ?_
  refine WL.p rfl rfl rfl (PV.lenL ul62 rfl rfl) ?_
  refine WL.p rfl rfl rfl (PV.mv rfl) ?_
  refine WL.next [(9, _), (8, _), (7, _), (3, _), (2, _)] ⟨rfl, rfl, rfl, rfl, rfl, trivial⟩ ?_
  refine W.block ?_
  rotate_left
  refine W.loopP (X := Nat) (fun k => k ≤ bs.length) (fun k => [(9, .int .i64 k), (8, .int .i64 bs.length), (7, p.v bs.length), (3, .int .u32 (csum (bs.take k)))])
    (fun _ => sl Kb p bs :: F) (fun k => bs.length - k) 0 (Nat.zero_le _) ⟨rfl, rfl, rfl, rfl, trivial⟩ (Ent.refl _) fun k hk => ?_
  refine W.rseq ?_
  refine WL.p rfl rfl rfl (PV.lt rfl rfl) ?_
  refine WL.next [(10, _), (9, _), (8, _), (7, _), (3, _)] ⟨rfl, rfl, rfl, rfl, rfl, trivial⟩ ?_
  refine W.seq ?_
  refine W.condD rfl (fun h0 => ?_) (fun h0 => ?_)
  refine W.skip ?_
  refine K.next [(9, _), (8, _), (7, _), (3, _)] ⟨rfl, rfl, rfl, rfl, trivial⟩ ?_
  refine W.bseq ?_
  refine W.rseq ?_
  refine WL.p rfl rfl rfl (PV.ixN (by assumption) ul62 sz5 rfl rfl (by omega)) ?_
  refine WL.f rfl rfl rfl (FV.ld (LdD.sl1B 0 sc5 rfl rfl rfl (by omega))) ?_
  refine WL.p rfl rfl rfl (PV.as rfl) ?_
  refine WL.next [(5, _), (9, _), (8, _), (7, _), (3, _)] ⟨rfl, rfl, rfl, rfl, rfl, trivial⟩ ?_
  refine W.rseq ?_
  refine WL.p rfl rfl rfl (PV.mv rfl) ?_
  refine WL.p rfl rfl rfl (PV.mv rfl) ?_
  refine WL.p rfl rfl rfl (PV.cvI ul370 us5 rfl) ?_
  refine WL.p rfl rfl rfl (PV.xor rfl rfl) ?_
  refine WL.p rfl rfl rfl (PV.as rfl) ?_
  refine WL.next [(3, _), (9, _), (8, _), (7, _)] ⟨rfl, rfl, rfl, rfl, trivial⟩ ?_
  refine W.rseq ?_
  refine WL.p rfl rfl rfl (PV.mv rfl) ?_
  refine WL.next [(17, _), (3, _), (9, _), (8, _), (7, _)] ⟨rfl, rfl, rfl, rfl, rfl, trivial⟩ ?_
  refine W.block ?_
  rotate_left
  refine W.exit ?_
  refine K.exitT ?_
  refine K.exitT ?_
  refine K.exit ?_
  refine K.next [(3, _)] ⟨rfl, trivial⟩ ?_
  refine W.rseq ?_
  refine WL.p rfl rfl rfl (PV.mv rfl) ?_
  refine WL.p rfl rfl rfl (PV.cpl rfl) ?_
  refine WL.p rfl rfl rfl (PV.as rfl) ?_
  refine WL.next [(2, _)] ⟨rfl, trivial⟩ ?_
  refine W.ret ?_
  rotate_left
  · obtain ⟨n0, hn0⟩ : ∃ n0, IntKind.u32.wrap (BitVec.ofInt IntKind.u32.bits (csum (bs.take k)) ^^^ BitVec.ofInt IntKind.u32.bits (IntKind.u32.wrap (bs[k]).toNat)).toNat = n0 := ⟨_, rfl⟩
    rw [hn0]
    refine W.loopP (X := Nat) (fun j => j ≤ 8) (fun j => [(17, .int .i64 j), (9, .int .i64 k), (8, .int .i64 bs.length), (7, p.v bs.length), (3, .int .u32 (cbits j n0))])
      (fun _ => sl Kb p bs :: F) (fun j => 8 - j) 0 (Nat.zero_le _) ⟨rfl, rfl, rfl, rfl, rfl, trivial⟩ (Ent.refl _) fun j hj => ?_
    refine W.rseq ?_
    refine WL.p rfl rfl rfl (PV.lt rfl rfl) ?_
    refine WL.next [(18, _), (17, _), (9, _), (8, _), (7, _), (3, _)] ⟨rfl, rfl, rfl, rfl, rfl, rfl, trivial⟩ ?_
    refine W.seq ?_
    refine W.condD rfl (fun h0 => ?_) (fun h0 => ?_)
    refine W.skip ?_
    refine K.next [(17, _), (9, _), (8, _), (7, _), (3, _)] ⟨rfl, rfl, rfl, rfl, rfl, trivial⟩ ?_
    refine W.bseq ?_
    refine W.rseq ?_
    refine WL.p rfl rfl rfl (PV.mv rfl) ?_
    refine WL.p rfl rfl rfl (PV.and rfl rfl) ?_
    refine WL.p rfl rfl rfl (PV.eqI rfl rfl) ?_
    refine WL.p rfl rfl rfl (PV.as rfl) ?_
    refine WL.next [(6, _), (17, _), (9, _), (8, _), (7, _), (3, _)] ⟨rfl, rfl, rfl, rfl, rfl, rfl, trivial⟩ ?_
    refine W.rseq ?_
    refine WL.p rfl rfl rfl (PV.mv rfl) ?_
    refine WL.p rfl rfl rfl (PV.shr rfl rfl (by omega)) ?_
    refine WL.p rfl rfl rfl (PV.as rfl) ?_
    refine WL.next [(3, _), (6, _), (17, _), (9, _), (8, _), (7, _)] ⟨rfl, rfl, rfl, rfl, rfl, rfl, trivial⟩ ?_
    refine W.rseq ?_
    refine WL.p rfl rfl rfl (PV.mv rfl) ?_
    refine WL.next [(24, _), (3, _), (17, _), (9, _), (8, _), (7, _)] ⟨rfl, rfl, rfl, rfl, rfl, rfl, trivial⟩ ?_
    refine W.condD rfl (fun h1 => ?_) (fun h1 => ?_)
    refine W.region ?_
    refine WL.p rfl rfl rfl (PV.mv rfl) ?_
    refine WL.p rfl rfl rfl (PV.xor rfl rfl) ?_
    refine WL.p rfl rfl rfl (PV.as rfl) ?_
    refine WL.nil ?_
    refine K.out ?_
    refine K.next [(3, _), (17, _), (9, _), (8, _), (7, _)] ⟨rfl, rfl, rfl, rfl, rfl, trivial⟩ ?_
    refine W.region ?_
    refine WL.p rfl rfl rfl (PV.add64 rfl rfl (by omega)) ?_
    refine WL.p rfl rfl rfl (PV.mv rfl) ?_
    refine WL.nil ?_
    rotate_left
    refine W.skip ?_
    refine K.out ?_
    refine K.next [(3, _), (17, _), (9, _), (8, _), (7, _)] ⟨rfl, rfl, rfl, rfl, rfl, trivial⟩ ?_
    refine W.region ?_
    refine WL.p rfl rfl rfl (PV.add64 rfl rfl (by omega)) ?_
    refine WL.p rfl rfl rfl (PV.mv rfl) ?_
    refine WL.nil ?_
    rotate_left
    refine W.exit ?_
    refine K.exitT ?_
    refine K.exitT ?_
    refine K.exit ?_
    refine K.out ?_
    refine K.next [(9, _), (8, _), (7, _), (3, _)] ⟨rfl, rfl, rfl, rfl, trivial⟩ ?_
    refine W.region ?_
    refine WL.p rfl rfl rfl (PV.add64 rfl rfl (by omega)) ?_
    refine WL.p rfl rfl rfl (PV.mv rfl) ?_
    refine WL.nil ?_
    rotate_left
    · have e : cbits (j + 1) n0 = IntKind.u32.wrap (BitVec.ofInt IntKind.u32.bits ((cbits j n0).fdiv (2 ^ min (Int.toNat 1) IntKind.u32.bits)) ^^^ BitVec.ofInt IntKind.u32.bits 3988292384).toNat := by
        show cbit (cbits j n0) = _
        unfold cbit; rw [if_pos h1]
      refine K.againP (j + 1) (by omega) (by omega) ⟨rfl, rfl, rfl, rfl, by rw [e]; rfl, trivial⟩ (Ent.refl _)
    · have e : cbits (j + 1) n0 = (cbits j n0).fdiv (2 ^ min (Int.toNat 1) IntKind.u32.bits) := by
        show cbit (cbits j n0) = _
        unfold cbit; rw [if_neg h1]
      refine K.againP (j + 1) (by omega) (by omega) ⟨rfl, rfl, rfl, rfl, by rw [e]; rfl, trivial⟩ (Ent.refl _)
    · have hj8 : j = 8 := by omega
      have e : csum (bs.take (k + 1)) = cbits j n0 := by
        unfold csum at hn0 ⊢
        rw [List.take_succ_eq_append_getElem (by omega), List.foldl_append, hj8, ← hn0]; rfl
      refine K.againP (k + 1) (by omega) (by omega) ⟨rfl, rfl, rfl, by rw [e]; rfl, trivial⟩ (Ent.refl _)
  · have hk' : bs.take k = bs := List.take_of_length_le (by omega)
    refine K.fin (vs := [_]) () ⟨rfl, trivial⟩ ?_ (Ent.refl _)
    show Value.int _ _ = Value.int _ _
    rw [hk']; rfl
end Go.Sl
namespace Go.Sl
open Go Go.Proofs
set_option maxRecDepth 20000
/-- Four bytes of a number, the lowest first. -/
def le4 (n : Int) : Bytes := [b8 n, b8 (n.fdiv (2 ^ min (Int.toNat 8) IntKind.u32.bits)), b8 (n.fdiv (2 ^ min (Int.toNat 16) IntKind.u32.bits)), b8 (n.fdiv (2 ^ min (Int.toNat 24) IntKind.u32.bits))]
def seal4 (bs : Bytes) : Bytes := bs ++ le4 (crc bs)
theorem c263 {p : SP} {bs : Bytes} (hl : bs.length ≤ 2 ^ 46 - 8) : Spec P 133 [p.v bs.length] [sl Kb p bs] (fun q : SP => q.v (seal4 bs).length) (fun q => [sl Kb q (seal4 bs), tl 1 q (seal4 bs).length, sl Kb p bs]) := by
  refine Spec.intro Tryz.func133 rfl rfl rfl fun F => ?_
  refine W.rseq ?_
  refine WL.p rfl rfl rfl (PV.as rfl) ?_
  refine WL.next [(2, _), (0, _)] ⟨rfl, rfl, trivial⟩ ?_
  refine W.rseq ?_
  refine WL.p rfl rfl rfl (PV.mv rfl) ?_
  refine WL.putX rfl rfl rfl (OpX.call cb322 (c322 (by first | omega | (simp only [List.length_append, List.length_cons, List.length_nil, List.length_take]; omega) | assumption)) rfl (.cons (i := 0) rfl .nil)) fun x5 => ?_
  refine WL.nm (H' := _ :: _) rfl ?_
  refine WL.p rfl rfl rfl (PV.as rfl) ?_
  refine WL.next [(3, _), (2, _), (0, _)] ⟨rfl, rfl, rfl, trivial⟩ ?_
  refine W.rseq ?_
  refine WL.p rfl rfl rfl (PV.mv rfl) ?_
  refine WL.putX rfl rfl rfl (OpX.app0 slt62 ni62 rfl rfl (SrcV.atSl 0 rfl) (by first | omega | (simp only [List.length_append, List.length_cons, List.length_nil, List.length_take]; omega) | assumption) (by first | omega | (simp only [List.length_append, List.length_cons, List.length_nil, List.length_take]; omega) | assumption)) fun x7 => ?_
  refine WL.nm (H' := _ :: _ :: _ :: _) rfl ?_
  refine WL.p rfl rfl rfl (PV.mv rfl) ?_
  refine WL.p rfl rfl rfl (PV.cv8 ul5 us370 rfl) ?_
  refine WL.p rfl rfl rfl (PV.mv rfl) ?_
  refine WL.p rfl rfl rfl (PV.shr rfl rfl (by omega)) ?_
  refine WL.p rfl rfl rfl (PV.cv8 ul5 us370 rfl) ?_
  refine WL.p rfl rfl rfl (PV.mv rfl) ?_
  refine WL.p rfl rfl rfl (PV.shr rfl rfl (by omega)) ?_
  refine WL.p rfl rfl rfl (PV.cv8 ul5 us370 rfl) ?_
  refine WL.p rfl rfl rfl (PV.mv rfl) ?_
  refine WL.p rfl rfl rfl (PV.shr rfl rfl (by omega)) ?_
  refine WL.p rfl rfl rfl (PV.cv8 ul5 us370 rfl) ?_
  refine WL.putX rfl rfl rfl (OpX.rowS (K := Kb) [_, _, _, _] [(), (), (), ()] slt62 ⟨_, zr5, rfl⟩ rfl rfl rfl rfl rfl rfl (fun _ h => by first | (simp [innerL, Kb, Kint, Kstr, Kbool] at h; done) | (simp [innerL, Ksl, Kwr, Kmsg] at h; rcases h with h | h | h <;> subst h <;> simp [Sl.rem]) | (simp [innerL, Ksl, Kwr] at h; subst h; simp [Sl.rem]))) fun x19 => ?_
  refine WL.nm (H' := _ :: _ :: _ :: _ :: _ :: _) rfl ?_
  refine WL.putX rfl rfl rfl (OpX.app 3 2 slt62 ni62 rfl rfl rfl rfl (SrcV.atSl 0 rfl) (by first | omega | (simp only [List.length_append, List.length_cons, List.length_nil, List.length_take]; omega) | assumption) (by first | omega | (simp only [List.length_append, List.length_cons, List.length_nil, List.length_take]; omega) | assumption)) fun x20 => ?_
  refine WL.nm (H' := _ :: _ :: _ :: _ :: _ :: _ :: _) rfl ?_
  refine WL.p rfl rfl rfl (PV.as rfl) ?_
  refine WL.next [(2, _)] ⟨rfl, trivial⟩ ?_
  refine W.ret ?_
  rotate_left
  refine K.fin (vs := [_]) x20 ⟨rfl, trivial⟩ rfl ?_
  refine Ent.keep 0 rfl (sl_pers _ _ _) ?_
  refine Ent.take 1 rfl ?_
  refine Ent.keep 4 rfl (sl_pers _ _ _) ?_
  exact Ent.tail (Ent.tail (Ent.tail (Ent.tail (Ent.tail (Ent.refl _)))))
end Go.Sl
/-! Logs: frames, names. -/
namespace Go.Sl
open Go Go.Proofs
set_option maxRecDepth 20000
/-- Four bytes of a length, the highest first. -/
def be4 (n : Int) : Bytes := [b8 (n.fdiv (2 ^ min (Int.toNat 24) IntKind.i64.bits)), b8 (n.fdiv (2 ^ min (Int.toNat 16) IntKind.i64.bits)), b8 (n.fdiv (2 ^ min (Int.toNat 8) IntKind.i64.bits)), b8 n]
def frame (bs : Bytes) : Bytes := seal4 (be4 bs.length ++ bs)
theorem c192 {p : SP} {bs : Bytes} (hl : bs.length ≤ 2 ^ 46 - 16) : Spec P 105 [p.v bs.length] [sl Kb p bs] (fun q : SP => q.v (frame bs).length) (fun q => [sl Kb q (frame bs), tl 1 q (frame bs).length, sl Kb p bs]) := by
  refine Spec.intro Tryz.func105 rfl rfl rfl fun F => ?_
  have hb4 : ∀ n, (be4 n).length = 4 := fun _ => rfl
  refine W.rseq ?_
  refine WL.p rfl rfl rfl (PV.as rfl) ?_
  refine WL.next [(2, _), (0, _)] ⟨rfl, rfl, trivial⟩ ?_
  refine W.rseq ?_
  refine WL.p rfl rfl rfl (PV.mv rfl) ?_
  refine WL.p rfl rfl rfl (PV.lenL ul62 rfl rfl) ?_
  refine WL.p rfl rfl rfl (PV.as rfl) ?_
  refine WL.next [(3, _), (2, _), (0, _)] ⟨rfl, rfl, rfl, trivial⟩ ?_
  refine W.rseq ?_
  refine WL.p rfl rfl rfl (PV.mv rfl) ?_
  refine WL.p rfl rfl rfl (PV.shr rfl rfl (by omega)) ?_
  refine WL.p rfl rfl rfl (PV.cv8 ul5 us3 rfl) ?_
  refine WL.p rfl rfl rfl (PV.mv rfl) ?_
  refine WL.p rfl rfl rfl (PV.shr rfl rfl (by omega)) ?_
  refine WL.p rfl rfl rfl (PV.cv8 ul5 us3 rfl) ?_
  refine WL.p rfl rfl rfl (PV.mv rfl) ?_
  refine WL.p rfl rfl rfl (PV.shr rfl rfl (by omega)) ?_
  refine WL.p rfl rfl rfl (PV.cv8 ul5 us3 rfl) ?_
  refine WL.p rfl rfl rfl (PV.mv rfl) ?_
  refine WL.p rfl rfl rfl (PV.cv8 ul5 us3 rfl) ?_
  refine WL.putX rfl rfl rfl (OpX.rowS (K := Kb) [_, _, _, _] [(), (), (), ()] slt62 ⟨_, zr5, rfl⟩ rfl rfl rfl rfl rfl rfl (fun _ h => by first | (simp [innerL, Kb, Kint, Kstr, Kbool] at h; done) | (simp [innerL, Ksl, Kwr, Kmsg] at h; rcases h with h | h | h <;> subst h <;> simp [Sl.rem]) | (simp [innerL, Ksl, Kwr] at h; subst h; simp [Sl.rem]))) fun x17 => ?_
  refine WL.nm (H' := _ :: _ :: _ :: _) rfl ?_
  refine WL.p rfl rfl rfl (PV.mv rfl) ?_
  refine WL.putX rfl rfl rfl (OpX.app 1 0 slt62 ni62 rfl rfl rfl rfl (SrcV.atSl 1 rfl) (by first | omega | (simp only [List.length_append, List.length_cons, List.length_nil, List.length_take]; omega) | assumption) (by first | omega | (simp only [List.length_append, List.length_cons, List.length_nil, List.length_take]; omega) | assumption)) fun x19 => ?_
  refine WL.nm (H' := _ :: _ :: _ :: _ :: _) rfl ?_
  refine WL.putX rfl rfl rfl (OpX.call cb263 (c263 (by first | omega | (simp only [List.length_append, List.length_cons, List.length_nil, List.length_take]; omega) | assumption)) rfl (.cons (i := 0) rfl .nil)) fun x20 => ?_
  refine WL.nm (H' := _ :: _ :: _ :: _ :: _ :: _ :: _) rfl ?_
  refine WL.p rfl rfl rfl (PV.as rfl) ?_
  refine WL.next [(2, _)] ⟨rfl, trivial⟩ ?_
  refine W.ret ?_
  rotate_left
  refine K.fin (vs := [_]) x20 ⟨rfl, trivial⟩ rfl ?_
  refine Ent.keep 0 rfl (sl_pers _ _ _) ?_
  refine Ent.take 1 rfl ?_
  refine Ent.keep 4 rfl (sl_pers _ _ _) ?_
  exact Ent.tail (Ent.tail (Ent.tail (Ent.tail (Ent.tail (Ent.refl _)))))
theorem c192n : Spec P 105 [.slice none 0 0] [] (fun q : SP => q.v (frame []).length) (fun q => [sl Kb q (frame []), tl 1 q (frame []).length]) := by
  refine Spec.mono (c192 (p := SP.nil) (bs := []) (by simp)) (Ent.nil_sl Kb) fun x => ⟨x, rfl, ?_⟩
  exact Ent.take 0 rfl (Ent.take 0 rfl Ent.dropAll)
def okl (c : UInt8) : Bool := !(c.toNat < 97 || 122 < c.toNat)
def lname (s : Bytes) : Bool := s.all okl && (s != [] && decide (s.length ≤ 20))
theorem c174 {s : Bytes} (hs : s.length < 2^62) : Spec P 73 [str s] [] (fun (_ : Unit) => .bool (lname s)) (fun _ => []) := by
  refine Spec.intro Tryz.func73 rfl rfl rfl fun F => ?_
  refine W.rseq ?_
  refine WL.p rfl rfl rfl (PV.as rfl) ?_
  refine WL.next [(2, _), (0, _)] ⟨rfl, rfl, trivial⟩ ?_
  refine W.seq ?_
  refine W.rseq ?_
  refine WL.p rfl rfl rfl (PV.mv rfl) ?_
  refine WL.p rfl rfl rfl (PV.lenS ul9 rfl rfl) ?_
  refine WL.p rfl rfl rfl (PV.mv rfl) ?_
  refine WL.next [(6, _), (5, _), (2, _), (0, _)] ⟨rfl, rfl, rfl, rfl, trivial⟩ ?_
  refine W.block ?_
  rotate_left
  refine W.loopP (X := Nat) (fun k => k ≤ s.length ∧ (s.take k).all okl = true) (fun k => [(6, .int .i64 k), (5, .int .i64 s.length), (2, .bool false), (0, str s)]) (fun _ => F) (fun k => s.length - k) 0 (by simp) ⟨rfl, rfl, rfl, rfl, trivial⟩ (Ent.refl _) fun k hI => ?_
  have hk := hI.1; have ha := hI.2; clear hI
  refine W.rseq ?_
  refine WL.p rfl rfl rfl (PV.lt rfl rfl) ?_
  refine WL.next [(7, _), (6, _), (5, _), (2, _), (0, _)] ⟨rfl, rfl, rfl, rfl, rfl, trivial⟩ ?_
  refine W.seq ?_
  refine W.condD rfl (fun h0 => ?_) (fun h0 => ?_)
  refine W.skip ?_
  refine K.next [(6, _), (5, _), (2, _), (0, _)] ⟨rfl, rfl, rfl, rfl, trivial⟩ ?_
  refine W.bseq ?_
  refine W.rseq ?_
  refine WL.p rfl rfl rfl (PV.mv rfl) ?_
  refine WL.p rfl rfl rfl (PV.as rfl) ?_
  refine WL.next [(3, _), (6, _), (5, _), (2, _), (0, _)] ⟨rfl, rfl, rfl, rfl, rfl, trivial⟩ ?_
  refine W.rseq ?_
  refine WL.p rfl rfl rfl (PV.mv rfl) ?_
  refine WL.p rfl rfl rfl (PV.mv rfl) ?_
  refine WL.p rfl rfl rfl (PV.atN ul9 rfl rfl (by omega)) ?_
  refine WL.p rfl rfl rfl (PV.lt rfl rfl) ?_
  refine WL.p rfl rfl rfl (PV.mv rfl) ?_
  refine WL.splitD (t := 13) rfl (fun h1 => ?_) (fun h1 => ?_)
  refine WL.no (dj := 13) rfl rfl rfl (decide_eq_true (by assumption)) rfl ?_
  refine WL.no (dj := 13) rfl rfl rfl (decide_eq_true (by assumption)) rfl ?_
  refine WL.no (dj := 13) rfl rfl rfl (decide_eq_true (by assumption)) rfl ?_
  refine WL.no (dj := 13) rfl rfl rfl (decide_eq_true (by assumption)) rfl ?_
  refine WL.p rfl rfl rfl (PV.pickT rfl (decide_eq_true (by assumption)) rfl) ?_
  refine WL.next [(18, _), (6, _), (5, _), (2, _), (0, _)] ⟨rfl, rfl, rfl, rfl, rfl, trivial⟩ ?_
  refine W.cT rfl ?_
  refine W.rseq ?_
  refine WL.p rfl rfl rfl (PV.as rfl) ?_
  refine WL.next [(2, _), (6, _), (5, _), (0, _)] ⟨rfl, rfl, rfl, rfl, trivial⟩ ?_
  refine W.ret ?_
  refine K.retB ?_
  refine K.retT ?_
  refine K.retT ?_
  refine K.retB ?_
  refine K.retT ?_
  rotate_left
  refine WL.yes (dj := 13) rfl rfl rfl (decide_eq_false (by assumption)) rfl rfl (OpD.fv (PV.fv (PV.mv rfl))) ?_
  refine WL.yes (dj := 13) rfl rfl rfl (decide_eq_false (by assumption)) rfl rfl (OpD.fv (PV.fv (PV.mv rfl))) ?_
  refine WL.yes (dj := 13) rfl rfl rfl (decide_eq_false (by assumption)) rfl rfl (OpD.fv (PV.fv (PV.atN ul9 rfl rfl (by omega)))) ?_
  refine WL.yes (dj := 13) rfl rfl rfl (decide_eq_false (by assumption)) rfl rfl (OpD.fv (PV.fv (PV.gt rfl rfl))) ?_
  refine WL.p rfl rfl rfl (PV.pickF rfl (decide_eq_false (by assumption)) rfl) ?_
  refine WL.next [(18, _), (6, _), (5, _), (2, _), (0, _)] ⟨rfl, rfl, rfl, rfl, rfl, trivial⟩ ?_
  refine W.condD rfl (fun h2 => ?_) (fun h2 => ?_)
  refine W.rseq ?_
  refine WL.p rfl rfl rfl (PV.as rfl) ?_
  refine WL.next [(2, _), (6, _), (5, _), (0, _)] ⟨rfl, rfl, rfl, rfl, trivial⟩ ?_
  refine W.ret ?_
  refine K.retB ?_
  refine K.retT ?_
  refine K.retT ?_
  refine K.retB ?_
  refine K.retT ?_
  rotate_left
  refine W.skip ?_
  refine K.out ?_
  refine K.next [(6, _), (5, _), (2, _), (0, _)] ⟨rfl, rfl, rfl, rfl, trivial⟩ ?_
  refine W.region ?_
  refine WL.p rfl rfl rfl (PV.add64 rfl rfl (by omega)) ?_
  refine WL.p rfl rfl rfl (PV.mv rfl) ?_
  refine WL.nil ?_
  rotate_left
  refine W.exit ?_
  refine K.exitT ?_
  refine K.exitT ?_
  refine K.exit ?_
  refine K.next [(2, _), (0, _)] ⟨rfl, rfl, trivial⟩ ?_
  refine W.rseq ?_
  refine WL.p rfl rfl rfl (PV.mv rfl) ?_
  refine WL.p rfl rfl rfl (PV.neS rfl rfl) ?_
  refine WL.p rfl rfl rfl (PV.mv rfl) ?_
  refine WL.splitD (t := 22) rfl (fun h3 => ?_) (fun h3 => ?_)
  refine WL.yes (dj := 22) rfl rfl rfl (decide_eq_true (by assumption)) rfl rfl (OpD.fv (PV.fv (PV.mv rfl))) ?_
  refine WL.yes (dj := 22) rfl rfl rfl (decide_eq_true (by assumption)) rfl rfl (OpD.fv (PV.fv (PV.lenS ul9 rfl rfl))) ?_
  refine WL.yes (dj := 22) rfl rfl rfl (decide_eq_true (by assumption)) rfl rfl (OpD.fv (PV.fv (PV.le rfl rfl))) ?_
  refine WL.p rfl rfl rfl (PV.pickT rfl (decide_eq_true (by assumption)) rfl) ?_
  refine WL.p rfl rfl rfl (PV.as rfl) ?_
  refine WL.next [(2, _)] ⟨rfl, trivial⟩ ?_
  refine W.ret ?_
  rotate_left
  refine WL.no (dj := 22) rfl rfl rfl (decide_eq_false (by assumption)) rfl ?_
  refine WL.no (dj := 22) rfl rfl rfl (decide_eq_false (by assumption)) rfl ?_
  refine WL.no (dj := 22) rfl rfl rfl (decide_eq_false (by assumption)) rfl ?_
  refine WL.p rfl rfl rfl (PV.pickF rfl (decide_eq_false (by assumption)) rfl) ?_
  refine WL.p rfl rfl rfl (PV.as rfl) ?_
  refine WL.next [(2, _)] ⟨rfl, trivial⟩ ?_
  refine W.ret ?_
  rotate_left
  · refine K.fin (vs := [_]) () ⟨rfl, trivial⟩ ?_ (Ent.refl _)
    simp [resVal, lname, all_false_at (p := okl) (s := s) (k := k) (by omega) (by simp [okl]; omega)]
  · refine K.fin (vs := [_]) () ⟨rfl, trivial⟩ ?_ (Ent.refl _)
    simp [resVal, lname, all_false_at (p := okl) (s := s) (k := k) (by omega) (by simp [okl]; omega)]
  · exact K.againP (k + 1) ⟨by omega, take_all_succ (by omega) ha (by simp [okl]; omega)⟩ (by omega) ⟨rfl, rfl, rfl, rfl, trivial⟩ (Ent.refl _)
  · refine K.fin (vs := [_]) () ⟨rfl, trivial⟩ ?_ (Ent.refl _)
    have := all_of_take (by omega) ha
    simp [resVal, lname, this]; rw [Bool.eq_iff_iff]; simp [h3]; omega
  · refine K.fin (vs := [_]) () ⟨rfl, trivial⟩ ?_ (Ent.refl _)
    simp [resVal, lname]; simp at h3; simp [h3]
end Go.Sl
/-! Lists of entries: which comes first does not matter. -/
namespace Go.Sl
variable {κ α : Type} [BEq κ] [LawfulBEq κ]
def Nk (m : List (κ × α)) : Prop := (m.map (·.1)).Nodup
theorem Nk.tail {x : κ × α} {m : List (κ × α)} (h : Nk (x :: m)) : Nk m := (List.nodup_cons.1 h).2
theorem mget_mem : ∀ {m : List (κ × α)} {k : κ} {a : α}, Nk m → (mget m k = some a ↔ (k, a) ∈ m)
  | [], k, a, _ => by simp [mget]
  | (k', b) :: m, k, a, h => by
    unfold mget
    by_cases e : (k' == k) = true
    · have e' := eq_of_beq e
      subst e'
      rw [if_pos e]
      constructor
      · intro h'; cases h'; simp
      · intro h'
        rcases List.mem_cons.1 h' with h' | h'
        · cases h'; rfl
        · exact ((List.nodup_cons.1 h).1 (List.mem_map_of_mem (f := (·.1)) h')).elim
    · rw [if_neg e, mget_mem h.tail]
      constructor
      · intro h'; simp [h']
      · intro h'
        rcases List.mem_cons.1 h' with h' | h'
        · cases h'; simp at e
        · exact h'
theorem Nk.perm {m m' : List (κ × α)} (h : Nk m) (hp : m.Perm m') : Nk m' := (List.Perm.nodup_iff (List.Perm.map (fun x : κ × α => x.1) hp)).1 h
theorem mget_perm {m m' : List (κ × α)} (hp : m.Perm m') (h : Nk m) (k : κ) : mget m k = mget m' k := by
  apply Option.ext
  intro a
  rw [mget_mem h, mget_mem (h.perm hp)]
  exact hp.mem_iff
theorem mget_none : ∀ {m : List (κ × α)} {k : κ}, mget m k = none ↔ k ∉ m.map (·.1)
  | [], k => by simp [mget]
  | (k', b) :: m, k => by
    unfold mget
    by_cases e : (k' == k) = true
    · have e' := eq_of_beq e
      subst e'
      simp
    · rw [if_neg e, mget_none]
      simp only [List.map_cons, List.mem_cons, not_or]
      constructor
      · intro h; exact ⟨fun h' => by subst h'; simp at e, h⟩
      · exact fun h => h.2
theorem mdel_filter : ∀ {m : List (κ × α)} (k : κ), Nk m → mdel m k = m.filter fun x => !(x.1 == k)
  | [], _, _ => rfl
  | (k', a) :: m, k, h => by
    unfold mdel
    by_cases e : (k' == k) = true
    · have e' := eq_of_beq e
      subst e'
      rw [if_pos e, List.filter_cons_of_neg (by simp)]
      refine (List.filter_eq_self.2 fun x hx => ?_).symm
      have : x.1 ≠ k' := fun e => (List.nodup_cons.1 h).1 (e ▸ List.mem_map_of_mem (f := (·.1)) hx)
      simpa using this
    · rw [if_neg e, List.filter_cons_of_pos (by simpa using e), mdel_filter k h.tail]
theorem mdel_perm {m m' : List (κ × α)} (hp : m.Perm m') (h : Nk m) (k : κ) : (mdel m k).Perm (mdel m' k) := by
  rw [mdel_filter k h, mdel_filter k (h.perm hp)]
  exact hp.filter _
theorem Nk.del {m : List (κ × α)} (h : Nk m) (k : κ) : Nk (mdel m k) := by
  rw [mdel_filter k h]
  exact (h.sublist ((List.filter_sublist).map _))
theorem mset_keys : ∀ (m : List (κ × α)) (k : κ) (a : α), (mset m k a).map (·.1) = if k ∈ m.map (·.1) then m.map (·.1) else m.map (·.1) ++ [k]
  | [], k, a => by simp [mset]
  | (k', b) :: m, k, a => by
    unfold mset
    by_cases e : (k' == k) = true
    · have e' := eq_of_beq e
      subst e'
      simp
    · have e' : k ≠ k' := fun h => by subst h; simp at e
      rw [if_neg e, List.map_cons, mset_keys m k a]
      by_cases hm : k ∈ m.map (·.1)
      · simp [hm, e']
      · simp only [if_neg hm, List.map_cons, List.mem_cons, e', false_or, List.cons_append]
theorem Nk.set {m : List (κ × α)} (h : Nk m) (k : κ) (a : α) : Nk (mset m k a) := by
  unfold Nk
  rw [mset_keys]
  split
  · exact h
  · rename_i hm
    exact List.nodup_append.2 ⟨h, by simp, fun x hx y hy => by simp at hy; subst hy; exact fun e => hm (e ▸ hx)⟩
theorem mget_set : ∀ {m : List (κ × α)} {k j : κ} {a : α}, mget (mset m k a) j = if (k == j) = true then some a else mget m j
  | [], k, j, a => by simp [mset, mget]
  | (k', b) :: m, k, j, a => by
    unfold mset
    by_cases e : (k' == k) = true
    · have e' := eq_of_beq e
      subst e'
      rw [if_pos e]
      simp only [mget]
      split <;> rfl
    · rw [if_neg e]
      simp only [mget]
      by_cases e2 : (k' == j) = true
      · have e2' := eq_of_beq e2
        subst e2'
        have : (k == k') = false := by
          cases hb : (k == k') with
          | false => rfl
          | true => have := eq_of_beq hb; subst this; simp at e
        simp [this]
      · rw [if_neg e2, mget_set, if_neg e2]
theorem mget_del {m : List (κ × α)} {k j : κ} (h : Nk m) : mget (mdel m k) j = if (k == j) = true then none else mget m j := by
  apply Option.ext
  intro a
  rw [mget_mem (h.del k), mdel_filter k h, List.mem_filter]
  by_cases e : (k == j) = true
  · have e' := eq_of_beq e
    subst e'
    simp
  · rw [if_neg e, mget_mem h]
    have : (j == k) = false := by
      cases hb : (j == k) with
      | false => rfl
      | true => have := eq_of_beq hb; subst this; simp at e
    simp [this]
/-- Two lists of entries that say the same are in some order the same. -/
theorem perm_of_get {m m' : List (κ × α)} (h : Nk m) (h' : Nk m') (hg : ∀ k, mget m k = mget m' k) : m.Perm m' := by
  have hn : ∀ {l : List (κ × α)}, Nk l → l.Nodup := fun {l} hl => by
    unfold Nk at hl
    rw [List.nodup_iff_pairwise_ne] at hl ⊢
    exact (List.pairwise_map.1 hl).imp fun hne e => hne (by rw [e])
  refine (List.perm_ext_iff_of_nodup (hn h) (hn h')).2 fun x => ?_
  have := hg x.1
  rw [← mget_mem h, ← mget_mem h', this]
theorem mset_perm {m m' : List (κ × α)} (hp : m.Perm m') (h : Nk m) (k : κ) (a : α) : (mset m k a).Perm (mset m' k a) :=
  perm_of_get (h.set k a) ((h.perm hp).set k a) fun j => by rw [mget_set, mget_set, mget_perm hp h]
end Go.Sl
namespace Go.Sl
open Go Go.Proofs
set_option maxRecDepth 20000
/-- bytes.Clone. -/
theorem c179 {p : SP} {xs : Bytes} (hx : xs.length ≤ 2 ^ 46) : Spec P 78 [p.v xs.length] [sl Kb p xs] (fun q : SP => q.v xs.length) (fun q => [sl Kb q xs, tl 1 q xs.length, sl Kb p xs]) := by
  refine Spec.intro Tryz.func78 rfl rfl rfl fun F => ?_
  refine W.fact (sl_fact 0 rfl) fun hp => ?_
  refine W.rseq ?_
  refine WL.p rfl rfl rfl (PV.as rfl) ?_
  refine WL.next [(2, _), (0, _)] ⟨rfl, rfl, trivial⟩ ?_
  refine W.seq ?_
  refine W.rseq ?_
  refine WL.p rfl rfl rfl (PV.mv rfl) ?_
  refine WL.p rfl rfl rfl (PV.eqV rfl rfl rfl (EqIs.s0 ul62)) ?_
  refine WL.next [(4, _), (2, _), (0, _)] ⟨rfl, rfl, rfl, trivial⟩ ?_
  refine W.cond rfl (fun h0 => ?_) (fun h0 => ?_)
  refine W.rseq ?_
  refine WL.p rfl rfl rfl (PV.as rfl) ?_
  refine WL.next [(2, _), (0, _)] ⟨rfl, rfl, trivial⟩ ?_
  refine W.ret ?_
  refine K.retT ?_
  rotate_left
  refine W.skip ?_
  refine K.next [(2, _), (0, _)] ⟨rfl, rfl, trivial⟩ ?_
  refine W.rseq ?_
  refine WL.putX rfl rfl rfl (OpX.row0 Kb slt62 rfl) fun x5 => ?_
  refine WL.nm (H' := _ :: _ :: _ :: _) rfl ?_
  refine WL.p rfl rfl rfl (PV.mv rfl) ?_
  refine WL.putX rfl rfl rfl (OpX.app 1 0 slt62 ni62 rfl rfl rfl rfl (SrcV.atSl 1 rfl) (by first | omega | (simp only [List.length_append, List.length_cons, List.length_nil, List.length_take]; omega) | assumption) (by first | omega | (simp only [List.length_append, List.length_cons, List.length_nil, List.length_take]; omega) | assumption)) fun x7 => ?_
  refine WL.nm (H' := _ :: _ :: _ :: _ :: _) rfl ?_
  refine WL.p rfl rfl rfl (PV.as rfl) ?_
  refine WL.next [(2, _)] ⟨rfl, trivial⟩ ?_
  refine W.ret ?_
  rotate_left
  · have h1 : p.a = none := by simpa using h0
    have h2 : xs = [] := by have := hp.2 h1; exact List.length_eq_zero_iff.1 (by omega)
    subst h2
    refine K.fin (vs := [_]) SP.nil ⟨rfl, trivial⟩ rfl ?_
    refine Ent.add (Ent.nil_sl _) (Ent.take 0 rfl ?_)
    refine Ent.add (Ent.nil_tl _) (Ent.take 0 rfl ?_)
    refine Ent.keep 0 rfl (sl_pers _ _ _) ?_
    exact Ent.tail (Ent.refl _)
  · refine K.fin (vs := [_]) x7 ⟨rfl, trivial⟩ rfl ?_
    refine Ent.keep 0 rfl (sl_pers _ _ _) ?_
    refine Ent.take 1 rfl ?_
    refine Ent.keep 2 rfl (sl_pers _ _ _) ?_
    exact Ent.tail (Ent.tail (Ent.tail (Ent.refl _)))
theorem c246h {g : Nat} {c1 c2 c3 c4 c5 : Value} {r : Nat} {m : List (Bytes × Bytes)} {s : Bytes} : Spec P 103 [.pointer (some ⟨g, 0, none⟩), str s] [pt g 0 [.map (some r), c1, c2, c3, c4, c5], mp kvS (Ksl Kb) r m] (fun _ : Unit => .bool (mget m s).isSome)
    (fun _ => [pt g 0 [.map (some r), c1, c2, c3, c4, c5], mp kvS (Ksl Kb) r m]) := by
  refine Spec.intro Tryz.func103 rfl rfl rfl fun F => ?_
  cases hg : mget m s with
  | none =>
    refine W.rseq ?_
    refine WL.p rfl rfl rfl (PV.as rfl) ?_
    refine WL.next [(4, _), (0, _), (1, _)] ⟨rfl, rfl, rfl, trivial⟩ ?_
    refine W.rseq ?_
    refine WL.p rfl rfl rfl (PV.mv rfl) ?_
    refine WL.p rfl rfl rfl (PV.nck rfl) ?_
    refine WL.p rfl rfl rfl (PV.fa fo175_0 rfl rfl) ?_
    refine WL.f rfl rfl rfl (FV.ld (LdD.sc 0 0 sc172 rfl rfl rfl rfl)) ?_
    refine WL.p rfl rfl rfl (PV.mv rfl) ?_
    refine WL.f rfl rfl rfl (FV.lkF 1 ul172 ks9 zr62 rfl rfl rfl (by assumption) _) ?_
    refine WL.p rfl rfl rfl (PV.mv rfl) ?_
    refine WL.p rfl rfl rfl (PV.ext0 rfl) ?_
    refine WL.p rfl rfl rfl (PV.ext1 rfl) ?_
    refine WL.p rfl rfl rfl (PV.as rfl) ?_
    refine WL.p rfl rfl rfl (PV.as rfl) ?_
    refine WL.next [(6, _), (4, _)] ⟨rfl, rfl, trivial⟩ ?_
    refine W.rseq ?_
    refine WL.p rfl rfl rfl (PV.mv rfl) ?_
    refine WL.p rfl rfl rfl (PV.as rfl) ?_
    refine WL.next [(4, _)] ⟨rfl, trivial⟩ ?_
    refine W.ret ?_
    rotate_left
    refine K.fin (vs := [_]) () ⟨rfl, trivial⟩ rfl ?_
    refine Ent.take 0 rfl ?_
    refine Ent.take 0 rfl ?_
    exact Ent.refl _
  | some v => 
    refine W.rseq ?_
    refine WL.p rfl rfl rfl (PV.as rfl) ?_
    refine WL.next [(4, _), (0, _), (1, _)] ⟨rfl, rfl, rfl, trivial⟩ ?_
    refine W.rseq ?_
    refine WL.p rfl rfl rfl (PV.mv rfl) ?_
    refine WL.p rfl rfl rfl (PV.nck rfl) ?_
    refine WL.p rfl rfl rfl (PV.fa fo175_0 rfl rfl) ?_
    refine WL.f rfl rfl rfl (FV.ld (LdD.sc 0 0 sc172 rfl rfl rfl rfl)) ?_
    refine WL.p rfl rfl rfl (PV.mv rfl) ?_
    refine WL.putX rfl rfl rfl (OpX.lkT 1 ul172 ks9 rfl rfl rfl (by assumption) _) fun x13 => ?_
    refine WL.nm (H' := _ :: pt _ _ [_, _, _, _, _, _] :: _ :: _) rfl ?_
    refine WL.p rfl rfl rfl (PV.mv rfl) ?_
    refine WL.p rfl rfl rfl (PV.ext0 rfl) ?_
    refine WL.p rfl rfl rfl (PV.ext1 rfl) ?_
    refine WL.p rfl rfl rfl (PV.as rfl) ?_
    refine WL.p rfl rfl rfl (PV.as rfl) ?_
    refine WL.next [(6, _), (4, _)] ⟨rfl, rfl, trivial⟩ ?_
    refine W.rseq ?_
    refine WL.p rfl rfl rfl (PV.mv rfl) ?_
    refine WL.p rfl rfl rfl (PV.as rfl) ?_
    refine WL.next [(4, _)] ⟨rfl, trivial⟩ ?_
    refine W.ret ?_
    rotate_left
    refine K.fin (vs := [_]) () ⟨rfl, trivial⟩ rfl ?_
    refine Ent.take 1 rfl ?_
    refine Ent.take 1 rfl ?_
    exact Ent.tail (Ent.refl _)
/-- there. -/
theorem c246 {g : Nat} {c1 c2 c3 c4 c5 : Value} {r : Nat} {f : List (Bytes × Bytes)} {s : Bytes} : Spec P 103 [.pointer (some ⟨g, 0, none⟩), str s] [pt g 0 [.map (some r), c1, c2, c3, c4, c5], fs r f] (fun _ : Unit => .bool (mget f s).isSome)
    (fun _ => [pt g 0 [.map (some r), c1, c2, c3, c4, c5], fs r f]) := by
  refine Spec.intro Tryz.func103 rfl rfl rfl fun F => ?_
  refine W.ex 1 rfl fun m => ?_
  refine W.pr 0 rfl fun hm => ?_
  refine W.nm (H' := mp kvS (Ksl Kb) r m :: pt _ _ [_, _, _, _, _, _] :: _) rfl ?_
  have e := mget_perm hm.1 hm.2 s
  cases hg : mget m s with
  | none =>
    refine W.rseq ?_
    refine WL.p rfl rfl rfl (PV.as rfl) ?_
    refine WL.next [(4, _), (0, _), (1, _)] ⟨rfl, rfl, rfl, trivial⟩ ?_
    refine W.rseq ?_
    refine WL.p rfl rfl rfl (PV.mv rfl) ?_
    refine WL.p rfl rfl rfl (PV.nck rfl) ?_
    refine WL.p rfl rfl rfl (PV.fa fo175_0 rfl rfl) ?_
    refine WL.f rfl rfl rfl (FV.ld (LdD.sc 1 0 sc172 rfl rfl rfl rfl)) ?_
    refine WL.p rfl rfl rfl (PV.mv rfl) ?_
    refine WL.f rfl rfl rfl (FV.lkF 0 ul172 ks9 zr62 rfl rfl rfl (by assumption) _) ?_
    refine WL.p rfl rfl rfl (PV.mv rfl) ?_
    refine WL.p rfl rfl rfl (PV.ext0 rfl) ?_
    refine WL.p rfl rfl rfl (PV.ext1 rfl) ?_
    refine WL.p rfl rfl rfl (PV.as rfl) ?_
    refine WL.p rfl rfl rfl (PV.as rfl) ?_
    refine WL.next [(6, _), (4, _)] ⟨rfl, rfl, trivial⟩ ?_
    refine W.rseq ?_
    refine WL.p rfl rfl rfl (PV.mv rfl) ?_
    refine WL.p rfl rfl rfl (PV.as rfl) ?_
    refine WL.next [(4, _)] ⟨rfl, trivial⟩ ?_
    refine W.ret ?_
    rotate_left
    refine K.fin (vs := [_]) () ⟨rfl, trivial⟩ (by rw [← e, hg]; rfl) ?_
    refine Ent.take 1 rfl (Ent.fold m (Ent.pr hm ?_))
    refine Ent.take 0 rfl ?_
    exact Ent.refl _
  | some v => 
    refine W.rseq ?_
    refine WL.p rfl rfl rfl (PV.as rfl) ?_
    refine WL.next [(4, _), (0, _), (1, _)] ⟨rfl, rfl, rfl, trivial⟩ ?_
    refine W.rseq ?_
    refine WL.p rfl rfl rfl (PV.mv rfl) ?_
    refine WL.p rfl rfl rfl (PV.nck rfl) ?_
    refine WL.p rfl rfl rfl (PV.fa fo175_0 rfl rfl) ?_
    refine WL.f rfl rfl rfl (FV.ld (LdD.sc 1 0 sc172 rfl rfl rfl rfl)) ?_
    refine WL.p rfl rfl rfl (PV.mv rfl) ?_
    refine WL.putX rfl rfl rfl (OpX.lkT 0 ul172 ks9 rfl rfl rfl (by assumption) _) fun x13 => ?_
    refine WL.nm (H' := _ :: _ :: pt _ _ [_, _, _, _, _, _] :: _) rfl ?_
    refine WL.p rfl rfl rfl (PV.mv rfl) ?_
    refine WL.p rfl rfl rfl (PV.ext0 rfl) ?_
    refine WL.p rfl rfl rfl (PV.ext1 rfl) ?_
    refine WL.p rfl rfl rfl (PV.as rfl) ?_
    refine WL.p rfl rfl rfl (PV.as rfl) ?_
    refine WL.next [(6, _), (4, _)] ⟨rfl, rfl, trivial⟩ ?_
    refine W.rseq ?_
    refine WL.p rfl rfl rfl (PV.mv rfl) ?_
    refine WL.p rfl rfl rfl (PV.as rfl) ?_
    refine WL.next [(4, _)] ⟨rfl, trivial⟩ ?_
    refine W.ret ?_
    rotate_left
    refine K.fin (vs := [_]) () ⟨rfl, trivial⟩ (by rw [← e, hg]; rfl) ?_
    refine Ent.take 2 rfl (Ent.fold m (Ent.pr hm ?_))
    refine Ent.take 1 rfl ?_
    exact Ent.tail (Ent.refl _)
end Go.Sl
/-! The disk: writes. -/
namespace Go.Sl
open Go Go.Proofs
set_option maxRecDepth 20000
/-- What a write does. -/
def doW (m : List (Bytes × Bytes)) (w : Wr) : List (Bytes × Bytes) :=
  if w.kind = 0 then mset m w.frm ((mget m w.frm).getD [] ++ w.b) else if w.kind = 1 then mset (mdel m w.frm) w.to ((mget m w.frm).getD []) else if w.kind = 2 then mdel m w.frm else m
theorem doW_nk {m : List (Bytes × Bytes)} {w : Wr} (h : Nk m) : Nk (doW m w) := by
  unfold doW
  split
  · exact h.set _ _
  · split
    · exact (h.del _).set _ _
    · split
      · exact h.del _
      · exact h
theorem doW_perm {m m' : List (Bytes × Bytes)} {w : Wr} (hp : m.Perm m') (h : Nk m) : (doW m w).Perm (doW m' w) := by
  unfold doW
  rw [mget_perm hp h]
  split
  · exact mset_perm hp h _ _
  · split
    · exact mset_perm (mdel_perm hp h _) (h.del _) _ _
    · split
      · exact mdel_perm hp h _
      · exact hp
theorem c118 {r : Nat} {m : List (Bytes × Bytes)} {kd : Int} {fr to b : Bytes} {p : SP} (hl : ((mget m fr).getD []).length + b.length ≤ 2 ^ 46) :
    Spec P 61 [.map (some r), .agg #[.int .i64 kd, str fr, str to, p.v b.length]] [fs r m, sl Kb p b] (fun _ : Unit => .tuple #[]) (fun _ => [fs r (doW m ⟨kd, fr, to, b⟩), sl Kb p b]) := by
  refine Spec.exI fun m' => Spec.prI fun hm => ?_
  have e := mget_perm hm.1 hm.2 fr
  rw [← e] at hl
  have hp := doW_perm (w := ⟨kd, fr, to, b⟩) hm.1 hm.2
  have hn := doW_nk (w := ⟨kd, fr, to, b⟩) hm.2
  refine Spec.intro Tryz.func61 rfl rfl rfl fun F => ?_
  have close : ∀ {m1 : List (Bytes × Bytes)} {F : List Res}, m1 = doW m' ⟨kd, fr, to, b⟩ → Ent (mp kvS (Ksl Kb) r m1 :: F) ([fs r (doW m ⟨kd, fr, to, b⟩)] ++ F) := by
    intro m1 F e1
    subst e1
    exact Ent.fold (doW m' ⟨kd, fr, to, b⟩) (Ent.pr ⟨hp, hn⟩ (Ent.refl _))
  refine W.rseq ?_
  refine WL.putX rfl rfl rfl (OpX.box rfl) fun x3 => ?_
  refine WL.nm (H' := pt _ _ [_, _, _, _] :: _ :: _ :: _) rfl ?_
  refine WL.next [(3, _), (0, _)] ⟨rfl, rfl, trivial⟩ ?_
  refine W.rseq ?_
  refine WL.p rfl rfl rfl (PV.fa fo194_0 rfl rfl) ?_
  refine WL.f rfl rfl rfl (FV.ld (LdD.sc 0 0 sc3 rfl rfl rfl rfl)) ?_
  refine WL.next [(6, _), (3, _), (0, _)] ⟨rfl, rfl, rfl, trivial⟩ ?_
  refine W.block ?_
  refine W.rseq ?_
  refine WL.p rfl rfl rfl (PV.eqI rfl rfl) ?_
  refine WL.p rfl rfl rfl (PV.as rfl) ?_
  refine WL.next [(7, _), (6, _), (3, _), (0, _)] ⟨rfl, rfl, rfl, rfl, trivial⟩ ?_
  refine W.condD rfl (fun h0 => ?_) (fun h0 => ?_)
  refine W.draw [0, 1, 2, 3, 4, 5, 8, 9, 6, 7, 10, 11] mixedOrders rfl rfl fun hR => ?_
  refine DP.p rfl rfl rfl rfl rfl (PV.mv rfl) ?_
  refine DP.p rfl rfl rfl rfl rfl (PV.fa fo194_1 rfl rfl) ?_
  refine DP.f rfl rfl rfl rfl rfl (FV.ld (LdD.sc 0 1 sc9 rfl rfl rfl rfl)) ?_
  refine DP.p rfl rfl rfl rfl rfl (PV.mv rfl) ?_
  refine DP.p rfl rfl rfl rfl rfl (PV.fa fo194_1 rfl rfl) ?_
  refine DP.f rfl rfl rfl rfl rfl (FV.ld (LdD.sc 0 1 sc9 rfl rfl rfl rfl)) ?_
  refine DP.p rfl rfl rfl rfl rfl (PV.fa fo194_3 rfl rfl) ?_
  refine DP.f rfl rfl rfl rfl rfl (FV.ld (LdD.sc 0 3 sc62 rfl rfl rfl rfl)) ?_
  refine DP.e hR [(9, _), (2, _)] rfl rfl rfl rfl rfl (OpX.lkD (z0 := []) (q0 := SP.nil) 1 ul172 ks9 zr62 (Ent.nil_sl _) rfl rfl rfl) rfl (fun _ => (KeepL.keep rfl (FloatAt.of rfl (by first | exact FV.ld (LdD.sc 0 3 sc62 rfl rfl rfl rfl) | exact FV.ld (LdD.ag (us := _) 0 3 ag62 rfl rfl rfl rfl rfl) | exact FV.ld (LdD.sc 1 3 sc62 rfl rfl rfl rfl) | exact FV.ld (LdD.ag (us := _) 1 3 ag62 rfl rfl rfl rfl rfl) | exact FV.ld (LdD.sc 2 3 sc62 rfl rfl rfl rfl) | exact FV.ld (LdD.ag (us := _) 2 3 ag62 rfl rfl rfl rfl rfl) | exact FV.ld (LdD.sc 3 3 sc62 rfl rfl rfl rfl) | exact FV.ld (LdD.ag (us := _) 3 3 ag62 rfl rfl rfl rfl rfl) | exact FV.ld (LdD.sc 4 3 sc62 rfl rfl rfl rfl) | exact FV.ld (LdD.ag (us := _) 4 3 ag62 rfl rfl rfl rfl rfl))) (KeepL.dropC rfl (KeepL.keep rfl (FloatAt.of rfl (by first | exact FV.ld (LdD.sc 0 1 sc9 rfl rfl rfl rfl) | exact FV.ld (LdD.ag (us := _) 0 1 ag9 rfl rfl rfl rfl rfl) | exact FV.ld (LdD.sc 1 1 sc9 rfl rfl rfl rfl) | exact FV.ld (LdD.ag (us := _) 1 1 ag9 rfl rfl rfl rfl rfl) | exact FV.ld (LdD.sc 2 1 sc9 rfl rfl rfl rfl) | exact FV.ld (LdD.ag (us := _) 2 1 ag9 rfl rfl rfl rfl rfl) | exact FV.ld (LdD.sc 3 1 sc9 rfl rfl rfl rfl) | exact FV.ld (LdD.ag (us := _) 3 1 ag9 rfl rfl rfl rfl rfl) | exact FV.ld (LdD.sc 4 1 sc9 rfl rfl rfl rfl) | exact FV.ld (LdD.ag (us := _) 4 1 ag9 rfl rfl rfl rfl rfl))) KeepL.nil)))) fun x15 => ?_
  refine DP.nm (H' := _ :: pt _ _ [_, _, _, _] :: _ :: _ :: _) rfl ?_
  refine DP.e hR [(9, _), (2, _)] rfl rfl rfl rfl rfl (OpX.call cb179 (c179 (by first | omega | (simp only [List.length_append, List.length_cons, List.length_nil, List.length_take]; omega) | assumption)) rfl (.cons (i := 0) rfl .nil)) rfl (fun _ => (KeepL.keep rfl (FloatAt.of rfl (by first | exact FV.ld (LdD.sc 1 3 sc62 rfl rfl rfl rfl) | exact FV.ld (LdD.ag (us := _) 1 3 ag62 rfl rfl rfl rfl rfl) | exact FV.ld (LdD.sc 2 3 sc62 rfl rfl rfl rfl) | exact FV.ld (LdD.ag (us := _) 2 3 ag62 rfl rfl rfl rfl rfl) | exact FV.ld (LdD.sc 3 3 sc62 rfl rfl rfl rfl) | exact FV.ld (LdD.ag (us := _) 3 3 ag62 rfl rfl rfl rfl rfl) | exact FV.ld (LdD.sc 4 3 sc62 rfl rfl rfl rfl) | exact FV.ld (LdD.ag (us := _) 4 3 ag62 rfl rfl rfl rfl rfl) | exact FV.ld (LdD.sc 5 3 sc62 rfl rfl rfl rfl) | exact FV.ld (LdD.ag (us := _) 5 3 ag62 rfl rfl rfl rfl rfl))) (KeepL.keep rfl (FloatAt.of rfl (by first | exact FV.ld (LdD.sc 1 1 sc9 rfl rfl rfl rfl) | exact FV.ld (LdD.ag (us := _) 1 1 ag9 rfl rfl rfl rfl rfl) | exact FV.ld (LdD.sc 2 1 sc9 rfl rfl rfl rfl) | exact FV.ld (LdD.ag (us := _) 2 1 ag9 rfl rfl rfl rfl rfl) | exact FV.ld (LdD.sc 3 1 sc9 rfl rfl rfl rfl) | exact FV.ld (LdD.ag (us := _) 3 1 ag9 rfl rfl rfl rfl rfl) | exact FV.ld (LdD.sc 4 1 sc9 rfl rfl rfl rfl) | exact FV.ld (LdD.ag (us := _) 4 1 ag9 rfl rfl rfl rfl rfl) | exact FV.ld (LdD.sc 5 1 sc9 rfl rfl rfl rfl) | exact FV.ld (LdD.ag (us := _) 5 1 ag9 rfl rfl rfl rfl rfl))) KeepL.nil))) fun x16 => ?_
  refine DP.nm (H' := _ :: _ :: _ :: pt _ _ [_, _, _, _] :: _ :: _ :: _) rfl ?_
  refine DP.e hR [(2, _)] rfl rfl rfl rfl rfl (OpX.app 1 0 slt62 ni62 rfl rfl rfl rfl (SrcV.atSl 4 rfl) (by first | omega | (simp only [List.length_append, List.length_cons, List.length_nil, List.length_take]; omega) | assumption) (by first | omega | (simp only [List.length_append, List.length_cons, List.length_nil, List.length_take]; omega) | assumption)) rfl (fun _ => (KeepL.dropC rfl (KeepL.keep rfl (FloatAt.of rfl (by first | exact FV.ld (LdD.sc 3 1 sc9 rfl rfl rfl rfl) | exact FV.ld (LdD.ag (us := _) 3 1 ag9 rfl rfl rfl rfl rfl) | exact FV.ld (LdD.sc 4 1 sc9 rfl rfl rfl rfl) | exact FV.ld (LdD.ag (us := _) 4 1 ag9 rfl rfl rfl rfl rfl) | exact FV.ld (LdD.sc 5 1 sc9 rfl rfl rfl rfl) | exact FV.ld (LdD.ag (us := _) 5 1 ag9 rfl rfl rfl rfl rfl) | exact FV.ld (LdD.sc 6 1 sc9 rfl rfl rfl rfl) | exact FV.ld (LdD.ag (us := _) 6 1 ag9 rfl rfl rfl rfl rfl) | exact FV.ld (LdD.sc 7 1 sc9 rfl rfl rfl rfl) | exact FV.ld (LdD.ag (us := _) 7 1 ag9 rfl rfl rfl rfl rfl))) KeepL.nil))) fun x19 => ?_
  refine DP.nm (H' := _ :: _ :: _ :: _ :: pt _ _ [_, _, _, _] :: _ :: _ :: _) rfl ?_
  refine DP.e0 hR [] rfl rfl rfl (OpD.upM (ins := false) (K := (Ksl Kb)) 5 ul172 ks9 rfl rfl rfl rfl (fun _ h => by first | (simp [innerL, Kb, Kint, Kstr, Kbool] at h; done) | (simp [innerL, Ksl, Kwr, Kmsg] at h; rcases h with h | h | h <;> subst h <;> simp [Sl.rem]) | (simp [innerL, Ksl, Kwr] at h; subst h; simp [Sl.rem]))) rfl (fun _ => (KeepL.drop rfl KeepL.nil)) fun _ => ?_
  refine DP.nm (H' := _ :: _ :: _ :: _ :: pt _ _ [_, _, _, _] :: _ :: _ :: _) rfl ?_
  refine DP.fin hR ?_
  clear hR
  refine K.out ?_
  rotate_left
  refine W.rseq ?_
  refine WL.p rfl rfl rfl (PV.eqI rfl rfl) ?_
  refine WL.p rfl rfl rfl (PV.as rfl) ?_
  refine WL.next [(20, _), (6, _), (3, _), (0, _)] ⟨rfl, rfl, rfl, rfl, trivial⟩ ?_
  refine W.condD rfl (fun h1 => ?_) (fun h1 => ?_)
  refine W.rseq ?_
  refine WL.p rfl rfl rfl (PV.mv rfl) ?_
  refine WL.p rfl rfl rfl (PV.fa fo194_1 rfl rfl) ?_
  refine WL.f rfl rfl rfl (FV.ld (LdD.sc 0 1 sc9 rfl rfl rfl rfl)) ?_
  refine WL.putX rfl rfl rfl (OpX.lkD (z0 := []) (q0 := SP.nil) 1 ul172 ks9 zr62 (Ent.nil_sl _) rfl rfl rfl) fun x25 => ?_
  refine WL.nm (H' := _ :: pt _ _ [_, _, _, _] :: _ :: _ :: _) rfl ?_
  refine WL.p rfl rfl rfl (PV.as rfl) ?_
  refine WL.next [(4, _), (3, _), (0, _)] ⟨rfl, rfl, rfl, trivial⟩ ?_
  refine W.rseq ?_
  refine WL.p rfl rfl rfl (PV.mv rfl) ?_
  refine WL.p rfl rfl rfl (PV.fa fo194_1 rfl rfl) ?_
  refine WL.f rfl rfl rfl (FV.ld (LdD.sc 1 1 sc9 rfl rfl rfl rfl)) ?_
  refine WL.done rfl rfl (OpD.delM 2 ul172 rfl ks9 rfl rfl rfl) ?_
  refine WL.nm (H' := _ :: pt _ _ [_, _, _, _] :: _ :: _ :: _) rfl ?_
  refine WL.next [(4, _), (3, _), (0, _)] ⟨rfl, rfl, rfl, trivial⟩ ?_
  refine W.region ?_
  refine WL.p rfl rfl rfl (PV.mv rfl) ?_
  refine WL.p rfl rfl rfl (PV.fa fo194_2 rfl rfl) ?_
  refine WL.f rfl rfl rfl (FV.ld (LdD.sc 1 2 sc9 rfl rfl rfl rfl)) ?_
  refine WL.p rfl rfl rfl (PV.mv rfl) ?_
  refine WL.done rfl rfl (OpD.upM (ins := false) (K := (Ksl Kb)) 2 ul172 ks9 rfl rfl rfl rfl (fun _ h => by first | (simp [innerL, Kb, Kint, Kstr, Kbool] at h; done) | (simp [innerL, Ksl, Kwr, Kmsg] at h; rcases h with h | h | h <;> subst h <;> simp [Sl.rem]) | (simp [innerL, Ksl, Kwr] at h; subst h; simp [Sl.rem]))) ?_
  refine WL.nm (H' := _ :: pt _ _ [_, _, _, _] :: _ :: _ :: _) rfl ?_
  refine WL.nil ?_
  refine K.out ?_
  rotate_left
  refine W.rseq ?_
  refine WL.p rfl rfl rfl (PV.eqI rfl rfl) ?_
  refine WL.p rfl rfl rfl (PV.as rfl) ?_
  refine WL.next [(33, _), (3, _), (0, _)] ⟨rfl, rfl, rfl, trivial⟩ ?_
  refine W.condD rfl (fun h2 => ?_) (fun h2 => ?_)
  refine W.region ?_
  refine WL.p rfl rfl rfl (PV.mv rfl) ?_
  refine WL.p rfl rfl rfl (PV.fa fo194_1 rfl rfl) ?_
  refine WL.f rfl rfl rfl (FV.ld (LdD.sc 0 1 sc9 rfl rfl rfl rfl)) ?_
  refine WL.done rfl rfl (OpD.delM 1 ul172 rfl ks9 rfl rfl rfl) ?_
  refine WL.nm (H' := pt _ _ [_, _, _, _] :: _ :: _ :: _) rfl ?_
  refine WL.nil ?_
  refine K.out ?_
  rotate_left
  refine W.skip ?_
  refine K.out ?_
  rotate_left
  · refine K.finN (vs := []) () trivial rfl ((Ent.take 5 rfl (Ent.refl _)).trans ((close (by simp [doW, h0])).trans ?_))
    refine Ent.take 0 rfl ?_
    refine Ent.keep 5 rfl (sl_pers _ _ _) ?_
    exact Ent.tail (Ent.tail (Ent.tail (Ent.tail (Ent.tail (Ent.tail (Ent.refl _))))))
  · refine K.finN (vs := []) () trivial rfl ((Ent.take 2 rfl (Ent.refl _)).trans ((close (by simp [doW, h1])).trans ?_))
    refine Ent.take 0 rfl ?_
    refine Ent.keep 2 rfl (sl_pers _ _ _) ?_
    exact Ent.tail (Ent.tail (Ent.tail (Ent.refl _)))
  · refine K.finN (vs := []) () trivial rfl ((Ent.take 1 rfl (Ent.refl _)).trans ((close (by simp [doW, h2])).trans ?_))
    refine Ent.take 0 rfl ?_
    refine Ent.keep 1 rfl (sl_pers _ _ _) ?_
    exact Ent.tail (Ent.tail (Ent.refl _))
  · refine K.finN (vs := []) () trivial rfl ((Ent.take 1 rfl (Ent.refl _)).trans ((close (by simp [doW, h0, h1, h2])).trans ?_))
    refine Ent.take 0 rfl ?_
    refine Ent.keep 1 rfl (sl_pers _ _ _) ?_
    exact Ent.tail (Ent.tail (Ent.refl _))
/-- Bytes of all files. -/
def total (m : List (Bytes × Bytes)) : Nat := (m.map (·.2.length)).sum
theorem total_perm {m m' : List (Bytes × Bytes)} (h : m.Perm m') : total m = total m' := (h.map _).sum_nat
theorem total_app (a b : List (Bytes × Bytes)) : total (a ++ b) = total a + total b := by simp [total]
theorem c262 {g : Nat} {c1 c2 c3 c4 c5 : Value} {r : Nat} {f : List (Bytes × Bytes)} (ht : total f ≤ 2 ^ 60) : Spec P 135 [.pointer (some ⟨g, 0, none⟩)] [pt g 0 [.map (some r), c1, c2, c3, c4, c5], fs r f] (fun _ : Unit => .int .i64 (total f))
    (fun _ => [pt g 0 [.map (some r), c1, c2, c3, c4, c5], fs r f]) := by
  refine Spec.intro Tryz.func135 rfl rfl rfl fun F => ?_
  refine W.ex 1 rfl fun m => ?_
  refine W.pr 0 rfl fun hm => ?_
  refine W.nm (H' := mp kvS (Ksl Kb) r m :: pt _ _ [_, _, _, _, _, _] :: _) rfl ?_
  have e := total_perm hm.1
  refine W.rseq ?_
  refine WL.p rfl rfl rfl (PV.as rfl) ?_
  refine WL.next [(2, _), (0, _)] ⟨rfl, rfl, trivial⟩ ?_
  refine W.rseq ?_
  refine WL.p rfl rfl rfl (PV.as rfl) ?_
  refine WL.next [(3, _), (2, _), (0, _)] ⟨rfl, rfl, rfl, trivial⟩ ?_
  refine W.seq ?_
  refine W.rseq ?_
  refine WL.p rfl rfl rfl (PV.mv rfl) ?_
  refine WL.p rfl rfl rfl (PV.neV rfl rfl rfl (EqIs.p0 ul24)) ?_
  refine WL.next [(7, _), (3, _), (2, _), (0, _)] ⟨rfl, rfl, rfl, rfl, trivial⟩ ?_
  refine W.cT rfl ?_
  refine W.rseq ?_
  refine WL.p rfl rfl rfl (PV.mv rfl) ?_
  refine WL.p rfl rfl rfl (PV.nck rfl) ?_
  refine WL.p rfl rfl rfl (PV.fa fo175_0 rfl rfl) ?_
  refine WL.f rfl rfl rfl (FV.ld (LdD.sc 1 0 sc172 rfl rfl rfl rfl)) ?_
  refine WL.putX rfl rfl rfl (OpX.rng 0 ul172 rfl rfl) fun x12 => ?_
  refine WL.nm (H' := _ :: pt _ _ [_, _, _, _, _, _] :: _) rfl ?_
  refine WL.next [(12, _), (3, _), (2, _)] ⟨rfl, rfl, rfl, trivial⟩ ?_
  refine W.block ?_
  rotate_left
  refine W.loopP (X := List (Bytes × Bytes) × List (Bytes × Bytes) × Option (Bytes × Bytes)) (fun x => (x.1 ++ x.2.1).Perm m) (fun x => [(12, .pointer (some ⟨x12, 0, none⟩)), (3, .int .i64 (total x.1))])
    (fun x => mi kvS (Ksl Kb) r x12 m x.2.1 x.2.2 :: pt g 0 [.map (some r), c1, c2, c3, c4, c5] :: F) (fun x => x.2.1.length) ([], m, none) (List.Perm.refl _)
    ⟨rfl, rfl, trivial⟩ (Ent.refl _) fun ⟨done, todo, cur⟩ hI => ?_
  cases todo with
  | nil =>
    refine W.nm (H' := mi _ _ _ _ _ [] _ :: pt _ _ [_, _, _, _, _, _] :: _) rfl ?_
    refine W.rseq ?_
    refine WL.f rfl rfl rfl (FV.nx0 0 rfl rfl) ?_
    refine WL.p rfl rfl rfl (PV.ext0 rfl) ?_
    refine WL.next [(14, _), (12, _), (3, _)] ⟨rfl, rfl, rfl, trivial⟩ ?_
    refine W.seq ?_
    refine W.cF rfl ?_
    refine W.exit ?_
    refine K.exitT ?_
    refine K.exitT ?_
    refine K.exit ?_
    refine K.next [(3, _)] ⟨rfl, trivial⟩ ?_
    refine W.rseq ?_
    refine WL.p rfl rfl rfl (PV.mv rfl) ?_
    refine WL.p rfl rfl rfl (PV.as rfl) ?_
    refine WL.next [(2, _)] ⟨rfl, trivial⟩ ?_
    refine W.ret ?_
    rotate_left
    have e2 : total done = total f := by rw [← e, ← total_perm hI]; simp
    refine K.fin (vs := [_]) () ⟨rfl, trivial⟩ (by show Value.int _ _ = _; rw [e2]) ?_
    refine Ent.app (.cons (i := 0) rfl .nil) Ent.mi ?_
    refine Ent.take 1 rfl (Ent.fold m (Ent.pr hm ?_))
    refine Ent.take 0 rfl ?_
    exact Ent.refl _
  | cons y ys =>
    have hne : y :: ys ≠ [] := by simp
    refine W.nm (H' := mi _ _ _ _ _ (y :: ys) _ :: pt _ _ [_, _, _, _, _, _] :: _) rfl ?_
    refine W.rseq ?_
    refine WL.putX rfl rfl rfl (OpX.nxS 0 rfl rfl (by assumption)) fun x13 => ?_
    refine WL.nm (H' := _ :: pt _ _ [_, _, _, _, _, _] :: _) rfl ?_
    refine WL.p rfl rfl rfl (PV.ext0 rfl) ?_
    refine WL.next [(14, _), (12, _), (3, _)] ⟨rfl, rfl, rfl, trivial⟩ ?_
    refine W.seq ?_
    refine W.cT rfl ?_
    refine W.skip ?_
    refine K.next [(12, _), (3, _)] ⟨rfl, rfl, trivial⟩ ?_
    refine W.block ?_
    refine W.rseq ?_
    refine WL.putX rfl rfl rfl (OpX.ent 0 rfl rfl) fun x15 => ?_
    refine WL.nm (H' := _ :: _ :: pt _ _ [_, _, _, _, _, _] :: _) rfl ?_
    refine WL.p rfl rfl rfl (PV.ext1 rfl) ?_
    refine WL.p rfl rfl rfl (PV.as rfl) ?_
    refine WL.next [(5, _), (12, _), (3, _)] ⟨rfl, rfl, rfl, trivial⟩ ?_
    refine W.region ?_
    refine WL.p rfl rfl rfl (PV.mv rfl) ?_
    refine WL.p rfl rfl rfl (PV.mv rfl) ?_
    refine WL.p rfl rfl rfl (PV.lenL ul62 rfl rfl) ?_
    refine WL.p rfl rfl rfl (PV.add rfl rfl) ?_
    refine WL.p rfl rfl rfl (PV.as rfl) ?_
    refine WL.nil ?_
    refine K.out ?_
    rotate_left
    obtain ⟨⟨⟨k, a, t'⟩, q⟩, hp⟩ := x13
    have hI' : (done ++ [(k, a)] ++ t').Perm m := by
      refine List.Perm.trans ?_ hI
      rw [List.append_assoc]
      exact (hp.symm).append_left done
    have h5 : total (done ++ [(k, a)]) + total t' = total f := by rw [← e, ← total_perm hI', total_app (done ++ [(k, a)]) t']
    have h6 : total (done ++ [(k, a)]) = total done + a.length := by rw [total_app]; simp [total]
    have hw : IntKind.i64.wrap ((total done : Int) + a.length) = (total (done ++ [(k, a)]) : Nat) := by rw [wrap64_in (by omega), h6]; rfl
    refine K.againP (done ++ [(k, a)], t', some (k, a)) hI' (by have := hp.length_eq; simp at this ⊢; omega) ⟨rfl, by rw [← hw]; rfl, trivial⟩ ?_
    refine Ent.take 1 rfl ?_
    refine Ent.take 1 rfl ?_
    exact Ent.tail (Ent.refl _)
end Go.Sl
/-! The disk: a write that is one; its methods. -/
namespace Go.Sl
open Go Go.Proofs
set_option maxRecDepth 20000
/-- what burn does -/
def burnF (fuse : Int) (down : Bool) : Bool × Int × Bool :=
  if down then (false, fuse, true) else if fuse = 0 then (false, 0, true) else if 0 < fuse then (true, fuse - 1, false) else (true, fuse, false)
theorem c264 {g : Nat} {c0 c1 c2 c3 : Value} {fuse : Int} {down : Bool} (hf : -1 ≤ fuse ∧ fuse < 2^63) :
    Spec P 132 [.pointer (some ⟨g, 0, none⟩)] [pt g 0 [c0, c1, c2, c3, .int .i64 fuse, .bool down]] (fun (_ : Unit) => .bool (burnF fuse down).1)
      (fun _ => [pt g 0 [c0, c1, c2, c3, .int .i64 (burnF fuse down).2.1, .bool (burnF fuse down).2.2]]) := by
  refine Spec.intro Tryz.func132 rfl rfl rfl fun F => ?_
  refine W.rseq ?_
  refine WL.p rfl rfl rfl (PV.as rfl) ?_
  refine WL.next [(2, _), (0, _)] ⟨rfl, rfl, trivial⟩ ?_
  refine W.bseq ?_
  refine W.rseq ?_
  refine WL.p rfl rfl rfl (PV.mv rfl) ?_
  refine WL.p rfl rfl rfl (PV.nck rfl) ?_
  refine WL.p rfl rfl rfl (PV.fa fo175_5 rfl rfl) ?_
  refine WL.f rfl rfl rfl (FV.ld (LdD.sc 0 5 sc4 rfl rfl rfl rfl)) ?_
  refine WL.p rfl rfl rfl (PV.as rfl) ?_
  refine WL.next [(3, _), (2, _), (0, _)] ⟨rfl, rfl, rfl, trivial⟩ ?_
  refine W.cond rfl (fun h0 => ?_) (fun h0 => ?_)
  refine W.rseq ?_
  refine WL.p rfl rfl rfl (PV.as rfl) ?_
  refine WL.next [(2, _)] ⟨rfl, trivial⟩ ?_
  refine W.ret ?_
  refine K.retB ?_
  refine K.retT ?_
  rotate_left
  refine W.rseq ?_
  refine WL.p rfl rfl rfl (PV.mv rfl) ?_
  refine WL.p rfl rfl rfl (PV.nck rfl) ?_
  refine WL.p rfl rfl rfl (PV.fa fo175_4 rfl rfl) ?_
  refine WL.f rfl rfl rfl (FV.ld (LdD.sc 0 4 sc3 rfl rfl rfl rfl)) ?_
  refine WL.p rfl rfl rfl (PV.eqI rfl rfl) ?_
  refine WL.p rfl rfl rfl (PV.as rfl) ?_
  refine WL.next [(8, _), (2, _), (0, _)] ⟨rfl, rfl, rfl, trivial⟩ ?_
  refine W.condD rfl (fun h1 => ?_) (fun h1 => ?_)
  refine W.rseq ?_
  refine WL.p rfl rfl rfl (PV.mv rfl) ?_
  refine WL.p rfl rfl rfl (PV.nck rfl) ?_
  refine WL.p rfl rfl rfl (PV.fa fo175_5 rfl rfl) ?_
  refine WL.done rfl rfl (OpD.st 0 5 sz4 rfl rfl rfl rfl rfl rfl (NA.one (NA.bool _))) ?_
  refine WL.nm (H' := pt _ _ [_, _, _, _, _, _] :: _) rfl ?_
  refine WL.next [(2, _)] ⟨rfl, trivial⟩ ?_
  refine W.rseq ?_
  refine WL.p rfl rfl rfl (PV.as rfl) ?_
  refine WL.next [(2, _)] ⟨rfl, trivial⟩ ?_
  refine W.ret ?_
  refine K.retB ?_
  refine K.retT ?_
  rotate_left
  refine W.rseq ?_
  refine WL.p rfl rfl rfl (PV.mv rfl) ?_
  refine WL.p rfl rfl rfl (PV.nck rfl) ?_
  refine WL.p rfl rfl rfl (PV.fa fo175_4 rfl rfl) ?_
  refine WL.f rfl rfl rfl (FV.ld (LdD.sc 0 4 sc3 rfl rfl rfl rfl)) ?_
  refine WL.p rfl rfl rfl (PV.gt rfl rfl) ?_
  refine WL.p rfl rfl rfl (PV.as rfl) ?_
  refine WL.next [(17, _), (2, _), (0, _)] ⟨rfl, rfl, rfl, trivial⟩ ?_
  refine W.condD rfl (fun h2 => ?_) (fun h2 => ?_)
  refine W.region ?_
  refine WL.p rfl rfl rfl (PV.mv rfl) ?_
  refine WL.p rfl rfl rfl (PV.nck rfl) ?_
  refine WL.p rfl rfl rfl (PV.fa fo175_4 rfl rfl) ?_
  refine WL.f rfl rfl rfl (FV.ld (LdD.sc 0 4 sc3 rfl rfl rfl rfl)) ?_
  refine WL.p rfl rfl rfl (PV.sub64 rfl rfl (by omega)) ?_
  refine WL.p rfl rfl rfl (PV.nck rfl) ?_
  refine WL.p rfl rfl rfl (PV.fa fo175_4 rfl rfl) ?_
  refine WL.done rfl rfl (OpD.st 0 4 sz3 rfl rfl rfl rfl rfl rfl (NA.one (NA.int _ _))) ?_
  refine WL.nm (H' := pt _ _ [_, _, _, _, _, _] :: _) rfl ?_
  refine WL.nil ?_
  refine K.out ?_
  refine K.next [(2, _)] ⟨rfl, trivial⟩ ?_
  refine W.rseq ?_
  refine WL.p rfl rfl rfl (PV.as rfl) ?_
  refine WL.next [(2, _)] ⟨rfl, trivial⟩ ?_
  refine W.ret ?_
  rotate_left
  refine W.skip ?_
  refine K.out ?_
  refine K.next [(2, _)] ⟨rfl, trivial⟩ ?_
  refine W.rseq ?_
  refine WL.p rfl rfl rfl (PV.as rfl) ?_
  refine WL.next [(2, _)] ⟨rfl, trivial⟩ ?_
  refine W.ret ?_
  rotate_left
  · have e : burnF fuse down = (false, fuse, true) := by simp [burnF, h0]
    rw [e]; subst h0
    exact K.fin (vs := [_]) () ⟨rfl, trivial⟩ rfl (Ent.refl _)
  · have e : burnF fuse down = (false, 0, true) := by simp [burnF, h0, h1]
    rw [e]; subst h1
    exact K.fin (vs := [_]) () ⟨rfl, trivial⟩ rfl (Ent.refl _)
  · have e : burnF fuse down = (true, fuse - 1, false) := by simp [burnF, h0, h1, h2]
    rw [e]; subst h0
    exact K.fin (vs := [_]) () ⟨rfl, trivial⟩ rfl (Ent.refl _)
  · have e : burnF fuse down = (true, fuse, false) := by simp [burnF, h0, h1, h2]
    rw [e]; subst h0
    exact K.fin (vs := [_]) () ⟨rfl, trivial⟩ rfl (Ent.refl _)
/-- One write. -/
def DM.done (D : DM) (w : Wr) : Int × DM :=
  if (burnF D.fuse D.down).1 then (0, { D with now := doW D.now w, loose := D.loose ++ [w], fuse := (burnF D.fuse D.down).2.1, down := (burnF D.fuse D.down).2.2 })
  else (6, { D with fuse := (burnF D.fuse D.down).2.1, down := (burnF D.fuse D.down).2.2 })
theorem c247 {g : Nat} {D : DM} {r1 r2 : Nat} {p q : SP} {kd : Int} {fr to b : Bytes} (hf : -1 ≤ D.fuse ∧ D.fuse < 2^63) (hl : ((mget D.now fr).getD []).length + b.length ≤ 2 ^ 46) (hn : D.loose.length ≤ 2 ^ 40) :
    Spec P 104 [.pointer (some ⟨g, 0, none⟩), .agg #[.int .i64 kd, str fr, str to, q.v b.length]]
      [pt g 0 [.map (some r1), .map (some r2), p.v D.loose.length, .int .i64 D.room, .int .i64 D.fuse, .bool D.down], fs r1 D.now, sl Kwr p D.loose, tl 4 p D.loose.length, sl Kb q b]
      (fun _ : SP => .int .i64 (D.done ⟨kd, fr, to, b⟩).1)
      (fun p' => [pt g 0 [.map (some r1), .map (some r2), p'.v (D.done ⟨kd, fr, to, b⟩).2.loose.length, .int .i64 D.room, .int .i64 (D.done ⟨kd, fr, to, b⟩).2.fuse, .bool (D.done ⟨kd, fr, to, b⟩).2.down], fs r1 (D.done ⟨kd, fr, to, b⟩).2.now, sl Kwr p' (D.done ⟨kd, fr, to, b⟩).2.loose, tl 4 p' (D.done ⟨kd, fr, to, b⟩).2.loose.length]) := by
  refine Spec.intro Tryz.func104 rfl rfl rfl fun F => ?_
  refine W.rseq ?_
  refine WL.putX rfl rfl rfl (OpX.box rfl) fun x3 => ?_
  refine WL.nm (H' := pt _ _ [_, _, _, _] :: pt _ _ [_, _, _, _, _, _] :: _ :: _ :: _ :: _ :: _) rfl ?_
  refine WL.p rfl rfl rfl (PV.as rfl) ?_
  refine WL.next [(4, _), (3, _), (0, _)] ⟨rfl, rfl, rfl, trivial⟩ ?_
  refine W.seq ?_
  refine W.rseq ?_
  refine WL.p rfl rfl rfl (PV.mv rfl) ?_
  refine WL.putX rfl rfl rfl (OpX.call cb264 (c264 (by first | omega | (simp only [List.length_append, List.length_cons, List.length_nil, List.length_take]; omega) | assumption)) rfl (.cons (i := 1) rfl .nil)) fun x6 => ?_
  refine WL.nm (H' := pt _ _ [_, _, _, _, _, _] :: pt _ _ [_, _, _, _] :: _ :: _ :: _ :: _ :: _) rfl ?_
  refine WL.p rfl rfl rfl (PV.not rfl) ?_
  refine WL.next [(7, _), (4, _), (3, _), (0, _)] ⟨rfl, rfl, rfl, rfl, trivial⟩ ?_
  refine W.cond rfl (fun h0 => ?_) (fun h0 => ?_)
  refine W.rseq ?_
  refine WL.p rfl rfl rfl (PV.as rfl) ?_
  refine WL.next [(4, _), (3, _), (0, _)] ⟨rfl, rfl, rfl, trivial⟩ ?_
  refine W.ret ?_
  refine K.retT ?_
  rotate_left
  refine W.skip ?_
  refine K.next [(4, _), (3, _), (0, _)] ⟨rfl, rfl, rfl, trivial⟩ ?_
  refine W.dseq [0, 1, 2, 3, 4, 5] mixedOrders rfl rfl fun hR => ?_
  refine DP.p rfl rfl rfl rfl rfl (PV.mv rfl) ?_
  refine DP.p rfl rfl rfl rfl rfl (PV.nck rfl) ?_
  refine DP.p rfl rfl rfl rfl rfl (PV.fa fo175_0 rfl rfl) ?_
  refine DP.f rfl rfl rfl rfl rfl (FV.ld (LdD.sc 0 0 sc172 rfl rfl rfl rfl)) ?_
  refine DP.f rfl rfl rfl rfl rfl (FV.ld (LdD.ag (us := [_, _, _, _]) 1 0 ag194 rfl rfl rfl rfl rfl)) ?_
  refine DP.e hR [] rfl rfl rfl rfl rfl (OpX.call cb118 (c118 (by first | omega | (simp only [List.length_append, List.length_cons, List.length_nil, List.length_take]; omega) | assumption)) rfl (.cons (i := 2) rfl (.cons (i := 4) rfl .nil))) rfl (fun _ => (KeepL.drop rfl (KeepL.drop rfl KeepL.nil))) fun x13 => ?_
  refine DP.nm (H' := _ :: _ :: pt _ _ [_, _, _, _, _, _] :: pt _ _ [_, _, _, _] :: _ :: _ :: _) rfl ?_
  refine DP.fin hR ?_
  clear hR
  refine K.next [(4, _), (3, _), (0, _)] ⟨rfl, rfl, rfl, trivial⟩ ?_
  refine W.dseq [0, 1, 2, 3, 4, 5, 6, 7, 8, 9, 10] mixedOrders rfl rfl fun hR => ?_
  refine DP.p rfl rfl rfl rfl rfl (PV.mv rfl) ?_
  refine DP.p rfl rfl rfl rfl rfl (PV.mv rfl) ?_
  refine DP.p rfl rfl rfl rfl rfl (PV.nck rfl) ?_
  refine DP.p rfl rfl rfl rfl rfl (PV.fa fo175_2 rfl rfl) ?_
  refine DP.f rfl rfl rfl rfl rfl (FV.ld (LdD.sc 2 2 sc173 rfl rfl rfl rfl)) ?_
  refine DP.f rfl rfl rfl rfl rfl (FV.ld (LdD.ag (us := [_, _, _, _]) 3 0 ag194 rfl rfl rfl rfl rfl)) ?_
  refine DP.e hR [(4, _)] rfl rfl rfl rfl rfl (OpX.rowS (K := Kwr) [⟨_, _, _, _⟩] [_] slt173 ⟨_, zr194, rfl⟩ rfl rfl rfl rfl rfl rfl (fun _ h => by first | (simp [innerL, Kb, Kint, Kstr, Kbool] at h; done) | (simp [innerL, Ksl, Kwr, Kmsg] at h; rcases h with h | h | h <;> subst h <;> simp [Sl.rem]) | (simp [innerL, Ksl, Kwr] at h; subst h; simp [Sl.rem]))) rfl (fun _ => (KeepL.dropC rfl (KeepL.keep rfl (FloatAt.of rfl (by first | exact FV.ld (LdD.sc 2 2 sc173 rfl rfl rfl rfl) | exact FV.ld (LdD.ag (us := _) 2 2 ag173 rfl rfl rfl rfl rfl) | exact FV.ld (LdD.sc 3 2 sc173 rfl rfl rfl rfl) | exact FV.ld (LdD.ag (us := _) 3 2 ag173 rfl rfl rfl rfl rfl) | exact FV.ld (LdD.sc 4 2 sc173 rfl rfl rfl rfl) | exact FV.ld (LdD.ag (us := _) 4 2 ag173 rfl rfl rfl rfl rfl) | exact FV.ld (LdD.sc 5 2 sc173 rfl rfl rfl rfl) | exact FV.ld (LdD.ag (us := _) 5 2 ag173 rfl rfl rfl rfl rfl) | exact FV.ld (LdD.sc 6 2 sc173 rfl rfl rfl rfl) | exact FV.ld (LdD.ag (us := _) 6 2 ag173 rfl rfl rfl rfl rfl))) KeepL.nil))) fun x20 => ?_
  refine DP.nm (H' := _ :: _ :: _ :: _ :: pt _ _ [_, _, _, _, _, _] :: pt _ _ [_, _, _, _] :: _ :: _ :: _) rfl ?_
  refine DP.e hR [] rfl rfl rfl rfl rfl (OpX.app 7 6 slt173 ni173 rfl rfl rfl rfl (SrcV.atSl 0 rfl) (by first | omega | (simp only [List.length_append, List.length_cons, List.length_nil, List.length_take]; omega) | assumption) (by first | omega | (simp only [List.length_append, List.length_cons, List.length_nil, List.length_take]; omega) | assumption)) rfl (fun _ => (KeepL.drop rfl KeepL.nil)) fun x21 => ?_
  refine DP.nm (H' := _ :: _ :: _ :: _ :: _ :: _ :: pt _ _ [_, _, _, _, _, _] :: pt _ _ [_, _, _, _] :: _ :: _) rfl ?_
  refine DP.p rfl rfl rfl rfl rfl (PV.nck rfl) ?_
  refine DP.p rfl rfl rfl rfl rfl (PV.fa fo175_2 rfl rfl) ?_
  refine DP.e0 hR [] rfl rfl rfl (OpD.st 6 2 sz173 rfl rfl rfl rfl rfl rfl (NA.one (NA.sl _ _ _))) rfl (fun _ => KeepL.nil) fun _ => ?_
  refine DP.nm (H' := _ :: _ :: _ :: _ :: _ :: _ :: pt _ _ [_, _, _, _, _, _] :: pt _ _ [_, _, _, _] :: _ :: _) rfl ?_
  refine DP.fin hR ?_
  clear hR
  refine K.next [(4, _)] ⟨rfl, trivial⟩ ?_
  refine W.rseq ?_
  refine WL.p rfl rfl rfl (PV.as rfl) ?_
  refine WL.next [(4, _)] ⟨rfl, trivial⟩ ?_
  refine W.ret ?_
  rotate_left
  · have e : D.done ⟨kd, fr, to, b⟩ = (6, { D with fuse := (burnF D.fuse D.down).2.1, down := (burnF D.fuse D.down).2.2 }) := by simp at h0; simp [DM.done, h0]
    rw [e]
    refine K.fin (vs := [_]) p ⟨rfl, trivial⟩ rfl ?_
    refine Ent.take 0 rfl ?_
    refine Ent.take 1 rfl ?_
    refine Ent.keep 1 rfl (sl_pers _ _ _) ?_
    refine Ent.take 2 rfl ?_
    exact Ent.tail (Ent.tail (Ent.tail (Ent.refl _)))
  · have e : D.done ⟨kd, fr, to, b⟩ = (0, { D with now := doW D.now ⟨kd, fr, to, b⟩, loose := D.loose ++ [⟨kd, fr, to, b⟩], fuse := (burnF D.fuse D.down).2.1, down := (burnF D.fuse D.down).2.2 }) := by simp at h0; simp [DM.done, h0]
    rw [e]
    refine K.fin (vs := [_]) x21 ⟨rfl, trivial⟩ rfl ?_
    refine Ent.take 6 rfl ?_
    refine Ent.take 4 rfl ?_
    refine Ent.keep 0 rfl (sl_pers _ _ _) ?_
    refine Ent.take 1 rfl ?_
    exact Ent.tail (Ent.tail (Ent.tail (Ent.tail (Ent.tail (Ent.tail (Ent.refl _))))))
theorem c247n {g : Nat} {D : DM} {r1 r2 : Nat} {p : SP} {kd : Int} {fr to : Bytes} (hf : -1 ≤ D.fuse ∧ D.fuse < 2^63) (hl : ((mget D.now fr).getD []).length ≤ 2 ^ 46) (hn : D.loose.length ≤ 2 ^ 40) :
    Spec P 104 [.pointer (some ⟨g, 0, none⟩), .agg #[.int .i64 kd, str fr, str to, .slice none 0 0]]
      [pt g 0 [.map (some r1), .map (some r2), p.v D.loose.length, .int .i64 D.room, .int .i64 D.fuse, .bool D.down], fs r1 D.now, sl Kwr p D.loose, tl 4 p D.loose.length]
      (fun _ : SP => .int .i64 (D.done ⟨kd, fr, to, []⟩).1)
      (fun p' => [pt g 0 [.map (some r1), .map (some r2), p'.v (D.done ⟨kd, fr, to, []⟩).2.loose.length, .int .i64 D.room, .int .i64 (D.done ⟨kd, fr, to, []⟩).2.fuse, .bool (D.done ⟨kd, fr, to, []⟩).2.down], fs r1 (D.done ⟨kd, fr, to, []⟩).2.now, sl Kwr p' (D.done ⟨kd, fr, to, []⟩).2.loose, tl 4 p' (D.done ⟨kd, fr, to, []⟩).2.loose.length]) := by
  refine Spec.mono (c247 (q := SP.nil) (b := []) (p := p) (r1 := r1) (r2 := r2) (D := D) (g := g) (kd := kd) (fr := fr) (to := to) hf (by simpa using hl) hn) ?_ fun x => ⟨x, rfl, Ent.refl _⟩
  refine Ent.add (Ent.nil_sl Kb) ?_
  exact Ent.take 1 rfl (Ent.take 1 rfl (Ent.take 1 rfl (Ent.take 1 rfl (Ent.refl _))))
end Go.Sl
