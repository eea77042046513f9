/- The seat's types, for the symbolic executor. Printed by a program. -/
import Derived.Test.YtdkhdkldjpaadaaGreatProg
import Derived.Test.YtdkhdkldjpaadaaGreatSxE
namespace Go.Sx.Pn
open Go Go.Proofs Go.Sx

-- func()
theorem tab1 : TI.Ok Tryz.prog 1 ⟨.other, 1, 8, [.nilFunc]⟩ := TI.mk' (z := (.nilFunc)) (TD.mkOther (by kernel_rfl)) (by kernel_rfl) rfl rfl rfl
-- int64
theorem tab2 : TI.Ok Tryz.prog 2 ⟨.int .i64, 1, 8, [.int .i64 0]⟩ := TI.mk' (z := (.int .i64 0)) (show Tryz.prog.underlying 2 = some (.int .i64) by kernel_rfl) (by kernel_rfl) rfl rfl rfl
-- int
theorem tab3 : TI.Ok Tryz.prog 3 ⟨.int .i64, 1, 8, [.int .i64 0]⟩ := TI.mk' (z := (.int .i64 0)) (show Tryz.prog.underlying 3 = some (.int .i64) by kernel_rfl) (by kernel_rfl) rfl rfl rfl
-- bool
theorem tab4 : TI.Ok Tryz.prog 4 ⟨.bool, 1, 1, [.bool false]⟩ := TI.mk' (z := (.bool false)) (show Tryz.prog.underlying 4 = some (.bool) by kernel_rfl) (by kernel_rfl) rfl rfl rfl
-- uint8
theorem tab5 : TI.Ok Tryz.prog 5 ⟨.int .u8, 1, 1, [.int .u8 0]⟩ := TI.mk' (z := (.int .u8 0)) (show Tryz.prog.underlying 5 = some (.int .u8) by kernel_rfl) (by kernel_rfl) rfl rfl rfl
-- abi.BoundsErrorCode
theorem tab6 : TI.Ok Tryz.prog 6 ⟨.int .u8, 1, 1, [.int .u8 0]⟩ := TI.mk' (z := (.int .u8 0)) (show Tryz.prog.underlying 6 = some (.int .u8) by kernel_rfl) (by kernel_rfl) rfl rfl rfl
-- struct { x int64; y int; signed bool; code abi.BoundsErrorCode }
theorem tab7 : TI.Ok Tryz.prog 7 ⟨.struct [(0, 2), (1, 3), (2, 4), (3, 6)], 4, 24, [.int .i64 0, .int .i64 0, .bool false, .int .u8 0]⟩ := TI.mk' (z := (.agg #[.int .i64 0, .int .i64 0, .bool false, .int .u8 0])) (TD.mkStruct (l := [(0, 2), (1, 3), (2, 4), (3, 6)]) (by kernel_rfl) (by kernel_rfl) (by kernel_rfl)) (by kernel_rfl) rfl rfl rfl
-- runtime.boundsError
theorem tab8 : TI.Ok Tryz.prog 8 ⟨.struct [(0, 2), (1, 3), (2, 4), (3, 6)], 4, 24, [.int .i64 0, .int .i64 0, .bool false, .int .u8 0]⟩ := TI.mk' (z := (.agg #[.int .i64 0, .int .i64 0, .bool false, .int .u8 0])) (TD.mkStruct (l := [(0, 2), (1, 3), (2, 4), (3, 6)]) (by kernel_rfl) (by kernel_rfl) (by kernel_rfl)) (by kernel_rfl) rfl rfl rfl
-- string
theorem tab9 : TI.Ok Tryz.prog 9 ⟨.string, 1, 16, [.string ByteArray.empty]⟩ := TI.mk' (z := (.string ByteArray.empty)) (show Tryz.prog.underlying 9 = some (.string) by kernel_rfl) (by kernel_rfl) rfl rfl rfl
-- runtime.errorString
theorem tab10 : TI.Ok Tryz.prog 10 ⟨.string, 1, 16, [.string ByteArray.empty]⟩ := TI.mk' (z := (.string ByteArray.empty)) (show Tryz.prog.underlying 10 = some (.string) by kernel_rfl) (by kernel_rfl) rfl rfl rfl
-- runtime.plainError
theorem tab11 : TI.Ok Tryz.prog 11 ⟨.string, 1, 16, [.string ByteArray.empty]⟩ := TI.mk' (z := (.string ByteArray.empty)) (show Tryz.prog.underlying 11 = some (.string) by kernel_rfl) (by kernel_rfl) rfl rfl rfl
-- uintptr
theorem tab12 : TI.Ok Tryz.prog 12 ⟨.int .u64, 1, 8, [.int .u64 0]⟩ := TI.mk' (z := (.int .u64 0)) (show Tryz.prog.underlying 12 = some (.int .u64) by kernel_rfl) (by kernel_rfl) rfl rfl rfl
-- *runtime.TypeAssertionError
theorem tab15 : TI.Ok Tryz.prog 15 ⟨.other, 1, 8, [.pointer none]⟩ := TI.mk' (z := (.pointer none)) (TD.mkOther (by kernel_rfl)) (by kernel_rfl) rfl rfl rfl
-- *runtime.PanicNilError
theorem tab16 : TI.Ok Tryz.prog 16 ⟨.other, 1, 8, [.pointer none]⟩ := TI.mk' (z := (.pointer none)) (TD.mkOther (by kernel_rfl)) (by kernel_rfl) rfl rfl rfl
-- *abi.Type
theorem tab17 : TI.Ok Tryz.prog 17 ⟨.other, 1, 8, [.pointer none]⟩ := TI.mk' (z := (.pointer none)) (TD.mkOther (by kernel_rfl)) (by kernel_rfl) rfl rfl rfl
-- interface {}
theorem tab20 : TI.Ok Tryz.prog 20 ⟨.other, 1, 16, [.nilIface]⟩ := TI.mk' (z := (.nilIface)) (TD.mkOther (by kernel_rfl)) (by kernel_rfl) rfl rfl rfl
-- int32
theorem tab21 : TI.Ok Tryz.prog 21 ⟨.int .i32, 1, 4, [.int .i32 0]⟩ := TI.mk' (z := (.int .i32 0)) (show Tryz.prog.underlying 21 = some (.int .i32) by kernel_rfl) (by kernel_rfl) rfl rfl rfl
-- uint64
theorem tab22 : TI.Ok Tryz.prog 22 ⟨.int .u64, 1, 8, [.int .u64 0]⟩ := TI.mk' (z := (.int .u64 0)) (show Tryz.prog.underlying 22 = some (.int .u64) by kernel_rfl) (by kernel_rfl) rfl rfl rfl
-- struct { N int; Bits uint64 }
theorem tab23 : TI.Ok Tryz.prog 23 ⟨.struct [(0, 3), (1, 22)], 2, 16, [.int .i64 0, .int .u64 0]⟩ := TI.mk' (z := (.agg #[.int .i64 0, .int .u64 0])) (TD.mkStruct (l := [(0, 3), (1, 22)]) (by kernel_rfl) (by kernel_rfl) (by kernel_rfl)) (by kernel_rfl) rfl rfl rfl
-- api.Table
theorem tab24 : TI.Ok Tryz.prog 24 ⟨.struct [(0, 3), (1, 22)], 2, 16, [.int .i64 0, .int .u64 0]⟩ := TI.mk' (z := (.agg #[.int .i64 0, .int .u64 0])) (TD.mkStruct (l := [(0, 3), (1, 22)]) (by kernel_rfl) (by kernel_rfl) (by kernel_rfl)) (by kernel_rfl) rfl rfl rfl
-- func(api.Table) bool
theorem tab25 : TI.Ok Tryz.prog 25 ⟨.other, 1, 8, [.nilFunc]⟩ := TI.mk' (z := (.nilFunc)) (TD.mkOther (by kernel_rfl)) (by kernel_rfl) rfl rfl rfl
-- func() bool
theorem tab26 : TI.Ok Tryz.prog 26 ⟨.other, 1, 8, [.nilFunc]⟩ := TI.mk' (z := (.nilFunc)) (TD.mkOther (by kernel_rfl)) (by kernel_rfl) rfl rfl rfl
-- []api.Cube
theorem tab27 : TI.Ok Tryz.prog 27 ⟨.slice 70, 1, 24, [.slice none 0 0]⟩ := TI.mk' (z := (.slice none 0 0)) (show Tryz.prog.underlying 27 = some (.slice 70) by kernel_rfl) (by kernel_rfl) rfl rfl rfl
-- api.Errno
theorem tab28 : TI.Ok Tryz.prog 28 ⟨.int .i64, 1, 8, [.int .i64 0]⟩ := TI.mk' (z := (.int .i64 0)) (show Tryz.prog.underlying 28 = some (.int .i64) by kernel_rfl) (by kernel_rfl) rfl rfl rfl
-- func(api.Table) ([]api.Cube, api.Errno)
theorem tab30 : TI.Ok Tryz.prog 30 ⟨.other, 1, 8, [.nilFunc]⟩ := TI.mk' (z := (.nilFunc)) (TD.mkOther (by kernel_rfl)) (by kernel_rfl) rfl rfl rfl
-- func(api.Table) ([]api.Cube, int)
theorem tab32 : TI.Ok Tryz.prog 32 ⟨.other, 1, 8, [.nilFunc]⟩ := TI.mk' (z := (.nilFunc)) (TD.mkOther (by kernel_rfl)) (by kernel_rfl) rfl rfl rfl
-- func([]api.Cube, []api.Cube) bool
theorem tab33 : TI.Ok Tryz.prog 33 ⟨.other, 1, 8, [.nilFunc]⟩ := TI.mk' (z := (.nilFunc)) (TD.mkOther (by kernel_rfl)) (by kernel_rfl) rfl rfl rfl
-- struct { On api.Table; Free api.Table }
theorem tab34 : TI.Ok Tryz.prog 34 ⟨.struct [(0, 24), (2, 24)], 4, 32, [.int .i64 0, .int .u64 0, .int .i64 0, .int .u64 0]⟩ := TI.mk' (z := (.agg #[.int .i64 0, .int .u64 0, .int .i64 0, .int .u64 0])) (TD.mkStruct (l := [(0, 24), (2, 24)]) (by kernel_rfl) (by kernel_rfl) (by kernel_rfl)) (by kernel_rfl) rfl rfl rfl
-- implicant.Task
theorem tab35 : TI.Ok Tryz.prog 35 ⟨.struct [(0, 24), (2, 24)], 4, 32, [.int .i64 0, .int .u64 0, .int .i64 0, .int .u64 0]⟩ := TI.mk' (z := (.agg #[.int .i64 0, .int .u64 0, .int .i64 0, .int .u64 0])) (TD.mkStruct (l := [(0, 24), (2, 24)]) (by kernel_rfl) (by kernel_rfl) (by kernel_rfl)) (by kernel_rfl) rfl rfl rfl
-- func(pneumaticref06.Task) bool
theorem tab36 : TI.Ok Tryz.prog 36 ⟨.other, 1, 8, [.nilFunc]⟩ := TI.mk' (z := (.nilFunc)) (TD.mkOther (by kernel_rfl)) (by kernel_rfl) rfl rfl rfl
-- pneumaticref06.Task
theorem tab37 : TI.Ok Tryz.prog 37 ⟨.struct [(0, 24), (2, 24)], 4, 32, [.int .i64 0, .int .u64 0, .int .i64 0, .int .u64 0]⟩ := TI.mk' (z := (.agg #[.int .i64 0, .int .u64 0, .int .i64 0, .int .u64 0])) (TD.mkStruct (l := [(0, 24), (2, 24)]) (by kernel_rfl) (by kernel_rfl) (by kernel_rfl)) (by kernel_rfl) rfl rfl rfl
-- func(int, []api.Cube) (int, api.Errno)
theorem tab39 : TI.Ok Tryz.prog 39 ⟨.other, 1, 8, [.nilFunc]⟩ := TI.mk' (z := (.nilFunc)) (TD.mkOther (by kernel_rfl)) (by kernel_rfl) rfl rfl rfl
-- func(int, []api.Cube) (int, int)
theorem tab41 : TI.Ok Tryz.prog 41 ⟨.other, 1, 8, [.nilFunc]⟩ := TI.mk' (z := (.nilFunc)) (TD.mkOther (by kernel_rfl)) (by kernel_rfl) rfl rfl rfl
-- []int
theorem tab42 : TI.Ok Tryz.prog 42 ⟨.slice 3, 1, 24, [.slice none 0 0]⟩ := TI.mk' (z := (.slice none 0 0)) (show Tryz.prog.underlying 42 = some (.slice 3) by kernel_rfl) (by kernel_rfl) rfl rfl rfl
-- func(implicant.Task) ([]int, api.Errno)
theorem tab44 : TI.Ok Tryz.prog 44 ⟨.other, 1, 8, [.nilFunc]⟩ := TI.mk' (z := (.nilFunc)) (TD.mkOther (by kernel_rfl)) (by kernel_rfl) rfl rfl rfl
-- func(pneumaticref06.Task) ([]int, int)
theorem tab46 : TI.Ok Tryz.prog 46 ⟨.other, 1, 8, [.nilFunc]⟩ := TI.mk' (z := (.nilFunc)) (TD.mkOther (by kernel_rfl)) (by kernel_rfl) rfl rfl rfl
-- func([]int, []int) bool
theorem tab47 : TI.Ok Tryz.prog 47 ⟨.other, 1, 8, [.nilFunc]⟩ := TI.mk' (z := (.nilFunc)) (TD.mkOther (by kernel_rfl)) (by kernel_rfl) rfl rfl rfl
-- func(int, []api.Cube, implicant.Task) bool
theorem tab48 : TI.Ok Tryz.prog 48 ⟨.other, 1, 8, [.nilFunc]⟩ := TI.mk' (z := (.nilFunc)) (TD.mkOther (by kernel_rfl)) (by kernel_rfl) rfl rfl rfl
-- func(implicant.Task) ([]api.Cube, api.Errno)
theorem tab49 : TI.Ok Tryz.prog 49 ⟨.other, 1, 8, [.nilFunc]⟩ := TI.mk' (z := (.nilFunc)) (TD.mkOther (by kernel_rfl)) (by kernel_rfl) rfl rfl rfl
-- func(pneumaticref06.Task) ([]api.Cube, int)
theorem tab50 : TI.Ok Tryz.prog 50 ⟨.other, 1, 8, [.nilFunc]⟩ := TI.mk' (z := (.nilFunc)) (TD.mkOther (by kernel_rfl)) (by kernel_rfl) rfl rfl rfl
-- func(implicant.Task) bool
theorem tab51 : TI.Ok Tryz.prog 51 ⟨.other, 1, 8, [.nilFunc]⟩ := TI.mk' (z := (.nilFunc)) (TD.mkOther (by kernel_rfl)) (by kernel_rfl) rfl rfl rfl
-- func(implicant.Task, []api.Cube) api.Errno
theorem tab52 : TI.Ok Tryz.prog 52 ⟨.other, 1, 8, [.nilFunc]⟩ := TI.mk' (z := (.nilFunc)) (TD.mkOther (by kernel_rfl)) (by kernel_rfl) rfl rfl rfl
-- func(implicant.Task, []api.Cube) bool
theorem tab53 : TI.Ok Tryz.prog 53 ⟨.other, 1, 8, [.nilFunc]⟩ := TI.mk' (z := (.nilFunc)) (TD.mkOther (by kernel_rfl)) (by kernel_rfl) rfl rfl rfl
-- func(api.Table, []int) (api.Table, api.Errno)
theorem tab55 : TI.Ok Tryz.prog 55 ⟨.other, 1, 8, [.nilFunc]⟩ := TI.mk' (z := (.nilFunc)) (TD.mkOther (by kernel_rfl)) (by kernel_rfl) rfl rfl rfl
-- func(int) int
theorem tab56 : TI.Ok Tryz.prog 56 ⟨.other, 1, 8, [.nilFunc]⟩ := TI.mk' (z := (.nilFunc)) (TD.mkOther (by kernel_rfl)) (by kernel_rfl) rfl rfl rfl
-- func(int, int, bool) int
theorem tab57 : TI.Ok Tryz.prog 57 ⟨.other, 1, 8, [.nilFunc]⟩ := TI.mk' (z := (.nilFunc)) (TD.mkOther (by kernel_rfl)) (by kernel_rfl) rfl rfl rfl
-- func(int, int) bool
theorem tab58 : TI.Ok Tryz.prog 58 ⟨.other, 1, 8, [.nilFunc]⟩ := TI.mk' (z := (.nilFunc)) (TD.mkOther (by kernel_rfl)) (by kernel_rfl) rfl rfl rfl
-- []implicant.Task
theorem tab59 : TI.Ok Tryz.prog 59 ⟨.slice 35, 1, 24, [.slice none 0 0]⟩ := TI.mk' (z := (.slice none 0 0)) (show Tryz.prog.underlying 59 = some (.slice 35) by kernel_rfl) (by kernel_rfl) rfl rfl rfl
-- func(implicant.Task, uint8, uint8) bool
theorem tab60 : TI.Ok Tryz.prog 60 ⟨.other, 1, 8, [.nilFunc]⟩ := TI.mk' (z := (.nilFunc)) (TD.mkOther (by kernel_rfl)) (by kernel_rfl) rfl rfl rfl
-- func(implicant.Task, []api.Cube) ([]int, api.Errno)
theorem tab61 : TI.Ok Tryz.prog 61 ⟨.other, 1, 8, [.nilFunc]⟩ := TI.mk' (z := (.nilFunc)) (TD.mkOther (by kernel_rfl)) (by kernel_rfl) rfl rfl rfl
-- func(pneumaticref06.Task, []api.Cube) ([]int, int)
theorem tab62 : TI.Ok Tryz.prog 62 ⟨.other, 1, 8, [.nilFunc]⟩ := TI.mk' (z := (.nilFunc)) (TD.mkOther (by kernel_rfl)) (by kernel_rfl) rfl rfl rfl
-- func(pneumaticref06.Task, []api.Cube) int
theorem tab63 : TI.Ok Tryz.prog 63 ⟨.other, 1, 8, [.nilFunc]⟩ := TI.mk' (z := (.nilFunc)) (TD.mkOther (by kernel_rfl)) (by kernel_rfl) rfl rfl rfl
-- func(implicant.Task, int, minimal.Proof) api.Errno
theorem tab64 : TI.Ok Tryz.prog 64 ⟨.other, 1, 8, [.nilFunc]⟩ := TI.mk' (z := (.nilFunc)) (TD.mkOther (by kernel_rfl)) (by kernel_rfl) rfl rfl rfl
-- []minimal.Proof
theorem tab65 : TI.Ok Tryz.prog 65 ⟨.slice 67, 1, 24, [.slice none 0 0]⟩ := TI.mk' (z := (.slice none 0 0)) (show Tryz.prog.underlying 65 = some (.slice 67) by kernel_rfl) (by kernel_rfl) rfl rfl rfl
-- struct { Points []int; Kids []minimal.Proof }
theorem tab66 : TI.Ok Tryz.prog 66 ⟨.struct [(0, 42), (1, 65)], 2, 48, [.slice none 0 0, .slice none 0 0]⟩ := TI.mk' (z := (.agg #[.slice none 0 0, .slice none 0 0])) (TD.mkStruct (l := [(0, 42), (1, 65)]) (by kernel_rfl) (by kernel_rfl) (by kernel_rfl)) (by kernel_rfl) rfl rfl rfl
-- minimal.Proof
theorem tab67 : TI.Ok Tryz.prog 67 ⟨.struct [(0, 42), (1, 65)], 2, 48, [.slice none 0 0, .slice none 0 0]⟩ := TI.mk' (z := (.agg #[.slice none 0 0, .slice none 0 0])) (TD.mkStruct (l := [(0, 42), (1, 65)]) (by kernel_rfl) (by kernel_rfl) (by kernel_rfl)) (by kernel_rfl) rfl rfl rfl
-- uint
theorem tab68 : TI.Ok Tryz.prog 68 ⟨.int .u64, 1, 8, [.int .u64 0]⟩ := TI.mk' (z := (.int .u64 0)) (show Tryz.prog.underlying 68 = some (.int .u64) by kernel_rfl) (by kernel_rfl) rfl rfl rfl
-- struct { Care uint; Value uint }
theorem tab69 : TI.Ok Tryz.prog 69 ⟨.struct [(0, 68), (1, 68)], 2, 16, [.int .u64 0, .int .u64 0]⟩ := TI.mk' (z := (.agg #[.int .u64 0, .int .u64 0])) (TD.mkStruct (l := [(0, 68), (1, 68)]) (by kernel_rfl) (by kernel_rfl) (by kernel_rfl)) (by kernel_rfl) rfl rfl rfl
-- api.Cube
theorem tab70 : TI.Ok Tryz.prog 70 ⟨.struct [(0, 68), (1, 68)], 2, 16, [.int .u64 0, .int .u64 0]⟩ := TI.mk' (z := (.agg #[.int .u64 0, .int .u64 0])) (TD.mkStruct (l := [(0, 68), (1, 68)]) (by kernel_rfl) (by kernel_rfl) (by kernel_rfl)) (by kernel_rfl) rfl rfl rfl
-- func([]int, int) bool
theorem tab71 : TI.Ok Tryz.prog 71 ⟨.other, 1, 8, [.nilFunc]⟩ := TI.mk' (z := (.nilFunc)) (TD.mkOther (by kernel_rfl)) (by kernel_rfl) rfl rfl rfl
-- func(api.Table) int
theorem tab72 : TI.Ok Tryz.prog 72 ⟨.other, 1, 8, [.nilFunc]⟩ := TI.mk' (z := (.nilFunc)) (TD.mkOther (by kernel_rfl)) (by kernel_rfl) rfl rfl rfl
-- func(api.Table) []api.Cube
theorem tab73 : TI.Ok Tryz.prog 73 ⟨.other, 1, 8, [.nilFunc]⟩ := TI.mk' (z := (.nilFunc)) (TD.mkOther (by kernel_rfl)) (by kernel_rfl) rfl rfl rfl
-- [][2]int
theorem tab74 : TI.Ok Tryz.prog 74 ⟨.slice 83, 1, 24, [.slice none 0 0]⟩ := TI.mk' (z := (.slice none 0 0)) (show Tryz.prog.underlying 74 = some (.slice 83) by kernel_rfl) (by kernel_rfl) rfl rfl rfl
-- func(int, []api.Cube) ([][2]int, api.Errno)
theorem tab76 : TI.Ok Tryz.prog 76 ⟨.other, 1, 8, [.nilFunc]⟩ := TI.mk' (z := (.nilFunc)) (TD.mkOther (by kernel_rfl)) (by kernel_rfl) rfl rfl rfl
-- func() []api.Cube
theorem tab77 : TI.Ok Tryz.prog 77 ⟨.other, 1, 8, [.nilFunc]⟩ := TI.mk' (z := (.nilFunc)) (TD.mkOther (by kernel_rfl)) (by kernel_rfl) rfl rfl rfl
-- func(int, []api.Cube, hazard.Change) (int, api.Errno)
theorem tab78 : TI.Ok Tryz.prog 78 ⟨.other, 1, 8, [.nilFunc]⟩ := TI.mk' (z := (.nilFunc)) (TD.mkOther (by kernel_rfl)) (by kernel_rfl) rfl rfl rfl
-- struct { From int; To int }
theorem tab79 : TI.Ok Tryz.prog 79 ⟨.struct [(0, 3), (1, 3)], 2, 16, [.int .i64 0, .int .i64 0]⟩ := TI.mk' (z := (.agg #[.int .i64 0, .int .i64 0])) (TD.mkStruct (l := [(0, 3), (1, 3)]) (by kernel_rfl) (by kernel_rfl) (by kernel_rfl)) (by kernel_rfl) rfl rfl rfl
-- hazard.Change
theorem tab80 : TI.Ok Tryz.prog 80 ⟨.struct [(0, 3), (1, 3)], 2, 16, [.int .i64 0, .int .i64 0]⟩ := TI.mk' (z := (.agg #[.int .i64 0, .int .i64 0])) (TD.mkStruct (l := [(0, 3), (1, 3)]) (by kernel_rfl) (by kernel_rfl) (by kernel_rfl)) (by kernel_rfl) rfl rfl rfl
-- func(int, []api.Cube) ([]api.Cube, api.Errno)
theorem tab81 : TI.Ok Tryz.prog 81 ⟨.other, 1, 8, [.nilFunc]⟩ := TI.mk' (z := (.nilFunc)) (TD.mkOther (by kernel_rfl)) (by kernel_rfl) rfl rfl rfl
-- func([][2]int, [][2]int) bool
theorem tab82 : TI.Ok Tryz.prog 82 ⟨.other, 1, 8, [.nilFunc]⟩ := TI.mk' (z := (.nilFunc)) (TD.mkOther (by kernel_rfl)) (by kernel_rfl) rfl rfl rfl
-- [2]int
theorem tab83 : TI.Ok Tryz.prog 83 ⟨.array 2 3, 2, 16, [.int .i64 0, .int .i64 0]⟩ := TI.mk' (z := (.agg #[.int .i64 0, .int .i64 0])) (show Tryz.prog.underlying 83 = some (.array 2 3) by kernel_rfl) (by kernel_rfl) rfl rfl rfl
-- func(int, []api.Cube, hazard.Change) (bool, api.Errno)
theorem tab85 : TI.Ok Tryz.prog 85 ⟨.other, 1, 8, [.nilFunc]⟩ := TI.mk' (z := (.nilFunc)) (TD.mkOther (by kernel_rfl)) (by kernel_rfl) rfl rfl rfl
-- func(api.Table) api.Errno
theorem tab86 : TI.Ok Tryz.prog 86 ⟨.other, 1, 8, [.nilFunc]⟩ := TI.mk' (z := (.nilFunc)) (TD.mkOther (by kernel_rfl)) (by kernel_rfl) rfl rfl rfl
-- func([]api.Cube, uint) []api.Cube
theorem tab87 : TI.Ok Tryz.prog 87 ⟨.other, 1, 8, [.nilFunc]⟩ := TI.mk' (z := (.nilFunc)) (TD.mkOther (by kernel_rfl)) (by kernel_rfl) rfl rfl rfl
-- func(uint) int
theorem tab88 : TI.Ok Tryz.prog 88 ⟨.other, 1, 8, [.nilFunc]⟩ := TI.mk' (z := (.nilFunc)) (TD.mkOther (by kernel_rfl)) (by kernel_rfl) rfl rfl rfl
-- func(int, []api.Cube) api.Table
theorem tab89 : TI.Ok Tryz.prog 89 ⟨.other, 1, 8, [.nilFunc]⟩ := TI.mk' (z := (.nilFunc)) (TD.mkOther (by kernel_rfl)) (by kernel_rfl) rfl rfl rfl
-- func(int, []api.Cube) [][2]int
theorem tab90 : TI.Ok Tryz.prog 90 ⟨.other, 1, 8, [.nilFunc]⟩ := TI.mk' (z := (.nilFunc)) (TD.mkOther (by kernel_rfl)) (by kernel_rfl) rfl rfl rfl
-- func(uint) uint
theorem tab91 : TI.Ok Tryz.prog 91 ⟨.other, 1, 8, [.nilFunc]⟩ := TI.mk' (z := (.nilFunc)) (TD.mkOther (by kernel_rfl)) (by kernel_rfl) rfl rfl rfl
-- func(...int) int
theorem tab92 : TI.Ok Tryz.prog 92 ⟨.other, 1, 8, [.nilFunc]⟩ := TI.mk' (z := (.nilFunc)) (TD.mkOther (by kernel_rfl)) (by kernel_rfl) rfl rfl rfl
-- func(int, int) int
theorem tab93 : TI.Ok Tryz.prog 93 ⟨.other, 1, 8, [.nilFunc]⟩ := TI.mk' (z := (.nilFunc)) (TD.mkOther (by kernel_rfl)) (by kernel_rfl) rfl rfl rfl
-- func([]api.Cube, int) []api.Cube
theorem tab94 : TI.Ok Tryz.prog 94 ⟨.other, 1, 8, [.nilFunc]⟩ := TI.mk' (z := (.nilFunc)) (TD.mkOther (by kernel_rfl)) (by kernel_rfl) rfl rfl rfl
-- func([]api.Cube) int
theorem tab95 : TI.Ok Tryz.prog 95 ⟨.other, 1, 8, [.nilFunc]⟩ := TI.mk' (z := (.nilFunc)) (TD.mkOther (by kernel_rfl)) (by kernel_rfl) rfl rfl rfl
-- func(api.Table, []api.Cube) bool
theorem tab96 : TI.Ok Tryz.prog 96 ⟨.other, 1, 8, [.nilFunc]⟩ := TI.mk' (z := (.nilFunc)) (TD.mkOther (by kernel_rfl)) (by kernel_rfl) rfl rfl rfl
-- func(pneumaticref06.Task) int
theorem tab97 : TI.Ok Tryz.prog 97 ⟨.other, 1, 8, [.nilFunc]⟩ := TI.mk' (z := (.nilFunc)) (TD.mkOther (by kernel_rfl)) (by kernel_rfl) rfl rfl rfl
-- func(pneumaticref06.Task) []api.Cube
theorem tab98 : TI.Ok Tryz.prog 98 ⟨.other, 1, 8, [.nilFunc]⟩ := TI.mk' (z := (.nilFunc)) (TD.mkOther (by kernel_rfl)) (by kernel_rfl) rfl rfl rfl
-- func() implicant.Task
theorem tab99 : TI.Ok Tryz.prog 99 ⟨.other, 1, 8, [.nilFunc]⟩ := TI.mk' (z := (.nilFunc)) (TD.mkOther (by kernel_rfl)) (by kernel_rfl) rfl rfl rfl
-- func(int, []api.Cube) api.Errno
theorem tab100 : TI.Ok Tryz.prog 100 ⟨.other, 1, 8, [.nilFunc]⟩ := TI.mk' (z := (.nilFunc)) (TD.mkOther (by kernel_rfl)) (by kernel_rfl) rfl rfl rfl
-- func(int, []api.Cube) int
theorem tab101 : TI.Ok Tryz.prog 101 ⟨.other, 1, 8, [.nilFunc]⟩ := TI.mk' (z := (.nilFunc)) (TD.mkOther (by kernel_rfl)) (by kernel_rfl) rfl rfl rfl
-- *minimal.work
theorem tab102 : TI.Ok Tryz.prog 102 ⟨.other, 1, 8, [.pointer none]⟩ := TI.mk' (z := (.pointer none)) (TD.mkOther (by kernel_rfl)) (by kernel_rfl) rfl rfl rfl
-- func(implicant.Task) (*minimal.work, api.Errno)
theorem tab104 : TI.Ok Tryz.prog 104 ⟨.other, 1, 8, [.nilFunc]⟩ := TI.mk' (z := (.nilFunc)) (TD.mkOther (by kernel_rfl)) (by kernel_rfl) rfl rfl rfl
-- func([]int) []int
theorem tab105 : TI.Ok Tryz.prog 105 ⟨.other, 1, 8, [.nilFunc]⟩ := TI.mk' (z := (.nilFunc)) (TD.mkOther (by kernel_rfl)) (by kernel_rfl) rfl rfl rfl
-- func(minimal.counts) []int
theorem tab106 : TI.Ok Tryz.prog 106 ⟨.other, 1, 8, [.nilFunc]⟩ := TI.mk' (z := (.nilFunc)) (TD.mkOther (by kernel_rfl)) (by kernel_rfl) rfl rfl rfl
-- [64]int
theorem tab107 : TI.Ok Tryz.prog 107 ⟨.array 64 3, 64, 512, [.int .i64 0, .int .i64 0, .int .i64 0, .int .i64 0, .int .i64 0, .int .i64 0, .int .i64 0, .int .i64 0, .int .i64 0, .int .i64 0, .int .i64 0, .int .i64 0, .int .i64 0, .int .i64 0, .int .i64 0, .int .i64 0, .int .i64 0, .int .i64 0, .int .i64 0, .int .i64 0, .int .i64 0, .int .i64 0, .int .i64 0, .int .i64 0, .int .i64 0, .int .i64 0, .int .i64 0, .int .i64 0, .int .i64 0, .int .i64 0, .int .i64 0, .int .i64 0, .int .i64 0, .int .i64 0, .int .i64 0, .int .i64 0, .int .i64 0, .int .i64 0, .int .i64 0, .int .i64 0, .int .i64 0, .int .i64 0, .int .i64 0, .int .i64 0, .int .i64 0, .int .i64 0, .int .i64 0, .int .i64 0, .int .i64 0, .int .i64 0, .int .i64 0, .int .i64 0, .int .i64 0, .int .i64 0, .int .i64 0, .int .i64 0, .int .i64 0, .int .i64 0, .int .i64 0, .int .i64 0, .int .i64 0, .int .i64 0, .int .i64 0, .int .i64 0]⟩ := TI.mk' (z := (.agg #[.int .i64 0, .int .i64 0, .int .i64 0, .int .i64 0, .int .i64 0, .int .i64 0, .int .i64 0, .int .i64 0, .int .i64 0, .int .i64 0, .int .i64 0, .int .i64 0, .int .i64 0, .int .i64 0, .int .i64 0, .int .i64 0, .int .i64 0, .int .i64 0, .int .i64 0, .int .i64 0, .int .i64 0, .int .i64 0, .int .i64 0, .int .i64 0, .int .i64 0, .int .i64 0, .int .i64 0, .int .i64 0, .int .i64 0, .int .i64 0, .int .i64 0, .int .i64 0, .int .i64 0, .int .i64 0, .int .i64 0, .int .i64 0, .int .i64 0, .int .i64 0, .int .i64 0, .int .i64 0, .int .i64 0, .int .i64 0, .int .i64 0, .int .i64 0, .int .i64 0, .int .i64 0, .int .i64 0, .int .i64 0, .int .i64 0, .int .i64 0, .int .i64 0, .int .i64 0, .int .i64 0, .int .i64 0, .int .i64 0, .int .i64 0, .int .i64 0, .int .i64 0, .int .i64 0, .int .i64 0, .int .i64 0, .int .i64 0, .int .i64 0, .int .i64 0])) (show Tryz.prog.underlying 107 = some (.array 64 3) by kernel_rfl) (by kernel_rfl) rfl rfl rfl
-- minimal.counts
theorem tab108 : TI.Ok Tryz.prog 108 ⟨.array 64 3, 64, 512, [.int .i64 0, .int .i64 0, .int .i64 0, .int .i64 0, .int .i64 0, .int .i64 0, .int .i64 0, .int .i64 0, .int .i64 0, .int .i64 0, .int .i64 0, .int .i64 0, .int .i64 0, .int .i64 0, .int .i64 0, .int .i64 0, .int .i64 0, .int .i64 0, .int .i64 0, .int .i64 0, .int .i64 0, .int .i64 0, .int .i64 0, .int .i64 0, .int .i64 0, .int .i64 0, .int .i64 0, .int .i64 0, .int .i64 0, .int .i64 0, .int .i64 0, .int .i64 0, .int .i64 0, .int .i64 0, .int .i64 0, .int .i64 0, .int .i64 0, .int .i64 0, .int .i64 0, .int .i64 0, .int .i64 0, .int .i64 0, .int .i64 0, .int .i64 0, .int .i64 0, .int .i64 0, .int .i64 0, .int .i64 0, .int .i64 0, .int .i64 0, .int .i64 0, .int .i64 0, .int .i64 0, .int .i64 0, .int .i64 0, .int .i64 0, .int .i64 0, .int .i64 0, .int .i64 0, .int .i64 0, .int .i64 0, .int .i64 0, .int .i64 0, .int .i64 0]⟩ := TI.mk' (z := (.agg #[.int .i64 0, .int .i64 0, .int .i64 0, .int .i64 0, .int .i64 0, .int .i64 0, .int .i64 0, .int .i64 0, .int .i64 0, .int .i64 0, .int .i64 0, .int .i64 0, .int .i64 0, .int .i64 0, .int .i64 0, .int .i64 0, .int .i64 0, .int .i64 0, .int .i64 0, .int .i64 0, .int .i64 0, .int .i64 0, .int .i64 0, .int .i64 0, .int .i64 0, .int .i64 0, .int .i64 0, .int .i64 0, .int .i64 0, .int .i64 0, .int .i64 0, .int .i64 0, .int .i64 0, .int .i64 0, .int .i64 0, .int .i64 0, .int .i64 0, .int .i64 0, .int .i64 0, .int .i64 0, .int .i64 0, .int .i64 0, .int .i64 0, .int .i64 0, .int .i64 0, .int .i64 0, .int .i64 0, .int .i64 0, .int .i64 0, .int .i64 0, .int .i64 0, .int .i64 0, .int .i64 0, .int .i64 0, .int .i64 0, .int .i64 0, .int .i64 0, .int .i64 0, .int .i64 0, .int .i64 0, .int .i64 0, .int .i64 0, .int .i64 0, .int .i64 0])) (show Tryz.prog.underlying 108 = some (.array 64 3) by kernel_rfl) (by kernel_rfl) rfl rfl rfl
-- func(pneumaticref06.Task, []api.Cube, []int, int) []int
theorem tab109 : TI.Ok Tryz.prog 109 ⟨.other, 1, 8, [.nilFunc]⟩ := TI.mk' (z := (.nilFunc)) (TD.mkOther (by kernel_rfl)) (by kernel_rfl) rfl rfl rfl
-- func([]int) []api.Cube
theorem tab110 : TI.Ok Tryz.prog 110 ⟨.other, 1, 8, [.nilFunc]⟩ := TI.mk' (z := (.nilFunc)) (TD.mkOther (by kernel_rfl)) (by kernel_rfl) rfl rfl rfl
-- func() []int
theorem tab111 : TI.Ok Tryz.prog 111 ⟨.other, 1, 8, [.nilFunc]⟩ := TI.mk' (z := (.nilFunc)) (TD.mkOther (by kernel_rfl)) (by kernel_rfl) rfl rfl rfl
-- func(implicant.Task, []api.Cube) (*minimal.work, api.Errno)
theorem tab112 : TI.Ok Tryz.prog 112 ⟨.other, 1, 8, [.nilFunc]⟩ := TI.mk' (z := (.nilFunc)) (TD.mkOther (by kernel_rfl)) (by kernel_rfl) rfl rfl rfl
-- func(int, func(int) bool) api.Table
theorem tab113 : TI.Ok Tryz.prog 113 ⟨.other, 1, 8, [.nilFunc]⟩ := TI.mk' (z := (.nilFunc)) (TD.mkOther (by kernel_rfl)) (by kernel_rfl) rfl rfl rfl
-- func(api.Table, int) bool
theorem tab114 : TI.Ok Tryz.prog 114 ⟨.other, 1, 8, [.nilFunc]⟩ := TI.mk' (z := (.nilFunc)) (TD.mkOther (by kernel_rfl)) (by kernel_rfl) rfl rfl rfl
-- func(int) bool
theorem tab115 : TI.Ok Tryz.prog 115 ⟨.other, 1, 8, [.nilFunc]⟩ := TI.mk' (z := (.nilFunc)) (TD.mkOther (by kernel_rfl)) (by kernel_rfl) rfl rfl rfl
-- func([]api.Cube) []api.Cube
theorem tab116 : TI.Ok Tryz.prog 116 ⟨.other, 1, 8, [.nilFunc]⟩ := TI.mk' (z := (.nilFunc)) (TD.mkOther (by kernel_rfl)) (by kernel_rfl) rfl rfl rfl
-- func(func(int, api.Cube) bool)
theorem tab117 : TI.Ok Tryz.prog 117 ⟨.other, 1, 8, [.nilFunc]⟩ := TI.mk' (z := (.nilFunc)) (TD.mkOther (by kernel_rfl)) (by kernel_rfl) rfl rfl rfl
-- iter.Seq2[int,pneumatic/api.Cube]
theorem tab118 : TI.Ok Tryz.prog 118 ⟨.other, 1, 8, [.nilFunc]⟩ := TI.mk' (z := (.nilFunc)) (TD.mkOther (by kernel_rfl)) (by kernel_rfl) rfl rfl rfl
-- func([]api.Cube) iter.Seq2[int,pneumatic/api.Cube]
theorem tab119 : TI.Ok Tryz.prog 119 ⟨.other, 1, 8, [.nilFunc]⟩ := TI.mk' (z := (.nilFunc)) (TD.mkOther (by kernel_rfl)) (by kernel_rfl) rfl rfl rfl
-- func([]api.Cube, int, int) []api.Cube
theorem tab120 : TI.Ok Tryz.prog 120 ⟨.other, 1, 8, [.nilFunc]⟩ := TI.mk' (z := (.nilFunc)) (TD.mkOther (by kernel_rfl)) (by kernel_rfl) rfl rfl rfl
-- func([]api.Cube) bool
theorem tab121 : TI.Ok Tryz.prog 121 ⟨.other, 1, 8, [.nilFunc]⟩ := TI.mk' (z := (.nilFunc)) (TD.mkOther (by kernel_rfl)) (by kernel_rfl) rfl rfl rfl
-- func([]int)
theorem tab122 : TI.Ok Tryz.prog 122 ⟨.other, 1, 8, [.nilFunc]⟩ := TI.mk' (z := (.nilFunc)) (TD.mkOther (by kernel_rfl)) (by kernel_rfl) rfl rfl rfl
-- func(pneumaticref06.Task, []api.Cube) bool
theorem tab123 : TI.Ok Tryz.prog 123 ⟨.other, 1, 8, [.nilFunc]⟩ := TI.mk' (z := (.nilFunc)) (TD.mkOther (by kernel_rfl)) (by kernel_rfl) rfl rfl rfl
-- func(minimal.Proof) bool
theorem tab124 : TI.Ok Tryz.prog 124 ⟨.other, 1, 8, [.nilFunc]⟩ := TI.mk' (z := (.nilFunc)) (TD.mkOther (by kernel_rfl)) (by kernel_rfl) rfl rfl rfl
-- func(minimal.counts, int, minimal.Proof) bool
theorem tab125 : TI.Ok Tryz.prog 125 ⟨.other, 1, 8, [.nilFunc]⟩ := TI.mk' (z := (.nilFunc)) (TD.mkOther (by kernel_rfl)) (by kernel_rfl) rfl rfl rfl
-- func([]int, int) int
theorem tab126 : TI.Ok Tryz.prog 126 ⟨.other, 1, 8, [.nilFunc]⟩ := TI.mk' (z := (.nilFunc)) (TD.mkOther (by kernel_rfl)) (by kernel_rfl) rfl rfl rfl
-- func(int, []api.Cube, hazard.Change) api.Errno
theorem tab127 : TI.Ok Tryz.prog 127 ⟨.other, 1, 8, [.nilFunc]⟩ := TI.mk' (z := (.nilFunc)) (TD.mkOther (by kernel_rfl)) (by kernel_rfl) rfl rfl rfl
-- func([]api.Cube, hazard.Change) int
theorem tab128 : TI.Ok Tryz.prog 128 ⟨.other, 1, 8, [.nilFunc]⟩ := TI.mk' (z := (.nilFunc)) (TD.mkOther (by kernel_rfl)) (by kernel_rfl) rfl rfl rfl
-- func([]api.Cube, [2]int) bool
theorem tab129 : TI.Ok Tryz.prog 129 ⟨.other, 1, 8, [.nilFunc]⟩ := TI.mk' (z := (.nilFunc)) (TD.mkOther (by kernel_rfl)) (by kernel_rfl) rfl rfl rfl
-- func([]api.Cube, func(api.Cube) bool) int
theorem tab130 : TI.Ok Tryz.prog 130 ⟨.other, 1, 8, [.nilFunc]⟩ := TI.mk' (z := (.nilFunc)) (TD.mkOther (by kernel_rfl)) (by kernel_rfl) rfl rfl rfl
-- func(api.Cube) bool
theorem tab131 : TI.Ok Tryz.prog 131 ⟨.other, 1, 8, [.nilFunc]⟩ := TI.mk' (z := (.nilFunc)) (TD.mkOther (by kernel_rfl)) (by kernel_rfl) rfl rfl rfl
-- func(int) uint64
theorem tab132 : TI.Ok Tryz.prog 132 ⟨.other, 1, 8, [.nilFunc]⟩ := TI.mk' (z := (.nilFunc)) (TD.mkOther (by kernel_rfl)) (by kernel_rfl) rfl rfl rfl
-- func(int, bool) (api.Table, api.Errno)
theorem tab133 : TI.Ok Tryz.prog 133 ⟨.other, 1, 8, [.nilFunc]⟩ := TI.mk' (z := (.nilFunc)) (TD.mkOther (by kernel_rfl)) (by kernel_rfl) rfl rfl rfl
-- func(uint32) int
theorem tab134 : TI.Ok Tryz.prog 134 ⟨.other, 1, 8, [.nilFunc]⟩ := TI.mk' (z := (.nilFunc)) (TD.mkOther (by kernel_rfl)) (by kernel_rfl) rfl rfl rfl
-- uint32
theorem tab135 : TI.Ok Tryz.prog 135 ⟨.int .u32, 1, 4, [.int .u32 0]⟩ := TI.mk' (z := (.int .u32 0)) (show Tryz.prog.underlying 135 = some (.int .u32) by kernel_rfl) (by kernel_rfl) rfl rfl rfl
-- func(uint64) int
theorem tab136 : TI.Ok Tryz.prog 136 ⟨.other, 1, 8, [.nilFunc]⟩ := TI.mk' (z := (.nilFunc)) (TD.mkOther (by kernel_rfl)) (by kernel_rfl) rfl rfl rfl
-- func([]api.Cube, func(api.Cube) bool) bool
theorem tab137 : TI.Ok Tryz.prog 137 ⟨.other, 1, 8, [.nilFunc]⟩ := TI.mk' (z := (.nilFunc)) (TD.mkOther (by kernel_rfl)) (by kernel_rfl) rfl rfl rfl
-- func(api.Cube, int) bool
theorem tab138 : TI.Ok Tryz.prog 138 ⟨.other, 1, 8, [.nilFunc]⟩ := TI.mk' (z := (.nilFunc)) (TD.mkOther (by kernel_rfl)) (by kernel_rfl) rfl rfl rfl
-- func([][2]int, func([2]int) bool) [][2]int
theorem tab139 : TI.Ok Tryz.prog 139 ⟨.other, 1, 8, [.nilFunc]⟩ := TI.mk' (z := (.nilFunc)) (TD.mkOther (by kernel_rfl)) (by kernel_rfl) rfl rfl rfl
-- func(api.Table) [][2]int
theorem tab140 : TI.Ok Tryz.prog 140 ⟨.other, 1, 8, [.nilFunc]⟩ := TI.mk' (z := (.nilFunc)) (TD.mkOther (by kernel_rfl)) (by kernel_rfl) rfl rfl rfl
-- func([2]int) bool
theorem tab141 : TI.Ok Tryz.prog 141 ⟨.other, 1, 8, [.nilFunc]⟩ := TI.mk' (z := (.nilFunc)) (TD.mkOther (by kernel_rfl)) (by kernel_rfl) rfl rfl rfl
-- func(uint32) uint32
theorem tab142 : TI.Ok Tryz.prog 142 ⟨.other, 1, 8, [.nilFunc]⟩ := TI.mk' (z := (.nilFunc)) (TD.mkOther (by kernel_rfl)) (by kernel_rfl) rfl rfl rfl
-- func(uint64) uint64
theorem tab143 : TI.Ok Tryz.prog 143 ⟨.other, 1, 8, [.nilFunc]⟩ := TI.mk' (z := (.nilFunc)) (TD.mkOther (by kernel_rfl)) (by kernel_rfl) rfl rfl rfl
-- func(int) []api.Cube
theorem tab144 : TI.Ok Tryz.prog 144 ⟨.other, 1, 8, [.nilFunc]⟩ := TI.mk' (z := (.nilFunc)) (TD.mkOther (by kernel_rfl)) (by kernel_rfl) rfl rfl rfl
-- func(pneumaticref06.Task, api.Cube) bool
theorem tab145 : TI.Ok Tryz.prog 145 ⟨.other, 1, 8, [.nilFunc]⟩ := TI.mk' (z := (.nilFunc)) (TD.mkOther (by kernel_rfl)) (by kernel_rfl) rfl rfl rfl
-- func(int, api.Cube) api.Errno
theorem tab146 : TI.Ok Tryz.prog 146 ⟨.other, 1, 8, [.nilFunc]⟩ := TI.mk' (z := (.nilFunc)) (TD.mkOther (by kernel_rfl)) (by kernel_rfl) rfl rfl rfl
-- func(int, api.Cube) int
theorem tab147 : TI.Ok Tryz.prog 147 ⟨.other, 1, 8, [.nilFunc]⟩ := TI.mk' (z := (.nilFunc)) (TD.mkOther (by kernel_rfl)) (by kernel_rfl) rfl rfl rfl
-- func([]int, int)
theorem tab148 : TI.Ok Tryz.prog 148 ⟨.other, 1, 8, [.nilFunc]⟩ := TI.mk' (z := (.nilFunc)) (TD.mkOther (by kernel_rfl)) (by kernel_rfl) rfl rfl rfl
-- struct { task implicant.Task; primes []api.Cube }
theorem tab149 : TI.Ok Tryz.prog 149 ⟨.struct [(0, 35), (4, 27)], 5, 56, [.int .i64 0, .int .u64 0, .int .i64 0, .int .u64 0, .slice none 0 0]⟩ := TI.mk' (z := (.agg #[.int .i64 0, .int .u64 0, .int .i64 0, .int .u64 0, .slice none 0 0])) (TD.mkStruct (l := [(0, 35), (4, 27)]) (by kernel_rfl) (by kernel_rfl) (by kernel_rfl)) (by kernel_rfl) rfl rfl rfl
-- minimal.work
theorem tab150 : TI.Ok Tryz.prog 150 ⟨.struct [(0, 35), (4, 27)], 5, 56, [.int .i64 0, .int .u64 0, .int .i64 0, .int .u64 0, .slice none 0 0]⟩ := TI.mk' (z := (.agg #[.int .i64 0, .int .u64 0, .int .i64 0, .int .u64 0, .slice none 0 0])) (TD.mkStruct (l := [(0, 35), (4, 27)]) (by kernel_rfl) (by kernel_rfl) (by kernel_rfl)) (by kernel_rfl) rfl rfl rfl
-- func(pneumaticref06.Task, []api.Cube, []int) bool
theorem tab151 : TI.Ok Tryz.prog 151 ⟨.other, 1, 8, [.nilFunc]⟩ := TI.mk' (z := (.nilFunc)) (TD.mkOther (by kernel_rfl)) (by kernel_rfl) rfl rfl rfl
-- func(int) ([]int, bool)
theorem tab153 : TI.Ok Tryz.prog 153 ⟨.other, 1, 8, [.nilFunc]⟩ := TI.mk' (z := (.nilFunc)) (TD.mkOther (by kernel_rfl)) (by kernel_rfl) rfl rfl rfl
-- func(implicant.Task, api.Cube) (bool, api.Errno)
theorem tab154 : TI.Ok Tryz.prog 154 ⟨.other, 1, 8, [.nilFunc]⟩ := TI.mk' (z := (.nilFunc)) (TD.mkOther (by kernel_rfl)) (by kernel_rfl) rfl rfl rfl
-- func(func(int) bool)
theorem tab155 : TI.Ok Tryz.prog 155 ⟨.other, 1, 8, [.nilFunc]⟩ := TI.mk' (z := (.nilFunc)) (TD.mkOther (by kernel_rfl)) (by kernel_rfl) rfl rfl rfl
-- iter.Seq[int]
theorem tab156 : TI.Ok Tryz.prog 156 ⟨.other, 1, 8, [.nilFunc]⟩ := TI.mk' (z := (.nilFunc)) (TD.mkOther (by kernel_rfl)) (by kernel_rfl) rfl rfl rfl
-- func(int) iter.Seq[int]
theorem tab157 : TI.Ok Tryz.prog 157 ⟨.other, 1, 8, [.nilFunc]⟩ := TI.mk' (z := (.nilFunc)) (TD.mkOther (by kernel_rfl)) (by kernel_rfl) rfl rfl rfl
-- func(int, api.Cube) bool
theorem tab158 : TI.Ok Tryz.prog 158 ⟨.other, 1, 8, [.nilFunc]⟩ := TI.mk' (z := (.nilFunc)) (TD.mkOther (by kernel_rfl)) (by kernel_rfl) rfl rfl rfl
-- func(minimal.counts, api.Cube) minimal.counts
theorem tab159 : TI.Ok Tryz.prog 159 ⟨.other, 1, 8, [.nilFunc]⟩ := TI.mk' (z := (.nilFunc)) (TD.mkOther (by kernel_rfl)) (by kernel_rfl) rfl rfl rfl
-- func([]api.Cube, int) []int
theorem tab160 : TI.Ok Tryz.prog 160 ⟨.other, 1, 8, [.nilFunc]⟩ := TI.mk' (z := (.nilFunc)) (TD.mkOther (by kernel_rfl)) (by kernel_rfl) rfl rfl rfl
-- func(implicant.Task) api.Errno
theorem tab161 : TI.Ok Tryz.prog 161 ⟨.other, 1, 8, [.nilFunc]⟩ := TI.mk' (z := (.nilFunc)) (TD.mkOther (by kernel_rfl)) (by kernel_rfl) rfl rfl rfl
-- func(minimal.Proof)
theorem tab162 : TI.Ok Tryz.prog 162 ⟨.other, 1, 8, [.nilFunc]⟩ := TI.mk' (z := (.nilFunc)) (TD.mkOther (by kernel_rfl)) (by kernel_rfl) rfl rfl rfl
-- func(int) []int
theorem tab163 : TI.Ok Tryz.prog 163 ⟨.other, 1, 8, [.nilFunc]⟩ := TI.mk' (z := (.nilFunc)) (TD.mkOther (by kernel_rfl)) (by kernel_rfl) rfl rfl rfl
-- [3]int
theorem tab164 : TI.Ok Tryz.prog 164 ⟨.array 3 3, 3, 24, [.int .i64 0, .int .i64 0, .int .i64 0]⟩ := TI.mk' (z := (.agg #[.int .i64 0, .int .i64 0, .int .i64 0])) (show Tryz.prog.underlying 164 = some (.array 3 3) by kernel_rfl) (by kernel_rfl) rfl rfl rfl
-- [3][3]int
theorem tab165 : TI.Ok Tryz.prog 165 ⟨.array 3 164, 9, 72, [.int .i64 0, .int .i64 0, .int .i64 0, .int .i64 0, .int .i64 0, .int .i64 0, .int .i64 0, .int .i64 0, .int .i64 0]⟩ := TI.mk' (z := (.agg #[.int .i64 0, .int .i64 0, .int .i64 0, .int .i64 0, .int .i64 0, .int .i64 0, .int .i64 0, .int .i64 0, .int .i64 0])) (show Tryz.prog.underlying 165 = some (.array 3 164) by kernel_rfl) (by kernel_rfl) rfl rfl rfl
-- func() [3][3]int
theorem tab166 : TI.Ok Tryz.prog 166 ⟨.other, 1, 8, [.nilFunc]⟩ := TI.mk' (z := (.nilFunc)) (TD.mkOther (by kernel_rfl)) (by kernel_rfl) rfl rfl rfl
-- func(api.Cube, hazard.Change) int
theorem tab167 : TI.Ok Tryz.prog 167 ⟨.other, 1, 8, [.nilFunc]⟩ := TI.mk' (z := (.nilFunc)) (TD.mkOther (by kernel_rfl)) (by kernel_rfl) rfl rfl rfl
-- func(implicant.Task) []api.Cube
theorem tab168 : TI.Ok Tryz.prog 168 ⟨.other, 1, 8, [.nilFunc]⟩ := TI.mk' (z := (.nilFunc)) (TD.mkOther (by kernel_rfl)) (by kernel_rfl) rfl rfl rfl
-- func([][2]int, func([2]int) bool) int
theorem tab169 : TI.Ok Tryz.prog 169 ⟨.other, 1, 8, [.nilFunc]⟩ := TI.mk' (z := (.nilFunc)) (TD.mkOther (by kernel_rfl)) (by kernel_rfl) rfl rfl rfl
-- func(int, []int) api.Table
theorem tab170 : TI.Ok Tryz.prog 170 ⟨.other, 1, 8, [.nilFunc]⟩ := TI.mk' (z := (.nilFunc)) (TD.mkOther (by kernel_rfl)) (by kernel_rfl) rfl rfl rfl
-- func(api.Cube, api.Cube, []int) api.Cube
theorem tab171 : TI.Ok Tryz.prog 171 ⟨.other, 1, 8, [.nilFunc]⟩ := TI.mk' (z := (.nilFunc)) (TD.mkOther (by kernel_rfl)) (by kernel_rfl) rfl rfl rfl
-- func(int) uint
theorem tab172 : TI.Ok Tryz.prog 172 ⟨.other, 1, 8, [.nilFunc]⟩ := TI.mk' (z := (.nilFunc)) (TD.mkOther (by kernel_rfl)) (by kernel_rfl) rfl rfl rfl
-- func([]int, func(int) bool) bool
theorem tab173 : TI.Ok Tryz.prog 173 ⟨.other, 1, 8, [.nilFunc]⟩ := TI.mk' (z := (.nilFunc)) (TD.mkOther (by kernel_rfl)) (by kernel_rfl) rfl rfl rfl
-- func([]int, []int) int
theorem tab174 : TI.Ok Tryz.prog 174 ⟨.other, 1, 8, [.nilFunc]⟩ := TI.mk' (z := (.nilFunc)) (TD.mkOther (by kernel_rfl)) (by kernel_rfl) rfl rfl rfl
-- func([]int) bool
theorem tab175 : TI.Ok Tryz.prog 175 ⟨.other, 1, 8, [.nilFunc]⟩ := TI.mk' (z := (.nilFunc)) (TD.mkOther (by kernel_rfl)) (by kernel_rfl) rfl rfl rfl
-- func(minimal.counts, []int)
theorem tab176 : TI.Ok Tryz.prog 176 ⟨.other, 1, 8, [.nilFunc]⟩ := TI.mk' (z := (.nilFunc)) (TD.mkOther (by kernel_rfl)) (by kernel_rfl) rfl rfl rfl
-- func(iter.Seq[int]) []int
theorem tab177 : TI.Ok Tryz.prog 177 ⟨.other, 1, 8, [.nilFunc]⟩ := TI.mk' (z := (.nilFunc)) (TD.mkOther (by kernel_rfl)) (by kernel_rfl) rfl rfl rfl
-- func([]int) iter.Seq[int]
theorem tab178 : TI.Ok Tryz.prog 178 ⟨.other, 1, 8, [.nilFunc]⟩ := TI.mk' (z := (.nilFunc)) (TD.mkOther (by kernel_rfl)) (by kernel_rfl) rfl rfl rfl
-- func(implicant.Task, api.Cube) bool
theorem tab179 : TI.Ok Tryz.prog 179 ⟨.other, 1, 8, [.nilFunc]⟩ := TI.mk' (z := (.nilFunc)) (TD.mkOther (by kernel_rfl)) (by kernel_rfl) rfl rfl rfl
-- [2]api.Table
theorem tab180 : TI.Ok Tryz.prog 180 ⟨.array 2 24, 4, 32, [.int .i64 0, .int .u64 0, .int .i64 0, .int .u64 0]⟩ := TI.mk' (z := (.agg #[.int .i64 0, .int .u64 0, .int .i64 0, .int .u64 0])) (show Tryz.prog.underlying 180 = some (.array 2 24) by kernel_rfl) (by kernel_rfl) rfl rfl rfl
-- func(func(api.Cube) bool)
theorem tab181 : TI.Ok Tryz.prog 181 ⟨.other, 1, 8, [.nilFunc]⟩ := TI.mk' (z := (.nilFunc)) (TD.mkOther (by kernel_rfl)) (by kernel_rfl) rfl rfl rfl
-- iter.Seq[pneumatic/api.Cube]
theorem tab182 : TI.Ok Tryz.prog 182 ⟨.other, 1, 8, [.nilFunc]⟩ := TI.mk' (z := (.nilFunc)) (TD.mkOther (by kernel_rfl)) (by kernel_rfl) rfl rfl rfl
-- func(int) iter.Seq[pneumatic/api.Cube]
theorem tab183 : TI.Ok Tryz.prog 183 ⟨.other, 1, 8, [.nilFunc]⟩ := TI.mk' (z := (.nilFunc)) (TD.mkOther (by kernel_rfl)) (by kernel_rfl) rfl rfl rfl
-- func(int, api.Cube) uint64
theorem tab184 : TI.Ok Tryz.prog 184 ⟨.other, 1, 8, [.nilFunc]⟩ := TI.mk' (z := (.nilFunc)) (TD.mkOther (by kernel_rfl)) (by kernel_rfl) rfl rfl rfl
-- func([]api.Cube, func(api.Cube, api.Cube) int)
theorem tab185 : TI.Ok Tryz.prog 185 ⟨.other, 1, 8, [.nilFunc]⟩ := TI.mk' (z := (.nilFunc)) (TD.mkOther (by kernel_rfl)) (by kernel_rfl) rfl rfl rfl
-- func(uint, uint) int
theorem tab186 : TI.Ok Tryz.prog 186 ⟨.other, 1, 8, [.nilFunc]⟩ := TI.mk' (z := (.nilFunc)) (TD.mkOther (by kernel_rfl)) (by kernel_rfl) rfl rfl rfl
-- func(api.Cube, api.Cube) int
theorem tab187 : TI.Ok Tryz.prog 187 ⟨.other, 1, 8, [.nilFunc]⟩ := TI.mk' (z := (.nilFunc)) (TD.mkOther (by kernel_rfl)) (by kernel_rfl) rfl rfl rfl
-- func(int, int, int) []int
theorem tab188 : TI.Ok Tryz.prog 188 ⟨.other, 1, 8, [.nilFunc]⟩ := TI.mk' (z := (.nilFunc)) (TD.mkOther (by kernel_rfl)) (by kernel_rfl) rfl rfl rfl
-- func([]int, func(int) bool) int
theorem tab189 : TI.Ok Tryz.prog 189 ⟨.other, 1, 8, [.nilFunc]⟩ := TI.mk' (z := (.nilFunc)) (TD.mkOther (by kernel_rfl)) (by kernel_rfl) rfl rfl rfl
-- func([]api.Cube, int, int, int, func(api.Cube, api.Cube) int)
theorem tab190 : TI.Ok Tryz.prog 190 ⟨.other, 1, 8, [.nilFunc]⟩ := TI.mk' (z := (.nilFunc)) (TD.mkOther (by kernel_rfl)) (by kernel_rfl) rfl rfl rfl
-- func(uint) bool
theorem tab191 : TI.Ok Tryz.prog 191 ⟨.other, 1, 8, [.nilFunc]⟩ := TI.mk' (z := (.nilFunc)) (TD.mkOther (by kernel_rfl)) (by kernel_rfl) rfl rfl rfl
-- func([]int, iter.Seq[int]) []int
theorem tab192 : TI.Ok Tryz.prog 192 ⟨.other, 1, 8, [.nilFunc]⟩ := TI.mk' (z := (.nilFunc)) (TD.mkOther (by kernel_rfl)) (by kernel_rfl) rfl rfl rfl
-- func([]int, int, int, int)
theorem tab193 : TI.Ok Tryz.prog 193 ⟨.other, 1, 8, [.nilFunc]⟩ := TI.mk' (z := (.nilFunc)) (TD.mkOther (by kernel_rfl)) (by kernel_rfl) rfl rfl rfl
-- func([]api.Cube, int, int, func(api.Cube, api.Cube) int)
theorem tab194 : TI.Ok Tryz.prog 194 ⟨.other, 1, 8, [.nilFunc]⟩ := TI.mk' (z := (.nilFunc)) (TD.mkOther (by kernel_rfl)) (by kernel_rfl) rfl rfl rfl
-- slices.sortedHint
theorem tab195 : TI.Ok Tryz.prog 195 ⟨.int .i64, 1, 8, [.int .i64 0]⟩ := TI.mk' (z := (.int .i64 0)) (show Tryz.prog.underlying 195 = some (.int .i64) by kernel_rfl) (by kernel_rfl) rfl rfl rfl
-- func([]api.Cube, int, int, func(api.Cube, api.Cube) int) (int, slices.sortedHint)
theorem tab197 : TI.Ok Tryz.prog 197 ⟨.other, 1, 8, [.nilFunc]⟩ := TI.mk' (z := (.nilFunc)) (TD.mkOther (by kernel_rfl)) (by kernel_rfl) rfl rfl rfl
-- func([]api.Cube, int, int, func(api.Cube, api.Cube) int) bool
theorem tab198 : TI.Ok Tryz.prog 198 ⟨.other, 1, 8, [.nilFunc]⟩ := TI.mk' (z := (.nilFunc)) (TD.mkOther (by kernel_rfl)) (by kernel_rfl) rfl rfl rfl
-- func([]api.Cube, int, int, int, func(api.Cube, api.Cube) int) int
theorem tab199 : TI.Ok Tryz.prog 199 ⟨.other, 1, 8, [.nilFunc]⟩ := TI.mk' (z := (.nilFunc)) (TD.mkOther (by kernel_rfl)) (by kernel_rfl) rfl rfl rfl
-- func([]api.Cube, int, int, int, func(api.Cube, api.Cube) int) (int, bool)
theorem tab201 : TI.Ok Tryz.prog 201 ⟨.other, 1, 8, [.nilFunc]⟩ := TI.mk' (z := (.nilFunc)) (TD.mkOther (by kernel_rfl)) (by kernel_rfl) rfl rfl rfl
-- func([]int, int, int)
theorem tab202 : TI.Ok Tryz.prog 202 ⟨.other, 1, 8, [.nilFunc]⟩ := TI.mk' (z := (.nilFunc)) (TD.mkOther (by kernel_rfl)) (by kernel_rfl) rfl rfl rfl
-- func([]int, int, int) (int, slices.sortedHint)
theorem tab203 : TI.Ok Tryz.prog 203 ⟨.other, 1, 8, [.nilFunc]⟩ := TI.mk' (z := (.nilFunc)) (TD.mkOther (by kernel_rfl)) (by kernel_rfl) rfl rfl rfl
-- func([]int, int, int) bool
theorem tab204 : TI.Ok Tryz.prog 204 ⟨.other, 1, 8, [.nilFunc]⟩ := TI.mk' (z := (.nilFunc)) (TD.mkOther (by kernel_rfl)) (by kernel_rfl) rfl rfl rfl
-- func([]int, int, int, int) int
theorem tab205 : TI.Ok Tryz.prog 205 ⟨.other, 1, 8, [.nilFunc]⟩ := TI.mk' (z := (.nilFunc)) (TD.mkOther (by kernel_rfl)) (by kernel_rfl) rfl rfl rfl
-- func([]int, int, int, int) (int, bool)
theorem tab206 : TI.Ok Tryz.prog 206 ⟨.other, 1, 8, [.nilFunc]⟩ := TI.mk' (z := (.nilFunc)) (TD.mkOther (by kernel_rfl)) (by kernel_rfl) rfl rfl rfl
-- slices.xorshift
theorem tab207 : TI.Ok Tryz.prog 207 ⟨.int .u64, 1, 8, [.int .u64 0]⟩ := TI.mk' (z := (.int .u64 0)) (show Tryz.prog.underlying 207 = some (.int .u64) by kernel_rfl) (by kernel_rfl) rfl rfl rfl
-- func() uint64
theorem tab208 : TI.Ok Tryz.prog 208 ⟨.other, 1, 8, [.nilFunc]⟩ := TI.mk' (z := (.nilFunc)) (TD.mkOther (by kernel_rfl)) (by kernel_rfl) rfl rfl rfl
-- func([]api.Cube, int, *int, func(api.Cube, api.Cube) int) int
theorem tab209 : TI.Ok Tryz.prog 209 ⟨.other, 1, 8, [.nilFunc]⟩ := TI.mk' (z := (.nilFunc)) (TD.mkOther (by kernel_rfl)) (by kernel_rfl) rfl rfl rfl
-- *int
theorem tab210 : TI.Ok Tryz.prog 210 ⟨.other, 1, 8, [.pointer none]⟩ := TI.mk' (z := (.pointer none)) (TD.mkOther (by kernel_rfl)) (by kernel_rfl) rfl rfl rfl
-- func([]api.Cube, int, int, int, *int, func(api.Cube, api.Cube) int) int
theorem tab211 : TI.Ok Tryz.prog 211 ⟨.other, 1, 8, [.nilFunc]⟩ := TI.mk' (z := (.nilFunc)) (TD.mkOther (by kernel_rfl)) (by kernel_rfl) rfl rfl rfl
-- func([]int, int, *int) int
theorem tab212 : TI.Ok Tryz.prog 212 ⟨.other, 1, 8, [.nilFunc]⟩ := TI.mk' (z := (.nilFunc)) (TD.mkOther (by kernel_rfl)) (by kernel_rfl) rfl rfl rfl
-- func([]int, int, int, int, *int) int
theorem tab213 : TI.Ok Tryz.prog 213 ⟨.other, 1, 8, [.nilFunc]⟩ := TI.mk' (z := (.nilFunc)) (TD.mkOther (by kernel_rfl)) (by kernel_rfl) rfl rfl rfl
-- *slices.xorshift
theorem tab214 : TI.Ok Tryz.prog 214 ⟨.other, 1, 8, [.pointer none]⟩ := TI.mk' (z := (.pointer none)) (TD.mkOther (by kernel_rfl)) (by kernel_rfl) rfl rfl rfl
-- func([]api.Cube, int, int, *int, func(api.Cube, api.Cube) int) (int, int)
theorem tab215 : TI.Ok Tryz.prog 215 ⟨.other, 1, 8, [.nilFunc]⟩ := TI.mk' (z := (.nilFunc)) (TD.mkOther (by kernel_rfl)) (by kernel_rfl) rfl rfl rfl
-- func([]int, int, int, *int) (int, int)
theorem tab216 : TI.Ok Tryz.prog 216 ⟨.other, 1, 8, [.nilFunc]⟩ := TI.mk' (z := (.nilFunc)) (TD.mkOther (by kernel_rfl)) (by kernel_rfl) rfl rfl rfl
-- func() string
theorem tab217 : TI.Ok Tryz.prog 217 ⟨.other, 1, 8, [.nilFunc]⟩ := TI.mk' (z := (.nilFunc)) (TD.mkOther (by kernel_rfl)) (by kernel_rfl) rfl rfl rfl
-- [0]*runtime.PanicNilError
theorem tab220 : TI.Ok Tryz.prog 220 ⟨.array 0 16, 0, 0, []⟩ := TI.mk' (z := (.agg #[])) (show Tryz.prog.underlying 220 = some (.array 0 16) by kernel_rfl) (by kernel_rfl) rfl rfl rfl
-- func() int
theorem tab223 : TI.Ok Tryz.prog 223 ⟨.other, 1, 8, [.nilFunc]⟩ := TI.mk' (z := (.nilFunc)) (TD.mkOther (by kernel_rfl)) (by kernel_rfl) rfl rfl rfl
-- abi.TFlag
theorem tab224 : TI.Ok Tryz.prog 224 ⟨.int .u8, 1, 1, [.int .u8 0]⟩ := TI.mk' (z := (.int .u8 0)) (show Tryz.prog.underlying 224 = some (.int .u8) by kernel_rfl) (by kernel_rfl) rfl rfl rfl
-- abi.Kind
theorem tab225 : TI.Ok Tryz.prog 225 ⟨.int .u8, 1, 1, [.int .u8 0]⟩ := TI.mk' (z := (.int .u8 0)) (show Tryz.prog.underlying 225 = some (.int .u8) by kernel_rfl) (by kernel_rfl) rfl rfl rfl
-- func(unsafe.Pointer, unsafe.Pointer) bool
theorem tab226 : TI.Ok Tryz.prog 226 ⟨.other, 1, 8, [.nilFunc]⟩ := TI.mk' (z := (.nilFunc)) (TD.mkOther (by kernel_rfl)) (by kernel_rfl) rfl rfl rfl
-- *uint8
theorem tab227 : TI.Ok Tryz.prog 227 ⟨.other, 1, 8, [.pointer none]⟩ := TI.mk' (z := (.pointer none)) (TD.mkOther (by kernel_rfl)) (by kernel_rfl) rfl rfl rfl
-- abi.NameOff
theorem tab228 : TI.Ok Tryz.prog 228 ⟨.int .i32, 1, 4, [.int .i32 0]⟩ := TI.mk' (z := (.int .i32 0)) (show Tryz.prog.underlying 228 = some (.int .i32) by kernel_rfl) (by kernel_rfl) rfl rfl rfl
-- abi.TypeOff
theorem tab229 : TI.Ok Tryz.prog 229 ⟨.int .i32, 1, 4, [.int .i32 0]⟩ := TI.mk' (z := (.int .i32 0)) (show Tryz.prog.underlying 229 = some (.int .i32) by kernel_rfl) (by kernel_rfl) rfl rfl rfl
-- unsafe.Pointer
theorem tab232 : TI.Ok Tryz.prog 232 ⟨.other, 1, 8, [.pointer none]⟩ := TI.mk' (z := (.pointer none)) (TD.mkOther (by kernel_rfl)) (by kernel_rfl) rfl rfl rfl

def tab : Tab := [
  (1, ⟨.other, 1, 8, [.nilFunc]⟩),
  (2, ⟨.int .i64, 1, 8, [.int .i64 0]⟩),
  (3, ⟨.int .i64, 1, 8, [.int .i64 0]⟩),
  (4, ⟨.bool, 1, 1, [.bool false]⟩),
  (5, ⟨.int .u8, 1, 1, [.int .u8 0]⟩),
  (6, ⟨.int .u8, 1, 1, [.int .u8 0]⟩),
  (7, ⟨.struct [(0, 2), (1, 3), (2, 4), (3, 6)], 4, 24, [.int .i64 0, .int .i64 0, .bool false, .int .u8 0]⟩),
  (8, ⟨.struct [(0, 2), (1, 3), (2, 4), (3, 6)], 4, 24, [.int .i64 0, .int .i64 0, .bool false, .int .u8 0]⟩),
  (9, ⟨.string, 1, 16, [.string ByteArray.empty]⟩),
  (10, ⟨.string, 1, 16, [.string ByteArray.empty]⟩),
  (11, ⟨.string, 1, 16, [.string ByteArray.empty]⟩),
  (12, ⟨.int .u64, 1, 8, [.int .u64 0]⟩),
  (15, ⟨.other, 1, 8, [.pointer none]⟩),
  (16, ⟨.other, 1, 8, [.pointer none]⟩),
  (17, ⟨.other, 1, 8, [.pointer none]⟩),
  (20, ⟨.other, 1, 16, [.nilIface]⟩),
  (21, ⟨.int .i32, 1, 4, [.int .i32 0]⟩),
  (22, ⟨.int .u64, 1, 8, [.int .u64 0]⟩),
  (23, ⟨.struct [(0, 3), (1, 22)], 2, 16, [.int .i64 0, .int .u64 0]⟩),
  (24, ⟨.struct [(0, 3), (1, 22)], 2, 16, [.int .i64 0, .int .u64 0]⟩),
  (25, ⟨.other, 1, 8, [.nilFunc]⟩),
  (26, ⟨.other, 1, 8, [.nilFunc]⟩),
  (27, ⟨.slice 70, 1, 24, [.slice none 0 0]⟩),
  (28, ⟨.int .i64, 1, 8, [.int .i64 0]⟩),
  (30, ⟨.other, 1, 8, [.nilFunc]⟩),
  (32, ⟨.other, 1, 8, [.nilFunc]⟩),
  (33, ⟨.other, 1, 8, [.nilFunc]⟩),
  (34, ⟨.struct [(0, 24), (2, 24)], 4, 32, [.int .i64 0, .int .u64 0, .int .i64 0, .int .u64 0]⟩),
  (35, ⟨.struct [(0, 24), (2, 24)], 4, 32, [.int .i64 0, .int .u64 0, .int .i64 0, .int .u64 0]⟩),
  (36, ⟨.other, 1, 8, [.nilFunc]⟩),
  (37, ⟨.struct [(0, 24), (2, 24)], 4, 32, [.int .i64 0, .int .u64 0, .int .i64 0, .int .u64 0]⟩),
  (39, ⟨.other, 1, 8, [.nilFunc]⟩),
  (41, ⟨.other, 1, 8, [.nilFunc]⟩),
  (42, ⟨.slice 3, 1, 24, [.slice none 0 0]⟩),
  (44, ⟨.other, 1, 8, [.nilFunc]⟩),
  (46, ⟨.other, 1, 8, [.nilFunc]⟩),
  (47, ⟨.other, 1, 8, [.nilFunc]⟩),
  (48, ⟨.other, 1, 8, [.nilFunc]⟩),
  (49, ⟨.other, 1, 8, [.nilFunc]⟩),
  (50, ⟨.other, 1, 8, [.nilFunc]⟩),
  (51, ⟨.other, 1, 8, [.nilFunc]⟩),
  (52, ⟨.other, 1, 8, [.nilFunc]⟩),
  (53, ⟨.other, 1, 8, [.nilFunc]⟩),
  (55, ⟨.other, 1, 8, [.nilFunc]⟩),
  (56, ⟨.other, 1, 8, [.nilFunc]⟩),
  (57, ⟨.other, 1, 8, [.nilFunc]⟩),
  (58, ⟨.other, 1, 8, [.nilFunc]⟩),
  (59, ⟨.slice 35, 1, 24, [.slice none 0 0]⟩),
  (60, ⟨.other, 1, 8, [.nilFunc]⟩),
  (61, ⟨.other, 1, 8, [.nilFunc]⟩),
  (62, ⟨.other, 1, 8, [.nilFunc]⟩),
  (63, ⟨.other, 1, 8, [.nilFunc]⟩),
  (64, ⟨.other, 1, 8, [.nilFunc]⟩),
  (65, ⟨.slice 67, 1, 24, [.slice none 0 0]⟩),
  (66, ⟨.struct [(0, 42), (1, 65)], 2, 48, [.slice none 0 0, .slice none 0 0]⟩),
  (67, ⟨.struct [(0, 42), (1, 65)], 2, 48, [.slice none 0 0, .slice none 0 0]⟩),
  (68, ⟨.int .u64, 1, 8, [.int .u64 0]⟩),
  (69, ⟨.struct [(0, 68), (1, 68)], 2, 16, [.int .u64 0, .int .u64 0]⟩),
  (70, ⟨.struct [(0, 68), (1, 68)], 2, 16, [.int .u64 0, .int .u64 0]⟩),
  (71, ⟨.other, 1, 8, [.nilFunc]⟩),
  (72, ⟨.other, 1, 8, [.nilFunc]⟩),
  (73, ⟨.other, 1, 8, [.nilFunc]⟩),
  (74, ⟨.slice 83, 1, 24, [.slice none 0 0]⟩),
  (76, ⟨.other, 1, 8, [.nilFunc]⟩),
  (77, ⟨.other, 1, 8, [.nilFunc]⟩),
  (78, ⟨.other, 1, 8, [.nilFunc]⟩),
  (79, ⟨.struct [(0, 3), (1, 3)], 2, 16, [.int .i64 0, .int .i64 0]⟩),
  (80, ⟨.struct [(0, 3), (1, 3)], 2, 16, [.int .i64 0, .int .i64 0]⟩),
  (81, ⟨.other, 1, 8, [.nilFunc]⟩),
  (82, ⟨.other, 1, 8, [.nilFunc]⟩),
  (83, ⟨.array 2 3, 2, 16, [.int .i64 0, .int .i64 0]⟩),
  (85, ⟨.other, 1, 8, [.nilFunc]⟩),
  (86, ⟨.other, 1, 8, [.nilFunc]⟩),
  (87, ⟨.other, 1, 8, [.nilFunc]⟩),
  (88, ⟨.other, 1, 8, [.nilFunc]⟩),
  (89, ⟨.other, 1, 8, [.nilFunc]⟩),
  (90, ⟨.other, 1, 8, [.nilFunc]⟩),
  (91, ⟨.other, 1, 8, [.nilFunc]⟩),
  (92, ⟨.other, 1, 8, [.nilFunc]⟩),
  (93, ⟨.other, 1, 8, [.nilFunc]⟩),
  (94, ⟨.other, 1, 8, [.nilFunc]⟩),
  (95, ⟨.other, 1, 8, [.nilFunc]⟩),
  (96, ⟨.other, 1, 8, [.nilFunc]⟩),
  (97, ⟨.other, 1, 8, [.nilFunc]⟩),
  (98, ⟨.other, 1, 8, [.nilFunc]⟩),
  (99, ⟨.other, 1, 8, [.nilFunc]⟩),
  (100, ⟨.other, 1, 8, [.nilFunc]⟩),
  (101, ⟨.other, 1, 8, [.nilFunc]⟩),
  (102, ⟨.other, 1, 8, [.pointer none]⟩),
  (104, ⟨.other, 1, 8, [.nilFunc]⟩),
  (105, ⟨.other, 1, 8, [.nilFunc]⟩),
  (106, ⟨.other, 1, 8, [.nilFunc]⟩),
  (107, ⟨.array 64 3, 64, 512, [.int .i64 0, .int .i64 0, .int .i64 0, .int .i64 0, .int .i64 0, .int .i64 0, .int .i64 0, .int .i64 0, .int .i64 0, .int .i64 0, .int .i64 0, .int .i64 0, .int .i64 0, .int .i64 0, .int .i64 0, .int .i64 0, .int .i64 0, .int .i64 0, .int .i64 0, .int .i64 0, .int .i64 0, .int .i64 0, .int .i64 0, .int .i64 0, .int .i64 0, .int .i64 0, .int .i64 0, .int .i64 0, .int .i64 0, .int .i64 0, .int .i64 0, .int .i64 0, .int .i64 0, .int .i64 0, .int .i64 0, .int .i64 0, .int .i64 0, .int .i64 0, .int .i64 0, .int .i64 0, .int .i64 0, .int .i64 0, .int .i64 0, .int .i64 0, .int .i64 0, .int .i64 0, .int .i64 0, .int .i64 0, .int .i64 0, .int .i64 0, .int .i64 0, .int .i64 0, .int .i64 0, .int .i64 0, .int .i64 0, .int .i64 0, .int .i64 0, .int .i64 0, .int .i64 0, .int .i64 0, .int .i64 0, .int .i64 0, .int .i64 0, .int .i64 0]⟩),
  (108, ⟨.array 64 3, 64, 512, [.int .i64 0, .int .i64 0, .int .i64 0, .int .i64 0, .int .i64 0, .int .i64 0, .int .i64 0, .int .i64 0, .int .i64 0, .int .i64 0, .int .i64 0, .int .i64 0, .int .i64 0, .int .i64 0, .int .i64 0, .int .i64 0, .int .i64 0, .int .i64 0, .int .i64 0, .int .i64 0, .int .i64 0, .int .i64 0, .int .i64 0, .int .i64 0, .int .i64 0, .int .i64 0, .int .i64 0, .int .i64 0, .int .i64 0, .int .i64 0, .int .i64 0, .int .i64 0, .int .i64 0, .int .i64 0, .int .i64 0, .int .i64 0, .int .i64 0, .int .i64 0, .int .i64 0, .int .i64 0, .int .i64 0, .int .i64 0, .int .i64 0, .int .i64 0, .int .i64 0, .int .i64 0, .int .i64 0, .int .i64 0, .int .i64 0, .int .i64 0, .int .i64 0, .int .i64 0, .int .i64 0, .int .i64 0, .int .i64 0, .int .i64 0, .int .i64 0, .int .i64 0, .int .i64 0, .int .i64 0, .int .i64 0, .int .i64 0, .int .i64 0, .int .i64 0]⟩),
  (109, ⟨.other, 1, 8, [.nilFunc]⟩),
  (110, ⟨.other, 1, 8, [.nilFunc]⟩),
  (111, ⟨.other, 1, 8, [.nilFunc]⟩),
  (112, ⟨.other, 1, 8, [.nilFunc]⟩),
  (113, ⟨.other, 1, 8, [.nilFunc]⟩),
  (114, ⟨.other, 1, 8, [.nilFunc]⟩),
  (115, ⟨.other, 1, 8, [.nilFunc]⟩),
  (116, ⟨.other, 1, 8, [.nilFunc]⟩),
  (117, ⟨.other, 1, 8, [.nilFunc]⟩),
  (118, ⟨.other, 1, 8, [.nilFunc]⟩),
  (119, ⟨.other, 1, 8, [.nilFunc]⟩),
  (120, ⟨.other, 1, 8, [.nilFunc]⟩),
  (121, ⟨.other, 1, 8, [.nilFunc]⟩),
  (122, ⟨.other, 1, 8, [.nilFunc]⟩),
  (123, ⟨.other, 1, 8, [.nilFunc]⟩),
  (124, ⟨.other, 1, 8, [.nilFunc]⟩),
  (125, ⟨.other, 1, 8, [.nilFunc]⟩),
  (126, ⟨.other, 1, 8, [.nilFunc]⟩),
  (127, ⟨.other, 1, 8, [.nilFunc]⟩),
  (128, ⟨.other, 1, 8, [.nilFunc]⟩),
  (129, ⟨.other, 1, 8, [.nilFunc]⟩),
  (130, ⟨.other, 1, 8, [.nilFunc]⟩),
  (131, ⟨.other, 1, 8, [.nilFunc]⟩),
  (132, ⟨.other, 1, 8, [.nilFunc]⟩),
  (133, ⟨.other, 1, 8, [.nilFunc]⟩),
  (134, ⟨.other, 1, 8, [.nilFunc]⟩),
  (135, ⟨.int .u32, 1, 4, [.int .u32 0]⟩),
  (136, ⟨.other, 1, 8, [.nilFunc]⟩),
  (137, ⟨.other, 1, 8, [.nilFunc]⟩),
  (138, ⟨.other, 1, 8, [.nilFunc]⟩),
  (139, ⟨.other, 1, 8, [.nilFunc]⟩),
  (140, ⟨.other, 1, 8, [.nilFunc]⟩),
  (141, ⟨.other, 1, 8, [.nilFunc]⟩),
  (142, ⟨.other, 1, 8, [.nilFunc]⟩),
  (143, ⟨.other, 1, 8, [.nilFunc]⟩),
  (144, ⟨.other, 1, 8, [.nilFunc]⟩),
  (145, ⟨.other, 1, 8, [.nilFunc]⟩),
  (146, ⟨.other, 1, 8, [.nilFunc]⟩),
  (147, ⟨.other, 1, 8, [.nilFunc]⟩),
  (148, ⟨.other, 1, 8, [.nilFunc]⟩),
  (149, ⟨.struct [(0, 35), (4, 27)], 5, 56, [.int .i64 0, .int .u64 0, .int .i64 0, .int .u64 0, .slice none 0 0]⟩),
  (150, ⟨.struct [(0, 35), (4, 27)], 5, 56, [.int .i64 0, .int .u64 0, .int .i64 0, .int .u64 0, .slice none 0 0]⟩),
  (151, ⟨.other, 1, 8, [.nilFunc]⟩),
  (153, ⟨.other, 1, 8, [.nilFunc]⟩),
  (154, ⟨.other, 1, 8, [.nilFunc]⟩),
  (155, ⟨.other, 1, 8, [.nilFunc]⟩),
  (156, ⟨.other, 1, 8, [.nilFunc]⟩),
  (157, ⟨.other, 1, 8, [.nilFunc]⟩),
  (158, ⟨.other, 1, 8, [.nilFunc]⟩),
  (159, ⟨.other, 1, 8, [.nilFunc]⟩),
  (160, ⟨.other, 1, 8, [.nilFunc]⟩),
  (161, ⟨.other, 1, 8, [.nilFunc]⟩),
  (162, ⟨.other, 1, 8, [.nilFunc]⟩),
  (163, ⟨.other, 1, 8, [.nilFunc]⟩),
  (164, ⟨.array 3 3, 3, 24, [.int .i64 0, .int .i64 0, .int .i64 0]⟩),
  (165, ⟨.array 3 164, 9, 72, [.int .i64 0, .int .i64 0, .int .i64 0, .int .i64 0, .int .i64 0, .int .i64 0, .int .i64 0, .int .i64 0, .int .i64 0]⟩),
  (166, ⟨.other, 1, 8, [.nilFunc]⟩),
  (167, ⟨.other, 1, 8, [.nilFunc]⟩),
  (168, ⟨.other, 1, 8, [.nilFunc]⟩),
  (169, ⟨.other, 1, 8, [.nilFunc]⟩),
  (170, ⟨.other, 1, 8, [.nilFunc]⟩),
  (171, ⟨.other, 1, 8, [.nilFunc]⟩),
  (172, ⟨.other, 1, 8, [.nilFunc]⟩),
  (173, ⟨.other, 1, 8, [.nilFunc]⟩),
  (174, ⟨.other, 1, 8, [.nilFunc]⟩),
  (175, ⟨.other, 1, 8, [.nilFunc]⟩),
  (176, ⟨.other, 1, 8, [.nilFunc]⟩),
  (177, ⟨.other, 1, 8, [.nilFunc]⟩),
  (178, ⟨.other, 1, 8, [.nilFunc]⟩),
  (179, ⟨.other, 1, 8, [.nilFunc]⟩),
  (180, ⟨.array 2 24, 4, 32, [.int .i64 0, .int .u64 0, .int .i64 0, .int .u64 0]⟩),
  (181, ⟨.other, 1, 8, [.nilFunc]⟩),
  (182, ⟨.other, 1, 8, [.nilFunc]⟩),
  (183, ⟨.other, 1, 8, [.nilFunc]⟩),
  (184, ⟨.other, 1, 8, [.nilFunc]⟩),
  (185, ⟨.other, 1, 8, [.nilFunc]⟩),
  (186, ⟨.other, 1, 8, [.nilFunc]⟩),
  (187, ⟨.other, 1, 8, [.nilFunc]⟩),
  (188, ⟨.other, 1, 8, [.nilFunc]⟩),
  (189, ⟨.other, 1, 8, [.nilFunc]⟩),
  (190, ⟨.other, 1, 8, [.nilFunc]⟩),
  (191, ⟨.other, 1, 8, [.nilFunc]⟩),
  (192, ⟨.other, 1, 8, [.nilFunc]⟩),
  (193, ⟨.other, 1, 8, [.nilFunc]⟩),
  (194, ⟨.other, 1, 8, [.nilFunc]⟩),
  (195, ⟨.int .i64, 1, 8, [.int .i64 0]⟩),
  (197, ⟨.other, 1, 8, [.nilFunc]⟩),
  (198, ⟨.other, 1, 8, [.nilFunc]⟩),
  (199, ⟨.other, 1, 8, [.nilFunc]⟩),
  (201, ⟨.other, 1, 8, [.nilFunc]⟩),
  (202, ⟨.other, 1, 8, [.nilFunc]⟩),
  (203, ⟨.other, 1, 8, [.nilFunc]⟩),
  (204, ⟨.other, 1, 8, [.nilFunc]⟩),
  (205, ⟨.other, 1, 8, [.nilFunc]⟩),
  (206, ⟨.other, 1, 8, [.nilFunc]⟩),
  (207, ⟨.int .u64, 1, 8, [.int .u64 0]⟩),
  (208, ⟨.other, 1, 8, [.nilFunc]⟩),
  (209, ⟨.other, 1, 8, [.nilFunc]⟩),
  (210, ⟨.other, 1, 8, [.pointer none]⟩),
  (211, ⟨.other, 1, 8, [.nilFunc]⟩),
  (212, ⟨.other, 1, 8, [.nilFunc]⟩),
  (213, ⟨.other, 1, 8, [.nilFunc]⟩),
  (214, ⟨.other, 1, 8, [.pointer none]⟩),
  (215, ⟨.other, 1, 8, [.nilFunc]⟩),
  (216, ⟨.other, 1, 8, [.nilFunc]⟩),
  (217, ⟨.other, 1, 8, [.nilFunc]⟩),
  (220, ⟨.array 0 16, 0, 0, []⟩),
  (223, ⟨.other, 1, 8, [.nilFunc]⟩),
  (224, ⟨.int .u8, 1, 1, [.int .u8 0]⟩),
  (225, ⟨.int .u8, 1, 1, [.int .u8 0]⟩),
  (226, ⟨.other, 1, 8, [.nilFunc]⟩),
  (227, ⟨.other, 1, 8, [.pointer none]⟩),
  (228, ⟨.int .i32, 1, 4, [.int .i32 0]⟩),
  (229, ⟨.int .i32, 1, 4, [.int .i32 0]⟩),
  (232, ⟨.other, 1, 8, [.pointer none]⟩)]
theorem tab_ok : tab.Ok Tryz.prog :=
  Tab.ok_cons tab1 <| Tab.ok_cons tab2 <| Tab.ok_cons tab3 <| Tab.ok_cons tab4 <| Tab.ok_cons tab5 <| Tab.ok_cons tab6 <| Tab.ok_cons tab7 <| Tab.ok_cons tab8 <| Tab.ok_cons tab9 <| Tab.ok_cons tab10 <| Tab.ok_cons tab11 <| Tab.ok_cons tab12 <| Tab.ok_cons tab15 <| Tab.ok_cons tab16 <| Tab.ok_cons tab17 <| Tab.ok_cons tab20 <| Tab.ok_cons tab21 <| Tab.ok_cons tab22 <| Tab.ok_cons tab23 <| Tab.ok_cons tab24 <| Tab.ok_cons tab25 <| Tab.ok_cons tab26 <| Tab.ok_cons tab27 <| Tab.ok_cons tab28 <| Tab.ok_cons tab30 <| Tab.ok_cons tab32 <| Tab.ok_cons tab33 <| Tab.ok_cons tab34 <| Tab.ok_cons tab35 <| Tab.ok_cons tab36 <| Tab.ok_cons tab37 <| Tab.ok_cons tab39 <| Tab.ok_cons tab41 <| Tab.ok_cons tab42 <| Tab.ok_cons tab44 <| Tab.ok_cons tab46 <| Tab.ok_cons tab47 <| Tab.ok_cons tab48 <| Tab.ok_cons tab49 <| Tab.ok_cons tab50 <| Tab.ok_cons tab51 <| Tab.ok_cons tab52 <| Tab.ok_cons tab53 <| Tab.ok_cons tab55 <| Tab.ok_cons tab56 <| Tab.ok_cons tab57 <| Tab.ok_cons tab58 <| Tab.ok_cons tab59 <| Tab.ok_cons tab60 <| Tab.ok_cons tab61 <| Tab.ok_cons tab62 <| Tab.ok_cons tab63 <| Tab.ok_cons tab64 <| Tab.ok_cons tab65 <| Tab.ok_cons tab66 <| Tab.ok_cons tab67 <| Tab.ok_cons tab68 <| Tab.ok_cons tab69 <| Tab.ok_cons tab70 <| Tab.ok_cons tab71 <| Tab.ok_cons tab72 <| Tab.ok_cons tab73 <| Tab.ok_cons tab74 <| Tab.ok_cons tab76 <| Tab.ok_cons tab77 <| Tab.ok_cons tab78 <| Tab.ok_cons tab79 <| Tab.ok_cons tab80 <| Tab.ok_cons tab81 <| Tab.ok_cons tab82 <| Tab.ok_cons tab83 <| Tab.ok_cons tab85 <| Tab.ok_cons tab86 <| Tab.ok_cons tab87 <| Tab.ok_cons tab88 <| Tab.ok_cons tab89 <| Tab.ok_cons tab90 <| Tab.ok_cons tab91 <| Tab.ok_cons tab92 <| Tab.ok_cons tab93 <| Tab.ok_cons tab94 <| Tab.ok_cons tab95 <| Tab.ok_cons tab96 <| Tab.ok_cons tab97 <| Tab.ok_cons tab98 <| Tab.ok_cons tab99 <| Tab.ok_cons tab100 <| Tab.ok_cons tab101 <| Tab.ok_cons tab102 <| Tab.ok_cons tab104 <| Tab.ok_cons tab105 <| Tab.ok_cons tab106 <| Tab.ok_cons tab107 <| Tab.ok_cons tab108 <| Tab.ok_cons tab109 <| Tab.ok_cons tab110 <| Tab.ok_cons tab111 <| Tab.ok_cons tab112 <| Tab.ok_cons tab113 <| Tab.ok_cons tab114 <| Tab.ok_cons tab115 <| Tab.ok_cons tab116 <| Tab.ok_cons tab117 <| Tab.ok_cons tab118 <| Tab.ok_cons tab119 <| Tab.ok_cons tab120 <| Tab.ok_cons tab121 <| Tab.ok_cons tab122 <| Tab.ok_cons tab123 <| Tab.ok_cons tab124 <| Tab.ok_cons tab125 <| Tab.ok_cons tab126 <| Tab.ok_cons tab127 <| Tab.ok_cons tab128 <| Tab.ok_cons tab129 <| Tab.ok_cons tab130 <| Tab.ok_cons tab131 <| Tab.ok_cons tab132 <| Tab.ok_cons tab133 <| Tab.ok_cons tab134 <| Tab.ok_cons tab135 <| Tab.ok_cons tab136 <| Tab.ok_cons tab137 <| Tab.ok_cons tab138 <| Tab.ok_cons tab139 <| Tab.ok_cons tab140 <| Tab.ok_cons tab141 <| Tab.ok_cons tab142 <| Tab.ok_cons tab143 <| Tab.ok_cons tab144 <| Tab.ok_cons tab145 <| Tab.ok_cons tab146 <| Tab.ok_cons tab147 <| Tab.ok_cons tab148 <| Tab.ok_cons tab149 <| Tab.ok_cons tab150 <| Tab.ok_cons tab151 <| Tab.ok_cons tab153 <| Tab.ok_cons tab154 <| Tab.ok_cons tab155 <| Tab.ok_cons tab156 <| Tab.ok_cons tab157 <| Tab.ok_cons tab158 <| Tab.ok_cons tab159 <| Tab.ok_cons tab160 <| Tab.ok_cons tab161 <| Tab.ok_cons tab162 <| Tab.ok_cons tab163 <| Tab.ok_cons tab164 <| Tab.ok_cons tab165 <| Tab.ok_cons tab166 <| Tab.ok_cons tab167 <| Tab.ok_cons tab168 <| Tab.ok_cons tab169 <| Tab.ok_cons tab170 <| Tab.ok_cons tab171 <| Tab.ok_cons tab172 <| Tab.ok_cons tab173 <| Tab.ok_cons tab174 <| Tab.ok_cons tab175 <| Tab.ok_cons tab176 <| Tab.ok_cons tab177 <| Tab.ok_cons tab178 <| Tab.ok_cons tab179 <| Tab.ok_cons tab180 <| Tab.ok_cons tab181 <| Tab.ok_cons tab182 <| Tab.ok_cons tab183 <| Tab.ok_cons tab184 <| Tab.ok_cons tab185 <| Tab.ok_cons tab186 <| Tab.ok_cons tab187 <| Tab.ok_cons tab188 <| Tab.ok_cons tab189 <| Tab.ok_cons tab190 <| Tab.ok_cons tab191 <| Tab.ok_cons tab192 <| Tab.ok_cons tab193 <| Tab.ok_cons tab194 <| Tab.ok_cons tab195 <| Tab.ok_cons tab197 <| Tab.ok_cons tab198 <| Tab.ok_cons tab199 <| Tab.ok_cons tab201 <| Tab.ok_cons tab202 <| Tab.ok_cons tab203 <| Tab.ok_cons tab204 <| Tab.ok_cons tab205 <| Tab.ok_cons tab206 <| Tab.ok_cons tab207 <| Tab.ok_cons tab208 <| Tab.ok_cons tab209 <| Tab.ok_cons tab210 <| Tab.ok_cons tab211 <| Tab.ok_cons tab212 <| Tab.ok_cons tab213 <| Tab.ok_cons tab214 <| Tab.ok_cons tab215 <| Tab.ok_cons tab216 <| Tab.ok_cons tab217 <| Tab.ok_cons tab220 <| Tab.ok_cons tab223 <| Tab.ok_cons tab224 <| Tab.ok_cons tab225 <| Tab.ok_cons tab226 <| Tab.ok_cons tab227 <| Tab.ok_cons tab228 <| Tab.ok_cons tab229 <| Tab.ok_cons tab232 <| Tab.ok_nil
theorem mixed : Tryz.prog.follows .mixedOrders = true := by kernel_rfl
end Go.Sx.Pn
