/- The seat's types, for the symbolic executor. Printed by a program. -/
import Derived.Test.YtdkhdkldjpaadaaProg
import Derived.Test.YtdkhdkldjpaadaaSxE
namespace Go.Sx.Pn
open Go Go.Proofs Go.Sx

-- func()
theorem tab1 : TI.Ok Try.prog 1 ⟨.other, 1, 8, [.nilFunc]⟩ := TI.mk' (z := (.nilFunc)) (TD.mkOther (by kernel_rfl)) (by kernel_rfl) rfl rfl rfl
-- int64
theorem tab2 : TI.Ok Try.prog 2 ⟨.int .i64, 1, 8, [.int .i64 0]⟩ := TI.mk' (z := (.int .i64 0)) (show Try.prog.underlying 2 = some (.int .i64) by kernel_rfl) (by kernel_rfl) rfl rfl rfl
-- int
theorem tab3 : TI.Ok Try.prog 3 ⟨.int .i64, 1, 8, [.int .i64 0]⟩ := TI.mk' (z := (.int .i64 0)) (show Try.prog.underlying 3 = some (.int .i64) by kernel_rfl) (by kernel_rfl) rfl rfl rfl
-- bool
theorem tab4 : TI.Ok Try.prog 4 ⟨.bool, 1, 1, [.bool false]⟩ := TI.mk' (z := (.bool false)) (show Try.prog.underlying 4 = some (.bool) by kernel_rfl) (by kernel_rfl) rfl rfl rfl
-- uint8
theorem tab5 : TI.Ok Try.prog 5 ⟨.int .u8, 1, 1, [.int .u8 0]⟩ := TI.mk' (z := (.int .u8 0)) (show Try.prog.underlying 5 = some (.int .u8) by kernel_rfl) (by kernel_rfl) rfl rfl rfl
-- abi.BoundsErrorCode
theorem tab6 : TI.Ok Try.prog 6 ⟨.int .u8, 1, 1, [.int .u8 0]⟩ := TI.mk' (z := (.int .u8 0)) (show Try.prog.underlying 6 = some (.int .u8) by kernel_rfl) (by kernel_rfl) rfl rfl rfl
-- struct { x int64; y int; signed bool; code abi.BoundsErrorCode }
theorem tab7 : TI.Ok Try.prog 7 ⟨.struct [(0, 2), (1, 3), (2, 4), (3, 6)], 4, 24, [.int .i64 0, .int .i64 0, .bool false, .int .u8 0]⟩ := TI.mk' (z := (.agg #[.int .i64 0, .int .i64 0, .bool false, .int .u8 0])) (TD.mkStruct (l := [(0, 2), (1, 3), (2, 4), (3, 6)]) (by kernel_rfl) (by kernel_rfl) (by kernel_rfl)) (by kernel_rfl) rfl rfl rfl
-- runtime.boundsError
theorem tab8 : TI.Ok Try.prog 8 ⟨.struct [(0, 2), (1, 3), (2, 4), (3, 6)], 4, 24, [.int .i64 0, .int .i64 0, .bool false, .int .u8 0]⟩ := TI.mk' (z := (.agg #[.int .i64 0, .int .i64 0, .bool false, .int .u8 0])) (TD.mkStruct (l := [(0, 2), (1, 3), (2, 4), (3, 6)]) (by kernel_rfl) (by kernel_rfl) (by kernel_rfl)) (by kernel_rfl) rfl rfl rfl
-- string
theorem tab9 : TI.Ok Try.prog 9 ⟨.string, 1, 16, [.string ByteArray.empty]⟩ := TI.mk' (z := (.string ByteArray.empty)) (show Try.prog.underlying 9 = some (.string) by kernel_rfl) (by kernel_rfl) rfl rfl rfl
-- runtime.errorString
theorem tab10 : TI.Ok Try.prog 10 ⟨.string, 1, 16, [.string ByteArray.empty]⟩ := TI.mk' (z := (.string ByteArray.empty)) (show Try.prog.underlying 10 = some (.string) by kernel_rfl) (by kernel_rfl) rfl rfl rfl
-- runtime.plainError
theorem tab11 : TI.Ok Try.prog 11 ⟨.string, 1, 16, [.string ByteArray.empty]⟩ := TI.mk' (z := (.string ByteArray.empty)) (show Try.prog.underlying 11 = some (.string) by kernel_rfl) (by kernel_rfl) rfl rfl rfl
-- uintptr
theorem tab12 : TI.Ok Try.prog 12 ⟨.int .u64, 1, 8, [.int .u64 0]⟩ := TI.mk' (z := (.int .u64 0)) (show Try.prog.underlying 12 = some (.int .u64) by kernel_rfl) (by kernel_rfl) rfl rfl rfl
-- *runtime.TypeAssertionError
theorem tab15 : TI.Ok Try.prog 15 ⟨.other, 1, 8, [.pointer none]⟩ := TI.mk' (z := (.pointer none)) (TD.mkOther (by kernel_rfl)) (by kernel_rfl) rfl rfl rfl
-- *runtime.PanicNilError
theorem tab16 : TI.Ok Try.prog 16 ⟨.other, 1, 8, [.pointer none]⟩ := TI.mk' (z := (.pointer none)) (TD.mkOther (by kernel_rfl)) (by kernel_rfl) rfl rfl rfl
-- *abi.Type
theorem tab17 : TI.Ok Try.prog 17 ⟨.other, 1, 8, [.pointer none]⟩ := TI.mk' (z := (.pointer none)) (TD.mkOther (by kernel_rfl)) (by kernel_rfl) rfl rfl rfl
-- interface {}
theorem tab20 : TI.Ok Try.prog 20 ⟨.other, 1, 16, [.nilIface]⟩ := TI.mk' (z := (.nilIface)) (TD.mkOther (by kernel_rfl)) (by kernel_rfl) rfl rfl rfl
-- int32
theorem tab21 : TI.Ok Try.prog 21 ⟨.int .i32, 1, 4, [.int .i32 0]⟩ := TI.mk' (z := (.int .i32 0)) (show Try.prog.underlying 21 = some (.int .i32) by kernel_rfl) (by kernel_rfl) rfl rfl rfl
-- uint
theorem tab22 : TI.Ok Try.prog 22 ⟨.int .u64, 1, 8, [.int .u64 0]⟩ := TI.mk' (z := (.int .u64 0)) (show Try.prog.underlying 22 = some (.int .u64) by kernel_rfl) (by kernel_rfl) rfl rfl rfl
-- struct { Care uint; Value uint }
theorem tab23 : TI.Ok Try.prog 23 ⟨.struct [(0, 22), (1, 22)], 2, 16, [.int .u64 0, .int .u64 0]⟩ := TI.mk' (z := (.agg #[.int .u64 0, .int .u64 0])) (TD.mkStruct (l := [(0, 22), (1, 22)]) (by kernel_rfl) (by kernel_rfl) (by kernel_rfl)) (by kernel_rfl) rfl rfl rfl
-- api.Cube
theorem tab24 : TI.Ok Try.prog 24 ⟨.struct [(0, 22), (1, 22)], 2, 16, [.int .u64 0, .int .u64 0]⟩ := TI.mk' (z := (.agg #[.int .u64 0, .int .u64 0])) (TD.mkStruct (l := [(0, 22), (1, 22)]) (by kernel_rfl) (by kernel_rfl) (by kernel_rfl)) (by kernel_rfl) rfl rfl rfl
-- func() bool
theorem tab25 : TI.Ok Try.prog 25 ⟨.other, 1, 8, [.nilFunc]⟩ := TI.mk' (z := (.nilFunc)) (TD.mkOther (by kernel_rfl)) (by kernel_rfl) rfl rfl rfl
-- api.Errno
theorem tab26 : TI.Ok Try.prog 26 ⟨.int .i64, 1, 8, [.int .i64 0]⟩ := TI.mk' (z := (.int .i64 0)) (show Try.prog.underlying 26 = some (.int .i64) by kernel_rfl) (by kernel_rfl) rfl rfl rfl
-- func(int, api.Cube) (string, api.Errno)
theorem tab28 : TI.Ok Try.prog 28 ⟨.other, 1, 8, [.nilFunc]⟩ := TI.mk' (z := (.nilFunc)) (TD.mkOther (by kernel_rfl)) (by kernel_rfl) rfl rfl rfl
-- func(int, api.Cube) (string, int)
theorem tab30 : TI.Ok Try.prog 30 ⟨.other, 1, 8, [.nilFunc]⟩ := TI.mk' (z := (.nilFunc)) (TD.mkOther (by kernel_rfl)) (by kernel_rfl) rfl rfl rfl
-- func(string) (int, api.Cube, api.Errno)
theorem tab32 : TI.Ok Try.prog 32 ⟨.other, 1, 8, [.nilFunc]⟩ := TI.mk' (z := (.nilFunc)) (TD.mkOther (by kernel_rfl)) (by kernel_rfl) rfl rfl rfl
-- func(string) (int, api.Cube, int)
theorem tab34 : TI.Ok Try.prog 34 ⟨.other, 1, 8, [.nilFunc]⟩ := TI.mk' (z := (.nilFunc)) (TD.mkOther (by kernel_rfl)) (by kernel_rfl) rfl rfl rfl
-- func(int, api.Cube, string) bool
theorem tab35 : TI.Ok Try.prog 35 ⟨.other, 1, 8, [.nilFunc]⟩ := TI.mk' (z := (.nilFunc)) (TD.mkOther (by kernel_rfl)) (by kernel_rfl) rfl rfl rfl
-- uint64
theorem tab36 : TI.Ok Try.prog 36 ⟨.int .u64, 1, 8, [.int .u64 0]⟩ := TI.mk' (z := (.int .u64 0)) (show Try.prog.underlying 36 = some (.int .u64) by kernel_rfl) (by kernel_rfl) rfl rfl rfl
-- struct { N int; Bits uint64 }
theorem tab37 : TI.Ok Try.prog 37 ⟨.struct [(0, 3), (1, 36)], 2, 16, [.int .i64 0, .int .u64 0]⟩ := TI.mk' (z := (.agg #[.int .i64 0, .int .u64 0])) (TD.mkStruct (l := [(0, 3), (1, 36)]) (by kernel_rfl) (by kernel_rfl) (by kernel_rfl)) (by kernel_rfl) rfl rfl rfl
-- api.Table
theorem tab38 : TI.Ok Try.prog 38 ⟨.struct [(0, 3), (1, 36)], 2, 16, [.int .i64 0, .int .u64 0]⟩ := TI.mk' (z := (.agg #[.int .i64 0, .int .u64 0])) (TD.mkStruct (l := [(0, 3), (1, 36)]) (by kernel_rfl) (by kernel_rfl) (by kernel_rfl)) (by kernel_rfl) rfl rfl rfl
-- struct { On api.Table; Free api.Table }
theorem tab39 : TI.Ok Try.prog 39 ⟨.struct [(0, 38), (2, 38)], 4, 32, [.int .i64 0, .int .u64 0, .int .i64 0, .int .u64 0]⟩ := TI.mk' (z := (.agg #[.int .i64 0, .int .u64 0, .int .i64 0, .int .u64 0])) (TD.mkStruct (l := [(0, 38), (2, 38)]) (by kernel_rfl) (by kernel_rfl) (by kernel_rfl)) (by kernel_rfl) rfl rfl rfl
-- implicant.Task
theorem tab40 : TI.Ok Try.prog 40 ⟨.struct [(0, 38), (2, 38)], 4, 32, [.int .i64 0, .int .u64 0, .int .i64 0, .int .u64 0]⟩ := TI.mk' (z := (.agg #[.int .i64 0, .int .u64 0, .int .i64 0, .int .u64 0])) (TD.mkStruct (l := [(0, 38), (2, 38)]) (by kernel_rfl) (by kernel_rfl) (by kernel_rfl)) (by kernel_rfl) rfl rfl rfl
-- func(pneumaticref06.Task, int) bool
theorem tab41 : TI.Ok Try.prog 41 ⟨.other, 1, 8, [.nilFunc]⟩ := TI.mk' (z := (.nilFunc)) (TD.mkOther (by kernel_rfl)) (by kernel_rfl) rfl rfl rfl
-- pneumaticref06.Task
theorem tab42 : TI.Ok Try.prog 42 ⟨.struct [(0, 38), (2, 38)], 4, 32, [.int .i64 0, .int .u64 0, .int .i64 0, .int .u64 0]⟩ := TI.mk' (z := (.agg #[.int .i64 0, .int .u64 0, .int .i64 0, .int .u64 0])) (TD.mkStruct (l := [(0, 38), (2, 38)]) (by kernel_rfl) (by kernel_rfl) (by kernel_rfl)) (by kernel_rfl) rfl rfl rfl
-- []api.Cube
theorem tab43 : TI.Ok Try.prog 43 ⟨.slice 24, 1, 24, [.slice none 0 0]⟩ := TI.mk' (z := (.slice none 0 0)) (show Try.prog.underlying 43 = some (.slice 24) by kernel_rfl) (by kernel_rfl) rfl rfl rfl
-- func(implicant.Task) ([]api.Cube, api.Errno)
theorem tab45 : TI.Ok Try.prog 45 ⟨.other, 1, 8, [.nilFunc]⟩ := TI.mk' (z := (.nilFunc)) (TD.mkOther (by kernel_rfl)) (by kernel_rfl) rfl rfl rfl
-- func(pneumaticref06.Task) ([]api.Cube, int)
theorem tab47 : TI.Ok Try.prog 47 ⟨.other, 1, 8, [.nilFunc]⟩ := TI.mk' (z := (.nilFunc)) (TD.mkOther (by kernel_rfl)) (by kernel_rfl) rfl rfl rfl
-- []int
theorem tab48 : TI.Ok Try.prog 48 ⟨.slice 3, 1, 24, [.slice none 0 0]⟩ := TI.mk' (z := (.slice none 0 0)) (show Try.prog.underlying 48 = some (.slice 3) by kernel_rfl) (by kernel_rfl) rfl rfl rfl
-- func(implicant.Task) ([]int, api.Errno)
theorem tab50 : TI.Ok Try.prog 50 ⟨.other, 1, 8, [.nilFunc]⟩ := TI.mk' (z := (.nilFunc)) (TD.mkOther (by kernel_rfl)) (by kernel_rfl) rfl rfl rfl
-- func(pneumaticref06.Task) ([]int, int)
theorem tab52 : TI.Ok Try.prog 52 ⟨.other, 1, 8, [.nilFunc]⟩ := TI.mk' (z := (.nilFunc)) (TD.mkOther (by kernel_rfl)) (by kernel_rfl) rfl rfl rfl
-- func([]api.Cube, []api.Cube) bool
theorem tab53 : TI.Ok Try.prog 53 ⟨.other, 1, 8, [.nilFunc]⟩ := TI.mk' (z := (.nilFunc)) (TD.mkOther (by kernel_rfl)) (by kernel_rfl) rfl rfl rfl
-- func([]int, []int) bool
theorem tab54 : TI.Ok Try.prog 54 ⟨.other, 1, 8, [.nilFunc]⟩ := TI.mk' (z := (.nilFunc)) (TD.mkOther (by kernel_rfl)) (by kernel_rfl) rfl rfl rfl
-- func(implicant.Task) bool
theorem tab55 : TI.Ok Try.prog 55 ⟨.other, 1, 8, [.nilFunc]⟩ := TI.mk' (z := (.nilFunc)) (TD.mkOther (by kernel_rfl)) (by kernel_rfl) rfl rfl rfl
-- func(int, api.Cube, api.Cube) (bool, api.Errno)
theorem tab57 : TI.Ok Try.prog 57 ⟨.other, 1, 8, [.nilFunc]⟩ := TI.mk' (z := (.nilFunc)) (TD.mkOther (by kernel_rfl)) (by kernel_rfl) rfl rfl rfl
-- func(int, api.Cube, api.Cube) (bool, int)
theorem tab59 : TI.Ok Try.prog 59 ⟨.other, 1, 8, [.nilFunc]⟩ := TI.mk' (z := (.nilFunc)) (TD.mkOther (by kernel_rfl)) (by kernel_rfl) rfl rfl rfl
-- func(int, api.Cube, api.Cube) (api.Cube, bool, api.Errno)
theorem tab61 : TI.Ok Try.prog 61 ⟨.other, 1, 8, [.nilFunc]⟩ := TI.mk' (z := (.nilFunc)) (TD.mkOther (by kernel_rfl)) (by kernel_rfl) rfl rfl rfl
-- func(int, api.Cube, api.Cube) (api.Cube, bool, int)
theorem tab63 : TI.Ok Try.prog 63 ⟨.other, 1, 8, [.nilFunc]⟩ := TI.mk' (z := (.nilFunc)) (TD.mkOther (by kernel_rfl)) (by kernel_rfl) rfl rfl rfl
-- func(int, api.Cube, api.Cube) bool
theorem tab64 : TI.Ok Try.prog 64 ⟨.other, 1, 8, [.nilFunc]⟩ := TI.mk' (z := (.nilFunc)) (TD.mkOther (by kernel_rfl)) (by kernel_rfl) rfl rfl rfl
-- func(implicant.Task, api.Cube) (bool, api.Errno)
theorem tab65 : TI.Ok Try.prog 65 ⟨.other, 1, 8, [.nilFunc]⟩ := TI.mk' (z := (.nilFunc)) (TD.mkOther (by kernel_rfl)) (by kernel_rfl) rfl rfl rfl
-- func(pneumaticref06.Task, api.Cube) (bool, int)
theorem tab66 : TI.Ok Try.prog 66 ⟨.other, 1, 8, [.nilFunc]⟩ := TI.mk' (z := (.nilFunc)) (TD.mkOther (by kernel_rfl)) (by kernel_rfl) rfl rfl rfl
-- func(implicant.Task) api.Errno
theorem tab67 : TI.Ok Try.prog 67 ⟨.other, 1, 8, [.nilFunc]⟩ := TI.mk' (z := (.nilFunc)) (TD.mkOther (by kernel_rfl)) (by kernel_rfl) rfl rfl rfl
-- func(pneumaticref06.Task) int
theorem tab68 : TI.Ok Try.prog 68 ⟨.other, 1, 8, [.nilFunc]⟩ := TI.mk' (z := (.nilFunc)) (TD.mkOther (by kernel_rfl)) (by kernel_rfl) rfl rfl rfl
-- func(implicant.Task, api.Cube) bool
theorem tab69 : TI.Ok Try.prog 69 ⟨.other, 1, 8, [.nilFunc]⟩ := TI.mk' (z := (.nilFunc)) (TD.mkOther (by kernel_rfl)) (by kernel_rfl) rfl rfl rfl
-- func(int, api.Cube) int
theorem tab70 : TI.Ok Try.prog 70 ⟨.other, 1, 8, [.nilFunc]⟩ := TI.mk' (z := (.nilFunc)) (TD.mkOther (by kernel_rfl)) (by kernel_rfl) rfl rfl rfl
-- func(int, api.Cube) (api.Table, api.Errno)
theorem tab72 : TI.Ok Try.prog 72 ⟨.other, 1, 8, [.nilFunc]⟩ := TI.mk' (z := (.nilFunc)) (TD.mkOther (by kernel_rfl)) (by kernel_rfl) rfl rfl rfl
-- func(int, api.Cube, int) (bool, api.Errno)
theorem tab73 : TI.Ok Try.prog 73 ⟨.other, 1, 8, [.nilFunc]⟩ := TI.mk' (z := (.nilFunc)) (TD.mkOther (by kernel_rfl)) (by kernel_rfl) rfl rfl rfl
-- func(int, api.Cube, int) (bool, int)
theorem tab74 : TI.Ok Try.prog 74 ⟨.other, 1, 8, [.nilFunc]⟩ := TI.mk' (z := (.nilFunc)) (TD.mkOther (by kernel_rfl)) (by kernel_rfl) rfl rfl rfl
-- func(int, api.Cube) (api.Table, int)
theorem tab76 : TI.Ok Try.prog 76 ⟨.other, 1, 8, [.nilFunc]⟩ := TI.mk' (z := (.nilFunc)) (TD.mkOther (by kernel_rfl)) (by kernel_rfl) rfl rfl rfl
-- func(int, api.Cube) api.Errno
theorem tab77 : TI.Ok Try.prog 77 ⟨.other, 1, 8, [.nilFunc]⟩ := TI.mk' (z := (.nilFunc)) (TD.mkOther (by kernel_rfl)) (by kernel_rfl) rfl rfl rfl
-- func(int, api.Cube, int) bool
theorem tab78 : TI.Ok Try.prog 78 ⟨.other, 1, 8, [.nilFunc]⟩ := TI.mk' (z := (.nilFunc)) (TD.mkOther (by kernel_rfl)) (by kernel_rfl) rfl rfl rfl
-- func([]api.Cube, func(api.Cube) bool) bool
theorem tab79 : TI.Ok Try.prog 79 ⟨.other, 1, 8, [.nilFunc]⟩ := TI.mk' (z := (.nilFunc)) (TD.mkOther (by kernel_rfl)) (by kernel_rfl) rfl rfl rfl
-- func(api.Cube) bool
theorem tab80 : TI.Ok Try.prog 80 ⟨.other, 1, 8, [.nilFunc]⟩ := TI.mk' (z := (.nilFunc)) (TD.mkOther (by kernel_rfl)) (by kernel_rfl) rfl rfl rfl
-- func(api.Table, api.Table) api.Table
theorem tab81 : TI.Ok Try.prog 81 ⟨.other, 1, 8, [.nilFunc]⟩ := TI.mk' (z := (.nilFunc)) (TD.mkOther (by kernel_rfl)) (by kernel_rfl) rfl rfl rfl
-- func(int, []int) api.Table
theorem tab82 : TI.Ok Try.prog 82 ⟨.other, 1, 8, [.nilFunc]⟩ := TI.mk' (z := (.nilFunc)) (TD.mkOther (by kernel_rfl)) (by kernel_rfl) rfl rfl rfl
-- func(int, api.Cube) []int
theorem tab83 : TI.Ok Try.prog 83 ⟨.other, 1, 8, [.nilFunc]⟩ := TI.mk' (z := (.nilFunc)) (TD.mkOther (by kernel_rfl)) (by kernel_rfl) rfl rfl rfl
-- func([]api.Cube) bool
theorem tab84 : TI.Ok Try.prog 84 ⟨.other, 1, 8, [.nilFunc]⟩ := TI.mk' (z := (.nilFunc)) (TD.mkOther (by kernel_rfl)) (by kernel_rfl) rfl rfl rfl
-- [][2]int
theorem tab85 : TI.Ok Try.prog 85 ⟨.slice 93, 1, 24, [.slice none 0 0]⟩ := TI.mk' (z := (.slice none 0 0)) (show Try.prog.underlying 85 = some (.slice 93) by kernel_rfl) (by kernel_rfl) rfl rfl rfl
-- func(int, []api.Cube) ([][2]int, api.Errno)
theorem tab87 : TI.Ok Try.prog 87 ⟨.other, 1, 8, [.nilFunc]⟩ := TI.mk' (z := (.nilFunc)) (TD.mkOther (by kernel_rfl)) (by kernel_rfl) rfl rfl rfl
-- func(int, []api.Cube) ([][2]int, int)
theorem tab89 : TI.Ok Try.prog 89 ⟨.other, 1, 8, [.nilFunc]⟩ := TI.mk' (z := (.nilFunc)) (TD.mkOther (by kernel_rfl)) (by kernel_rfl) rfl rfl rfl
-- func(int, []api.Cube) ([]api.Cube, api.Errno)
theorem tab90 : TI.Ok Try.prog 90 ⟨.other, 1, 8, [.nilFunc]⟩ := TI.mk' (z := (.nilFunc)) (TD.mkOther (by kernel_rfl)) (by kernel_rfl) rfl rfl rfl
-- func(int, []api.Cube) ([]api.Cube, int)
theorem tab91 : TI.Ok Try.prog 91 ⟨.other, 1, 8, [.nilFunc]⟩ := TI.mk' (z := (.nilFunc)) (TD.mkOther (by kernel_rfl)) (by kernel_rfl) rfl rfl rfl
-- func([][2]int, [][2]int) bool
theorem tab92 : TI.Ok Try.prog 92 ⟨.other, 1, 8, [.nilFunc]⟩ := TI.mk' (z := (.nilFunc)) (TD.mkOther (by kernel_rfl)) (by kernel_rfl) rfl rfl rfl
-- [2]int
theorem tab93 : TI.Ok Try.prog 93 ⟨.array 2 3, 2, 16, [.int .i64 0, .int .i64 0]⟩ := TI.mk' (z := (.agg #[.int .i64 0, .int .i64 0])) (show Try.prog.underlying 93 = some (.array 2 3) by kernel_rfl) (by kernel_rfl) rfl rfl rfl
-- func(int, []api.Cube) bool
theorem tab94 : TI.Ok Try.prog 94 ⟨.other, 1, 8, [.nilFunc]⟩ := TI.mk' (z := (.nilFunc)) (TD.mkOther (by kernel_rfl)) (by kernel_rfl) rfl rfl rfl
-- func(int, bool) (api.Table, api.Errno)
theorem tab95 : TI.Ok Try.prog 95 ⟨.other, 1, 8, [.nilFunc]⟩ := TI.mk' (z := (.nilFunc)) (TD.mkOther (by kernel_rfl)) (by kernel_rfl) rfl rfl rfl
-- func(api.Table, api.Table) (api.Table, api.Errno)
theorem tab96 : TI.Ok Try.prog 96 ⟨.other, 1, 8, [.nilFunc]⟩ := TI.mk' (z := (.nilFunc)) (TD.mkOther (by kernel_rfl)) (by kernel_rfl) rfl rfl rfl
-- struct { From int; To int }
theorem tab97 : TI.Ok Try.prog 97 ⟨.struct [(0, 3), (1, 3)], 2, 16, [.int .i64 0, .int .i64 0]⟩ := TI.mk' (z := (.agg #[.int .i64 0, .int .i64 0])) (TD.mkStruct (l := [(0, 3), (1, 3)]) (by kernel_rfl) (by kernel_rfl) (by kernel_rfl)) (by kernel_rfl) rfl rfl rfl
-- hazard.Change
theorem tab98 : TI.Ok Try.prog 98 ⟨.struct [(0, 3), (1, 3)], 2, 16, [.int .i64 0, .int .i64 0]⟩ := TI.mk' (z := (.agg #[.int .i64 0, .int .i64 0])) (TD.mkStruct (l := [(0, 3), (1, 3)]) (by kernel_rfl) (by kernel_rfl) (by kernel_rfl)) (by kernel_rfl) rfl rfl rfl
-- func(int, []api.Cube) (api.Table, api.Errno)
theorem tab99 : TI.Ok Try.prog 99 ⟨.other, 1, 8, [.nilFunc]⟩ := TI.mk' (z := (.nilFunc)) (TD.mkOther (by kernel_rfl)) (by kernel_rfl) rfl rfl rfl
-- func(int, []api.Cube) (api.Table, int)
theorem tab100 : TI.Ok Try.prog 100 ⟨.other, 1, 8, [.nilFunc]⟩ := TI.mk' (z := (.nilFunc)) (TD.mkOther (by kernel_rfl)) (by kernel_rfl) rfl rfl rfl
-- func(int, []api.Cube, hazard.Change) (int, api.Errno)
theorem tab102 : TI.Ok Try.prog 102 ⟨.other, 1, 8, [.nilFunc]⟩ := TI.mk' (z := (.nilFunc)) (TD.mkOther (by kernel_rfl)) (by kernel_rfl) rfl rfl rfl
-- func(int, []api.Cube, int, int) (int, int)
theorem tab104 : TI.Ok Try.prog 104 ⟨.other, 1, 8, [.nilFunc]⟩ := TI.mk' (z := (.nilFunc)) (TD.mkOther (by kernel_rfl)) (by kernel_rfl) rfl rfl rfl
-- func(int, []api.Cube, hazard.Change) (bool, api.Errno)
theorem tab105 : TI.Ok Try.prog 105 ⟨.other, 1, 8, [.nilFunc]⟩ := TI.mk' (z := (.nilFunc)) (TD.mkOther (by kernel_rfl)) (by kernel_rfl) rfl rfl rfl
-- func(int, []api.Cube, int, int) (bool, int)
theorem tab106 : TI.Ok Try.prog 106 ⟨.other, 1, 8, [.nilFunc]⟩ := TI.mk' (z := (.nilFunc)) (TD.mkOther (by kernel_rfl)) (by kernel_rfl) rfl rfl rfl
-- func(int, []api.Cube) api.Errno
theorem tab107 : TI.Ok Try.prog 107 ⟨.other, 1, 8, [.nilFunc]⟩ := TI.mk' (z := (.nilFunc)) (TD.mkOther (by kernel_rfl)) (by kernel_rfl) rfl rfl rfl
-- func(int, []api.Cube) int
theorem tab108 : TI.Ok Try.prog 108 ⟨.other, 1, 8, [.nilFunc]⟩ := TI.mk' (z := (.nilFunc)) (TD.mkOther (by kernel_rfl)) (by kernel_rfl) rfl rfl rfl
-- func(int, []api.Cube, hazard.Change) bool
theorem tab109 : TI.Ok Try.prog 109 ⟨.other, 1, 8, [.nilFunc]⟩ := TI.mk' (z := (.nilFunc)) (TD.mkOther (by kernel_rfl)) (by kernel_rfl) rfl rfl rfl
-- func([]api.Cube) []api.Cube
theorem tab110 : TI.Ok Try.prog 110 ⟨.other, 1, 8, [.nilFunc]⟩ := TI.mk' (z := (.nilFunc)) (TD.mkOther (by kernel_rfl)) (by kernel_rfl) rfl rfl rfl
-- [3]uint8
theorem tab111 : TI.Ok Try.prog 111 ⟨.array 3 5, 3, 3, [.int .u8 0, .int .u8 0, .int .u8 0]⟩ := TI.mk' (z := (.agg #[.int .u8 0, .int .u8 0, .int .u8 0])) (show Try.prog.underlying 111 = some (.array 3 5) by kernel_rfl) (by kernel_rfl) rfl rfl rfl
-- func(int) int
theorem tab112 : TI.Ok Try.prog 112 ⟨.other, 1, 8, [.nilFunc]⟩ := TI.mk' (z := (.nilFunc)) (TD.mkOther (by kernel_rfl)) (by kernel_rfl) rfl rfl rfl
-- func(api.Table, int) (bool, api.Errno)
theorem tab113 : TI.Ok Try.prog 113 ⟨.other, 1, 8, [.nilFunc]⟩ := TI.mk' (z := (.nilFunc)) (TD.mkOther (by kernel_rfl)) (by kernel_rfl) rfl rfl rfl
-- func(int, []api.Cube, [3]uint8) bool
theorem tab114 : TI.Ok Try.prog 114 ⟨.other, 1, 8, [.nilFunc]⟩ := TI.mk' (z := (.nilFunc)) (TD.mkOther (by kernel_rfl)) (by kernel_rfl) rfl rfl rfl
-- [2]uint8
theorem tab115 : TI.Ok Try.prog 115 ⟨.array 2 5, 2, 2, [.int .u8 0, .int .u8 0]⟩ := TI.mk' (z := (.agg #[.int .u8 0, .int .u8 0])) (show Try.prog.underlying 115 = some (.array 2 5) by kernel_rfl) (by kernel_rfl) rfl rfl rfl
-- func([][2]int, [2]int) bool
theorem tab116 : TI.Ok Try.prog 116 ⟨.other, 1, 8, [.nilFunc]⟩ := TI.mk' (z := (.nilFunc)) (TD.mkOther (by kernel_rfl)) (by kernel_rfl) rfl rfl rfl
-- func(int, []api.Cube, [2]uint8) bool
theorem tab117 : TI.Ok Try.prog 117 ⟨.other, 1, 8, [.nilFunc]⟩ := TI.mk' (z := (.nilFunc)) (TD.mkOther (by kernel_rfl)) (by kernel_rfl) rfl rfl rfl
-- func(api.Table) int
theorem tab118 : TI.Ok Try.prog 118 ⟨.other, 1, 8, [.nilFunc]⟩ := TI.mk' (z := (.nilFunc)) (TD.mkOther (by kernel_rfl)) (by kernel_rfl) rfl rfl rfl
-- func(api.Table) ([]api.Cube, api.Errno)
theorem tab119 : TI.Ok Try.prog 119 ⟨.other, 1, 8, [.nilFunc]⟩ := TI.mk' (z := (.nilFunc)) (TD.mkOther (by kernel_rfl)) (by kernel_rfl) rfl rfl rfl
-- [][]api.Cube
theorem tab120 : TI.Ok Try.prog 120 ⟨.slice 43, 1, 24, [.slice none 0 0]⟩ := TI.mk' (z := (.slice none 0 0)) (show Try.prog.underlying 120 = some (.slice 43) by kernel_rfl) (by kernel_rfl) rfl rfl rfl
-- func(api.Table) bool
theorem tab121 : TI.Ok Try.prog 121 ⟨.other, 1, 8, [.nilFunc]⟩ := TI.mk' (z := (.nilFunc)) (TD.mkOther (by kernel_rfl)) (by kernel_rfl) rfl rfl rfl
-- func() implicant.Task
theorem tab122 : TI.Ok Try.prog 122 ⟨.other, 1, 8, [.nilFunc]⟩ := TI.mk' (z := (.nilFunc)) (TD.mkOther (by kernel_rfl)) (by kernel_rfl) rfl rfl rfl
-- []uint8
theorem tab123 : TI.Ok Try.prog 123 ⟨.slice 5, 1, 24, [.slice none 0 0]⟩ := TI.mk' (z := (.slice none 0 0)) (show Try.prog.underlying 123 = some (.slice 5) by kernel_rfl) (by kernel_rfl) rfl rfl rfl
-- func(int, api.Cube) string
theorem tab124 : TI.Ok Try.prog 124 ⟨.other, 1, 8, [.nilFunc]⟩ := TI.mk' (z := (.nilFunc)) (TD.mkOther (by kernel_rfl)) (by kernel_rfl) rfl rfl rfl
-- func(implicant.Task) []api.Cube
theorem tab125 : TI.Ok Try.prog 125 ⟨.other, 1, 8, [.nilFunc]⟩ := TI.mk' (z := (.nilFunc)) (TD.mkOther (by kernel_rfl)) (by kernel_rfl) rfl rfl rfl
-- func(pneumaticref06.Task) []api.Cube
theorem tab126 : TI.Ok Try.prog 126 ⟨.other, 1, 8, [.nilFunc]⟩ := TI.mk' (z := (.nilFunc)) (TD.mkOther (by kernel_rfl)) (by kernel_rfl) rfl rfl rfl
-- func(int, api.Cube) uint64
theorem tab127 : TI.Ok Try.prog 127 ⟨.other, 1, 8, [.nilFunc]⟩ := TI.mk' (z := (.nilFunc)) (TD.mkOther (by kernel_rfl)) (by kernel_rfl) rfl rfl rfl
-- func(api.Table, int) bool
theorem tab128 : TI.Ok Try.prog 128 ⟨.other, 1, 8, [.nilFunc]⟩ := TI.mk' (z := (.nilFunc)) (TD.mkOther (by kernel_rfl)) (by kernel_rfl) rfl rfl rfl
-- func(api.Cube, int) bool
theorem tab129 : TI.Ok Try.prog 129 ⟨.other, 1, 8, [.nilFunc]⟩ := TI.mk' (z := (.nilFunc)) (TD.mkOther (by kernel_rfl)) (by kernel_rfl) rfl rfl rfl
-- func([]api.Cube, int) []int
theorem tab130 : TI.Ok Try.prog 130 ⟨.other, 1, 8, [.nilFunc]⟩ := TI.mk' (z := (.nilFunc)) (TD.mkOther (by kernel_rfl)) (by kernel_rfl) rfl rfl rfl
-- func(int, ...api.Cube) api.Errno
theorem tab131 : TI.Ok Try.prog 131 ⟨.other, 1, 8, [.nilFunc]⟩ := TI.mk' (z := (.nilFunc)) (TD.mkOther (by kernel_rfl)) (by kernel_rfl) rfl rfl rfl
-- func(api.Cube, api.Cube) bool
theorem tab132 : TI.Ok Try.prog 132 ⟨.other, 1, 8, [.nilFunc]⟩ := TI.mk' (z := (.nilFunc)) (TD.mkOther (by kernel_rfl)) (by kernel_rfl) rfl rfl rfl
-- func(int, api.Cube, api.Cube) int
theorem tab133 : TI.Ok Try.prog 133 ⟨.other, 1, 8, [.nilFunc]⟩ := TI.mk' (z := (.nilFunc)) (TD.mkOther (by kernel_rfl)) (by kernel_rfl) rfl rfl rfl
-- func(api.Cube, api.Cube) uint
theorem tab134 : TI.Ok Try.prog 134 ⟨.other, 1, 8, [.nilFunc]⟩ := TI.mk' (z := (.nilFunc)) (TD.mkOther (by kernel_rfl)) (by kernel_rfl) rfl rfl rfl
-- func(int, api.Cube, api.Cube) []int
theorem tab135 : TI.Ok Try.prog 135 ⟨.other, 1, 8, [.nilFunc]⟩ := TI.mk' (z := (.nilFunc)) (TD.mkOther (by kernel_rfl)) (by kernel_rfl) rfl rfl rfl
-- func(api.Cube, api.Cube, []int) api.Cube
theorem tab136 : TI.Ok Try.prog 136 ⟨.other, 1, 8, [.nilFunc]⟩ := TI.mk' (z := (.nilFunc)) (TD.mkOther (by kernel_rfl)) (by kernel_rfl) rfl rfl rfl
-- func(uint) int
theorem tab137 : TI.Ok Try.prog 137 ⟨.other, 1, 8, [.nilFunc]⟩ := TI.mk' (z := (.nilFunc)) (TD.mkOther (by kernel_rfl)) (by kernel_rfl) rfl rfl rfl
-- func(pneumaticref06.Task, api.Cube) bool
theorem tab138 : TI.Ok Try.prog 138 ⟨.other, 1, 8, [.nilFunc]⟩ := TI.mk' (z := (.nilFunc)) (TD.mkOther (by kernel_rfl)) (by kernel_rfl) rfl rfl rfl
-- [2]api.Table
theorem tab139 : TI.Ok Try.prog 139 ⟨.array 2 38, 4, 32, [.int .i64 0, .int .u64 0, .int .i64 0, .int .u64 0]⟩ := TI.mk' (z := (.agg #[.int .i64 0, .int .u64 0, .int .i64 0, .int .u64 0])) (show Try.prog.underlying 139 = some (.array 2 38) by kernel_rfl) (by kernel_rfl) rfl rfl rfl
-- func(api.Table) api.Errno
theorem tab140 : TI.Ok Try.prog 140 ⟨.other, 1, 8, [.nilFunc]⟩ := TI.mk' (z := (.nilFunc)) (TD.mkOther (by kernel_rfl)) (by kernel_rfl) rfl rfl rfl
-- func(int) uint
theorem tab141 : TI.Ok Try.prog 141 ⟨.other, 1, 8, [.nilFunc]⟩ := TI.mk' (z := (.nilFunc)) (TD.mkOther (by kernel_rfl)) (by kernel_rfl) rfl rfl rfl
-- func([]api.Cube, func(api.Cube) bool) int
theorem tab142 : TI.Ok Try.prog 142 ⟨.other, 1, 8, [.nilFunc]⟩ := TI.mk' (z := (.nilFunc)) (TD.mkOther (by kernel_rfl)) (by kernel_rfl) rfl rfl rfl
-- func() []api.Cube
theorem tab143 : TI.Ok Try.prog 143 ⟨.other, 1, 8, [.nilFunc]⟩ := TI.mk' (z := (.nilFunc)) (TD.mkOther (by kernel_rfl)) (by kernel_rfl) rfl rfl rfl
-- func(int, []api.Cube) [][2]int
theorem tab144 : TI.Ok Try.prog 144 ⟨.other, 1, 8, [.nilFunc]⟩ := TI.mk' (z := (.nilFunc)) (TD.mkOther (by kernel_rfl)) (by kernel_rfl) rfl rfl rfl
-- func(int, []api.Cube) api.Table
theorem tab145 : TI.Ok Try.prog 145 ⟨.other, 1, 8, [.nilFunc]⟩ := TI.mk' (z := (.nilFunc)) (TD.mkOther (by kernel_rfl)) (by kernel_rfl) rfl rfl rfl
-- func([]api.Cube, [2]int) bool
theorem tab146 : TI.Ok Try.prog 146 ⟨.other, 1, 8, [.nilFunc]⟩ := TI.mk' (z := (.nilFunc)) (TD.mkOther (by kernel_rfl)) (by kernel_rfl) rfl rfl rfl
-- func(api.Table) []api.Cube
theorem tab147 : TI.Ok Try.prog 147 ⟨.other, 1, 8, [.nilFunc]⟩ := TI.mk' (z := (.nilFunc)) (TD.mkOther (by kernel_rfl)) (by kernel_rfl) rfl rfl rfl
-- func(int) bool
theorem tab148 : TI.Ok Try.prog 148 ⟨.other, 1, 8, [.nilFunc]⟩ := TI.mk' (z := (.nilFunc)) (TD.mkOther (by kernel_rfl)) (by kernel_rfl) rfl rfl rfl
-- func(int, func(int) bool) api.Table
theorem tab149 : TI.Ok Try.prog 149 ⟨.other, 1, 8, [.nilFunc]⟩ := TI.mk' (z := (.nilFunc)) (TD.mkOther (by kernel_rfl)) (by kernel_rfl) rfl rfl rfl
-- func(api.Table, api.Table, func(uint64, uint64) uint64) (api.Table, api.Errno)
theorem tab150 : TI.Ok Try.prog 150 ⟨.other, 1, 8, [.nilFunc]⟩ := TI.mk' (z := (.nilFunc)) (TD.mkOther (by kernel_rfl)) (by kernel_rfl) rfl rfl rfl
-- func(uint64, uint64) uint64
theorem tab151 : TI.Ok Try.prog 151 ⟨.other, 1, 8, [.nilFunc]⟩ := TI.mk' (z := (.nilFunc)) (TD.mkOther (by kernel_rfl)) (by kernel_rfl) rfl rfl rfl
-- func(int, []api.Cube, hazard.Change) api.Errno
theorem tab152 : TI.Ok Try.prog 152 ⟨.other, 1, 8, [.nilFunc]⟩ := TI.mk' (z := (.nilFunc)) (TD.mkOther (by kernel_rfl)) (by kernel_rfl) rfl rfl rfl
-- func([]api.Cube, hazard.Change) int
theorem tab153 : TI.Ok Try.prog 153 ⟨.other, 1, 8, [.nilFunc]⟩ := TI.mk' (z := (.nilFunc)) (TD.mkOther (by kernel_rfl)) (by kernel_rfl) rfl rfl rfl
-- func(int, []api.Cube, int, int) int
theorem tab154 : TI.Ok Try.prog 154 ⟨.other, 1, 8, [.nilFunc]⟩ := TI.mk' (z := (.nilFunc)) (TD.mkOther (by kernel_rfl)) (by kernel_rfl) rfl rfl rfl
-- func(api.Table, int, int) bool
theorem tab155 : TI.Ok Try.prog 155 ⟨.other, 1, 8, [.nilFunc]⟩ := TI.mk' (z := (.nilFunc)) (TD.mkOther (by kernel_rfl)) (by kernel_rfl) rfl rfl rfl
-- func([][2]int, [2]int) int
theorem tab156 : TI.Ok Try.prog 156 ⟨.other, 1, 8, [.nilFunc]⟩ := TI.mk' (z := (.nilFunc)) (TD.mkOther (by kernel_rfl)) (by kernel_rfl) rfl rfl rfl
-- func(int, []api.Cube) (int, api.Errno)
theorem tab157 : TI.Ok Try.prog 157 ⟨.other, 1, 8, [.nilFunc]⟩ := TI.mk' (z := (.nilFunc)) (TD.mkOther (by kernel_rfl)) (by kernel_rfl) rfl rfl rfl
-- func([]api.Cube, uint) []api.Cube
theorem tab158 : TI.Ok Try.prog 158 ⟨.other, 1, 8, [.nilFunc]⟩ := TI.mk' (z := (.nilFunc)) (TD.mkOther (by kernel_rfl)) (by kernel_rfl) rfl rfl rfl
-- func(uint) uint
theorem tab159 : TI.Ok Try.prog 159 ⟨.other, 1, 8, [.nilFunc]⟩ := TI.mk' (z := (.nilFunc)) (TD.mkOther (by kernel_rfl)) (by kernel_rfl) rfl rfl rfl
-- func(...int) int
theorem tab160 : TI.Ok Try.prog 160 ⟨.other, 1, 8, [.nilFunc]⟩ := TI.mk' (z := (.nilFunc)) (TD.mkOther (by kernel_rfl)) (by kernel_rfl) rfl rfl rfl
-- func(int, int) int
theorem tab161 : TI.Ok Try.prog 161 ⟨.other, 1, 8, [.nilFunc]⟩ := TI.mk' (z := (.nilFunc)) (TD.mkOther (by kernel_rfl)) (by kernel_rfl) rfl rfl rfl
-- func(func(api.Cube) bool)
theorem tab162 : TI.Ok Try.prog 162 ⟨.other, 1, 8, [.nilFunc]⟩ := TI.mk' (z := (.nilFunc)) (TD.mkOther (by kernel_rfl)) (by kernel_rfl) rfl rfl rfl
-- iter.Seq[pneumatic/api.Cube]
theorem tab163 : TI.Ok Try.prog 163 ⟨.other, 1, 8, [.nilFunc]⟩ := TI.mk' (z := (.nilFunc)) (TD.mkOther (by kernel_rfl)) (by kernel_rfl) rfl rfl rfl
-- func(int) iter.Seq[pneumatic/api.Cube]
theorem tab164 : TI.Ok Try.prog 164 ⟨.other, 1, 8, [.nilFunc]⟩ := TI.mk' (z := (.nilFunc)) (TD.mkOther (by kernel_rfl)) (by kernel_rfl) rfl rfl rfl
-- func([]api.Cube, func(api.Cube, api.Cube) int)
theorem tab165 : TI.Ok Try.prog 165 ⟨.other, 1, 8, [.nilFunc]⟩ := TI.mk' (z := (.nilFunc)) (TD.mkOther (by kernel_rfl)) (by kernel_rfl) rfl rfl rfl
-- func(uint, uint) int
theorem tab166 : TI.Ok Try.prog 166 ⟨.other, 1, 8, [.nilFunc]⟩ := TI.mk' (z := (.nilFunc)) (TD.mkOther (by kernel_rfl)) (by kernel_rfl) rfl rfl rfl
-- func(api.Cube, api.Cube) int
theorem tab167 : TI.Ok Try.prog 167 ⟨.other, 1, 8, [.nilFunc]⟩ := TI.mk' (z := (.nilFunc)) (TD.mkOther (by kernel_rfl)) (by kernel_rfl) rfl rfl rfl
-- func(int) []api.Cube
theorem tab168 : TI.Ok Try.prog 168 ⟨.other, 1, 8, [.nilFunc]⟩ := TI.mk' (z := (.nilFunc)) (TD.mkOther (by kernel_rfl)) (by kernel_rfl) rfl rfl rfl
-- func(uint32) int
theorem tab169 : TI.Ok Try.prog 169 ⟨.other, 1, 8, [.nilFunc]⟩ := TI.mk' (z := (.nilFunc)) (TD.mkOther (by kernel_rfl)) (by kernel_rfl) rfl rfl rfl
-- uint32
theorem tab170 : TI.Ok Try.prog 170 ⟨.int .u32, 1, 4, [.int .u32 0]⟩ := TI.mk' (z := (.int .u32 0)) (show Try.prog.underlying 170 = some (.int .u32) by kernel_rfl) (by kernel_rfl) rfl rfl rfl
-- func(uint64) int
theorem tab171 : TI.Ok Try.prog 171 ⟨.other, 1, 8, [.nilFunc]⟩ := TI.mk' (z := (.nilFunc)) (TD.mkOther (by kernel_rfl)) (by kernel_rfl) rfl rfl rfl
-- func(int) uint64
theorem tab172 : TI.Ok Try.prog 172 ⟨.other, 1, 8, [.nilFunc]⟩ := TI.mk' (z := (.nilFunc)) (TD.mkOther (by kernel_rfl)) (by kernel_rfl) rfl rfl rfl
-- func([][2]int, func([2]int) bool) [][2]int
theorem tab173 : TI.Ok Try.prog 173 ⟨.other, 1, 8, [.nilFunc]⟩ := TI.mk' (z := (.nilFunc)) (TD.mkOther (by kernel_rfl)) (by kernel_rfl) rfl rfl rfl
-- func(api.Table) [][2]int
theorem tab174 : TI.Ok Try.prog 174 ⟨.other, 1, 8, [.nilFunc]⟩ := TI.mk' (z := (.nilFunc)) (TD.mkOther (by kernel_rfl)) (by kernel_rfl) rfl rfl rfl
-- func([2]int) bool
theorem tab175 : TI.Ok Try.prog 175 ⟨.other, 1, 8, [.nilFunc]⟩ := TI.mk' (z := (.nilFunc)) (TD.mkOther (by kernel_rfl)) (by kernel_rfl) rfl rfl rfl
-- func(func(int) bool)
theorem tab176 : TI.Ok Try.prog 176 ⟨.other, 1, 8, [.nilFunc]⟩ := TI.mk' (z := (.nilFunc)) (TD.mkOther (by kernel_rfl)) (by kernel_rfl) rfl rfl rfl
-- iter.Seq[int]
theorem tab177 : TI.Ok Try.prog 177 ⟨.other, 1, 8, [.nilFunc]⟩ := TI.mk' (z := (.nilFunc)) (TD.mkOther (by kernel_rfl)) (by kernel_rfl) rfl rfl rfl
-- func(int) iter.Seq[int]
theorem tab178 : TI.Ok Try.prog 178 ⟨.other, 1, 8, [.nilFunc]⟩ := TI.mk' (z := (.nilFunc)) (TD.mkOther (by kernel_rfl)) (by kernel_rfl) rfl rfl rfl
-- []api.Table
theorem tab179 : TI.Ok Try.prog 179 ⟨.slice 38, 1, 24, [.slice none 0 0]⟩ := TI.mk' (z := (.slice none 0 0)) (show Try.prog.underlying 179 = some (.slice 38) by kernel_rfl) (by kernel_rfl) rfl rfl rfl
-- [3]int
theorem tab180 : TI.Ok Try.prog 180 ⟨.array 3 3, 3, 24, [.int .i64 0, .int .i64 0, .int .i64 0]⟩ := TI.mk' (z := (.agg #[.int .i64 0, .int .i64 0, .int .i64 0])) (show Try.prog.underlying 180 = some (.array 3 3) by kernel_rfl) (by kernel_rfl) rfl rfl rfl
-- [3][3]int
theorem tab181 : TI.Ok Try.prog 181 ⟨.array 3 180, 9, 72, [.int .i64 0, .int .i64 0, .int .i64 0, .int .i64 0, .int .i64 0, .int .i64 0, .int .i64 0, .int .i64 0, .int .i64 0]⟩ := TI.mk' (z := (.agg #[.int .i64 0, .int .i64 0, .int .i64 0, .int .i64 0, .int .i64 0, .int .i64 0, .int .i64 0, .int .i64 0, .int .i64 0])) (show Try.prog.underlying 181 = some (.array 3 180) by kernel_rfl) (by kernel_rfl) rfl rfl rfl
-- func() [3][3]int
theorem tab182 : TI.Ok Try.prog 182 ⟨.other, 1, 8, [.nilFunc]⟩ := TI.mk' (z := (.nilFunc)) (TD.mkOther (by kernel_rfl)) (by kernel_rfl) rfl rfl rfl
-- func(api.Cube, hazard.Change) int
theorem tab183 : TI.Ok Try.prog 183 ⟨.other, 1, 8, [.nilFunc]⟩ := TI.mk' (z := (.nilFunc)) (TD.mkOther (by kernel_rfl)) (by kernel_rfl) rfl rfl rfl
-- func(api.Cube, []int) (bool, bool)
theorem tab185 : TI.Ok Try.prog 185 ⟨.other, 1, 8, [.nilFunc]⟩ := TI.mk' (z := (.nilFunc)) (TD.mkOther (by kernel_rfl)) (by kernel_rfl) rfl rfl rfl
-- func(int, int, int) []int
theorem tab186 : TI.Ok Try.prog 186 ⟨.other, 1, 8, [.nilFunc]⟩ := TI.mk' (z := (.nilFunc)) (TD.mkOther (by kernel_rfl)) (by kernel_rfl) rfl rfl rfl
-- func([]api.Cube) int
theorem tab187 : TI.Ok Try.prog 187 ⟨.other, 1, 8, [.nilFunc]⟩ := TI.mk' (z := (.nilFunc)) (TD.mkOther (by kernel_rfl)) (by kernel_rfl) rfl rfl rfl
-- func(uint32) uint32
theorem tab188 : TI.Ok Try.prog 188 ⟨.other, 1, 8, [.nilFunc]⟩ := TI.mk' (z := (.nilFunc)) (TD.mkOther (by kernel_rfl)) (by kernel_rfl) rfl rfl rfl
-- func(uint64) uint64
theorem tab189 : TI.Ok Try.prog 189 ⟨.other, 1, 8, [.nilFunc]⟩ := TI.mk' (z := (.nilFunc)) (TD.mkOther (by kernel_rfl)) (by kernel_rfl) rfl rfl rfl
-- func([]api.Cube, int, int, int, func(api.Cube, api.Cube) int)
theorem tab190 : TI.Ok Try.prog 190 ⟨.other, 1, 8, [.nilFunc]⟩ := TI.mk' (z := (.nilFunc)) (TD.mkOther (by kernel_rfl)) (by kernel_rfl) rfl rfl rfl
-- func(uint) bool
theorem tab191 : TI.Ok Try.prog 191 ⟨.other, 1, 8, [.nilFunc]⟩ := TI.mk' (z := (.nilFunc)) (TD.mkOther (by kernel_rfl)) (by kernel_rfl) rfl rfl rfl
-- func([][2]int, func([2]int) bool) int
theorem tab192 : TI.Ok Try.prog 192 ⟨.other, 1, 8, [.nilFunc]⟩ := TI.mk' (z := (.nilFunc)) (TD.mkOther (by kernel_rfl)) (by kernel_rfl) rfl rfl rfl
-- func(int, int) bool
theorem tab193 : TI.Ok Try.prog 193 ⟨.other, 1, 8, [.nilFunc]⟩ := TI.mk' (z := (.nilFunc)) (TD.mkOther (by kernel_rfl)) (by kernel_rfl) rfl rfl rfl
-- func([]api.Cube, int, int, func(api.Cube, api.Cube) int)
theorem tab194 : TI.Ok Try.prog 194 ⟨.other, 1, 8, [.nilFunc]⟩ := TI.mk' (z := (.nilFunc)) (TD.mkOther (by kernel_rfl)) (by kernel_rfl) rfl rfl rfl
-- slices.sortedHint
theorem tab195 : TI.Ok Try.prog 195 ⟨.int .i64, 1, 8, [.int .i64 0]⟩ := TI.mk' (z := (.int .i64 0)) (show Try.prog.underlying 195 = some (.int .i64) by kernel_rfl) (by kernel_rfl) rfl rfl rfl
-- func([]api.Cube, int, int, func(api.Cube, api.Cube) int) (int, slices.sortedHint)
theorem tab197 : TI.Ok Try.prog 197 ⟨.other, 1, 8, [.nilFunc]⟩ := TI.mk' (z := (.nilFunc)) (TD.mkOther (by kernel_rfl)) (by kernel_rfl) rfl rfl rfl
-- func([]api.Cube, int, int, func(api.Cube, api.Cube) int) bool
theorem tab198 : TI.Ok Try.prog 198 ⟨.other, 1, 8, [.nilFunc]⟩ := TI.mk' (z := (.nilFunc)) (TD.mkOther (by kernel_rfl)) (by kernel_rfl) rfl rfl rfl
-- func([]api.Cube, int, int, int, func(api.Cube, api.Cube) int) int
theorem tab199 : TI.Ok Try.prog 199 ⟨.other, 1, 8, [.nilFunc]⟩ := TI.mk' (z := (.nilFunc)) (TD.mkOther (by kernel_rfl)) (by kernel_rfl) rfl rfl rfl
-- func([]api.Cube, int, int, int, func(api.Cube, api.Cube) int) (int, bool)
theorem tab201 : TI.Ok Try.prog 201 ⟨.other, 1, 8, [.nilFunc]⟩ := TI.mk' (z := (.nilFunc)) (TD.mkOther (by kernel_rfl)) (by kernel_rfl) rfl rfl rfl
-- slices.xorshift
theorem tab202 : TI.Ok Try.prog 202 ⟨.int .u64, 1, 8, [.int .u64 0]⟩ := TI.mk' (z := (.int .u64 0)) (show Try.prog.underlying 202 = some (.int .u64) by kernel_rfl) (by kernel_rfl) rfl rfl rfl
-- func() uint64
theorem tab203 : TI.Ok Try.prog 203 ⟨.other, 1, 8, [.nilFunc]⟩ := TI.mk' (z := (.nilFunc)) (TD.mkOther (by kernel_rfl)) (by kernel_rfl) rfl rfl rfl
-- func([]api.Cube, int, *int, func(api.Cube, api.Cube) int) int
theorem tab204 : TI.Ok Try.prog 204 ⟨.other, 1, 8, [.nilFunc]⟩ := TI.mk' (z := (.nilFunc)) (TD.mkOther (by kernel_rfl)) (by kernel_rfl) rfl rfl rfl
-- *int
theorem tab205 : TI.Ok Try.prog 205 ⟨.other, 1, 8, [.pointer none]⟩ := TI.mk' (z := (.pointer none)) (TD.mkOther (by kernel_rfl)) (by kernel_rfl) rfl rfl rfl
-- func([]api.Cube, int, int, int, *int, func(api.Cube, api.Cube) int) int
theorem tab206 : TI.Ok Try.prog 206 ⟨.other, 1, 8, [.nilFunc]⟩ := TI.mk' (z := (.nilFunc)) (TD.mkOther (by kernel_rfl)) (by kernel_rfl) rfl rfl rfl
-- *slices.xorshift
theorem tab207 : TI.Ok Try.prog 207 ⟨.other, 1, 8, [.pointer none]⟩ := TI.mk' (z := (.pointer none)) (TD.mkOther (by kernel_rfl)) (by kernel_rfl) rfl rfl rfl
-- func([]api.Cube, int, int, *int, func(api.Cube, api.Cube) int) (int, int)
theorem tab208 : TI.Ok Try.prog 208 ⟨.other, 1, 8, [.nilFunc]⟩ := TI.mk' (z := (.nilFunc)) (TD.mkOther (by kernel_rfl)) (by kernel_rfl) rfl rfl rfl
-- func() string
theorem tab209 : TI.Ok Try.prog 209 ⟨.other, 1, 8, [.nilFunc]⟩ := TI.mk' (z := (.nilFunc)) (TD.mkOther (by kernel_rfl)) (by kernel_rfl) rfl rfl rfl
-- [0]*runtime.PanicNilError
theorem tab212 : TI.Ok Try.prog 212 ⟨.array 0 16, 0, 0, []⟩ := TI.mk' (z := (.agg #[])) (show Try.prog.underlying 212 = some (.array 0 16) by kernel_rfl) (by kernel_rfl) rfl rfl rfl
-- func() int
theorem tab215 : TI.Ok Try.prog 215 ⟨.other, 1, 8, [.nilFunc]⟩ := TI.mk' (z := (.nilFunc)) (TD.mkOther (by kernel_rfl)) (by kernel_rfl) rfl rfl rfl
-- abi.TFlag
theorem tab216 : TI.Ok Try.prog 216 ⟨.int .u8, 1, 1, [.int .u8 0]⟩ := TI.mk' (z := (.int .u8 0)) (show Try.prog.underlying 216 = some (.int .u8) by kernel_rfl) (by kernel_rfl) rfl rfl rfl
-- abi.Kind
theorem tab217 : TI.Ok Try.prog 217 ⟨.int .u8, 1, 1, [.int .u8 0]⟩ := TI.mk' (z := (.int .u8 0)) (show Try.prog.underlying 217 = some (.int .u8) by kernel_rfl) (by kernel_rfl) rfl rfl rfl
-- func(unsafe.Pointer, unsafe.Pointer) bool
theorem tab218 : TI.Ok Try.prog 218 ⟨.other, 1, 8, [.nilFunc]⟩ := TI.mk' (z := (.nilFunc)) (TD.mkOther (by kernel_rfl)) (by kernel_rfl) rfl rfl rfl
-- *uint8
theorem tab219 : TI.Ok Try.prog 219 ⟨.other, 1, 8, [.pointer none]⟩ := TI.mk' (z := (.pointer none)) (TD.mkOther (by kernel_rfl)) (by kernel_rfl) rfl rfl rfl
-- abi.NameOff
theorem tab220 : TI.Ok Try.prog 220 ⟨.int .i32, 1, 4, [.int .i32 0]⟩ := TI.mk' (z := (.int .i32 0)) (show Try.prog.underlying 220 = some (.int .i32) by kernel_rfl) (by kernel_rfl) rfl rfl rfl
-- abi.TypeOff
theorem tab221 : TI.Ok Try.prog 221 ⟨.int .i32, 1, 4, [.int .i32 0]⟩ := TI.mk' (z := (.int .i32 0)) (show Try.prog.underlying 221 = some (.int .i32) by kernel_rfl) (by kernel_rfl) rfl rfl rfl
-- unsafe.Pointer
theorem tab224 : TI.Ok Try.prog 224 ⟨.other, 1, 8, [.pointer none]⟩ := TI.mk' (z := (.pointer none)) (TD.mkOther (by kernel_rfl)) (by kernel_rfl) rfl rfl rfl

def tab : Tab := [
  (1, ⟨.other, 1, 8, [.nilFunc]⟩),
  (2, ⟨.int .i64, 1, 8, [.int .i64 0]⟩),
  (3, ⟨.int .i64, 1, 8, [.int .i64 0]⟩),
  (4, ⟨.bool, 1, 1, [.bool false]⟩),
  (5, ⟨.int .u8, 1, 1, [.int .u8 0]⟩),
  (6, ⟨.int .u8, 1, 1, [.int .u8 0]⟩),
  (7, ⟨.struct [(0, 2), (1, 3), (2, 4), (3, 6)], 4, 24, [.int .i64 0, .int .i64 0, .bool false, .int .u8 0]⟩),
  (8, ⟨.struct [(0, 2), (1, 3), (2, 4), (3, 6)], 4, 24, [.int .i64 0, .int .i64 0, .bool false, .int .u8 0]⟩),
  (9, ⟨.string, 1, 16, [.string ByteArray.empty]⟩),
  (10, ⟨.string, 1, 16, [.string ByteArray.empty]⟩),
  (11, ⟨.string, 1, 16, [.string ByteArray.empty]⟩),
  (12, ⟨.int .u64, 1, 8, [.int .u64 0]⟩),
  (15, ⟨.other, 1, 8, [.pointer none]⟩),
  (16, ⟨.other, 1, 8, [.pointer none]⟩),
  (17, ⟨.other, 1, 8, [.pointer none]⟩),
  (20, ⟨.other, 1, 16, [.nilIface]⟩),
  (21, ⟨.int .i32, 1, 4, [.int .i32 0]⟩),
  (22, ⟨.int .u64, 1, 8, [.int .u64 0]⟩),
  (23, ⟨.struct [(0, 22), (1, 22)], 2, 16, [.int .u64 0, .int .u64 0]⟩),
  (24, ⟨.struct [(0, 22), (1, 22)], 2, 16, [.int .u64 0, .int .u64 0]⟩),
  (25, ⟨.other, 1, 8, [.nilFunc]⟩),
  (26, ⟨.int .i64, 1, 8, [.int .i64 0]⟩),
  (28, ⟨.other, 1, 8, [.nilFunc]⟩),
  (30, ⟨.other, 1, 8, [.nilFunc]⟩),
  (32, ⟨.other, 1, 8, [.nilFunc]⟩),
  (34, ⟨.other, 1, 8, [.nilFunc]⟩),
  (35, ⟨.other, 1, 8, [.nilFunc]⟩),
  (36, ⟨.int .u64, 1, 8, [.int .u64 0]⟩),
  (37, ⟨.struct [(0, 3), (1, 36)], 2, 16, [.int .i64 0, .int .u64 0]⟩),
  (38, ⟨.struct [(0, 3), (1, 36)], 2, 16, [.int .i64 0, .int .u64 0]⟩),
  (39, ⟨.struct [(0, 38), (2, 38)], 4, 32, [.int .i64 0, .int .u64 0, .int .i64 0, .int .u64 0]⟩),
  (40, ⟨.struct [(0, 38), (2, 38)], 4, 32, [.int .i64 0, .int .u64 0, .int .i64 0, .int .u64 0]⟩),
  (41, ⟨.other, 1, 8, [.nilFunc]⟩),
  (42, ⟨.struct [(0, 38), (2, 38)], 4, 32, [.int .i64 0, .int .u64 0, .int .i64 0, .int .u64 0]⟩),
  (43, ⟨.slice 24, 1, 24, [.slice none 0 0]⟩),
  (45, ⟨.other, 1, 8, [.nilFunc]⟩),
  (47, ⟨.other, 1, 8, [.nilFunc]⟩),
  (48, ⟨.slice 3, 1, 24, [.slice none 0 0]⟩),
  (50, ⟨.other, 1, 8, [.nilFunc]⟩),
  (52, ⟨.other, 1, 8, [.nilFunc]⟩),
  (53, ⟨.other, 1, 8, [.nilFunc]⟩),
  (54, ⟨.other, 1, 8, [.nilFunc]⟩),
  (55, ⟨.other, 1, 8, [.nilFunc]⟩),
  (57, ⟨.other, 1, 8, [.nilFunc]⟩),
  (59, ⟨.other, 1, 8, [.nilFunc]⟩),
  (61, ⟨.other, 1, 8, [.nilFunc]⟩),
  (63, ⟨.other, 1, 8, [.nilFunc]⟩),
  (64, ⟨.other, 1, 8, [.nilFunc]⟩),
  (65, ⟨.other, 1, 8, [.nilFunc]⟩),
  (66, ⟨.other, 1, 8, [.nilFunc]⟩),
  (67, ⟨.other, 1, 8, [.nilFunc]⟩),
  (68, ⟨.other, 1, 8, [.nilFunc]⟩),
  (69, ⟨.other, 1, 8, [.nilFunc]⟩),
  (70, ⟨.other, 1, 8, [.nilFunc]⟩),
  (72, ⟨.other, 1, 8, [.nilFunc]⟩),
  (73, ⟨.other, 1, 8, [.nilFunc]⟩),
  (74, ⟨.other, 1, 8, [.nilFunc]⟩),
  (76, ⟨.other, 1, 8, [.nilFunc]⟩),
  (77, ⟨.other, 1, 8, [.nilFunc]⟩),
  (78, ⟨.other, 1, 8, [.nilFunc]⟩),
  (79, ⟨.other, 1, 8, [.nilFunc]⟩),
  (80, ⟨.other, 1, 8, [.nilFunc]⟩),
  (81, ⟨.other, 1, 8, [.nilFunc]⟩),
  (82, ⟨.other, 1, 8, [.nilFunc]⟩),
  (83, ⟨.other, 1, 8, [.nilFunc]⟩),
  (84, ⟨.other, 1, 8, [.nilFunc]⟩),
  (85, ⟨.slice 93, 1, 24, [.slice none 0 0]⟩),
  (87, ⟨.other, 1, 8, [.nilFunc]⟩),
  (89, ⟨.other, 1, 8, [.nilFunc]⟩),
  (90, ⟨.other, 1, 8, [.nilFunc]⟩),
  (91, ⟨.other, 1, 8, [.nilFunc]⟩),
  (92, ⟨.other, 1, 8, [.nilFunc]⟩),
  (93, ⟨.array 2 3, 2, 16, [.int .i64 0, .int .i64 0]⟩),
  (94, ⟨.other, 1, 8, [.nilFunc]⟩),
  (95, ⟨.other, 1, 8, [.nilFunc]⟩),
  (96, ⟨.other, 1, 8, [.nilFunc]⟩),
  (97, ⟨.struct [(0, 3), (1, 3)], 2, 16, [.int .i64 0, .int .i64 0]⟩),
  (98, ⟨.struct [(0, 3), (1, 3)], 2, 16, [.int .i64 0, .int .i64 0]⟩),
  (99, ⟨.other, 1, 8, [.nilFunc]⟩),
  (100, ⟨.other, 1, 8, [.nilFunc]⟩),
  (102, ⟨.other, 1, 8, [.nilFunc]⟩),
  (104, ⟨.other, 1, 8, [.nilFunc]⟩),
  (105, ⟨.other, 1, 8, [.nilFunc]⟩),
  (106, ⟨.other, 1, 8, [.nilFunc]⟩),
  (107, ⟨.other, 1, 8, [.nilFunc]⟩),
  (108, ⟨.other, 1, 8, [.nilFunc]⟩),
  (109, ⟨.other, 1, 8, [.nilFunc]⟩),
  (110, ⟨.other, 1, 8, [.nilFunc]⟩),
  (111, ⟨.array 3 5, 3, 3, [.int .u8 0, .int .u8 0, .int .u8 0]⟩),
  (112, ⟨.other, 1, 8, [.nilFunc]⟩),
  (113, ⟨.other, 1, 8, [.nilFunc]⟩),
  (114, ⟨.other, 1, 8, [.nilFunc]⟩),
  (115, ⟨.array 2 5, 2, 2, [.int .u8 0, .int .u8 0]⟩),
  (116, ⟨.other, 1, 8, [.nilFunc]⟩),
  (117, ⟨.other, 1, 8, [.nilFunc]⟩),
  (118, ⟨.other, 1, 8, [.nilFunc]⟩),
  (119, ⟨.other, 1, 8, [.nilFunc]⟩),
  (120, ⟨.slice 43, 1, 24, [.slice none 0 0]⟩),
  (121, ⟨.other, 1, 8, [.nilFunc]⟩),
  (122, ⟨.other, 1, 8, [.nilFunc]⟩),
  (123, ⟨.slice 5, 1, 24, [.slice none 0 0]⟩),
  (124, ⟨.other, 1, 8, [.nilFunc]⟩),
  (125, ⟨.other, 1, 8, [.nilFunc]⟩),
  (126, ⟨.other, 1, 8, [.nilFunc]⟩),
  (127, ⟨.other, 1, 8, [.nilFunc]⟩),
  (128, ⟨.other, 1, 8, [.nilFunc]⟩),
  (129, ⟨.other, 1, 8, [.nilFunc]⟩),
  (130, ⟨.other, 1, 8, [.nilFunc]⟩),
  (131, ⟨.other, 1, 8, [.nilFunc]⟩),
  (132, ⟨.other, 1, 8, [.nilFunc]⟩),
  (133, ⟨.other, 1, 8, [.nilFunc]⟩),
  (134, ⟨.other, 1, 8, [.nilFunc]⟩),
  (135, ⟨.other, 1, 8, [.nilFunc]⟩),
  (136, ⟨.other, 1, 8, [.nilFunc]⟩),
  (137, ⟨.other, 1, 8, [.nilFunc]⟩),
  (138, ⟨.other, 1, 8, [.nilFunc]⟩),
  (139, ⟨.array 2 38, 4, 32, [.int .i64 0, .int .u64 0, .int .i64 0, .int .u64 0]⟩),
  (140, ⟨.other, 1, 8, [.nilFunc]⟩),
  (141, ⟨.other, 1, 8, [.nilFunc]⟩),
  (142, ⟨.other, 1, 8, [.nilFunc]⟩),
  (143, ⟨.other, 1, 8, [.nilFunc]⟩),
  (144, ⟨.other, 1, 8, [.nilFunc]⟩),
  (145, ⟨.other, 1, 8, [.nilFunc]⟩),
  (146, ⟨.other, 1, 8, [.nilFunc]⟩),
  (147, ⟨.other, 1, 8, [.nilFunc]⟩),
  (148, ⟨.other, 1, 8, [.nilFunc]⟩),
  (149, ⟨.other, 1, 8, [.nilFunc]⟩),
  (150, ⟨.other, 1, 8, [.nilFunc]⟩),
  (151, ⟨.other, 1, 8, [.nilFunc]⟩),
  (152, ⟨.other, 1, 8, [.nilFunc]⟩),
  (153, ⟨.other, 1, 8, [.nilFunc]⟩),
  (154, ⟨.other, 1, 8, [.nilFunc]⟩),
  (155, ⟨.other, 1, 8, [.nilFunc]⟩),
  (156, ⟨.other, 1, 8, [.nilFunc]⟩),
  (157, ⟨.other, 1, 8, [.nilFunc]⟩),
  (158, ⟨.other, 1, 8, [.nilFunc]⟩),
  (159, ⟨.other, 1, 8, [.nilFunc]⟩),
  (160, ⟨.other, 1, 8, [.nilFunc]⟩),
  (161, ⟨.other, 1, 8, [.nilFunc]⟩),
  (162, ⟨.other, 1, 8, [.nilFunc]⟩),
  (163, ⟨.other, 1, 8, [.nilFunc]⟩),
  (164, ⟨.other, 1, 8, [.nilFunc]⟩),
  (165, ⟨.other, 1, 8, [.nilFunc]⟩),
  (166, ⟨.other, 1, 8, [.nilFunc]⟩),
  (167, ⟨.other, 1, 8, [.nilFunc]⟩),
  (168, ⟨.other, 1, 8, [.nilFunc]⟩),
  (169, ⟨.other, 1, 8, [.nilFunc]⟩),
  (170, ⟨.int .u32, 1, 4, [.int .u32 0]⟩),
  (171, ⟨.other, 1, 8, [.nilFunc]⟩),
  (172, ⟨.other, 1, 8, [.nilFunc]⟩),
  (173, ⟨.other, 1, 8, [.nilFunc]⟩),
  (174, ⟨.other, 1, 8, [.nilFunc]⟩),
  (175, ⟨.other, 1, 8, [.nilFunc]⟩),
  (176, ⟨.other, 1, 8, [.nilFunc]⟩),
  (177, ⟨.other, 1, 8, [.nilFunc]⟩),
  (178, ⟨.other, 1, 8, [.nilFunc]⟩),
  (179, ⟨.slice 38, 1, 24, [.slice none 0 0]⟩),
  (180, ⟨.array 3 3, 3, 24, [.int .i64 0, .int .i64 0, .int .i64 0]⟩),
  (181, ⟨.array 3 180, 9, 72, [.int .i64 0, .int .i64 0, .int .i64 0, .int .i64 0, .int .i64 0, .int .i64 0, .int .i64 0, .int .i64 0, .int .i64 0]⟩),
  (182, ⟨.other, 1, 8, [.nilFunc]⟩),
  (183, ⟨.other, 1, 8, [.nilFunc]⟩),
  (185, ⟨.other, 1, 8, [.nilFunc]⟩),
  (186, ⟨.other, 1, 8, [.nilFunc]⟩),
  (187, ⟨.other, 1, 8, [.nilFunc]⟩),
  (188, ⟨.other, 1, 8, [.nilFunc]⟩),
  (189, ⟨.other, 1, 8, [.nilFunc]⟩),
  (190, ⟨.other, 1, 8, [.nilFunc]⟩),
  (191, ⟨.other, 1, 8, [.nilFunc]⟩),
  (192, ⟨.other, 1, 8, [.nilFunc]⟩),
  (193, ⟨.other, 1, 8, [.nilFunc]⟩),
  (194, ⟨.other, 1, 8, [.nilFunc]⟩),
  (195, ⟨.int .i64, 1, 8, [.int .i64 0]⟩),
  (197, ⟨.other, 1, 8, [.nilFunc]⟩),
  (198, ⟨.other, 1, 8, [.nilFunc]⟩),
  (199, ⟨.other, 1, 8, [.nilFunc]⟩),
  (201, ⟨.other, 1, 8, [.nilFunc]⟩),
  (202, ⟨.int .u64, 1, 8, [.int .u64 0]⟩),
  (203, ⟨.other, 1, 8, [.nilFunc]⟩),
  (204, ⟨.other, 1, 8, [.nilFunc]⟩),
  (205, ⟨.other, 1, 8, [.pointer none]⟩),
  (206, ⟨.other, 1, 8, [.nilFunc]⟩),
  (207, ⟨.other, 1, 8, [.pointer none]⟩),
  (208, ⟨.other, 1, 8, [.nilFunc]⟩),
  (209, ⟨.other, 1, 8, [.nilFunc]⟩),
  (212, ⟨.array 0 16, 0, 0, []⟩),
  (215, ⟨.other, 1, 8, [.nilFunc]⟩),
  (216, ⟨.int .u8, 1, 1, [.int .u8 0]⟩),
  (217, ⟨.int .u8, 1, 1, [.int .u8 0]⟩),
  (218, ⟨.other, 1, 8, [.nilFunc]⟩),
  (219, ⟨.other, 1, 8, [.pointer none]⟩),
  (220, ⟨.int .i32, 1, 4, [.int .i32 0]⟩),
  (221, ⟨.int .i32, 1, 4, [.int .i32 0]⟩),
  (224, ⟨.other, 1, 8, [.pointer none]⟩)]
theorem tab_ok : tab.Ok Try.prog :=
  Tab.ok_cons tab1 <| Tab.ok_cons tab2 <| Tab.ok_cons tab3 <| Tab.ok_cons tab4 <| Tab.ok_cons tab5 <| Tab.ok_cons tab6 <| Tab.ok_cons tab7 <| Tab.ok_cons tab8 <| Tab.ok_cons tab9 <| Tab.ok_cons tab10 <| Tab.ok_cons tab11 <| Tab.ok_cons tab12 <| Tab.ok_cons tab15 <| Tab.ok_cons tab16 <| Tab.ok_cons tab17 <| Tab.ok_cons tab20 <| Tab.ok_cons tab21 <| Tab.ok_cons tab22 <| Tab.ok_cons tab23 <| Tab.ok_cons tab24 <| Tab.ok_cons tab25 <| Tab.ok_cons tab26 <| Tab.ok_cons tab28 <| Tab.ok_cons tab30 <| Tab.ok_cons tab32 <| Tab.ok_cons tab34 <| Tab.ok_cons tab35 <| Tab.ok_cons tab36 <| Tab.ok_cons tab37 <| Tab.ok_cons tab38 <| Tab.ok_cons tab39 <| Tab.ok_cons tab40 <| Tab.ok_cons tab41 <| Tab.ok_cons tab42 <| Tab.ok_cons tab43 <| Tab.ok_cons tab45 <| Tab.ok_cons tab47 <| Tab.ok_cons tab48 <| Tab.ok_cons tab50 <| Tab.ok_cons tab52 <| Tab.ok_cons tab53 <| Tab.ok_cons tab54 <| Tab.ok_cons tab55 <| Tab.ok_cons tab57 <| Tab.ok_cons tab59 <| Tab.ok_cons tab61 <| Tab.ok_cons tab63 <| Tab.ok_cons tab64 <| Tab.ok_cons tab65 <| Tab.ok_cons tab66 <| Tab.ok_cons tab67 <| Tab.ok_cons tab68 <| Tab.ok_cons tab69 <| Tab.ok_cons tab70 <| Tab.ok_cons tab72 <| Tab.ok_cons tab73 <| Tab.ok_cons tab74 <| Tab.ok_cons tab76 <| Tab.ok_cons tab77 <| Tab.ok_cons tab78 <| Tab.ok_cons tab79 <| Tab.ok_cons tab80 <| Tab.ok_cons tab81 <| Tab.ok_cons tab82 <| Tab.ok_cons tab83 <| Tab.ok_cons tab84 <| Tab.ok_cons tab85 <| Tab.ok_cons tab87 <| Tab.ok_cons tab89 <| Tab.ok_cons tab90 <| Tab.ok_cons tab91 <| Tab.ok_cons tab92 <| Tab.ok_cons tab93 <| Tab.ok_cons tab94 <| Tab.ok_cons tab95 <| Tab.ok_cons tab96 <| Tab.ok_cons tab97 <| Tab.ok_cons tab98 <| Tab.ok_cons tab99 <| Tab.ok_cons tab100 <| Tab.ok_cons tab102 <| Tab.ok_cons tab104 <| Tab.ok_cons tab105 <| Tab.ok_cons tab106 <| Tab.ok_cons tab107 <| Tab.ok_cons tab108 <| Tab.ok_cons tab109 <| Tab.ok_cons tab110 <| Tab.ok_cons tab111 <| Tab.ok_cons tab112 <| Tab.ok_cons tab113 <| Tab.ok_cons tab114 <| Tab.ok_cons tab115 <| Tab.ok_cons tab116 <| Tab.ok_cons tab117 <| Tab.ok_cons tab118 <| Tab.ok_cons tab119 <| Tab.ok_cons tab120 <| Tab.ok_cons tab121 <| Tab.ok_cons tab122 <| Tab.ok_cons tab123 <| Tab.ok_cons tab124 <| Tab.ok_cons tab125 <| Tab.ok_cons tab126 <| Tab.ok_cons tab127 <| Tab.ok_cons tab128 <| Tab.ok_cons tab129 <| Tab.ok_cons tab130 <| Tab.ok_cons tab131 <| Tab.ok_cons tab132 <| Tab.ok_cons tab133 <| Tab.ok_cons tab134 <| Tab.ok_cons tab135 <| Tab.ok_cons tab136 <| Tab.ok_cons tab137 <| Tab.ok_cons tab138 <| Tab.ok_cons tab139 <| Tab.ok_cons tab140 <| Tab.ok_cons tab141 <| Tab.ok_cons tab142 <| Tab.ok_cons tab143 <| Tab.ok_cons tab144 <| Tab.ok_cons tab145 <| Tab.ok_cons tab146 <| Tab.ok_cons tab147 <| Tab.ok_cons tab148 <| Tab.ok_cons tab149 <| Tab.ok_cons tab150 <| Tab.ok_cons tab151 <| Tab.ok_cons tab152 <| Tab.ok_cons tab153 <| Tab.ok_cons tab154 <| Tab.ok_cons tab155 <| Tab.ok_cons tab156 <| Tab.ok_cons tab157 <| Tab.ok_cons tab158 <| Tab.ok_cons tab159 <| Tab.ok_cons tab160 <| Tab.ok_cons tab161 <| Tab.ok_cons tab162 <| Tab.ok_cons tab163 <| Tab.ok_cons tab164 <| Tab.ok_cons tab165 <| Tab.ok_cons tab166 <| Tab.ok_cons tab167 <| Tab.ok_cons tab168 <| Tab.ok_cons tab169 <| Tab.ok_cons tab170 <| Tab.ok_cons tab171 <| Tab.ok_cons tab172 <| Tab.ok_cons tab173 <| Tab.ok_cons tab174 <| Tab.ok_cons tab175 <| Tab.ok_cons tab176 <| Tab.ok_cons tab177 <| Tab.ok_cons tab178 <| Tab.ok_cons tab179 <| Tab.ok_cons tab180 <| Tab.ok_cons tab181 <| Tab.ok_cons tab182 <| Tab.ok_cons tab183 <| Tab.ok_cons tab185 <| Tab.ok_cons tab186 <| Tab.ok_cons tab187 <| Tab.ok_cons tab188 <| Tab.ok_cons tab189 <| Tab.ok_cons tab190 <| Tab.ok_cons tab191 <| Tab.ok_cons tab192 <| Tab.ok_cons tab193 <| Tab.ok_cons tab194 <| Tab.ok_cons tab195 <| Tab.ok_cons tab197 <| Tab.ok_cons tab198 <| Tab.ok_cons tab199 <| Tab.ok_cons tab201 <| Tab.ok_cons tab202 <| Tab.ok_cons tab203 <| Tab.ok_cons tab204 <| Tab.ok_cons tab205 <| Tab.ok_cons tab206 <| Tab.ok_cons tab207 <| Tab.ok_cons tab208 <| Tab.ok_cons tab209 <| Tab.ok_cons tab212 <| Tab.ok_cons tab215 <| Tab.ok_cons tab216 <| Tab.ok_cons tab217 <| Tab.ok_cons tab218 <| Tab.ok_cons tab219 <| Tab.ok_cons tab220 <| Tab.ok_cons tab221 <| Tab.ok_cons tab224 <| Tab.ok_nil
theorem mixed : Try.prog.follows .mixedOrders = true := by kernel_rfl
end Go.Sx.Pn
