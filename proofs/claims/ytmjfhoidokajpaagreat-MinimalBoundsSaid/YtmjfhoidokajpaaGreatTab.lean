/- The seat's types, for the symbolic executor. Printed by a program. -/
import Derived.Test.YtmjfhoidokajpaaGreatProg
import Derived.Test.YtmjfhoidokajpaaGreatSxE
namespace Go.Sx.Pn
open Go Go.Proofs Go.Sx

-- func()
theorem tab1 : TI.Ok Tryz.prog 1 ⟨.other, 1, 8, [.nilFunc]⟩ := TI.mk' (z := (.nilFunc)) (TD.mkOther (by kernel_rfl)) (by kernel_rfl) rfl rfl rfl
-- int64
theorem tab2 : TI.Ok Tryz.prog 2 ⟨.int .i64, 1, 8, [.int .i64 0]⟩ := TI.mk' (z := (.int .i64 0)) (show Tryz.prog.underlying 2 = some (.int .i64) by kernel_rfl) (by kernel_rfl) rfl rfl rfl
-- int
theorem tab3 : TI.Ok Tryz.prog 3 ⟨.int .i64, 1, 8, [.int .i64 0]⟩ := TI.mk' (z := (.int .i64 0)) (show Tryz.prog.underlying 3 = some (.int .i64) by kernel_rfl) (by kernel_rfl) rfl rfl rfl
-- bool
theorem tab4 : TI.Ok Tryz.prog 4 ⟨.bool, 1, 1, [.bool false]⟩ := TI.mk' (z := (.bool false)) (show Tryz.prog.underlying 4 = some (.bool) by kernel_rfl) (by kernel_rfl) rfl rfl rfl
-- uint8
theorem tab5 : TI.Ok Tryz.prog 5 ⟨.int .u8, 1, 1, [.int .u8 0]⟩ := TI.mk' (z := (.int .u8 0)) (show Tryz.prog.underlying 5 = some (.int .u8) by kernel_rfl) (by kernel_rfl) rfl rfl rfl
-- abi.BoundsErrorCode
theorem tab6 : TI.Ok Tryz.prog 6 ⟨.int .u8, 1, 1, [.int .u8 0]⟩ := TI.mk' (z := (.int .u8 0)) (show Tryz.prog.underlying 6 = some (.int .u8) by kernel_rfl) (by kernel_rfl) rfl rfl rfl
-- struct { x int64; y int; signed bool; code abi.BoundsErrorCode }
theorem tab7 : TI.Ok Tryz.prog 7 ⟨.struct [(0, 2), (1, 3), (2, 4), (3, 6)], 4, 24, [.int .i64 0, .int .i64 0, .bool false, .int .u8 0]⟩ := TI.mk' (z := (.agg #[.int .i64 0, .int .i64 0, .bool false, .int .u8 0])) (TD.mkStruct (l := [(0, 2), (1, 3), (2, 4), (3, 6)]) (by kernel_rfl) (by kernel_rfl) (by kernel_rfl)) (by kernel_rfl) rfl rfl rfl
-- runtime.boundsError
theorem tab8 : TI.Ok Tryz.prog 8 ⟨.struct [(0, 2), (1, 3), (2, 4), (3, 6)], 4, 24, [.int .i64 0, .int .i64 0, .bool false, .int .u8 0]⟩ := TI.mk' (z := (.agg #[.int .i64 0, .int .i64 0, .bool false, .int .u8 0])) (TD.mkStruct (l := [(0, 2), (1, 3), (2, 4), (3, 6)]) (by kernel_rfl) (by kernel_rfl) (by kernel_rfl)) (by kernel_rfl) rfl rfl rfl
-- string
theorem tab9 : TI.Ok Tryz.prog 9 ⟨.string, 1, 16, [.string ByteArray.empty]⟩ := TI.mk' (z := (.string ByteArray.empty)) (show Tryz.prog.underlying 9 = some (.string) by kernel_rfl) (by kernel_rfl) rfl rfl rfl
-- runtime.errorString
theorem tab10 : TI.Ok Tryz.prog 10 ⟨.string, 1, 16, [.string ByteArray.empty]⟩ := TI.mk' (z := (.string ByteArray.empty)) (show Tryz.prog.underlying 10 = some (.string) by kernel_rfl) (by kernel_rfl) rfl rfl rfl
-- runtime.plainError
theorem tab11 : TI.Ok Tryz.prog 11 ⟨.string, 1, 16, [.string ByteArray.empty]⟩ := TI.mk' (z := (.string ByteArray.empty)) (show Tryz.prog.underlying 11 = some (.string) by kernel_rfl) (by kernel_rfl) rfl rfl rfl
-- uintptr
theorem tab12 : TI.Ok Tryz.prog 12 ⟨.int .u64, 1, 8, [.int .u64 0]⟩ := TI.mk' (z := (.int .u64 0)) (show Tryz.prog.underlying 12 = some (.int .u64) by kernel_rfl) (by kernel_rfl) rfl rfl rfl
-- *runtime.TypeAssertionError
theorem tab15 : TI.Ok Tryz.prog 15 ⟨.other, 1, 8, [.pointer none]⟩ := TI.mk' (z := (.pointer none)) (TD.mkOther (by kernel_rfl)) (by kernel_rfl) rfl rfl rfl
-- *runtime.PanicNilError
theorem tab16 : TI.Ok Tryz.prog 16 ⟨.other, 1, 8, [.pointer none]⟩ := TI.mk' (z := (.pointer none)) (TD.mkOther (by kernel_rfl)) (by kernel_rfl) rfl rfl rfl
-- *abi.Type
theorem tab17 : TI.Ok Tryz.prog 17 ⟨.other, 1, 8, [.pointer none]⟩ := TI.mk' (z := (.pointer none)) (TD.mkOther (by kernel_rfl)) (by kernel_rfl) rfl rfl rfl
-- interface {}
theorem tab20 : TI.Ok Tryz.prog 20 ⟨.other, 1, 16, [.nilIface]⟩ := TI.mk' (z := (.nilIface)) (TD.mkOther (by kernel_rfl)) (by kernel_rfl) rfl rfl rfl
-- int32
theorem tab21 : TI.Ok Tryz.prog 21 ⟨.int .i32, 1, 4, [.int .i32 0]⟩ := TI.mk' (z := (.int .i32 0)) (show Tryz.prog.underlying 21 = some (.int .i32) by kernel_rfl) (by kernel_rfl) rfl rfl rfl
-- []api.Cube
theorem tab22 : TI.Ok Tryz.prog 22 ⟨.slice 67, 1, 24, [.slice none 0 0]⟩ := TI.mk' (z := (.slice none 0 0)) (show Tryz.prog.underlying 22 = some (.slice 67) by kernel_rfl) (by kernel_rfl) rfl rfl rfl
-- uint64
theorem tab23 : TI.Ok Tryz.prog 23 ⟨.int .u64, 1, 8, [.int .u64 0]⟩ := TI.mk' (z := (.int .u64 0)) (show Tryz.prog.underlying 23 = some (.int .u64) by kernel_rfl) (by kernel_rfl) rfl rfl rfl
-- struct { N int; Bits uint64 }
theorem tab24 : TI.Ok Tryz.prog 24 ⟨.struct [(0, 3), (1, 23)], 2, 16, [.int .i64 0, .int .u64 0]⟩ := TI.mk' (z := (.agg #[.int .i64 0, .int .u64 0])) (TD.mkStruct (l := [(0, 3), (1, 23)]) (by kernel_rfl) (by kernel_rfl) (by kernel_rfl)) (by kernel_rfl) rfl rfl rfl
-- api.Table
theorem tab25 : TI.Ok Tryz.prog 25 ⟨.struct [(0, 3), (1, 23)], 2, 16, [.int .i64 0, .int .u64 0]⟩ := TI.mk' (z := (.agg #[.int .i64 0, .int .u64 0])) (TD.mkStruct (l := [(0, 3), (1, 23)]) (by kernel_rfl) (by kernel_rfl) (by kernel_rfl)) (by kernel_rfl) rfl rfl rfl
-- struct { On api.Table; Free api.Table }
theorem tab26 : TI.Ok Tryz.prog 26 ⟨.struct [(0, 25), (2, 25)], 4, 32, [.int .i64 0, .int .u64 0, .int .i64 0, .int .u64 0]⟩ := TI.mk' (z := (.agg #[.int .i64 0, .int .u64 0, .int .i64 0, .int .u64 0])) (TD.mkStruct (l := [(0, 25), (2, 25)]) (by kernel_rfl) (by kernel_rfl) (by kernel_rfl)) (by kernel_rfl) rfl rfl rfl
-- implicant.Task
theorem tab27 : TI.Ok Tryz.prog 27 ⟨.struct [(0, 25), (2, 25)], 4, 32, [.int .i64 0, .int .u64 0, .int .i64 0, .int .u64 0]⟩ := TI.mk' (z := (.agg #[.int .i64 0, .int .u64 0, .int .i64 0, .int .u64 0])) (TD.mkStruct (l := [(0, 25), (2, 25)]) (by kernel_rfl) (by kernel_rfl) (by kernel_rfl)) (by kernel_rfl) rfl rfl rfl
-- func(pneumaticref06.Task) bool
theorem tab28 : TI.Ok Tryz.prog 28 ⟨.other, 1, 8, [.nilFunc]⟩ := TI.mk' (z := (.nilFunc)) (TD.mkOther (by kernel_rfl)) (by kernel_rfl) rfl rfl rfl
-- pneumaticref06.Task
theorem tab29 : TI.Ok Tryz.prog 29 ⟨.struct [(0, 25), (2, 25)], 4, 32, [.int .i64 0, .int .u64 0, .int .i64 0, .int .u64 0]⟩ := TI.mk' (z := (.agg #[.int .i64 0, .int .u64 0, .int .i64 0, .int .u64 0])) (TD.mkStruct (l := [(0, 25), (2, 25)]) (by kernel_rfl) (by kernel_rfl) (by kernel_rfl)) (by kernel_rfl) rfl rfl rfl
-- func() bool
theorem tab30 : TI.Ok Tryz.prog 30 ⟨.other, 1, 8, [.nilFunc]⟩ := TI.mk' (z := (.nilFunc)) (TD.mkOther (by kernel_rfl)) (by kernel_rfl) rfl rfl rfl
-- api.Errno
theorem tab31 : TI.Ok Tryz.prog 31 ⟨.int .i64, 1, 8, [.int .i64 0]⟩ := TI.mk' (z := (.int .i64 0)) (show Tryz.prog.underlying 31 = some (.int .i64) by kernel_rfl) (by kernel_rfl) rfl rfl rfl
-- func(int, []api.Cube) (int, api.Errno)
theorem tab33 : TI.Ok Tryz.prog 33 ⟨.other, 1, 8, [.nilFunc]⟩ := TI.mk' (z := (.nilFunc)) (TD.mkOther (by kernel_rfl)) (by kernel_rfl) rfl rfl rfl
-- func(int, []api.Cube) (int, int)
theorem tab35 : TI.Ok Tryz.prog 35 ⟨.other, 1, 8, [.nilFunc]⟩ := TI.mk' (z := (.nilFunc)) (TD.mkOther (by kernel_rfl)) (by kernel_rfl) rfl rfl rfl
-- []int
theorem tab36 : TI.Ok Tryz.prog 36 ⟨.slice 3, 1, 24, [.slice none 0 0]⟩ := TI.mk' (z := (.slice none 0 0)) (show Tryz.prog.underlying 36 = some (.slice 3) by kernel_rfl) (by kernel_rfl) rfl rfl rfl
-- func(implicant.Task) ([]int, api.Errno)
theorem tab38 : TI.Ok Tryz.prog 38 ⟨.other, 1, 8, [.nilFunc]⟩ := TI.mk' (z := (.nilFunc)) (TD.mkOther (by kernel_rfl)) (by kernel_rfl) rfl rfl rfl
-- func(pneumaticref06.Task) ([]int, int)
theorem tab40 : TI.Ok Tryz.prog 40 ⟨.other, 1, 8, [.nilFunc]⟩ := TI.mk' (z := (.nilFunc)) (TD.mkOther (by kernel_rfl)) (by kernel_rfl) rfl rfl rfl
-- func([]int, []int) bool
theorem tab41 : TI.Ok Tryz.prog 41 ⟨.other, 1, 8, [.nilFunc]⟩ := TI.mk' (z := (.nilFunc)) (TD.mkOther (by kernel_rfl)) (by kernel_rfl) rfl rfl rfl
-- func(int, []api.Cube, implicant.Task) bool
theorem tab42 : TI.Ok Tryz.prog 42 ⟨.other, 1, 8, [.nilFunc]⟩ := TI.mk' (z := (.nilFunc)) (TD.mkOther (by kernel_rfl)) (by kernel_rfl) rfl rfl rfl
-- func(implicant.Task) ([]api.Cube, api.Errno)
theorem tab44 : TI.Ok Tryz.prog 44 ⟨.other, 1, 8, [.nilFunc]⟩ := TI.mk' (z := (.nilFunc)) (TD.mkOther (by kernel_rfl)) (by kernel_rfl) rfl rfl rfl
-- func(pneumaticref06.Task) ([]api.Cube, int)
theorem tab46 : TI.Ok Tryz.prog 46 ⟨.other, 1, 8, [.nilFunc]⟩ := TI.mk' (z := (.nilFunc)) (TD.mkOther (by kernel_rfl)) (by kernel_rfl) rfl rfl rfl
-- func([]api.Cube, []api.Cube) bool
theorem tab47 : TI.Ok Tryz.prog 47 ⟨.other, 1, 8, [.nilFunc]⟩ := TI.mk' (z := (.nilFunc)) (TD.mkOther (by kernel_rfl)) (by kernel_rfl) rfl rfl rfl
-- func(implicant.Task) bool
theorem tab48 : TI.Ok Tryz.prog 48 ⟨.other, 1, 8, [.nilFunc]⟩ := TI.mk' (z := (.nilFunc)) (TD.mkOther (by kernel_rfl)) (by kernel_rfl) rfl rfl rfl
-- func(implicant.Task, []api.Cube) api.Errno
theorem tab49 : TI.Ok Tryz.prog 49 ⟨.other, 1, 8, [.nilFunc]⟩ := TI.mk' (z := (.nilFunc)) (TD.mkOther (by kernel_rfl)) (by kernel_rfl) rfl rfl rfl
-- func(implicant.Task, []api.Cube) bool
theorem tab50 : TI.Ok Tryz.prog 50 ⟨.other, 1, 8, [.nilFunc]⟩ := TI.mk' (z := (.nilFunc)) (TD.mkOther (by kernel_rfl)) (by kernel_rfl) rfl rfl rfl
-- func(api.Table, []int) (api.Table, api.Errno)
theorem tab52 : TI.Ok Tryz.prog 52 ⟨.other, 1, 8, [.nilFunc]⟩ := TI.mk' (z := (.nilFunc)) (TD.mkOther (by kernel_rfl)) (by kernel_rfl) rfl rfl rfl
-- func(int) int
theorem tab53 : TI.Ok Tryz.prog 53 ⟨.other, 1, 8, [.nilFunc]⟩ := TI.mk' (z := (.nilFunc)) (TD.mkOther (by kernel_rfl)) (by kernel_rfl) rfl rfl rfl
-- func(int, int, bool) int
theorem tab54 : TI.Ok Tryz.prog 54 ⟨.other, 1, 8, [.nilFunc]⟩ := TI.mk' (z := (.nilFunc)) (TD.mkOther (by kernel_rfl)) (by kernel_rfl) rfl rfl rfl
-- func(int, int) bool
theorem tab55 : TI.Ok Tryz.prog 55 ⟨.other, 1, 8, [.nilFunc]⟩ := TI.mk' (z := (.nilFunc)) (TD.mkOther (by kernel_rfl)) (by kernel_rfl) rfl rfl rfl
-- []implicant.Task
theorem tab56 : TI.Ok Tryz.prog 56 ⟨.slice 27, 1, 24, [.slice none 0 0]⟩ := TI.mk' (z := (.slice none 0 0)) (show Tryz.prog.underlying 56 = some (.slice 27) by kernel_rfl) (by kernel_rfl) rfl rfl rfl
-- func(implicant.Task, uint8, uint8) bool
theorem tab57 : TI.Ok Tryz.prog 57 ⟨.other, 1, 8, [.nilFunc]⟩ := TI.mk' (z := (.nilFunc)) (TD.mkOther (by kernel_rfl)) (by kernel_rfl) rfl rfl rfl
-- func(implicant.Task, []api.Cube) ([]int, api.Errno)
theorem tab58 : TI.Ok Tryz.prog 58 ⟨.other, 1, 8, [.nilFunc]⟩ := TI.mk' (z := (.nilFunc)) (TD.mkOther (by kernel_rfl)) (by kernel_rfl) rfl rfl rfl
-- func(pneumaticref06.Task, []api.Cube) ([]int, int)
theorem tab59 : TI.Ok Tryz.prog 59 ⟨.other, 1, 8, [.nilFunc]⟩ := TI.mk' (z := (.nilFunc)) (TD.mkOther (by kernel_rfl)) (by kernel_rfl) rfl rfl rfl
-- func(pneumaticref06.Task, []api.Cube) int
theorem tab60 : TI.Ok Tryz.prog 60 ⟨.other, 1, 8, [.nilFunc]⟩ := TI.mk' (z := (.nilFunc)) (TD.mkOther (by kernel_rfl)) (by kernel_rfl) rfl rfl rfl
-- func(implicant.Task, int, minimal.Proof) api.Errno
theorem tab61 : TI.Ok Tryz.prog 61 ⟨.other, 1, 8, [.nilFunc]⟩ := TI.mk' (z := (.nilFunc)) (TD.mkOther (by kernel_rfl)) (by kernel_rfl) rfl rfl rfl
-- []minimal.Proof
theorem tab62 : TI.Ok Tryz.prog 62 ⟨.slice 64, 1, 24, [.slice none 0 0]⟩ := TI.mk' (z := (.slice none 0 0)) (show Tryz.prog.underlying 62 = some (.slice 64) by kernel_rfl) (by kernel_rfl) rfl rfl rfl
-- struct { Points []int; Kids []minimal.Proof }
theorem tab63 : TI.Ok Tryz.prog 63 ⟨.struct [(0, 36), (1, 62)], 2, 48, [.slice none 0 0, .slice none 0 0]⟩ := TI.mk' (z := (.agg #[.slice none 0 0, .slice none 0 0])) (TD.mkStruct (l := [(0, 36), (1, 62)]) (by kernel_rfl) (by kernel_rfl) (by kernel_rfl)) (by kernel_rfl) rfl rfl rfl
-- minimal.Proof
theorem tab64 : TI.Ok Tryz.prog 64 ⟨.struct [(0, 36), (1, 62)], 2, 48, [.slice none 0 0, .slice none 0 0]⟩ := TI.mk' (z := (.agg #[.slice none 0 0, .slice none 0 0])) (TD.mkStruct (l := [(0, 36), (1, 62)]) (by kernel_rfl) (by kernel_rfl) (by kernel_rfl)) (by kernel_rfl) rfl rfl rfl
-- uint
theorem tab65 : TI.Ok Tryz.prog 65 ⟨.int .u64, 1, 8, [.int .u64 0]⟩ := TI.mk' (z := (.int .u64 0)) (show Tryz.prog.underlying 65 = some (.int .u64) by kernel_rfl) (by kernel_rfl) rfl rfl rfl
-- struct { Care uint; Value uint }
theorem tab66 : TI.Ok Tryz.prog 66 ⟨.struct [(0, 65), (1, 65)], 2, 16, [.int .u64 0, .int .u64 0]⟩ := TI.mk' (z := (.agg #[.int .u64 0, .int .u64 0])) (TD.mkStruct (l := [(0, 65), (1, 65)]) (by kernel_rfl) (by kernel_rfl) (by kernel_rfl)) (by kernel_rfl) rfl rfl rfl
-- api.Cube
theorem tab67 : TI.Ok Tryz.prog 67 ⟨.struct [(0, 65), (1, 65)], 2, 16, [.int .u64 0, .int .u64 0]⟩ := TI.mk' (z := (.agg #[.int .u64 0, .int .u64 0])) (TD.mkStruct (l := [(0, 65), (1, 65)]) (by kernel_rfl) (by kernel_rfl) (by kernel_rfl)) (by kernel_rfl) rfl rfl rfl
-- func([]int, int) bool
theorem tab68 : TI.Ok Tryz.prog 68 ⟨.other, 1, 8, [.nilFunc]⟩ := TI.mk' (z := (.nilFunc)) (TD.mkOther (by kernel_rfl)) (by kernel_rfl) rfl rfl rfl
-- func(pneumaticref06.Task) int
theorem tab69 : TI.Ok Tryz.prog 69 ⟨.other, 1, 8, [.nilFunc]⟩ := TI.mk' (z := (.nilFunc)) (TD.mkOther (by kernel_rfl)) (by kernel_rfl) rfl rfl rfl
-- func(pneumaticref06.Task) []api.Cube
theorem tab70 : TI.Ok Tryz.prog 70 ⟨.other, 1, 8, [.nilFunc]⟩ := TI.mk' (z := (.nilFunc)) (TD.mkOther (by kernel_rfl)) (by kernel_rfl) rfl rfl rfl
-- func() implicant.Task
theorem tab71 : TI.Ok Tryz.prog 71 ⟨.other, 1, 8, [.nilFunc]⟩ := TI.mk' (z := (.nilFunc)) (TD.mkOther (by kernel_rfl)) (by kernel_rfl) rfl rfl rfl
-- func(int, []api.Cube) api.Errno
theorem tab72 : TI.Ok Tryz.prog 72 ⟨.other, 1, 8, [.nilFunc]⟩ := TI.mk' (z := (.nilFunc)) (TD.mkOther (by kernel_rfl)) (by kernel_rfl) rfl rfl rfl
-- func([]api.Cube) int
theorem tab73 : TI.Ok Tryz.prog 73 ⟨.other, 1, 8, [.nilFunc]⟩ := TI.mk' (z := (.nilFunc)) (TD.mkOther (by kernel_rfl)) (by kernel_rfl) rfl rfl rfl
-- func(int, []api.Cube) int
theorem tab74 : TI.Ok Tryz.prog 74 ⟨.other, 1, 8, [.nilFunc]⟩ := TI.mk' (z := (.nilFunc)) (TD.mkOther (by kernel_rfl)) (by kernel_rfl) rfl rfl rfl
-- *minimal.work
theorem tab75 : TI.Ok Tryz.prog 75 ⟨.other, 1, 8, [.pointer none]⟩ := TI.mk' (z := (.pointer none)) (TD.mkOther (by kernel_rfl)) (by kernel_rfl) rfl rfl rfl
-- func(implicant.Task) (*minimal.work, api.Errno)
theorem tab77 : TI.Ok Tryz.prog 77 ⟨.other, 1, 8, [.nilFunc]⟩ := TI.mk' (z := (.nilFunc)) (TD.mkOther (by kernel_rfl)) (by kernel_rfl) rfl rfl rfl
-- func([]int) []int
theorem tab78 : TI.Ok Tryz.prog 78 ⟨.other, 1, 8, [.nilFunc]⟩ := TI.mk' (z := (.nilFunc)) (TD.mkOther (by kernel_rfl)) (by kernel_rfl) rfl rfl rfl
-- func(minimal.counts) []int
theorem tab79 : TI.Ok Tryz.prog 79 ⟨.other, 1, 8, [.nilFunc]⟩ := TI.mk' (z := (.nilFunc)) (TD.mkOther (by kernel_rfl)) (by kernel_rfl) rfl rfl rfl
-- [64]int
theorem tab80 : TI.Ok Tryz.prog 80 ⟨.array 64 3, 64, 512, [.int .i64 0, .int .i64 0, .int .i64 0, .int .i64 0, .int .i64 0, .int .i64 0, .int .i64 0, .int .i64 0, .int .i64 0, .int .i64 0, .int .i64 0, .int .i64 0, .int .i64 0, .int .i64 0, .int .i64 0, .int .i64 0, .int .i64 0, .int .i64 0, .int .i64 0, .int .i64 0, .int .i64 0, .int .i64 0, .int .i64 0, .int .i64 0, .int .i64 0, .int .i64 0, .int .i64 0, .int .i64 0, .int .i64 0, .int .i64 0, .int .i64 0, .int .i64 0, .int .i64 0, .int .i64 0, .int .i64 0, .int .i64 0, .int .i64 0, .int .i64 0, .int .i64 0, .int .i64 0, .int .i64 0, .int .i64 0, .int .i64 0, .int .i64 0, .int .i64 0, .int .i64 0, .int .i64 0, .int .i64 0, .int .i64 0, .int .i64 0, .int .i64 0, .int .i64 0, .int .i64 0, .int .i64 0, .int .i64 0, .int .i64 0, .int .i64 0, .int .i64 0, .int .i64 0, .int .i64 0, .int .i64 0, .int .i64 0, .int .i64 0, .int .i64 0]⟩ := TI.mk' (z := (.agg #[.int .i64 0, .int .i64 0, .int .i64 0, .int .i64 0, .int .i64 0, .int .i64 0, .int .i64 0, .int .i64 0, .int .i64 0, .int .i64 0, .int .i64 0, .int .i64 0, .int .i64 0, .int .i64 0, .int .i64 0, .int .i64 0, .int .i64 0, .int .i64 0, .int .i64 0, .int .i64 0, .int .i64 0, .int .i64 0, .int .i64 0, .int .i64 0, .int .i64 0, .int .i64 0, .int .i64 0, .int .i64 0, .int .i64 0, .int .i64 0, .int .i64 0, .int .i64 0, .int .i64 0, .int .i64 0, .int .i64 0, .int .i64 0, .int .i64 0, .int .i64 0, .int .i64 0, .int .i64 0, .int .i64 0, .int .i64 0, .int .i64 0, .int .i64 0, .int .i64 0, .int .i64 0, .int .i64 0, .int .i64 0, .int .i64 0, .int .i64 0, .int .i64 0, .int .i64 0, .int .i64 0, .int .i64 0, .int .i64 0, .int .i64 0, .int .i64 0, .int .i64 0, .int .i64 0, .int .i64 0, .int .i64 0, .int .i64 0, .int .i64 0, .int .i64 0])) (show Tryz.prog.underlying 80 = some (.array 64 3) by kernel_rfl) (by kernel_rfl) rfl rfl rfl
-- minimal.counts
theorem tab81 : TI.Ok Tryz.prog 81 ⟨.array 64 3, 64, 512, [.int .i64 0, .int .i64 0, .int .i64 0, .int .i64 0, .int .i64 0, .int .i64 0, .int .i64 0, .int .i64 0, .int .i64 0, .int .i64 0, .int .i64 0, .int .i64 0, .int .i64 0, .int .i64 0, .int .i64 0, .int .i64 0, .int .i64 0, .int .i64 0, .int .i64 0, .int .i64 0, .int .i64 0, .int .i64 0, .int .i64 0, .int .i64 0, .int .i64 0, .int .i64 0, .int .i64 0, .int .i64 0, .int .i64 0, .int .i64 0, .int .i64 0, .int .i64 0, .int .i64 0, .int .i64 0, .int .i64 0, .int .i64 0, .int .i64 0, .int .i64 0, .int .i64 0, .int .i64 0, .int .i64 0, .int .i64 0, .int .i64 0, .int .i64 0, .int .i64 0, .int .i64 0, .int .i64 0, .int .i64 0, .int .i64 0, .int .i64 0, .int .i64 0, .int .i64 0, .int .i64 0, .int .i64 0, .int .i64 0, .int .i64 0, .int .i64 0, .int .i64 0, .int .i64 0, .int .i64 0, .int .i64 0, .int .i64 0, .int .i64 0, .int .i64 0]⟩ := TI.mk' (z := (.agg #[.int .i64 0, .int .i64 0, .int .i64 0, .int .i64 0, .int .i64 0, .int .i64 0, .int .i64 0, .int .i64 0, .int .i64 0, .int .i64 0, .int .i64 0, .int .i64 0, .int .i64 0, .int .i64 0, .int .i64 0, .int .i64 0, .int .i64 0, .int .i64 0, .int .i64 0, .int .i64 0, .int .i64 0, .int .i64 0, .int .i64 0, .int .i64 0, .int .i64 0, .int .i64 0, .int .i64 0, .int .i64 0, .int .i64 0, .int .i64 0, .int .i64 0, .int .i64 0, .int .i64 0, .int .i64 0, .int .i64 0, .int .i64 0, .int .i64 0, .int .i64 0, .int .i64 0, .int .i64 0, .int .i64 0, .int .i64 0, .int .i64 0, .int .i64 0, .int .i64 0, .int .i64 0, .int .i64 0, .int .i64 0, .int .i64 0, .int .i64 0, .int .i64 0, .int .i64 0, .int .i64 0, .int .i64 0, .int .i64 0, .int .i64 0, .int .i64 0, .int .i64 0, .int .i64 0, .int .i64 0, .int .i64 0, .int .i64 0, .int .i64 0, .int .i64 0])) (show Tryz.prog.underlying 81 = some (.array 64 3) by kernel_rfl) (by kernel_rfl) rfl rfl rfl
-- func(pneumaticref06.Task, []api.Cube, []int, int) []int
theorem tab82 : TI.Ok Tryz.prog 82 ⟨.other, 1, 8, [.nilFunc]⟩ := TI.mk' (z := (.nilFunc)) (TD.mkOther (by kernel_rfl)) (by kernel_rfl) rfl rfl rfl
-- func([]int) []api.Cube
theorem tab83 : TI.Ok Tryz.prog 83 ⟨.other, 1, 8, [.nilFunc]⟩ := TI.mk' (z := (.nilFunc)) (TD.mkOther (by kernel_rfl)) (by kernel_rfl) rfl rfl rfl
-- func() []int
theorem tab84 : TI.Ok Tryz.prog 84 ⟨.other, 1, 8, [.nilFunc]⟩ := TI.mk' (z := (.nilFunc)) (TD.mkOther (by kernel_rfl)) (by kernel_rfl) rfl rfl rfl
-- func(implicant.Task, []api.Cube) (*minimal.work, api.Errno)
theorem tab85 : TI.Ok Tryz.prog 85 ⟨.other, 1, 8, [.nilFunc]⟩ := TI.mk' (z := (.nilFunc)) (TD.mkOther (by kernel_rfl)) (by kernel_rfl) rfl rfl rfl
-- func(api.Table) api.Errno
theorem tab86 : TI.Ok Tryz.prog 86 ⟨.other, 1, 8, [.nilFunc]⟩ := TI.mk' (z := (.nilFunc)) (TD.mkOther (by kernel_rfl)) (by kernel_rfl) rfl rfl rfl
-- func(int, func(int) bool) api.Table
theorem tab87 : TI.Ok Tryz.prog 87 ⟨.other, 1, 8, [.nilFunc]⟩ := TI.mk' (z := (.nilFunc)) (TD.mkOther (by kernel_rfl)) (by kernel_rfl) rfl rfl rfl
-- func(api.Table, int) bool
theorem tab88 : TI.Ok Tryz.prog 88 ⟨.other, 1, 8, [.nilFunc]⟩ := TI.mk' (z := (.nilFunc)) (TD.mkOther (by kernel_rfl)) (by kernel_rfl) rfl rfl rfl
-- func(int) bool
theorem tab89 : TI.Ok Tryz.prog 89 ⟨.other, 1, 8, [.nilFunc]⟩ := TI.mk' (z := (.nilFunc)) (TD.mkOther (by kernel_rfl)) (by kernel_rfl) rfl rfl rfl
-- func([]api.Cube) []api.Cube
theorem tab90 : TI.Ok Tryz.prog 90 ⟨.other, 1, 8, [.nilFunc]⟩ := TI.mk' (z := (.nilFunc)) (TD.mkOther (by kernel_rfl)) (by kernel_rfl) rfl rfl rfl
-- func(func(int, api.Cube) bool)
theorem tab91 : TI.Ok Tryz.prog 91 ⟨.other, 1, 8, [.nilFunc]⟩ := TI.mk' (z := (.nilFunc)) (TD.mkOther (by kernel_rfl)) (by kernel_rfl) rfl rfl rfl
-- iter.Seq2[int,pneumatic/api.Cube]
theorem tab92 : TI.Ok Tryz.prog 92 ⟨.other, 1, 8, [.nilFunc]⟩ := TI.mk' (z := (.nilFunc)) (TD.mkOther (by kernel_rfl)) (by kernel_rfl) rfl rfl rfl
-- func([]api.Cube) iter.Seq2[int,pneumatic/api.Cube]
theorem tab93 : TI.Ok Tryz.prog 93 ⟨.other, 1, 8, [.nilFunc]⟩ := TI.mk' (z := (.nilFunc)) (TD.mkOther (by kernel_rfl)) (by kernel_rfl) rfl rfl rfl
-- func([]api.Cube, int, int) []api.Cube
theorem tab94 : TI.Ok Tryz.prog 94 ⟨.other, 1, 8, [.nilFunc]⟩ := TI.mk' (z := (.nilFunc)) (TD.mkOther (by kernel_rfl)) (by kernel_rfl) rfl rfl rfl
-- func([]api.Cube) bool
theorem tab95 : TI.Ok Tryz.prog 95 ⟨.other, 1, 8, [.nilFunc]⟩ := TI.mk' (z := (.nilFunc)) (TD.mkOther (by kernel_rfl)) (by kernel_rfl) rfl rfl rfl
-- func([]int)
theorem tab96 : TI.Ok Tryz.prog 96 ⟨.other, 1, 8, [.nilFunc]⟩ := TI.mk' (z := (.nilFunc)) (TD.mkOther (by kernel_rfl)) (by kernel_rfl) rfl rfl rfl
-- func(pneumaticref06.Task, []api.Cube) bool
theorem tab97 : TI.Ok Tryz.prog 97 ⟨.other, 1, 8, [.nilFunc]⟩ := TI.mk' (z := (.nilFunc)) (TD.mkOther (by kernel_rfl)) (by kernel_rfl) rfl rfl rfl
-- func([]api.Cube, int) []api.Cube
theorem tab98 : TI.Ok Tryz.prog 98 ⟨.other, 1, 8, [.nilFunc]⟩ := TI.mk' (z := (.nilFunc)) (TD.mkOther (by kernel_rfl)) (by kernel_rfl) rfl rfl rfl
-- func(minimal.Proof) bool
theorem tab99 : TI.Ok Tryz.prog 99 ⟨.other, 1, 8, [.nilFunc]⟩ := TI.mk' (z := (.nilFunc)) (TD.mkOther (by kernel_rfl)) (by kernel_rfl) rfl rfl rfl
-- func(minimal.counts, int, minimal.Proof) bool
theorem tab100 : TI.Ok Tryz.prog 100 ⟨.other, 1, 8, [.nilFunc]⟩ := TI.mk' (z := (.nilFunc)) (TD.mkOther (by kernel_rfl)) (by kernel_rfl) rfl rfl rfl
-- func([]int, int) int
theorem tab101 : TI.Ok Tryz.prog 101 ⟨.other, 1, 8, [.nilFunc]⟩ := TI.mk' (z := (.nilFunc)) (TD.mkOther (by kernel_rfl)) (by kernel_rfl) rfl rfl rfl
-- func(api.Table) int
theorem tab102 : TI.Ok Tryz.prog 102 ⟨.other, 1, 8, [.nilFunc]⟩ := TI.mk' (z := (.nilFunc)) (TD.mkOther (by kernel_rfl)) (by kernel_rfl) rfl rfl rfl
-- func(int) []api.Cube
theorem tab103 : TI.Ok Tryz.prog 103 ⟨.other, 1, 8, [.nilFunc]⟩ := TI.mk' (z := (.nilFunc)) (TD.mkOther (by kernel_rfl)) (by kernel_rfl) rfl rfl rfl
-- func(pneumaticref06.Task, api.Cube) bool
theorem tab104 : TI.Ok Tryz.prog 104 ⟨.other, 1, 8, [.nilFunc]⟩ := TI.mk' (z := (.nilFunc)) (TD.mkOther (by kernel_rfl)) (by kernel_rfl) rfl rfl rfl
-- func(int, api.Cube) api.Errno
theorem tab105 : TI.Ok Tryz.prog 105 ⟨.other, 1, 8, [.nilFunc]⟩ := TI.mk' (z := (.nilFunc)) (TD.mkOther (by kernel_rfl)) (by kernel_rfl) rfl rfl rfl
-- func(uint) int
theorem tab106 : TI.Ok Tryz.prog 106 ⟨.other, 1, 8, [.nilFunc]⟩ := TI.mk' (z := (.nilFunc)) (TD.mkOther (by kernel_rfl)) (by kernel_rfl) rfl rfl rfl
-- func(int, api.Cube) int
theorem tab107 : TI.Ok Tryz.prog 107 ⟨.other, 1, 8, [.nilFunc]⟩ := TI.mk' (z := (.nilFunc)) (TD.mkOther (by kernel_rfl)) (by kernel_rfl) rfl rfl rfl
-- func([]int, int)
theorem tab108 : TI.Ok Tryz.prog 108 ⟨.other, 1, 8, [.nilFunc]⟩ := TI.mk' (z := (.nilFunc)) (TD.mkOther (by kernel_rfl)) (by kernel_rfl) rfl rfl rfl
-- struct { task implicant.Task; primes []api.Cube }
theorem tab109 : TI.Ok Tryz.prog 109 ⟨.struct [(0, 27), (4, 22)], 5, 56, [.int .i64 0, .int .u64 0, .int .i64 0, .int .u64 0, .slice none 0 0]⟩ := TI.mk' (z := (.agg #[.int .i64 0, .int .u64 0, .int .i64 0, .int .u64 0, .slice none 0 0])) (TD.mkStruct (l := [(0, 27), (4, 22)]) (by kernel_rfl) (by kernel_rfl) (by kernel_rfl)) (by kernel_rfl) rfl rfl rfl
-- minimal.work
theorem tab110 : TI.Ok Tryz.prog 110 ⟨.struct [(0, 27), (4, 22)], 5, 56, [.int .i64 0, .int .u64 0, .int .i64 0, .int .u64 0, .slice none 0 0]⟩ := TI.mk' (z := (.agg #[.int .i64 0, .int .u64 0, .int .i64 0, .int .u64 0, .slice none 0 0])) (TD.mkStruct (l := [(0, 27), (4, 22)]) (by kernel_rfl) (by kernel_rfl) (by kernel_rfl)) (by kernel_rfl) rfl rfl rfl
-- func(pneumaticref06.Task, []api.Cube, []int) bool
theorem tab111 : TI.Ok Tryz.prog 111 ⟨.other, 1, 8, [.nilFunc]⟩ := TI.mk' (z := (.nilFunc)) (TD.mkOther (by kernel_rfl)) (by kernel_rfl) rfl rfl rfl
-- func(int) ([]int, bool)
theorem tab113 : TI.Ok Tryz.prog 113 ⟨.other, 1, 8, [.nilFunc]⟩ := TI.mk' (z := (.nilFunc)) (TD.mkOther (by kernel_rfl)) (by kernel_rfl) rfl rfl rfl
-- func(implicant.Task, api.Cube) (bool, api.Errno)
theorem tab115 : TI.Ok Tryz.prog 115 ⟨.other, 1, 8, [.nilFunc]⟩ := TI.mk' (z := (.nilFunc)) (TD.mkOther (by kernel_rfl)) (by kernel_rfl) rfl rfl rfl
-- func(int) uint64
theorem tab116 : TI.Ok Tryz.prog 116 ⟨.other, 1, 8, [.nilFunc]⟩ := TI.mk' (z := (.nilFunc)) (TD.mkOther (by kernel_rfl)) (by kernel_rfl) rfl rfl rfl
-- func(func(int) bool)
theorem tab117 : TI.Ok Tryz.prog 117 ⟨.other, 1, 8, [.nilFunc]⟩ := TI.mk' (z := (.nilFunc)) (TD.mkOther (by kernel_rfl)) (by kernel_rfl) rfl rfl rfl
-- iter.Seq[int]
theorem tab118 : TI.Ok Tryz.prog 118 ⟨.other, 1, 8, [.nilFunc]⟩ := TI.mk' (z := (.nilFunc)) (TD.mkOther (by kernel_rfl)) (by kernel_rfl) rfl rfl rfl
-- func(int) iter.Seq[int]
theorem tab119 : TI.Ok Tryz.prog 119 ⟨.other, 1, 8, [.nilFunc]⟩ := TI.mk' (z := (.nilFunc)) (TD.mkOther (by kernel_rfl)) (by kernel_rfl) rfl rfl rfl
-- func(int, api.Cube) bool
theorem tab120 : TI.Ok Tryz.prog 120 ⟨.other, 1, 8, [.nilFunc]⟩ := TI.mk' (z := (.nilFunc)) (TD.mkOther (by kernel_rfl)) (by kernel_rfl) rfl rfl rfl
-- func(minimal.counts, api.Cube) minimal.counts
theorem tab121 : TI.Ok Tryz.prog 121 ⟨.other, 1, 8, [.nilFunc]⟩ := TI.mk' (z := (.nilFunc)) (TD.mkOther (by kernel_rfl)) (by kernel_rfl) rfl rfl rfl
-- func([]api.Cube, int) []int
theorem tab122 : TI.Ok Tryz.prog 122 ⟨.other, 1, 8, [.nilFunc]⟩ := TI.mk' (z := (.nilFunc)) (TD.mkOther (by kernel_rfl)) (by kernel_rfl) rfl rfl rfl
-- func(implicant.Task) api.Errno
theorem tab123 : TI.Ok Tryz.prog 123 ⟨.other, 1, 8, [.nilFunc]⟩ := TI.mk' (z := (.nilFunc)) (TD.mkOther (by kernel_rfl)) (by kernel_rfl) rfl rfl rfl
-- func(minimal.Proof)
theorem tab124 : TI.Ok Tryz.prog 124 ⟨.other, 1, 8, [.nilFunc]⟩ := TI.mk' (z := (.nilFunc)) (TD.mkOther (by kernel_rfl)) (by kernel_rfl) rfl rfl rfl
-- func(int) []int
theorem tab125 : TI.Ok Tryz.prog 125 ⟨.other, 1, 8, [.nilFunc]⟩ := TI.mk' (z := (.nilFunc)) (TD.mkOther (by kernel_rfl)) (by kernel_rfl) rfl rfl rfl
-- func(api.Cube, int) bool
theorem tab126 : TI.Ok Tryz.prog 126 ⟨.other, 1, 8, [.nilFunc]⟩ := TI.mk' (z := (.nilFunc)) (TD.mkOther (by kernel_rfl)) (by kernel_rfl) rfl rfl rfl
-- func(api.Cube, api.Cube, []int) api.Cube
theorem tab127 : TI.Ok Tryz.prog 127 ⟨.other, 1, 8, [.nilFunc]⟩ := TI.mk' (z := (.nilFunc)) (TD.mkOther (by kernel_rfl)) (by kernel_rfl) rfl rfl rfl
-- func(int) uint
theorem tab128 : TI.Ok Tryz.prog 128 ⟨.other, 1, 8, [.nilFunc]⟩ := TI.mk' (z := (.nilFunc)) (TD.mkOther (by kernel_rfl)) (by kernel_rfl) rfl rfl rfl
-- func(uint32) int
theorem tab129 : TI.Ok Tryz.prog 129 ⟨.other, 1, 8, [.nilFunc]⟩ := TI.mk' (z := (.nilFunc)) (TD.mkOther (by kernel_rfl)) (by kernel_rfl) rfl rfl rfl
-- uint32
theorem tab130 : TI.Ok Tryz.prog 130 ⟨.int .u32, 1, 4, [.int .u32 0]⟩ := TI.mk' (z := (.int .u32 0)) (show Tryz.prog.underlying 130 = some (.int .u32) by kernel_rfl) (by kernel_rfl) rfl rfl rfl
-- func(uint64) int
theorem tab131 : TI.Ok Tryz.prog 131 ⟨.other, 1, 8, [.nilFunc]⟩ := TI.mk' (z := (.nilFunc)) (TD.mkOther (by kernel_rfl)) (by kernel_rfl) rfl rfl rfl
-- func([]api.Cube, func(api.Cube) bool) bool
theorem tab132 : TI.Ok Tryz.prog 132 ⟨.other, 1, 8, [.nilFunc]⟩ := TI.mk' (z := (.nilFunc)) (TD.mkOther (by kernel_rfl)) (by kernel_rfl) rfl rfl rfl
-- func([]int, func(int) bool) bool
theorem tab133 : TI.Ok Tryz.prog 133 ⟨.other, 1, 8, [.nilFunc]⟩ := TI.mk' (z := (.nilFunc)) (TD.mkOther (by kernel_rfl)) (by kernel_rfl) rfl rfl rfl
-- func(api.Cube) bool
theorem tab134 : TI.Ok Tryz.prog 134 ⟨.other, 1, 8, [.nilFunc]⟩ := TI.mk' (z := (.nilFunc)) (TD.mkOther (by kernel_rfl)) (by kernel_rfl) rfl rfl rfl
-- func(...int) int
theorem tab135 : TI.Ok Tryz.prog 135 ⟨.other, 1, 8, [.nilFunc]⟩ := TI.mk' (z := (.nilFunc)) (TD.mkOther (by kernel_rfl)) (by kernel_rfl) rfl rfl rfl
-- func(int, int) int
theorem tab136 : TI.Ok Tryz.prog 136 ⟨.other, 1, 8, [.nilFunc]⟩ := TI.mk' (z := (.nilFunc)) (TD.mkOther (by kernel_rfl)) (by kernel_rfl) rfl rfl rfl
-- func([]int, []int) int
theorem tab137 : TI.Ok Tryz.prog 137 ⟨.other, 1, 8, [.nilFunc]⟩ := TI.mk' (z := (.nilFunc)) (TD.mkOther (by kernel_rfl)) (by kernel_rfl) rfl rfl rfl
-- func([]int) bool
theorem tab138 : TI.Ok Tryz.prog 138 ⟨.other, 1, 8, [.nilFunc]⟩ := TI.mk' (z := (.nilFunc)) (TD.mkOther (by kernel_rfl)) (by kernel_rfl) rfl rfl rfl
-- func(minimal.counts, []int)
theorem tab139 : TI.Ok Tryz.prog 139 ⟨.other, 1, 8, [.nilFunc]⟩ := TI.mk' (z := (.nilFunc)) (TD.mkOther (by kernel_rfl)) (by kernel_rfl) rfl rfl rfl
-- func(iter.Seq[int]) []int
theorem tab140 : TI.Ok Tryz.prog 140 ⟨.other, 1, 8, [.nilFunc]⟩ := TI.mk' (z := (.nilFunc)) (TD.mkOther (by kernel_rfl)) (by kernel_rfl) rfl rfl rfl
-- func([]int) iter.Seq[int]
theorem tab141 : TI.Ok Tryz.prog 141 ⟨.other, 1, 8, [.nilFunc]⟩ := TI.mk' (z := (.nilFunc)) (TD.mkOther (by kernel_rfl)) (by kernel_rfl) rfl rfl rfl
-- func(implicant.Task, api.Cube) bool
theorem tab142 : TI.Ok Tryz.prog 142 ⟨.other, 1, 8, [.nilFunc]⟩ := TI.mk' (z := (.nilFunc)) (TD.mkOther (by kernel_rfl)) (by kernel_rfl) rfl rfl rfl
-- [2]api.Table
theorem tab143 : TI.Ok Tryz.prog 143 ⟨.array 2 25, 4, 32, [.int .i64 0, .int .u64 0, .int .i64 0, .int .u64 0]⟩ := TI.mk' (z := (.agg #[.int .i64 0, .int .u64 0, .int .i64 0, .int .u64 0])) (show Tryz.prog.underlying 143 = some (.array 2 25) by kernel_rfl) (by kernel_rfl) rfl rfl rfl
-- func(implicant.Task) []api.Cube
theorem tab144 : TI.Ok Tryz.prog 144 ⟨.other, 1, 8, [.nilFunc]⟩ := TI.mk' (z := (.nilFunc)) (TD.mkOther (by kernel_rfl)) (by kernel_rfl) rfl rfl rfl
-- func([]api.Cube, func(api.Cube) bool) int
theorem tab145 : TI.Ok Tryz.prog 145 ⟨.other, 1, 8, [.nilFunc]⟩ := TI.mk' (z := (.nilFunc)) (TD.mkOther (by kernel_rfl)) (by kernel_rfl) rfl rfl rfl
-- func([]int, func(int) bool) int
theorem tab146 : TI.Ok Tryz.prog 146 ⟨.other, 1, 8, [.nilFunc]⟩ := TI.mk' (z := (.nilFunc)) (TD.mkOther (by kernel_rfl)) (by kernel_rfl) rfl rfl rfl
-- func(int, api.Cube) uint64
theorem tab147 : TI.Ok Tryz.prog 147 ⟨.other, 1, 8, [.nilFunc]⟩ := TI.mk' (z := (.nilFunc)) (TD.mkOther (by kernel_rfl)) (by kernel_rfl) rfl rfl rfl
-- func(func(api.Cube) bool)
theorem tab148 : TI.Ok Tryz.prog 148 ⟨.other, 1, 8, [.nilFunc]⟩ := TI.mk' (z := (.nilFunc)) (TD.mkOther (by kernel_rfl)) (by kernel_rfl) rfl rfl rfl
-- iter.Seq[pneumatic/api.Cube]
theorem tab149 : TI.Ok Tryz.prog 149 ⟨.other, 1, 8, [.nilFunc]⟩ := TI.mk' (z := (.nilFunc)) (TD.mkOther (by kernel_rfl)) (by kernel_rfl) rfl rfl rfl
-- func(int) iter.Seq[pneumatic/api.Cube]
theorem tab150 : TI.Ok Tryz.prog 150 ⟨.other, 1, 8, [.nilFunc]⟩ := TI.mk' (z := (.nilFunc)) (TD.mkOther (by kernel_rfl)) (by kernel_rfl) rfl rfl rfl
-- func([]api.Cube, func(api.Cube, api.Cube) int)
theorem tab151 : TI.Ok Tryz.prog 151 ⟨.other, 1, 8, [.nilFunc]⟩ := TI.mk' (z := (.nilFunc)) (TD.mkOther (by kernel_rfl)) (by kernel_rfl) rfl rfl rfl
-- func(uint, uint) int
theorem tab152 : TI.Ok Tryz.prog 152 ⟨.other, 1, 8, [.nilFunc]⟩ := TI.mk' (z := (.nilFunc)) (TD.mkOther (by kernel_rfl)) (by kernel_rfl) rfl rfl rfl
-- func(api.Cube, api.Cube) int
theorem tab153 : TI.Ok Tryz.prog 153 ⟨.other, 1, 8, [.nilFunc]⟩ := TI.mk' (z := (.nilFunc)) (TD.mkOther (by kernel_rfl)) (by kernel_rfl) rfl rfl rfl
-- func([]int, iter.Seq[int]) []int
theorem tab154 : TI.Ok Tryz.prog 154 ⟨.other, 1, 8, [.nilFunc]⟩ := TI.mk' (z := (.nilFunc)) (TD.mkOther (by kernel_rfl)) (by kernel_rfl) rfl rfl rfl
-- func([]int, int, int, int)
theorem tab155 : TI.Ok Tryz.prog 155 ⟨.other, 1, 8, [.nilFunc]⟩ := TI.mk' (z := (.nilFunc)) (TD.mkOther (by kernel_rfl)) (by kernel_rfl) rfl rfl rfl
-- func([]api.Cube, int, int, int, func(api.Cube, api.Cube) int)
theorem tab156 : TI.Ok Tryz.prog 156 ⟨.other, 1, 8, [.nilFunc]⟩ := TI.mk' (z := (.nilFunc)) (TD.mkOther (by kernel_rfl)) (by kernel_rfl) rfl rfl rfl
-- func(uint) bool
theorem tab157 : TI.Ok Tryz.prog 157 ⟨.other, 1, 8, [.nilFunc]⟩ := TI.mk' (z := (.nilFunc)) (TD.mkOther (by kernel_rfl)) (by kernel_rfl) rfl rfl rfl
-- func([]int, int, int)
theorem tab158 : TI.Ok Tryz.prog 158 ⟨.other, 1, 8, [.nilFunc]⟩ := TI.mk' (z := (.nilFunc)) (TD.mkOther (by kernel_rfl)) (by kernel_rfl) rfl rfl rfl
-- slices.sortedHint
theorem tab159 : TI.Ok Tryz.prog 159 ⟨.int .i64, 1, 8, [.int .i64 0]⟩ := TI.mk' (z := (.int .i64 0)) (show Tryz.prog.underlying 159 = some (.int .i64) by kernel_rfl) (by kernel_rfl) rfl rfl rfl
-- func([]int, int, int) (int, slices.sortedHint)
theorem tab161 : TI.Ok Tryz.prog 161 ⟨.other, 1, 8, [.nilFunc]⟩ := TI.mk' (z := (.nilFunc)) (TD.mkOther (by kernel_rfl)) (by kernel_rfl) rfl rfl rfl
-- func([]int, int, int) bool
theorem tab162 : TI.Ok Tryz.prog 162 ⟨.other, 1, 8, [.nilFunc]⟩ := TI.mk' (z := (.nilFunc)) (TD.mkOther (by kernel_rfl)) (by kernel_rfl) rfl rfl rfl
-- func([]int, int, int, int) int
theorem tab163 : TI.Ok Tryz.prog 163 ⟨.other, 1, 8, [.nilFunc]⟩ := TI.mk' (z := (.nilFunc)) (TD.mkOther (by kernel_rfl)) (by kernel_rfl) rfl rfl rfl
-- func([]int, int, int, int) (int, bool)
theorem tab165 : TI.Ok Tryz.prog 165 ⟨.other, 1, 8, [.nilFunc]⟩ := TI.mk' (z := (.nilFunc)) (TD.mkOther (by kernel_rfl)) (by kernel_rfl) rfl rfl rfl
-- func([]api.Cube, int, int, func(api.Cube, api.Cube) int)
theorem tab166 : TI.Ok Tryz.prog 166 ⟨.other, 1, 8, [.nilFunc]⟩ := TI.mk' (z := (.nilFunc)) (TD.mkOther (by kernel_rfl)) (by kernel_rfl) rfl rfl rfl
-- func([]api.Cube, int, int, func(api.Cube, api.Cube) int) (int, slices.sortedHint)
theorem tab167 : TI.Ok Tryz.prog 167 ⟨.other, 1, 8, [.nilFunc]⟩ := TI.mk' (z := (.nilFunc)) (TD.mkOther (by kernel_rfl)) (by kernel_rfl) rfl rfl rfl
-- func([]api.Cube, int, int, func(api.Cube, api.Cube) int) bool
theorem tab168 : TI.Ok Tryz.prog 168 ⟨.other, 1, 8, [.nilFunc]⟩ := TI.mk' (z := (.nilFunc)) (TD.mkOther (by kernel_rfl)) (by kernel_rfl) rfl rfl rfl
-- func([]api.Cube, int, int, int, func(api.Cube, api.Cube) int) int
theorem tab169 : TI.Ok Tryz.prog 169 ⟨.other, 1, 8, [.nilFunc]⟩ := TI.mk' (z := (.nilFunc)) (TD.mkOther (by kernel_rfl)) (by kernel_rfl) rfl rfl rfl
-- func([]api.Cube, int, int, int, func(api.Cube, api.Cube) int) (int, bool)
theorem tab170 : TI.Ok Tryz.prog 170 ⟨.other, 1, 8, [.nilFunc]⟩ := TI.mk' (z := (.nilFunc)) (TD.mkOther (by kernel_rfl)) (by kernel_rfl) rfl rfl rfl
-- slices.xorshift
theorem tab171 : TI.Ok Tryz.prog 171 ⟨.int .u64, 1, 8, [.int .u64 0]⟩ := TI.mk' (z := (.int .u64 0)) (show Tryz.prog.underlying 171 = some (.int .u64) by kernel_rfl) (by kernel_rfl) rfl rfl rfl
-- func() uint64
theorem tab172 : TI.Ok Tryz.prog 172 ⟨.other, 1, 8, [.nilFunc]⟩ := TI.mk' (z := (.nilFunc)) (TD.mkOther (by kernel_rfl)) (by kernel_rfl) rfl rfl rfl
-- func([]int, int, *int) int
theorem tab173 : TI.Ok Tryz.prog 173 ⟨.other, 1, 8, [.nilFunc]⟩ := TI.mk' (z := (.nilFunc)) (TD.mkOther (by kernel_rfl)) (by kernel_rfl) rfl rfl rfl
-- *int
theorem tab174 : TI.Ok Tryz.prog 174 ⟨.other, 1, 8, [.pointer none]⟩ := TI.mk' (z := (.pointer none)) (TD.mkOther (by kernel_rfl)) (by kernel_rfl) rfl rfl rfl
-- func([]int, int, int, int, *int) int
theorem tab175 : TI.Ok Tryz.prog 175 ⟨.other, 1, 8, [.nilFunc]⟩ := TI.mk' (z := (.nilFunc)) (TD.mkOther (by kernel_rfl)) (by kernel_rfl) rfl rfl rfl
-- func([]api.Cube, int, *int, func(api.Cube, api.Cube) int) int
theorem tab176 : TI.Ok Tryz.prog 176 ⟨.other, 1, 8, [.nilFunc]⟩ := TI.mk' (z := (.nilFunc)) (TD.mkOther (by kernel_rfl)) (by kernel_rfl) rfl rfl rfl
-- func([]api.Cube, int, int, int, *int, func(api.Cube, api.Cube) int) int
theorem tab177 : TI.Ok Tryz.prog 177 ⟨.other, 1, 8, [.nilFunc]⟩ := TI.mk' (z := (.nilFunc)) (TD.mkOther (by kernel_rfl)) (by kernel_rfl) rfl rfl rfl
-- *slices.xorshift
theorem tab178 : TI.Ok Tryz.prog 178 ⟨.other, 1, 8, [.pointer none]⟩ := TI.mk' (z := (.pointer none)) (TD.mkOther (by kernel_rfl)) (by kernel_rfl) rfl rfl rfl
-- func([]int, int, int, *int) (int, int)
theorem tab179 : TI.Ok Tryz.prog 179 ⟨.other, 1, 8, [.nilFunc]⟩ := TI.mk' (z := (.nilFunc)) (TD.mkOther (by kernel_rfl)) (by kernel_rfl) rfl rfl rfl
-- func([]api.Cube, int, int, *int, func(api.Cube, api.Cube) int) (int, int)
theorem tab180 : TI.Ok Tryz.prog 180 ⟨.other, 1, 8, [.nilFunc]⟩ := TI.mk' (z := (.nilFunc)) (TD.mkOther (by kernel_rfl)) (by kernel_rfl) rfl rfl rfl
-- func() string
theorem tab181 : TI.Ok Tryz.prog 181 ⟨.other, 1, 8, [.nilFunc]⟩ := TI.mk' (z := (.nilFunc)) (TD.mkOther (by kernel_rfl)) (by kernel_rfl) rfl rfl rfl
-- [0]*runtime.PanicNilError
theorem tab184 : TI.Ok Tryz.prog 184 ⟨.array 0 16, 0, 0, []⟩ := TI.mk' (z := (.agg #[])) (show Tryz.prog.underlying 184 = some (.array 0 16) by kernel_rfl) (by kernel_rfl) rfl rfl rfl
-- func() int
theorem tab187 : TI.Ok Tryz.prog 187 ⟨.other, 1, 8, [.nilFunc]⟩ := TI.mk' (z := (.nilFunc)) (TD.mkOther (by kernel_rfl)) (by kernel_rfl) rfl rfl rfl
-- abi.TFlag
theorem tab188 : TI.Ok Tryz.prog 188 ⟨.int .u8, 1, 1, [.int .u8 0]⟩ := TI.mk' (z := (.int .u8 0)) (show Tryz.prog.underlying 188 = some (.int .u8) by kernel_rfl) (by kernel_rfl) rfl rfl rfl
-- abi.Kind
theorem tab189 : TI.Ok Tryz.prog 189 ⟨.int .u8, 1, 1, [.int .u8 0]⟩ := TI.mk' (z := (.int .u8 0)) (show Tryz.prog.underlying 189 = some (.int .u8) by kernel_rfl) (by kernel_rfl) rfl rfl rfl
-- func(unsafe.Pointer, unsafe.Pointer) bool
theorem tab190 : TI.Ok Tryz.prog 190 ⟨.other, 1, 8, [.nilFunc]⟩ := TI.mk' (z := (.nilFunc)) (TD.mkOther (by kernel_rfl)) (by kernel_rfl) rfl rfl rfl
-- *uint8
theorem tab191 : TI.Ok Tryz.prog 191 ⟨.other, 1, 8, [.pointer none]⟩ := TI.mk' (z := (.pointer none)) (TD.mkOther (by kernel_rfl)) (by kernel_rfl) rfl rfl rfl
-- abi.NameOff
theorem tab192 : TI.Ok Tryz.prog 192 ⟨.int .i32, 1, 4, [.int .i32 0]⟩ := TI.mk' (z := (.int .i32 0)) (show Tryz.prog.underlying 192 = some (.int .i32) by kernel_rfl) (by kernel_rfl) rfl rfl rfl
-- abi.TypeOff
theorem tab193 : TI.Ok Tryz.prog 193 ⟨.int .i32, 1, 4, [.int .i32 0]⟩ := TI.mk' (z := (.int .i32 0)) (show Tryz.prog.underlying 193 = some (.int .i32) by kernel_rfl) (by kernel_rfl) rfl rfl rfl
-- unsafe.Pointer
theorem tab196 : TI.Ok Tryz.prog 196 ⟨.other, 1, 8, [.pointer none]⟩ := TI.mk' (z := (.pointer none)) (TD.mkOther (by kernel_rfl)) (by kernel_rfl) rfl rfl rfl

def tab : Tab := [
  (1, ⟨.other, 1, 8, [.nilFunc]⟩),
  (2, ⟨.int .i64, 1, 8, [.int .i64 0]⟩),
  (3, ⟨.int .i64, 1, 8, [.int .i64 0]⟩),
  (4, ⟨.bool, 1, 1, [.bool false]⟩),
  (5, ⟨.int .u8, 1, 1, [.int .u8 0]⟩),
  (6, ⟨.int .u8, 1, 1, [.int .u8 0]⟩),
  (7, ⟨.struct [(0, 2), (1, 3), (2, 4), (3, 6)], 4, 24, [.int .i64 0, .int .i64 0, .bool false, .int .u8 0]⟩),
  (8, ⟨.struct [(0, 2), (1, 3), (2, 4), (3, 6)], 4, 24, [.int .i64 0, .int .i64 0, .bool false, .int .u8 0]⟩),
  (9, ⟨.string, 1, 16, [.string ByteArray.empty]⟩),
  (10, ⟨.string, 1, 16, [.string ByteArray.empty]⟩),
  (11, ⟨.string, 1, 16, [.string ByteArray.empty]⟩),
  (12, ⟨.int .u64, 1, 8, [.int .u64 0]⟩),
  (15, ⟨.other, 1, 8, [.pointer none]⟩),
  (16, ⟨.other, 1, 8, [.pointer none]⟩),
  (17, ⟨.other, 1, 8, [.pointer none]⟩),
  (20, ⟨.other, 1, 16, [.nilIface]⟩),
  (21, ⟨.int .i32, 1, 4, [.int .i32 0]⟩),
  (22, ⟨.slice 67, 1, 24, [.slice none 0 0]⟩),
  (23, ⟨.int .u64, 1, 8, [.int .u64 0]⟩),
  (24, ⟨.struct [(0, 3), (1, 23)], 2, 16, [.int .i64 0, .int .u64 0]⟩),
  (25, ⟨.struct [(0, 3), (1, 23)], 2, 16, [.int .i64 0, .int .u64 0]⟩),
  (26, ⟨.struct [(0, 25), (2, 25)], 4, 32, [.int .i64 0, .int .u64 0, .int .i64 0, .int .u64 0]⟩),
  (27, ⟨.struct [(0, 25), (2, 25)], 4, 32, [.int .i64 0, .int .u64 0, .int .i64 0, .int .u64 0]⟩),
  (28, ⟨.other, 1, 8, [.nilFunc]⟩),
  (29, ⟨.struct [(0, 25), (2, 25)], 4, 32, [.int .i64 0, .int .u64 0, .int .i64 0, .int .u64 0]⟩),
  (30, ⟨.other, 1, 8, [.nilFunc]⟩),
  (31, ⟨.int .i64, 1, 8, [.int .i64 0]⟩),
  (33, ⟨.other, 1, 8, [.nilFunc]⟩),
  (35, ⟨.other, 1, 8, [.nilFunc]⟩),
  (36, ⟨.slice 3, 1, 24, [.slice none 0 0]⟩),
  (38, ⟨.other, 1, 8, [.nilFunc]⟩),
  (40, ⟨.other, 1, 8, [.nilFunc]⟩),
  (41, ⟨.other, 1, 8, [.nilFunc]⟩),
  (42, ⟨.other, 1, 8, [.nilFunc]⟩),
  (44, ⟨.other, 1, 8, [.nilFunc]⟩),
  (46, ⟨.other, 1, 8, [.nilFunc]⟩),
  (47, ⟨.other, 1, 8, [.nilFunc]⟩),
  (48, ⟨.other, 1, 8, [.nilFunc]⟩),
  (49, ⟨.other, 1, 8, [.nilFunc]⟩),
  (50, ⟨.other, 1, 8, [.nilFunc]⟩),
  (52, ⟨.other, 1, 8, [.nilFunc]⟩),
  (53, ⟨.other, 1, 8, [.nilFunc]⟩),
  (54, ⟨.other, 1, 8, [.nilFunc]⟩),
  (55, ⟨.other, 1, 8, [.nilFunc]⟩),
  (56, ⟨.slice 27, 1, 24, [.slice none 0 0]⟩),
  (57, ⟨.other, 1, 8, [.nilFunc]⟩),
  (58, ⟨.other, 1, 8, [.nilFunc]⟩),
  (59, ⟨.other, 1, 8, [.nilFunc]⟩),
  (60, ⟨.other, 1, 8, [.nilFunc]⟩),
  (61, ⟨.other, 1, 8, [.nilFunc]⟩),
  (62, ⟨.slice 64, 1, 24, [.slice none 0 0]⟩),
  (63, ⟨.struct [(0, 36), (1, 62)], 2, 48, [.slice none 0 0, .slice none 0 0]⟩),
  (64, ⟨.struct [(0, 36), (1, 62)], 2, 48, [.slice none 0 0, .slice none 0 0]⟩),
  (65, ⟨.int .u64, 1, 8, [.int .u64 0]⟩),
  (66, ⟨.struct [(0, 65), (1, 65)], 2, 16, [.int .u64 0, .int .u64 0]⟩),
  (67, ⟨.struct [(0, 65), (1, 65)], 2, 16, [.int .u64 0, .int .u64 0]⟩),
  (68, ⟨.other, 1, 8, [.nilFunc]⟩),
  (69, ⟨.other, 1, 8, [.nilFunc]⟩),
  (70, ⟨.other, 1, 8, [.nilFunc]⟩),
  (71, ⟨.other, 1, 8, [.nilFunc]⟩),
  (72, ⟨.other, 1, 8, [.nilFunc]⟩),
  (73, ⟨.other, 1, 8, [.nilFunc]⟩),
  (74, ⟨.other, 1, 8, [.nilFunc]⟩),
  (75, ⟨.other, 1, 8, [.pointer none]⟩),
  (77, ⟨.other, 1, 8, [.nilFunc]⟩),
  (78, ⟨.other, 1, 8, [.nilFunc]⟩),
  (79, ⟨.other, 1, 8, [.nilFunc]⟩),
  (80, ⟨.array 64 3, 64, 512, [.int .i64 0, .int .i64 0, .int .i64 0, .int .i64 0, .int .i64 0, .int .i64 0, .int .i64 0, .int .i64 0, .int .i64 0, .int .i64 0, .int .i64 0, .int .i64 0, .int .i64 0, .int .i64 0, .int .i64 0, .int .i64 0, .int .i64 0, .int .i64 0, .int .i64 0, .int .i64 0, .int .i64 0, .int .i64 0, .int .i64 0, .int .i64 0, .int .i64 0, .int .i64 0, .int .i64 0, .int .i64 0, .int .i64 0, .int .i64 0, .int .i64 0, .int .i64 0, .int .i64 0, .int .i64 0, .int .i64 0, .int .i64 0, .int .i64 0, .int .i64 0, .int .i64 0, .int .i64 0, .int .i64 0, .int .i64 0, .int .i64 0, .int .i64 0, .int .i64 0, .int .i64 0, .int .i64 0, .int .i64 0, .int .i64 0, .int .i64 0, .int .i64 0, .int .i64 0, .int .i64 0, .int .i64 0, .int .i64 0, .int .i64 0, .int .i64 0, .int .i64 0, .int .i64 0, .int .i64 0, .int .i64 0, .int .i64 0, .int .i64 0, .int .i64 0]⟩),
  (81, ⟨.array 64 3, 64, 512, [.int .i64 0, .int .i64 0, .int .i64 0, .int .i64 0, .int .i64 0, .int .i64 0, .int .i64 0, .int .i64 0, .int .i64 0, .int .i64 0, .int .i64 0, .int .i64 0, .int .i64 0, .int .i64 0, .int .i64 0, .int .i64 0, .int .i64 0, .int .i64 0, .int .i64 0, .int .i64 0, .int .i64 0, .int .i64 0, .int .i64 0, .int .i64 0, .int .i64 0, .int .i64 0, .int .i64 0, .int .i64 0, .int .i64 0, .int .i64 0, .int .i64 0, .int .i64 0, .int .i64 0, .int .i64 0, .int .i64 0, .int .i64 0, .int .i64 0, .int .i64 0, .int .i64 0, .int .i64 0, .int .i64 0, .int .i64 0, .int .i64 0, .int .i64 0, .int .i64 0, .int .i64 0, .int .i64 0, .int .i64 0, .int .i64 0, .int .i64 0, .int .i64 0, .int .i64 0, .int .i64 0, .int .i64 0, .int .i64 0, .int .i64 0, .int .i64 0, .int .i64 0, .int .i64 0, .int .i64 0, .int .i64 0, .int .i64 0, .int .i64 0, .int .i64 0]⟩),
  (82, ⟨.other, 1, 8, [.nilFunc]⟩),
  (83, ⟨.other, 1, 8, [.nilFunc]⟩),
  (84, ⟨.other, 1, 8, [.nilFunc]⟩),
  (85, ⟨.other, 1, 8, [.nilFunc]⟩),
  (86, ⟨.other, 1, 8, [.nilFunc]⟩),
  (87, ⟨.other, 1, 8, [.nilFunc]⟩),
  (88, ⟨.other, 1, 8, [.nilFunc]⟩),
  (89, ⟨.other, 1, 8, [.nilFunc]⟩),
  (90, ⟨.other, 1, 8, [.nilFunc]⟩),
  (91, ⟨.other, 1, 8, [.nilFunc]⟩),
  (92, ⟨.other, 1, 8, [.nilFunc]⟩),
  (93, ⟨.other, 1, 8, [.nilFunc]⟩),
  (94, ⟨.other, 1, 8, [.nilFunc]⟩),
  (95, ⟨.other, 1, 8, [.nilFunc]⟩),
  (96, ⟨.other, 1, 8, [.nilFunc]⟩),
  (97, ⟨.other, 1, 8, [.nilFunc]⟩),
  (98, ⟨.other, 1, 8, [.nilFunc]⟩),
  (99, ⟨.other, 1, 8, [.nilFunc]⟩),
  (100, ⟨.other, 1, 8, [.nilFunc]⟩),
  (101, ⟨.other, 1, 8, [.nilFunc]⟩),
  (102, ⟨.other, 1, 8, [.nilFunc]⟩),
  (103, ⟨.other, 1, 8, [.nilFunc]⟩),
  (104, ⟨.other, 1, 8, [.nilFunc]⟩),
  (105, ⟨.other, 1, 8, [.nilFunc]⟩),
  (106, ⟨.other, 1, 8, [.nilFunc]⟩),
  (107, ⟨.other, 1, 8, [.nilFunc]⟩),
  (108, ⟨.other, 1, 8, [.nilFunc]⟩),
  (109, ⟨.struct [(0, 27), (4, 22)], 5, 56, [.int .i64 0, .int .u64 0, .int .i64 0, .int .u64 0, .slice none 0 0]⟩),
  (110, ⟨.struct [(0, 27), (4, 22)], 5, 56, [.int .i64 0, .int .u64 0, .int .i64 0, .int .u64 0, .slice none 0 0]⟩),
  (111, ⟨.other, 1, 8, [.nilFunc]⟩),
  (113, ⟨.other, 1, 8, [.nilFunc]⟩),
  (115, ⟨.other, 1, 8, [.nilFunc]⟩),
  (116, ⟨.other, 1, 8, [.nilFunc]⟩),
  (117, ⟨.other, 1, 8, [.nilFunc]⟩),
  (118, ⟨.other, 1, 8, [.nilFunc]⟩),
  (119, ⟨.other, 1, 8, [.nilFunc]⟩),
  (120, ⟨.other, 1, 8, [.nilFunc]⟩),
  (121, ⟨.other, 1, 8, [.nilFunc]⟩),
  (122, ⟨.other, 1, 8, [.nilFunc]⟩),
  (123, ⟨.other, 1, 8, [.nilFunc]⟩),
  (124, ⟨.other, 1, 8, [.nilFunc]⟩),
  (125, ⟨.other, 1, 8, [.nilFunc]⟩),
  (126, ⟨.other, 1, 8, [.nilFunc]⟩),
  (127, ⟨.other, 1, 8, [.nilFunc]⟩),
  (128, ⟨.other, 1, 8, [.nilFunc]⟩),
  (129, ⟨.other, 1, 8, [.nilFunc]⟩),
  (130, ⟨.int .u32, 1, 4, [.int .u32 0]⟩),
  (131, ⟨.other, 1, 8, [.nilFunc]⟩),
  (132, ⟨.other, 1, 8, [.nilFunc]⟩),
  (133, ⟨.other, 1, 8, [.nilFunc]⟩),
  (134, ⟨.other, 1, 8, [.nilFunc]⟩),
  (135, ⟨.other, 1, 8, [.nilFunc]⟩),
  (136, ⟨.other, 1, 8, [.nilFunc]⟩),
  (137, ⟨.other, 1, 8, [.nilFunc]⟩),
  (138, ⟨.other, 1, 8, [.nilFunc]⟩),
  (139, ⟨.other, 1, 8, [.nilFunc]⟩),
  (140, ⟨.other, 1, 8, [.nilFunc]⟩),
  (141, ⟨.other, 1, 8, [.nilFunc]⟩),
  (142, ⟨.other, 1, 8, [.nilFunc]⟩),
  (143, ⟨.array 2 25, 4, 32, [.int .i64 0, .int .u64 0, .int .i64 0, .int .u64 0]⟩),
  (144, ⟨.other, 1, 8, [.nilFunc]⟩),
  (145, ⟨.other, 1, 8, [.nilFunc]⟩),
  (146, ⟨.other, 1, 8, [.nilFunc]⟩),
  (147, ⟨.other, 1, 8, [.nilFunc]⟩),
  (148, ⟨.other, 1, 8, [.nilFunc]⟩),
  (149, ⟨.other, 1, 8, [.nilFunc]⟩),
  (150, ⟨.other, 1, 8, [.nilFunc]⟩),
  (151, ⟨.other, 1, 8, [.nilFunc]⟩),
  (152, ⟨.other, 1, 8, [.nilFunc]⟩),
  (153, ⟨.other, 1, 8, [.nilFunc]⟩),
  (154, ⟨.other, 1, 8, [.nilFunc]⟩),
  (155, ⟨.other, 1, 8, [.nilFunc]⟩),
  (156, ⟨.other, 1, 8, [.nilFunc]⟩),
  (157, ⟨.other, 1, 8, [.nilFunc]⟩),
  (158, ⟨.other, 1, 8, [.nilFunc]⟩),
  (159, ⟨.int .i64, 1, 8, [.int .i64 0]⟩),
  (161, ⟨.other, 1, 8, [.nilFunc]⟩),
  (162, ⟨.other, 1, 8, [.nilFunc]⟩),
  (163, ⟨.other, 1, 8, [.nilFunc]⟩),
  (165, ⟨.other, 1, 8, [.nilFunc]⟩),
  (166, ⟨.other, 1, 8, [.nilFunc]⟩),
  (167, ⟨.other, 1, 8, [.nilFunc]⟩),
  (168, ⟨.other, 1, 8, [.nilFunc]⟩),
  (169, ⟨.other, 1, 8, [.nilFunc]⟩),
  (170, ⟨.other, 1, 8, [.nilFunc]⟩),
  (171, ⟨.int .u64, 1, 8, [.int .u64 0]⟩),
  (172, ⟨.other, 1, 8, [.nilFunc]⟩),
  (173, ⟨.other, 1, 8, [.nilFunc]⟩),
  (174, ⟨.other, 1, 8, [.pointer none]⟩),
  (175, ⟨.other, 1, 8, [.nilFunc]⟩),
  (176, ⟨.other, 1, 8, [.nilFunc]⟩),
  (177, ⟨.other, 1, 8, [.nilFunc]⟩),
  (178, ⟨.other, 1, 8, [.pointer none]⟩),
  (179, ⟨.other, 1, 8, [.nilFunc]⟩),
  (180, ⟨.other, 1, 8, [.nilFunc]⟩),
  (181, ⟨.other, 1, 8, [.nilFunc]⟩),
  (184, ⟨.array 0 16, 0, 0, []⟩),
  (187, ⟨.other, 1, 8, [.nilFunc]⟩),
  (188, ⟨.int .u8, 1, 1, [.int .u8 0]⟩),
  (189, ⟨.int .u8, 1, 1, [.int .u8 0]⟩),
  (190, ⟨.other, 1, 8, [.nilFunc]⟩),
  (191, ⟨.other, 1, 8, [.pointer none]⟩),
  (192, ⟨.int .i32, 1, 4, [.int .i32 0]⟩),
  (193, ⟨.int .i32, 1, 4, [.int .i32 0]⟩),
  (196, ⟨.other, 1, 8, [.pointer none]⟩)]
theorem tab_ok : tab.Ok Tryz.prog :=
  Tab.ok_cons tab1 <| Tab.ok_cons tab2 <| Tab.ok_cons tab3 <| Tab.ok_cons tab4 <| Tab.ok_cons tab5 <| Tab.ok_cons tab6 <| Tab.ok_cons tab7 <| Tab.ok_cons tab8 <| Tab.ok_cons tab9 <| Tab.ok_cons tab10 <| Tab.ok_cons tab11 <| Tab.ok_cons tab12 <| Tab.ok_cons tab15 <| Tab.ok_cons tab16 <| Tab.ok_cons tab17 <| Tab.ok_cons tab20 <| Tab.ok_cons tab21 <| Tab.ok_cons tab22 <| Tab.ok_cons tab23 <| Tab.ok_cons tab24 <| Tab.ok_cons tab25 <| Tab.ok_cons tab26 <| Tab.ok_cons tab27 <| Tab.ok_cons tab28 <| Tab.ok_cons tab29 <| Tab.ok_cons tab30 <| Tab.ok_cons tab31 <| Tab.ok_cons tab33 <| Tab.ok_cons tab35 <| Tab.ok_cons tab36 <| Tab.ok_cons tab38 <| Tab.ok_cons tab40 <| Tab.ok_cons tab41 <| Tab.ok_cons tab42 <| Tab.ok_cons tab44 <| Tab.ok_cons tab46 <| Tab.ok_cons tab47 <| Tab.ok_cons tab48 <| Tab.ok_cons tab49 <| Tab.ok_cons tab50 <| Tab.ok_cons tab52 <| Tab.ok_cons tab53 <| Tab.ok_cons tab54 <| Tab.ok_cons tab55 <| Tab.ok_cons tab56 <| Tab.ok_cons tab57 <| Tab.ok_cons tab58 <| Tab.ok_cons tab59 <| Tab.ok_cons tab60 <| Tab.ok_cons tab61 <| Tab.ok_cons tab62 <| Tab.ok_cons tab63 <| Tab.ok_cons tab64 <| Tab.ok_cons tab65 <| Tab.ok_cons tab66 <| Tab.ok_cons tab67 <| Tab.ok_cons tab68 <| Tab.ok_cons tab69 <| Tab.ok_cons tab70 <| Tab.ok_cons tab71 <| Tab.ok_cons tab72 <| Tab.ok_cons tab73 <| Tab.ok_cons tab74 <| Tab.ok_cons tab75 <| Tab.ok_cons tab77 <| Tab.ok_cons tab78 <| Tab.ok_cons tab79 <| Tab.ok_cons tab80 <| Tab.ok_cons tab81 <| Tab.ok_cons tab82 <| Tab.ok_cons tab83 <| Tab.ok_cons tab84 <| Tab.ok_cons tab85 <| Tab.ok_cons tab86 <| Tab.ok_cons tab87 <| Tab.ok_cons tab88 <| Tab.ok_cons tab89 <| Tab.ok_cons tab90 <| Tab.ok_cons tab91 <| Tab.ok_cons tab92 <| Tab.ok_cons tab93 <| Tab.ok_cons tab94 <| Tab.ok_cons tab95 <| Tab.ok_cons tab96 <| Tab.ok_cons tab97 <| Tab.ok_cons tab98 <| Tab.ok_cons tab99 <| Tab.ok_cons tab100 <| Tab.ok_cons tab101 <| Tab.ok_cons tab102 <| Tab.ok_cons tab103 <| Tab.ok_cons tab104 <| Tab.ok_cons tab105 <| Tab.ok_cons tab106 <| Tab.ok_cons tab107 <| Tab.ok_cons tab108 <| Tab.ok_cons tab109 <| Tab.ok_cons tab110 <| Tab.ok_cons tab111 <| Tab.ok_cons tab113 <| Tab.ok_cons tab115 <| Tab.ok_cons tab116 <| Tab.ok_cons tab117 <| Tab.ok_cons tab118 <| Tab.ok_cons tab119 <| Tab.ok_cons tab120 <| Tab.ok_cons tab121 <| Tab.ok_cons tab122 <| Tab.ok_cons tab123 <| Tab.ok_cons tab124 <| Tab.ok_cons tab125 <| Tab.ok_cons tab126 <| Tab.ok_cons tab127 <| Tab.ok_cons tab128 <| Tab.ok_cons tab129 <| Tab.ok_cons tab130 <| Tab.ok_cons tab131 <| Tab.ok_cons tab132 <| Tab.ok_cons tab133 <| Tab.ok_cons tab134 <| Tab.ok_cons tab135 <| Tab.ok_cons tab136 <| Tab.ok_cons tab137 <| Tab.ok_cons tab138 <| Tab.ok_cons tab139 <| Tab.ok_cons tab140 <| Tab.ok_cons tab141 <| Tab.ok_cons tab142 <| Tab.ok_cons tab143 <| Tab.ok_cons tab144 <| Tab.ok_cons tab145 <| Tab.ok_cons tab146 <| Tab.ok_cons tab147 <| Tab.ok_cons tab148 <| Tab.ok_cons tab149 <| Tab.ok_cons tab150 <| Tab.ok_cons tab151 <| Tab.ok_cons tab152 <| Tab.ok_cons tab153 <| Tab.ok_cons tab154 <| Tab.ok_cons tab155 <| Tab.ok_cons tab156 <| Tab.ok_cons tab157 <| Tab.ok_cons tab158 <| Tab.ok_cons tab159 <| Tab.ok_cons tab161 <| Tab.ok_cons tab162 <| Tab.ok_cons tab163 <| Tab.ok_cons tab165 <| Tab.ok_cons tab166 <| Tab.ok_cons tab167 <| Tab.ok_cons tab168 <| Tab.ok_cons tab169 <| Tab.ok_cons tab170 <| Tab.ok_cons tab171 <| Tab.ok_cons tab172 <| Tab.ok_cons tab173 <| Tab.ok_cons tab174 <| Tab.ok_cons tab175 <| Tab.ok_cons tab176 <| Tab.ok_cons tab177 <| Tab.ok_cons tab178 <| Tab.ok_cons tab179 <| Tab.ok_cons tab180 <| Tab.ok_cons tab181 <| Tab.ok_cons tab184 <| Tab.ok_cons tab187 <| Tab.ok_cons tab188 <| Tab.ok_cons tab189 <| Tab.ok_cons tab190 <| Tab.ok_cons tab191 <| Tab.ok_cons tab192 <| Tab.ok_cons tab193 <| Tab.ok_cons tab196 <| Tab.ok_nil
theorem mixed : Tryz.prog.follows .mixedOrders = true := by kernel_rfl
end Go.Sx.Pn
