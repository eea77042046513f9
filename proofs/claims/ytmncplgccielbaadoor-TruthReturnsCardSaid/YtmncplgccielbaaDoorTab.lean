/- The seat's types, for the symbolic executor. Printed by a program. -/
import Derived.Test.YtmncplgccielbaaDoorProg
import Derived.Test.YtmncplgccielbaaDoorSxE
namespace Go.Sx.Pn
open Go Go.Proofs Go.Sx

-- func()
theorem tab1 : TI.Ok Tryd.prog 1 ⟨.other, 1, 8, [.nilFunc]⟩ := TI.mk' (z := (.nilFunc)) (TD.mkOther (by kernel_rfl)) (by kernel_rfl) rfl rfl rfl
-- int64
theorem tab2 : TI.Ok Tryd.prog 2 ⟨.int .i64, 1, 8, [.int .i64 0]⟩ := TI.mk' (z := (.int .i64 0)) (show Tryd.prog.underlying 2 = some (.int .i64) by kernel_rfl) (by kernel_rfl) rfl rfl rfl
-- int
theorem tab3 : TI.Ok Tryd.prog 3 ⟨.int .i64, 1, 8, [.int .i64 0]⟩ := TI.mk' (z := (.int .i64 0)) (show Tryd.prog.underlying 3 = some (.int .i64) by kernel_rfl) (by kernel_rfl) rfl rfl rfl
-- bool
theorem tab4 : TI.Ok Tryd.prog 4 ⟨.bool, 1, 1, [.bool false]⟩ := TI.mk' (z := (.bool false)) (show Tryd.prog.underlying 4 = some (.bool) by kernel_rfl) (by kernel_rfl) rfl rfl rfl
-- uint8
theorem tab5 : TI.Ok Tryd.prog 5 ⟨.int .u8, 1, 1, [.int .u8 0]⟩ := TI.mk' (z := (.int .u8 0)) (show Tryd.prog.underlying 5 = some (.int .u8) by kernel_rfl) (by kernel_rfl) rfl rfl rfl
-- abi.BoundsErrorCode
theorem tab6 : TI.Ok Tryd.prog 6 ⟨.int .u8, 1, 1, [.int .u8 0]⟩ := TI.mk' (z := (.int .u8 0)) (show Tryd.prog.underlying 6 = some (.int .u8) by kernel_rfl) (by kernel_rfl) rfl rfl rfl
-- struct { x int64; y int; signed bool; code abi.BoundsErrorCode }
theorem tab7 : TI.Ok Tryd.prog 7 ⟨.struct [(0, 2), (1, 3), (2, 4), (3, 6)], 4, 24, [.int .i64 0, .int .i64 0, .bool false, .int .u8 0]⟩ := TI.mk' (z := (.agg #[.int .i64 0, .int .i64 0, .bool false, .int .u8 0])) (TD.mkStruct (l := [(0, 2), (1, 3), (2, 4), (3, 6)]) (by kernel_rfl) (by kernel_rfl) (by kernel_rfl)) (by kernel_rfl) rfl rfl rfl
-- runtime.boundsError
theorem tab8 : TI.Ok Tryd.prog 8 ⟨.struct [(0, 2), (1, 3), (2, 4), (3, 6)], 4, 24, [.int .i64 0, .int .i64 0, .bool false, .int .u8 0]⟩ := TI.mk' (z := (.agg #[.int .i64 0, .int .i64 0, .bool false, .int .u8 0])) (TD.mkStruct (l := [(0, 2), (1, 3), (2, 4), (3, 6)]) (by kernel_rfl) (by kernel_rfl) (by kernel_rfl)) (by kernel_rfl) rfl rfl rfl
-- string
theorem tab9 : TI.Ok Tryd.prog 9 ⟨.string, 1, 16, [.string ByteArray.empty]⟩ := TI.mk' (z := (.string ByteArray.empty)) (show Tryd.prog.underlying 9 = some (.string) by kernel_rfl) (by kernel_rfl) rfl rfl rfl
-- runtime.errorString
theorem tab10 : TI.Ok Tryd.prog 10 ⟨.string, 1, 16, [.string ByteArray.empty]⟩ := TI.mk' (z := (.string ByteArray.empty)) (show Tryd.prog.underlying 10 = some (.string) by kernel_rfl) (by kernel_rfl) rfl rfl rfl
-- runtime.plainError
theorem tab11 : TI.Ok Tryd.prog 11 ⟨.string, 1, 16, [.string ByteArray.empty]⟩ := TI.mk' (z := (.string ByteArray.empty)) (show Tryd.prog.underlying 11 = some (.string) by kernel_rfl) (by kernel_rfl) rfl rfl rfl
-- uintptr
theorem tab12 : TI.Ok Tryd.prog 12 ⟨.int .u64, 1, 8, [.int .u64 0]⟩ := TI.mk' (z := (.int .u64 0)) (show Tryd.prog.underlying 12 = some (.int .u64) by kernel_rfl) (by kernel_rfl) rfl rfl rfl
-- *runtime.TypeAssertionError
theorem tab15 : TI.Ok Tryd.prog 15 ⟨.other, 1, 8, [.pointer none]⟩ := TI.mk' (z := (.pointer none)) (TD.mkOther (by kernel_rfl)) (by kernel_rfl) rfl rfl rfl
-- *runtime.PanicNilError
theorem tab16 : TI.Ok Tryd.prog 16 ⟨.other, 1, 8, [.pointer none]⟩ := TI.mk' (z := (.pointer none)) (TD.mkOther (by kernel_rfl)) (by kernel_rfl) rfl rfl rfl
-- *abi.Type
theorem tab17 : TI.Ok Tryd.prog 17 ⟨.other, 1, 8, [.pointer none]⟩ := TI.mk' (z := (.pointer none)) (TD.mkOther (by kernel_rfl)) (by kernel_rfl) rfl rfl rfl
-- interface {}
theorem tab20 : TI.Ok Tryd.prog 20 ⟨.other, 1, 16, [.nilIface]⟩ := TI.mk' (z := (.nilIface)) (TD.mkOther (by kernel_rfl)) (by kernel_rfl) rfl rfl rfl
-- int32
theorem tab21 : TI.Ok Tryd.prog 21 ⟨.int .i32, 1, 4, [.int .i32 0]⟩ := TI.mk' (z := (.int .i32 0)) (show Tryd.prog.underlying 21 = some (.int .i32) by kernel_rfl) (by kernel_rfl) rfl rfl rfl
-- uint64
theorem tab22 : TI.Ok Tryd.prog 22 ⟨.int .u64, 1, 8, [.int .u64 0]⟩ := TI.mk' (z := (.int .u64 0)) (show Tryd.prog.underlying 22 = some (.int .u64) by kernel_rfl) (by kernel_rfl) rfl rfl rfl
-- struct { N int; Bits uint64 }
theorem tab23 : TI.Ok Tryd.prog 23 ⟨.struct [(0, 3), (1, 22)], 2, 16, [.int .i64 0, .int .u64 0]⟩ := TI.mk' (z := (.agg #[.int .i64 0, .int .u64 0])) (TD.mkStruct (l := [(0, 3), (1, 22)]) (by kernel_rfl) (by kernel_rfl) (by kernel_rfl)) (by kernel_rfl) rfl rfl rfl
-- api.Table
theorem tab24 : TI.Ok Tryd.prog 24 ⟨.struct [(0, 3), (1, 22)], 2, 16, [.int .i64 0, .int .u64 0]⟩ := TI.mk' (z := (.agg #[.int .i64 0, .int .u64 0])) (TD.mkStruct (l := [(0, 3), (1, 22)]) (by kernel_rfl) (by kernel_rfl) (by kernel_rfl)) (by kernel_rfl) rfl rfl rfl
-- [6]uint8
theorem tab25 : TI.Ok Tryd.prog 25 ⟨.array 6 5, 6, 6, [.int .u8 0, .int .u8 0, .int .u8 0, .int .u8 0, .int .u8 0, .int .u8 0]⟩ := TI.mk' (z := (.agg #[.int .u8 0, .int .u8 0, .int .u8 0, .int .u8 0, .int .u8 0, .int .u8 0])) (show Tryd.prog.underlying 25 = some (.array 6 5) by kernel_rfl) (by kernel_rfl) rfl rfl rfl
-- func(api.Table) int
theorem tab26 : TI.Ok Tryd.prog 26 ⟨.other, 1, 8, [.nilFunc]⟩ := TI.mk' (z := (.nilFunc)) (TD.mkOther (by kernel_rfl)) (by kernel_rfl) rfl rfl rfl
-- func() bool
theorem tab27 : TI.Ok Tryd.prog 27 ⟨.other, 1, 8, [.nilFunc]⟩ := TI.mk' (z := (.nilFunc)) (TD.mkOther (by kernel_rfl)) (by kernel_rfl) rfl rfl rfl
-- []int
theorem tab28 : TI.Ok Tryd.prog 28 ⟨.slice 3, 1, 24, [.slice none 0 0]⟩ := TI.mk' (z := (.slice none 0 0)) (show Tryd.prog.underlying 28 = some (.slice 3) by kernel_rfl) (by kernel_rfl) rfl rfl rfl
-- api.Errno
theorem tab29 : TI.Ok Tryd.prog 29 ⟨.int .i64, 1, 8, [.int .i64 0]⟩ := TI.mk' (z := (.int .i64 0)) (show Tryd.prog.underlying 29 = some (.int .i64) by kernel_rfl) (by kernel_rfl) rfl rfl rfl
-- func(api.Table, []int) (api.Table, api.Errno)
theorem tab31 : TI.Ok Tryd.prog 31 ⟨.other, 1, 8, [.nilFunc]⟩ := TI.mk' (z := (.nilFunc)) (TD.mkOther (by kernel_rfl)) (by kernel_rfl) rfl rfl rfl
-- func(api.Table) ([]int, api.Errno)
theorem tab33 : TI.Ok Tryd.prog 33 ⟨.other, 1, 8, [.nilFunc]⟩ := TI.mk' (z := (.nilFunc)) (TD.mkOther (by kernel_rfl)) (by kernel_rfl) rfl rfl rfl
-- func(api.Table) (string, api.Errno)
theorem tab35 : TI.Ok Tryd.prog 35 ⟨.other, 1, 8, [.nilFunc]⟩ := TI.mk' (z := (.nilFunc)) (TD.mkOther (by kernel_rfl)) (by kernel_rfl) rfl rfl rfl
-- func(string) (api.Table, api.Errno)
theorem tab36 : TI.Ok Tryd.prog 36 ⟨.other, 1, 8, [.nilFunc]⟩ := TI.mk' (z := (.nilFunc)) (TD.mkOther (by kernel_rfl)) (by kernel_rfl) rfl rfl rfl
-- func(int) int
theorem tab37 : TI.Ok Tryd.prog 37 ⟨.other, 1, 8, [.nilFunc]⟩ := TI.mk' (z := (.nilFunc)) (TD.mkOther (by kernel_rfl)) (by kernel_rfl) rfl rfl rfl
-- func(api.Table, [6]uint8) bool
theorem tab38 : TI.Ok Tryd.prog 38 ⟨.other, 1, 8, [.nilFunc]⟩ := TI.mk' (z := (.nilFunc)) (TD.mkOther (by kernel_rfl)) (by kernel_rfl) rfl rfl rfl
-- func(int, int) (api.Table, api.Errno)
theorem tab39 : TI.Ok Tryd.prog 39 ⟨.other, 1, 8, [.nilFunc]⟩ := TI.mk' (z := (.nilFunc)) (TD.mkOther (by kernel_rfl)) (by kernel_rfl) rfl rfl rfl
-- func(api.Table, api.Table) (api.Table, api.Errno)
theorem tab40 : TI.Ok Tryd.prog 40 ⟨.other, 1, 8, [.nilFunc]⟩ := TI.mk' (z := (.nilFunc)) (TD.mkOther (by kernel_rfl)) (by kernel_rfl) rfl rfl rfl
-- func(api.Table, int, bool) (api.Table, api.Errno)
theorem tab41 : TI.Ok Tryd.prog 41 ⟨.other, 1, 8, [.nilFunc]⟩ := TI.mk' (z := (.nilFunc)) (TD.mkOther (by kernel_rfl)) (by kernel_rfl) rfl rfl rfl
-- func(api.Table, int) (bool, bool, api.Errno)
theorem tab43 : TI.Ok Tryd.prog 43 ⟨.other, 1, 8, [.nilFunc]⟩ := TI.mk' (z := (.nilFunc)) (TD.mkOther (by kernel_rfl)) (by kernel_rfl) rfl rfl rfl
-- func(api.Table) api.Errno
theorem tab44 : TI.Ok Tryd.prog 44 ⟨.other, 1, 8, [.nilFunc]⟩ := TI.mk' (z := (.nilFunc)) (TD.mkOther (by kernel_rfl)) (by kernel_rfl) rfl rfl rfl
-- func([]int, int) bool
theorem tab45 : TI.Ok Tryd.prog 45 ⟨.other, 1, 8, [.nilFunc]⟩ := TI.mk' (z := (.nilFunc)) (TD.mkOther (by kernel_rfl)) (by kernel_rfl) rfl rfl rfl
-- func(int, func(int) bool) api.Table
theorem tab46 : TI.Ok Tryd.prog 46 ⟨.other, 1, 8, [.nilFunc]⟩ := TI.mk' (z := (.nilFunc)) (TD.mkOther (by kernel_rfl)) (by kernel_rfl) rfl rfl rfl
-- func(api.Table, int) bool
theorem tab47 : TI.Ok Tryd.prog 47 ⟨.other, 1, 8, [.nilFunc]⟩ := TI.mk' (z := (.nilFunc)) (TD.mkOther (by kernel_rfl)) (by kernel_rfl) rfl rfl rfl
-- func(int) bool
theorem tab48 : TI.Ok Tryd.prog 48 ⟨.other, 1, 8, [.nilFunc]⟩ := TI.mk' (z := (.nilFunc)) (TD.mkOther (by kernel_rfl)) (by kernel_rfl) rfl rfl rfl
-- func(func(int) bool)
theorem tab49 : TI.Ok Tryd.prog 49 ⟨.other, 1, 8, [.nilFunc]⟩ := TI.mk' (z := (.nilFunc)) (TD.mkOther (by kernel_rfl)) (by kernel_rfl) rfl rfl rfl
-- iter.Seq[int]
theorem tab50 : TI.Ok Tryd.prog 50 ⟨.other, 1, 8, [.nilFunc]⟩ := TI.mk' (z := (.nilFunc)) (TD.mkOther (by kernel_rfl)) (by kernel_rfl) rfl rfl rfl
-- func(int) iter.Seq[int]
theorem tab51 : TI.Ok Tryd.prog 51 ⟨.other, 1, 8, [.nilFunc]⟩ := TI.mk' (z := (.nilFunc)) (TD.mkOther (by kernel_rfl)) (by kernel_rfl) rfl rfl rfl
-- *strings.Builder
theorem tab52 : TI.Ok Tryd.prog 52 ⟨.other, 1, 8, [.pointer none]⟩ := TI.mk' (z := (.pointer none)) (TD.mkOther (by kernel_rfl)) (by kernel_rfl) rfl rfl rfl
-- []uint8
theorem tab53 : TI.Ok Tryd.prog 53 ⟨.slice 5, 1, 24, [.slice none 0 0]⟩ := TI.mk' (z := (.slice none 0 0)) (show Tryd.prog.underlying 53 = some (.slice 5) by kernel_rfl) (by kernel_rfl) rfl rfl rfl
-- struct { addr *strings.Builder; buf []uint8 }
theorem tab54 : TI.Ok Tryd.prog 54 ⟨.struct [(0, 52), (1, 53)], 2, 32, [.pointer none, .slice none 0 0]⟩ := TI.mk' (z := (.agg #[.pointer none, .slice none 0 0])) (TD.mkStruct (l := [(0, 52), (1, 53)]) (by kernel_rfl) (by kernel_rfl) (by kernel_rfl)) (by kernel_rfl) rfl rfl rfl
-- strings.Builder
theorem tab55 : TI.Ok Tryd.prog 55 ⟨.struct [(0, 52), (1, 53)], 2, 32, [.pointer none, .slice none 0 0]⟩ := TI.mk' (z := (.agg #[.pointer none, .slice none 0 0])) (TD.mkStruct (l := [(0, 52), (1, 53)]) (by kernel_rfl) (by kernel_rfl) (by kernel_rfl)) (by kernel_rfl) rfl rfl rfl
-- interface { Error() string }
theorem tab56 : TI.Ok Tryd.prog 56 ⟨.other, 1, 16, [.nilIface]⟩ := TI.mk' (z := (.nilIface)) (TD.mkOther (by kernel_rfl)) (by kernel_rfl) rfl rfl rfl
-- error
theorem tab57 : TI.Ok Tryd.prog 57 ⟨.other, 1, 16, [.nilIface]⟩ := TI.mk' (z := (.nilIface)) (TD.mkOther (by kernel_rfl)) (by kernel_rfl) rfl rfl rfl
-- func(uint8) error
theorem tab58 : TI.Ok Tryd.prog 58 ⟨.other, 1, 8, [.nilFunc]⟩ := TI.mk' (z := (.nilFunc)) (TD.mkOther (by kernel_rfl)) (by kernel_rfl) rfl rfl rfl
-- func() string
theorem tab59 : TI.Ok Tryd.prog 59 ⟨.other, 1, 8, [.nilFunc]⟩ := TI.mk' (z := (.nilFunc)) (TD.mkOther (by kernel_rfl)) (by kernel_rfl) rfl rfl rfl
-- func(uint) int
theorem tab60 : TI.Ok Tryd.prog 60 ⟨.other, 1, 8, [.nilFunc]⟩ := TI.mk' (z := (.nilFunc)) (TD.mkOther (by kernel_rfl)) (by kernel_rfl) rfl rfl rfl
-- uint
theorem tab61 : TI.Ok Tryd.prog 61 ⟨.int .u64, 1, 8, [.int .u64 0]⟩ := TI.mk' (z := (.int .u64 0)) (show Tryd.prog.underlying 61 = some (.int .u64) by kernel_rfl) (by kernel_rfl) rfl rfl rfl
-- func(api.Table, api.Table, func(uint64, uint64) uint64) (api.Table, api.Errno)
theorem tab62 : TI.Ok Tryd.prog 62 ⟨.other, 1, 8, [.nilFunc]⟩ := TI.mk' (z := (.nilFunc)) (TD.mkOther (by kernel_rfl)) (by kernel_rfl) rfl rfl rfl
-- func(uint64, uint64) uint64
theorem tab63 : TI.Ok Tryd.prog 63 ⟨.other, 1, 8, [.nilFunc]⟩ := TI.mk' (z := (.nilFunc)) (TD.mkOther (by kernel_rfl)) (by kernel_rfl) rfl rfl rfl
-- func(api.Table, int) api.Errno
theorem tab64 : TI.Ok Tryd.prog 64 ⟨.other, 1, 8, [.nilFunc]⟩ := TI.mk' (z := (.nilFunc)) (TD.mkOther (by kernel_rfl)) (by kernel_rfl) rfl rfl rfl
-- func(api.Table, int, bool) api.Table
theorem tab65 : TI.Ok Tryd.prog 65 ⟨.other, 1, 8, [.nilFunc]⟩ := TI.mk' (z := (.nilFunc)) (TD.mkOther (by kernel_rfl)) (by kernel_rfl) rfl rfl rfl
-- func(int) uint64
theorem tab66 : TI.Ok Tryd.prog 66 ⟨.other, 1, 8, [.nilFunc]⟩ := TI.mk' (z := (.nilFunc)) (TD.mkOther (by kernel_rfl)) (by kernel_rfl) rfl rfl rfl
-- func([]int, int) int
theorem tab67 : TI.Ok Tryd.prog 67 ⟨.other, 1, 8, [.nilFunc]⟩ := TI.mk' (z := (.nilFunc)) (TD.mkOther (by kernel_rfl)) (by kernel_rfl) rfl rfl rfl
-- *uint8
theorem tab68 : TI.Ok Tryd.prog 68 ⟨.other, 1, 8, [.pointer none]⟩ := TI.mk' (z := (.pointer none)) (TD.mkOther (by kernel_rfl)) (by kernel_rfl) rfl rfl rfl
-- func(uint32) int
theorem tab69 : TI.Ok Tryd.prog 69 ⟨.other, 1, 8, [.nilFunc]⟩ := TI.mk' (z := (.nilFunc)) (TD.mkOther (by kernel_rfl)) (by kernel_rfl) rfl rfl rfl
-- uint32
theorem tab70 : TI.Ok Tryd.prog 70 ⟨.int .u32, 1, 4, [.int .u32 0]⟩ := TI.mk' (z := (.int .u32 0)) (show Tryd.prog.underlying 70 = some (.int .u32) by kernel_rfl) (by kernel_rfl) rfl rfl rfl
-- func(uint64) int
theorem tab71 : TI.Ok Tryd.prog 71 ⟨.other, 1, 8, [.nilFunc]⟩ := TI.mk' (z := (.nilFunc)) (TD.mkOther (by kernel_rfl)) (by kernel_rfl) rfl rfl rfl
-- []api.Table
theorem tab72 : TI.Ok Tryd.prog 72 ⟨.slice 24, 1, 24, [.slice none 0 0]⟩ := TI.mk' (z := (.slice none 0 0)) (show Tryd.prog.underlying 72 = some (.slice 24) by kernel_rfl) (by kernel_rfl) rfl rfl rfl
-- unsafe.Pointer
theorem tab73 : TI.Ok Tryd.prog 73 ⟨.other, 1, 8, [.pointer none]⟩ := TI.mk' (z := (.pointer none)) (TD.mkOther (by kernel_rfl)) (by kernel_rfl) rfl rfl rfl
-- func(unsafe.Pointer) unsafe.Pointer
theorem tab74 : TI.Ok Tryd.prog 74 ⟨.other, 1, 8, [.nilFunc]⟩ := TI.mk' (z := (.nilFunc)) (TD.mkOther (by kernel_rfl)) (by kernel_rfl) rfl rfl rfl
-- [32]uint8
theorem tab75 : TI.Ok Tryd.prog 75 ⟨.array 32 5, 32, 32, [.int .u8 0, .int .u8 0, .int .u8 0, .int .u8 0, .int .u8 0, .int .u8 0, .int .u8 0, .int .u8 0, .int .u8 0, .int .u8 0, .int .u8 0, .int .u8 0, .int .u8 0, .int .u8 0, .int .u8 0, .int .u8 0, .int .u8 0, .int .u8 0, .int .u8 0, .int .u8 0, .int .u8 0, .int .u8 0, .int .u8 0, .int .u8 0, .int .u8 0, .int .u8 0, .int .u8 0, .int .u8 0, .int .u8 0, .int .u8 0, .int .u8 0, .int .u8 0]⟩ := TI.mk' (z := (.agg #[.int .u8 0, .int .u8 0, .int .u8 0, .int .u8 0, .int .u8 0, .int .u8 0, .int .u8 0, .int .u8 0, .int .u8 0, .int .u8 0, .int .u8 0, .int .u8 0, .int .u8 0, .int .u8 0, .int .u8 0, .int .u8 0, .int .u8 0, .int .u8 0, .int .u8 0, .int .u8 0, .int .u8 0, .int .u8 0, .int .u8 0, .int .u8 0, .int .u8 0, .int .u8 0, .int .u8 0, .int .u8 0, .int .u8 0, .int .u8 0, .int .u8 0, .int .u8 0])) (show Tryd.prog.underlying 75 = some (.array 32 5) by kernel_rfl) (by kernel_rfl) rfl rfl rfl
-- [64]uint8
theorem tab76 : TI.Ok Tryd.prog 76 ⟨.array 64 5, 64, 64, [.int .u8 0, .int .u8 0, .int .u8 0, .int .u8 0, .int .u8 0, .int .u8 0, .int .u8 0, .int .u8 0, .int .u8 0, .int .u8 0, .int .u8 0, .int .u8 0, .int .u8 0, .int .u8 0, .int .u8 0, .int .u8 0, .int .u8 0, .int .u8 0, .int .u8 0, .int .u8 0, .int .u8 0, .int .u8 0, .int .u8 0, .int .u8 0, .int .u8 0, .int .u8 0, .int .u8 0, .int .u8 0, .int .u8 0, .int .u8 0, .int .u8 0, .int .u8 0, .int .u8 0, .int .u8 0, .int .u8 0, .int .u8 0, .int .u8 0, .int .u8 0, .int .u8 0, .int .u8 0, .int .u8 0, .int .u8 0, .int .u8 0, .int .u8 0, .int .u8 0, .int .u8 0, .int .u8 0, .int .u8 0, .int .u8 0, .int .u8 0, .int .u8 0, .int .u8 0, .int .u8 0, .int .u8 0, .int .u8 0, .int .u8 0, .int .u8 0, .int .u8 0, .int .u8 0, .int .u8 0, .int .u8 0, .int .u8 0, .int .u8 0, .int .u8 0]⟩ := TI.mk' (z := (.agg #[.int .u8 0, .int .u8 0, .int .u8 0, .int .u8 0, .int .u8 0, .int .u8 0, .int .u8 0, .int .u8 0, .int .u8 0, .int .u8 0, .int .u8 0, .int .u8 0, .int .u8 0, .int .u8 0, .int .u8 0, .int .u8 0, .int .u8 0, .int .u8 0, .int .u8 0, .int .u8 0, .int .u8 0, .int .u8 0, .int .u8 0, .int .u8 0, .int .u8 0, .int .u8 0, .int .u8 0, .int .u8 0, .int .u8 0, .int .u8 0, .int .u8 0, .int .u8 0, .int .u8 0, .int .u8 0, .int .u8 0, .int .u8 0, .int .u8 0, .int .u8 0, .int .u8 0, .int .u8 0, .int .u8 0, .int .u8 0, .int .u8 0, .int .u8 0, .int .u8 0, .int .u8 0, .int .u8 0, .int .u8 0, .int .u8 0, .int .u8 0, .int .u8 0, .int .u8 0, .int .u8 0, .int .u8 0, .int .u8 0, .int .u8 0, .int .u8 0, .int .u8 0, .int .u8 0, .int .u8 0, .int .u8 0, .int .u8 0, .int .u8 0, .int .u8 0])) (show Tryd.prog.underlying 76 = some (.array 64 5) by kernel_rfl) (by kernel_rfl) rfl rfl rfl
-- [0]*runtime.PanicNilError
theorem tab79 : TI.Ok Tryd.prog 79 ⟨.array 0 16, 0, 0, []⟩ := TI.mk' (z := (.agg #[])) (show Tryd.prog.underlying 79 = some (.array 0 16) by kernel_rfl) (by kernel_rfl) rfl rfl rfl
-- func() int
theorem tab82 : TI.Ok Tryd.prog 82 ⟨.other, 1, 8, [.nilFunc]⟩ := TI.mk' (z := (.nilFunc)) (TD.mkOther (by kernel_rfl)) (by kernel_rfl) rfl rfl rfl
-- abi.TFlag
theorem tab83 : TI.Ok Tryd.prog 83 ⟨.int .u8, 1, 1, [.int .u8 0]⟩ := TI.mk' (z := (.int .u8 0)) (show Tryd.prog.underlying 83 = some (.int .u8) by kernel_rfl) (by kernel_rfl) rfl rfl rfl
-- abi.Kind
theorem tab84 : TI.Ok Tryd.prog 84 ⟨.int .u8, 1, 1, [.int .u8 0]⟩ := TI.mk' (z := (.int .u8 0)) (show Tryd.prog.underlying 84 = some (.int .u8) by kernel_rfl) (by kernel_rfl) rfl rfl rfl
-- func(unsafe.Pointer, unsafe.Pointer) bool
theorem tab85 : TI.Ok Tryd.prog 85 ⟨.other, 1, 8, [.nilFunc]⟩ := TI.mk' (z := (.nilFunc)) (TD.mkOther (by kernel_rfl)) (by kernel_rfl) rfl rfl rfl
-- abi.NameOff
theorem tab86 : TI.Ok Tryd.prog 86 ⟨.int .i32, 1, 4, [.int .i32 0]⟩ := TI.mk' (z := (.int .i32 0)) (show Tryd.prog.underlying 86 = some (.int .i32) by kernel_rfl) (by kernel_rfl) rfl rfl rfl
-- abi.TypeOff
theorem tab87 : TI.Ok Tryd.prog 87 ⟨.int .i32, 1, 4, [.int .i32 0]⟩ := TI.mk' (z := (.int .i32 0)) (show Tryd.prog.underlying 87 = some (.int .i32) by kernel_rfl) (by kernel_rfl) rfl rfl rfl

def tab : Tab := [
  (1, ⟨.other, 1, 8, [.nilFunc]⟩),
  (2, ⟨.int .i64, 1, 8, [.int .i64 0]⟩),
  (3, ⟨.int .i64, 1, 8, [.int .i64 0]⟩),
  (4, ⟨.bool, 1, 1, [.bool false]⟩),
  (5, ⟨.int .u8, 1, 1, [.int .u8 0]⟩),
  (6, ⟨.int .u8, 1, 1, [.int .u8 0]⟩),
  (7, ⟨.struct [(0, 2), (1, 3), (2, 4), (3, 6)], 4, 24, [.int .i64 0, .int .i64 0, .bool false, .int .u8 0]⟩),
  (8, ⟨.struct [(0, 2), (1, 3), (2, 4), (3, 6)], 4, 24, [.int .i64 0, .int .i64 0, .bool false, .int .u8 0]⟩),
  (9, ⟨.string, 1, 16, [.string ByteArray.empty]⟩),
  (10, ⟨.string, 1, 16, [.string ByteArray.empty]⟩),
  (11, ⟨.string, 1, 16, [.string ByteArray.empty]⟩),
  (12, ⟨.int .u64, 1, 8, [.int .u64 0]⟩),
  (15, ⟨.other, 1, 8, [.pointer none]⟩),
  (16, ⟨.other, 1, 8, [.pointer none]⟩),
  (17, ⟨.other, 1, 8, [.pointer none]⟩),
  (20, ⟨.other, 1, 16, [.nilIface]⟩),
  (21, ⟨.int .i32, 1, 4, [.int .i32 0]⟩),
  (22, ⟨.int .u64, 1, 8, [.int .u64 0]⟩),
  (23, ⟨.struct [(0, 3), (1, 22)], 2, 16, [.int .i64 0, .int .u64 0]⟩),
  (24, ⟨.struct [(0, 3), (1, 22)], 2, 16, [.int .i64 0, .int .u64 0]⟩),
  (25, ⟨.array 6 5, 6, 6, [.int .u8 0, .int .u8 0, .int .u8 0, .int .u8 0, .int .u8 0, .int .u8 0]⟩),
  (26, ⟨.other, 1, 8, [.nilFunc]⟩),
  (27, ⟨.other, 1, 8, [.nilFunc]⟩),
  (28, ⟨.slice 3, 1, 24, [.slice none 0 0]⟩),
  (29, ⟨.int .i64, 1, 8, [.int .i64 0]⟩),
  (31, ⟨.other, 1, 8, [.nilFunc]⟩),
  (33, ⟨.other, 1, 8, [.nilFunc]⟩),
  (35, ⟨.other, 1, 8, [.nilFunc]⟩),
  (36, ⟨.other, 1, 8, [.nilFunc]⟩),
  (37, ⟨.other, 1, 8, [.nilFunc]⟩),
  (38, ⟨.other, 1, 8, [.nilFunc]⟩),
  (39, ⟨.other, 1, 8, [.nilFunc]⟩),
  (40, ⟨.other, 1, 8, [.nilFunc]⟩),
  (41, ⟨.other, 1, 8, [.nilFunc]⟩),
  (43, ⟨.other, 1, 8, [.nilFunc]⟩),
  (44, ⟨.other, 1, 8, [.nilFunc]⟩),
  (45, ⟨.other, 1, 8, [.nilFunc]⟩),
  (46, ⟨.other, 1, 8, [.nilFunc]⟩),
  (47, ⟨.other, 1, 8, [.nilFunc]⟩),
  (48, ⟨.other, 1, 8, [.nilFunc]⟩),
  (49, ⟨.other, 1, 8, [.nilFunc]⟩),
  (50, ⟨.other, 1, 8, [.nilFunc]⟩),
  (51, ⟨.other, 1, 8, [.nilFunc]⟩),
  (52, ⟨.other, 1, 8, [.pointer none]⟩),
  (53, ⟨.slice 5, 1, 24, [.slice none 0 0]⟩),
  (54, ⟨.struct [(0, 52), (1, 53)], 2, 32, [.pointer none, .slice none 0 0]⟩),
  (55, ⟨.struct [(0, 52), (1, 53)], 2, 32, [.pointer none, .slice none 0 0]⟩),
  (56, ⟨.other, 1, 16, [.nilIface]⟩),
  (57, ⟨.other, 1, 16, [.nilIface]⟩),
  (58, ⟨.other, 1, 8, [.nilFunc]⟩),
  (59, ⟨.other, 1, 8, [.nilFunc]⟩),
  (60, ⟨.other, 1, 8, [.nilFunc]⟩),
  (61, ⟨.int .u64, 1, 8, [.int .u64 0]⟩),
  (62, ⟨.other, 1, 8, [.nilFunc]⟩),
  (63, ⟨.other, 1, 8, [.nilFunc]⟩),
  (64, ⟨.other, 1, 8, [.nilFunc]⟩),
  (65, ⟨.other, 1, 8, [.nilFunc]⟩),
  (66, ⟨.other, 1, 8, [.nilFunc]⟩),
  (67, ⟨.other, 1, 8, [.nilFunc]⟩),
  (68, ⟨.other, 1, 8, [.pointer none]⟩),
  (69, ⟨.other, 1, 8, [.nilFunc]⟩),
  (70, ⟨.int .u32, 1, 4, [.int .u32 0]⟩),
  (71, ⟨.other, 1, 8, [.nilFunc]⟩),
  (72, ⟨.slice 24, 1, 24, [.slice none 0 0]⟩),
  (73, ⟨.other, 1, 8, [.pointer none]⟩),
  (74, ⟨.other, 1, 8, [.nilFunc]⟩),
  (75, ⟨.array 32 5, 32, 32, [.int .u8 0, .int .u8 0, .int .u8 0, .int .u8 0, .int .u8 0, .int .u8 0, .int .u8 0, .int .u8 0, .int .u8 0, .int .u8 0, .int .u8 0, .int .u8 0, .int .u8 0, .int .u8 0, .int .u8 0, .int .u8 0, .int .u8 0, .int .u8 0, .int .u8 0, .int .u8 0, .int .u8 0, .int .u8 0, .int .u8 0, .int .u8 0, .int .u8 0, .int .u8 0, .int .u8 0, .int .u8 0, .int .u8 0, .int .u8 0, .int .u8 0, .int .u8 0]⟩),
  (76, ⟨.array 64 5, 64, 64, [.int .u8 0, .int .u8 0, .int .u8 0, .int .u8 0, .int .u8 0, .int .u8 0, .int .u8 0, .int .u8 0, .int .u8 0, .int .u8 0, .int .u8 0, .int .u8 0, .int .u8 0, .int .u8 0, .int .u8 0, .int .u8 0, .int .u8 0, .int .u8 0, .int .u8 0, .int .u8 0, .int .u8 0, .int .u8 0, .int .u8 0, .int .u8 0, .int .u8 0, .int .u8 0, .int .u8 0, .int .u8 0, .int .u8 0, .int .u8 0, .int .u8 0, .int .u8 0, .int .u8 0, .int .u8 0, .int .u8 0, .int .u8 0, .int .u8 0, .int .u8 0, .int .u8 0, .int .u8 0, .int .u8 0, .int .u8 0, .int .u8 0, .int .u8 0, .int .u8 0, .int .u8 0, .int .u8 0, .int .u8 0, .int .u8 0, .int .u8 0, .int .u8 0, .int .u8 0, .int .u8 0, .int .u8 0, .int .u8 0, .int .u8 0, .int .u8 0, .int .u8 0, .int .u8 0, .int .u8 0, .int .u8 0, .int .u8 0, .int .u8 0, .int .u8 0]⟩),
  (79, ⟨.array 0 16, 0, 0, []⟩),
  (82, ⟨.other, 1, 8, [.nilFunc]⟩),
  (83, ⟨.int .u8, 1, 1, [.int .u8 0]⟩),
  (84, ⟨.int .u8, 1, 1, [.int .u8 0]⟩),
  (85, ⟨.other, 1, 8, [.nilFunc]⟩),
  (86, ⟨.int .i32, 1, 4, [.int .i32 0]⟩),
  (87, ⟨.int .i32, 1, 4, [.int .i32 0]⟩)]
theorem tab_ok : tab.Ok Tryd.prog :=
  Tab.ok_cons tab1 <| Tab.ok_cons tab2 <| Tab.ok_cons tab3 <| Tab.ok_cons tab4 <| Tab.ok_cons tab5 <| Tab.ok_cons tab6 <| Tab.ok_cons tab7 <| Tab.ok_cons tab8 <| Tab.ok_cons tab9 <| Tab.ok_cons tab10 <| Tab.ok_cons tab11 <| Tab.ok_cons tab12 <| Tab.ok_cons tab15 <| Tab.ok_cons tab16 <| Tab.ok_cons tab17 <| Tab.ok_cons tab20 <| Tab.ok_cons tab21 <| Tab.ok_cons tab22 <| Tab.ok_cons tab23 <| Tab.ok_cons tab24 <| Tab.ok_cons tab25 <| Tab.ok_cons tab26 <| Tab.ok_cons tab27 <| Tab.ok_cons tab28 <| Tab.ok_cons tab29 <| Tab.ok_cons tab31 <| Tab.ok_cons tab33 <| Tab.ok_cons tab35 <| Tab.ok_cons tab36 <| Tab.ok_cons tab37 <| Tab.ok_cons tab38 <| Tab.ok_cons tab39 <| Tab.ok_cons tab40 <| Tab.ok_cons tab41 <| Tab.ok_cons tab43 <| Tab.ok_cons tab44 <| Tab.ok_cons tab45 <| Tab.ok_cons tab46 <| Tab.ok_cons tab47 <| Tab.ok_cons tab48 <| Tab.ok_cons tab49 <| Tab.ok_cons tab50 <| Tab.ok_cons tab51 <| Tab.ok_cons tab52 <| Tab.ok_cons tab53 <| Tab.ok_cons tab54 <| Tab.ok_cons tab55 <| Tab.ok_cons tab56 <| Tab.ok_cons tab57 <| Tab.ok_cons tab58 <| Tab.ok_cons tab59 <| Tab.ok_cons tab60 <| Tab.ok_cons tab61 <| Tab.ok_cons tab62 <| Tab.ok_cons tab63 <| Tab.ok_cons tab64 <| Tab.ok_cons tab65 <| Tab.ok_cons tab66 <| Tab.ok_cons tab67 <| Tab.ok_cons tab68 <| Tab.ok_cons tab69 <| Tab.ok_cons tab70 <| Tab.ok_cons tab71 <| Tab.ok_cons tab72 <| Tab.ok_cons tab73 <| Tab.ok_cons tab74 <| Tab.ok_cons tab75 <| Tab.ok_cons tab76 <| Tab.ok_cons tab79 <| Tab.ok_cons tab82 <| Tab.ok_cons tab83 <| Tab.ok_cons tab84 <| Tab.ok_cons tab85 <| Tab.ok_cons tab86 <| Tab.ok_cons tab87 <| Tab.ok_nil
theorem mixed : Tryd.prog.follows .mixedOrders = true := by kernel_rfl
end Go.Sx.Pn
