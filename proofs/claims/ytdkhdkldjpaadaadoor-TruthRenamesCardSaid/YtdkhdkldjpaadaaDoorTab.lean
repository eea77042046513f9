/- The seat's types, for the symbolic executor. Printed by a program. -/
import Derived.Test.YtdkhdkldjpaadaaDoorProg
import Derived.Test.YtdkhdkldjpaadaaDoorSxE
namespace Go.Sx.Pn
open Go Go.Proofs Go.Sx

-- func()
theorem tab1 : TI.Ok Tryd.prog 1 ⟨.other, 1, 8, [.nilFunc]⟩ := TI.mk' (z := (.nilFunc)) (TD.mkOther (by kernel_rfl)) (by kernel_rfl) rfl rfl rfl
-- int64
theorem tab2 : TI.Ok Tryd.prog 2 ⟨.int .i64, 1, 8, [.int .i64 0]⟩ := TI.mk' (z := (.int .i64 0)) (show Tryd.prog.underlying 2 = some (.int .i64) by kernel_rfl) (by kernel_rfl) rfl rfl rfl
-- int
theorem tab3 : TI.Ok Tryd.prog 3 ⟨.int .i64, 1, 8, [.int .i64 0]⟩ := TI.mk' (z := (.int .i64 0)) (show Tryd.prog.underlying 3 = some (.int .i64) by kernel_rfl) (by kernel_rfl) rfl rfl rfl
-- bool
theorem tab4 : TI.Ok Tryd.prog 4 ⟨.bool, 1, 1, [.bool false]⟩ := TI.mk' (z := (.bool false)) (show Tryd.prog.underlying 4 = some (.bool) by kernel_rfl) (by kernel_rfl) rfl rfl rfl
-- uint8
theorem tab5 : TI.Ok Tryd.prog 5 ⟨.int .u8, 1, 1, [.int .u8 0]⟩ := TI.mk' (z := (.int .u8 0)) (show Tryd.prog.underlying 5 = some (.int .u8) by kernel_rfl) (by kernel_rfl) rfl rfl rfl
-- abi.BoundsErrorCode
theorem tab6 : TI.Ok Tryd.prog 6 ⟨.int .u8, 1, 1, [.int .u8 0]⟩ := TI.mk' (z := (.int .u8 0)) (show Tryd.prog.underlying 6 = some (.int .u8) by kernel_rfl) (by kernel_rfl) rfl rfl rfl
-- struct { x int64; y int; signed bool; code abi.BoundsErrorCode }
theorem tab7 : TI.Ok Tryd.prog 7 ⟨.struct [(0, 2), (1, 3), (2, 4), (3, 6)], 4, 24, [.int .i64 0, .int .i64 0, .bool false, .int .u8 0]⟩ := TI.mk' (z := (.agg #[.int .i64 0, .int .i64 0, .bool false, .int .u8 0])) (TD.mkStruct (l := [(0, 2), (1, 3), (2, 4), (3, 6)]) (by kernel_rfl) (by kernel_rfl) (by kernel_rfl)) (by kernel_rfl) rfl rfl rfl
-- runtime.boundsError
theorem tab8 : TI.Ok Tryd.prog 8 ⟨.struct [(0, 2), (1, 3), (2, 4), (3, 6)], 4, 24, [.int .i64 0, .int .i64 0, .bool false, .int .u8 0]⟩ := TI.mk' (z := (.agg #[.int .i64 0, .int .i64 0, .bool false, .int .u8 0])) (TD.mkStruct (l := [(0, 2), (1, 3), (2, 4), (3, 6)]) (by kernel_rfl) (by kernel_rfl) (by kernel_rfl)) (by kernel_rfl) rfl rfl rfl
-- string
theorem tab9 : TI.Ok Tryd.prog 9 ⟨.string, 1, 16, [.string ByteArray.empty]⟩ := TI.mk' (z := (.string ByteArray.empty)) (show Tryd.prog.underlying 9 = some (.string) by kernel_rfl) (by kernel_rfl) rfl rfl rfl
-- runtime.errorString
theorem tab10 : TI.Ok Tryd.prog 10 ⟨.string, 1, 16, [.string ByteArray.empty]⟩ := TI.mk' (z := (.string ByteArray.empty)) (show Tryd.prog.underlying 10 = some (.string) by kernel_rfl) (by kernel_rfl) rfl rfl rfl
-- runtime.plainError
theorem tab11 : TI.Ok Tryd.prog 11 ⟨.string, 1, 16, [.string ByteArray.empty]⟩ := TI.mk' (z := (.string ByteArray.empty)) (show Tryd.prog.underlying 11 = some (.string) by kernel_rfl) (by kernel_rfl) rfl rfl rfl
-- uintptr
theorem tab12 : TI.Ok Tryd.prog 12 ⟨.int .u64, 1, 8, [.int .u64 0]⟩ := TI.mk' (z := (.int .u64 0)) (show Tryd.prog.underlying 12 = some (.int .u64) by kernel_rfl) (by kernel_rfl) rfl rfl rfl
-- *runtime.TypeAssertionError
theorem tab15 : TI.Ok Tryd.prog 15 ⟨.other, 1, 8, [.pointer none]⟩ := TI.mk' (z := (.pointer none)) (TD.mkOther (by kernel_rfl)) (by kernel_rfl) rfl rfl rfl
-- *runtime.PanicNilError
theorem tab16 : TI.Ok Tryd.prog 16 ⟨.other, 1, 8, [.pointer none]⟩ := TI.mk' (z := (.pointer none)) (TD.mkOther (by kernel_rfl)) (by kernel_rfl) rfl rfl rfl
-- *abi.Type
theorem tab17 : TI.Ok Tryd.prog 17 ⟨.other, 1, 8, [.pointer none]⟩ := TI.mk' (z := (.pointer none)) (TD.mkOther (by kernel_rfl)) (by kernel_rfl) rfl rfl rfl
-- interface {}
theorem tab20 : TI.Ok Tryd.prog 20 ⟨.other, 1, 16, [.nilIface]⟩ := TI.mk' (z := (.nilIface)) (TD.mkOther (by kernel_rfl)) (by kernel_rfl) rfl rfl rfl
-- int32
theorem tab21 : TI.Ok Tryd.prog 21 ⟨.int .i32, 1, 4, [.int .i32 0]⟩ := TI.mk' (z := (.int .i32 0)) (show Tryd.prog.underlying 21 = some (.int .i32) by kernel_rfl) (by kernel_rfl) rfl rfl rfl
-- uint64
theorem tab22 : TI.Ok Tryd.prog 22 ⟨.int .u64, 1, 8, [.int .u64 0]⟩ := TI.mk' (z := (.int .u64 0)) (show Tryd.prog.underlying 22 = some (.int .u64) by kernel_rfl) (by kernel_rfl) rfl rfl rfl
-- struct { N int; Bits uint64 }
theorem tab23 : TI.Ok Tryd.prog 23 ⟨.struct [(0, 3), (1, 22)], 2, 16, [.int .i64 0, .int .u64 0]⟩ := TI.mk' (z := (.agg #[.int .i64 0, .int .u64 0])) (TD.mkStruct (l := [(0, 3), (1, 22)]) (by kernel_rfl) (by kernel_rfl) (by kernel_rfl)) (by kernel_rfl) rfl rfl rfl
-- api.Table
theorem tab24 : TI.Ok Tryd.prog 24 ⟨.struct [(0, 3), (1, 22)], 2, 16, [.int .i64 0, .int .u64 0]⟩ := TI.mk' (z := (.agg #[.int .i64 0, .int .u64 0])) (TD.mkStruct (l := [(0, 3), (1, 22)]) (by kernel_rfl) (by kernel_rfl) (by kernel_rfl)) (by kernel_rfl) rfl rfl rfl
-- func() bool
theorem tab25 : TI.Ok Tryd.prog 25 ⟨.other, 1, 8, [.nilFunc]⟩ := TI.mk' (z := (.nilFunc)) (TD.mkOther (by kernel_rfl)) (by kernel_rfl) rfl rfl rfl
-- api.Errno
theorem tab26 : TI.Ok Tryd.prog 26 ⟨.int .i64, 1, 8, [.int .i64 0]⟩ := TI.mk' (z := (.int .i64 0)) (show Tryd.prog.underlying 26 = some (.int .i64) by kernel_rfl) (by kernel_rfl) rfl rfl rfl
-- func(api.Table) (string, api.Errno)
theorem tab28 : TI.Ok Tryd.prog 28 ⟨.other, 1, 8, [.nilFunc]⟩ := TI.mk' (z := (.nilFunc)) (TD.mkOther (by kernel_rfl)) (by kernel_rfl) rfl rfl rfl
-- func(api.Table) (string, int)
theorem tab30 : TI.Ok Tryd.prog 30 ⟨.other, 1, 8, [.nilFunc]⟩ := TI.mk' (z := (.nilFunc)) (TD.mkOther (by kernel_rfl)) (by kernel_rfl) rfl rfl rfl
-- func(string) (api.Table, api.Errno)
theorem tab32 : TI.Ok Tryd.prog 32 ⟨.other, 1, 8, [.nilFunc]⟩ := TI.mk' (z := (.nilFunc)) (TD.mkOther (by kernel_rfl)) (by kernel_rfl) rfl rfl rfl
-- func(string) (api.Table, int)
theorem tab34 : TI.Ok Tryd.prog 34 ⟨.other, 1, 8, [.nilFunc]⟩ := TI.mk' (z := (.nilFunc)) (TD.mkOther (by kernel_rfl)) (by kernel_rfl) rfl rfl rfl
-- func(api.Table, string) bool
theorem tab35 : TI.Ok Tryd.prog 35 ⟨.other, 1, 8, [.nilFunc]⟩ := TI.mk' (z := (.nilFunc)) (TD.mkOther (by kernel_rfl)) (by kernel_rfl) rfl rfl rfl
-- func(api.Table) (api.Table, api.Errno)
theorem tab36 : TI.Ok Tryd.prog 36 ⟨.other, 1, 8, [.nilFunc]⟩ := TI.mk' (z := (.nilFunc)) (TD.mkOther (by kernel_rfl)) (by kernel_rfl) rfl rfl rfl
-- func(api.Table) (api.Table, int)
theorem tab37 : TI.Ok Tryd.prog 37 ⟨.other, 1, 8, [.nilFunc]⟩ := TI.mk' (z := (.nilFunc)) (TD.mkOther (by kernel_rfl)) (by kernel_rfl) rfl rfl rfl
-- func(api.Table, api.Table) (api.Table, api.Errno)
theorem tab38 : TI.Ok Tryd.prog 38 ⟨.other, 1, 8, [.nilFunc]⟩ := TI.mk' (z := (.nilFunc)) (TD.mkOther (by kernel_rfl)) (by kernel_rfl) rfl rfl rfl
-- func(api.Table, api.Table) (api.Table, int)
theorem tab39 : TI.Ok Tryd.prog 39 ⟨.other, 1, 8, [.nilFunc]⟩ := TI.mk' (z := (.nilFunc)) (TD.mkOther (by kernel_rfl)) (by kernel_rfl) rfl rfl rfl
-- struct { own func(api.Table, api.Table) (api.Table, api.Errno); want func(api.Table, api.Table) (api.Table, int) }
theorem tab40 : TI.Ok Tryd.prog 40 ⟨.struct [(0, 38), (1, 39)], 2, 16, [.nilFunc, .nilFunc]⟩ := TI.mk' (z := (.agg #[.nilFunc, .nilFunc])) (TD.mkStruct (l := [(0, 38), (1, 39)]) (by kernel_rfl) (by kernel_rfl) (by kernel_rfl)) (by kernel_rfl) rfl rfl rfl
-- []struct { own func(api.Table, api.Table) (api.Table, api.Errno); want func(api.Table, api.Table) (api.Table, int) }
theorem tab41 : TI.Ok Tryd.prog 41 ⟨.slice 40, 1, 24, [.slice none 0 0]⟩ := TI.mk' (z := (.slice none 0 0)) (show Tryd.prog.underlying 41 = some (.slice 40) by kernel_rfl) (by kernel_rfl) rfl rfl rfl
-- func(api.Table, api.Table) bool
theorem tab42 : TI.Ok Tryd.prog 42 ⟨.other, 1, 8, [.nilFunc]⟩ := TI.mk' (z := (.nilFunc)) (TD.mkOther (by kernel_rfl)) (by kernel_rfl) rfl rfl rfl
-- func(api.Table) int
theorem tab43 : TI.Ok Tryd.prog 43 ⟨.other, 1, 8, [.nilFunc]⟩ := TI.mk' (z := (.nilFunc)) (TD.mkOther (by kernel_rfl)) (by kernel_rfl) rfl rfl rfl
-- func(func(api.Table, api.Table) (api.Table, api.Errno), api.Table, api.Table) api.Table
theorem tab44 : TI.Ok Tryd.prog 44 ⟨.other, 1, 8, [.nilFunc]⟩ := TI.mk' (z := (.nilFunc)) (TD.mkOther (by kernel_rfl)) (by kernel_rfl) rfl rfl rfl
-- func(api.Table) api.Table
theorem tab45 : TI.Ok Tryd.prog 45 ⟨.other, 1, 8, [.nilFunc]⟩ := TI.mk' (z := (.nilFunc)) (TD.mkOther (by kernel_rfl)) (by kernel_rfl) rfl rfl rfl
-- func(int, bool) (api.Table, api.Errno)
theorem tab46 : TI.Ok Tryd.prog 46 ⟨.other, 1, 8, [.nilFunc]⟩ := TI.mk' (z := (.nilFunc)) (TD.mkOther (by kernel_rfl)) (by kernel_rfl) rfl rfl rfl
-- func(api.Table, api.Table, api.Table) bool
theorem tab47 : TI.Ok Tryd.prog 47 ⟨.other, 1, 8, [.nilFunc]⟩ := TI.mk' (z := (.nilFunc)) (TD.mkOther (by kernel_rfl)) (by kernel_rfl) rfl rfl rfl
-- func(api.Table, int, bool) (api.Table, api.Errno)
theorem tab48 : TI.Ok Tryd.prog 48 ⟨.other, 1, 8, [.nilFunc]⟩ := TI.mk' (z := (.nilFunc)) (TD.mkOther (by kernel_rfl)) (by kernel_rfl) rfl rfl rfl
-- func(api.Table, int, bool) (api.Table, int)
theorem tab49 : TI.Ok Tryd.prog 49 ⟨.other, 1, 8, [.nilFunc]⟩ := TI.mk' (z := (.nilFunc)) (TD.mkOther (by kernel_rfl)) (by kernel_rfl) rfl rfl rfl
-- []int
theorem tab50 : TI.Ok Tryd.prog 50 ⟨.slice 3, 1, 24, [.slice none 0 0]⟩ := TI.mk' (z := (.slice none 0 0)) (show Tryd.prog.underlying 50 = some (.slice 3) by kernel_rfl) (by kernel_rfl) rfl rfl rfl
-- func(api.Table) ([]int, api.Errno)
theorem tab52 : TI.Ok Tryd.prog 52 ⟨.other, 1, 8, [.nilFunc]⟩ := TI.mk' (z := (.nilFunc)) (TD.mkOther (by kernel_rfl)) (by kernel_rfl) rfl rfl rfl
-- func(api.Table) ([]int, int)
theorem tab54 : TI.Ok Tryd.prog 54 ⟨.other, 1, 8, [.nilFunc]⟩ := TI.mk' (z := (.nilFunc)) (TD.mkOther (by kernel_rfl)) (by kernel_rfl) rfl rfl rfl
-- func(api.Table, int) (bool, bool, api.Errno)
theorem tab56 : TI.Ok Tryd.prog 56 ⟨.other, 1, 8, [.nilFunc]⟩ := TI.mk' (z := (.nilFunc)) (TD.mkOther (by kernel_rfl)) (by kernel_rfl) rfl rfl rfl
-- func(api.Table, int) (bool, bool, int)
theorem tab58 : TI.Ok Tryd.prog 58 ⟨.other, 1, 8, [.nilFunc]⟩ := TI.mk' (z := (.nilFunc)) (TD.mkOther (by kernel_rfl)) (by kernel_rfl) rfl rfl rfl
-- func([]int, []int) bool
theorem tab59 : TI.Ok Tryd.prog 59 ⟨.other, 1, 8, [.nilFunc]⟩ := TI.mk' (z := (.nilFunc)) (TD.mkOther (by kernel_rfl)) (by kernel_rfl) rfl rfl rfl
-- func(api.Table, int, bool) bool
theorem tab60 : TI.Ok Tryd.prog 60 ⟨.other, 1, 8, [.nilFunc]⟩ := TI.mk' (z := (.nilFunc)) (TD.mkOther (by kernel_rfl)) (by kernel_rfl) rfl rfl rfl
-- func(int, int) (api.Table, api.Errno)
theorem tab61 : TI.Ok Tryd.prog 61 ⟨.other, 1, 8, [.nilFunc]⟩ := TI.mk' (z := (.nilFunc)) (TD.mkOther (by kernel_rfl)) (by kernel_rfl) rfl rfl rfl
-- func([]int, int) bool
theorem tab62 : TI.Ok Tryd.prog 62 ⟨.other, 1, 8, [.nilFunc]⟩ := TI.mk' (z := (.nilFunc)) (TD.mkOther (by kernel_rfl)) (by kernel_rfl) rfl rfl rfl
-- func(api.Table, uint8) bool
theorem tab63 : TI.Ok Tryd.prog 63 ⟨.other, 1, 8, [.nilFunc]⟩ := TI.mk' (z := (.nilFunc)) (TD.mkOther (by kernel_rfl)) (by kernel_rfl) rfl rfl rfl
-- func(api.Table, []int) (api.Table, api.Errno)
theorem tab64 : TI.Ok Tryd.prog 64 ⟨.other, 1, 8, [.nilFunc]⟩ := TI.mk' (z := (.nilFunc)) (TD.mkOther (by kernel_rfl)) (by kernel_rfl) rfl rfl rfl
-- func(api.Table, []int) (api.Table, int)
theorem tab65 : TI.Ok Tryd.prog 65 ⟨.other, 1, 8, [.nilFunc]⟩ := TI.mk' (z := (.nilFunc)) (TD.mkOther (by kernel_rfl)) (by kernel_rfl) rfl rfl rfl
-- func(api.Table, []int) bool
theorem tab66 : TI.Ok Tryd.prog 66 ⟨.other, 1, 8, [.nilFunc]⟩ := TI.mk' (z := (.nilFunc)) (TD.mkOther (by kernel_rfl)) (by kernel_rfl) rfl rfl rfl
-- func(int, bool) (api.Table, int)
theorem tab67 : TI.Ok Tryd.prog 67 ⟨.other, 1, 8, [.nilFunc]⟩ := TI.mk' (z := (.nilFunc)) (TD.mkOther (by kernel_rfl)) (by kernel_rfl) rfl rfl rfl
-- func(int, int) (api.Table, int)
theorem tab68 : TI.Ok Tryd.prog 68 ⟨.other, 1, 8, [.nilFunc]⟩ := TI.mk' (z := (.nilFunc)) (TD.mkOther (by kernel_rfl)) (by kernel_rfl) rfl rfl rfl
-- func(api.Table, int) (bool, api.Errno)
theorem tab70 : TI.Ok Tryd.prog 70 ⟨.other, 1, 8, [.nilFunc]⟩ := TI.mk' (z := (.nilFunc)) (TD.mkOther (by kernel_rfl)) (by kernel_rfl) rfl rfl rfl
-- func(api.Table, int) (bool, int)
theorem tab72 : TI.Ok Tryd.prog 72 ⟨.other, 1, 8, [.nilFunc]⟩ := TI.mk' (z := (.nilFunc)) (TD.mkOther (by kernel_rfl)) (by kernel_rfl) rfl rfl rfl
-- func(api.Table) api.Errno
theorem tab73 : TI.Ok Tryd.prog 73 ⟨.other, 1, 8, [.nilFunc]⟩ := TI.mk' (z := (.nilFunc)) (TD.mkOther (by kernel_rfl)) (by kernel_rfl) rfl rfl rfl
-- func(api.Table, int, int) bool
theorem tab74 : TI.Ok Tryd.prog 74 ⟨.other, 1, 8, [.nilFunc]⟩ := TI.mk' (z := (.nilFunc)) (TD.mkOther (by kernel_rfl)) (by kernel_rfl) rfl rfl rfl
-- [6]uint8
theorem tab75 : TI.Ok Tryd.prog 75 ⟨.array 6 5, 6, 6, [.int .u8 0, .int .u8 0, .int .u8 0, .int .u8 0, .int .u8 0, .int .u8 0]⟩ := TI.mk' (z := (.agg #[.int .u8 0, .int .u8 0, .int .u8 0, .int .u8 0, .int .u8 0, .int .u8 0])) (show Tryd.prog.underlying 75 = some (.array 6 5) by kernel_rfl) (by kernel_rfl) rfl rfl rfl
-- func(int) int
theorem tab76 : TI.Ok Tryd.prog 76 ⟨.other, 1, 8, [.nilFunc]⟩ := TI.mk' (z := (.nilFunc)) (TD.mkOther (by kernel_rfl)) (by kernel_rfl) rfl rfl rfl
-- func(api.Table, [6]uint8) bool
theorem tab77 : TI.Ok Tryd.prog 77 ⟨.other, 1, 8, [.nilFunc]⟩ := TI.mk' (z := (.nilFunc)) (TD.mkOther (by kernel_rfl)) (by kernel_rfl) rfl rfl rfl
-- *strings.Builder
theorem tab78 : TI.Ok Tryd.prog 78 ⟨.other, 1, 8, [.pointer none]⟩ := TI.mk' (z := (.pointer none)) (TD.mkOther (by kernel_rfl)) (by kernel_rfl) rfl rfl rfl
-- []uint8
theorem tab79 : TI.Ok Tryd.prog 79 ⟨.slice 5, 1, 24, [.slice none 0 0]⟩ := TI.mk' (z := (.slice none 0 0)) (show Tryd.prog.underlying 79 = some (.slice 5) by kernel_rfl) (by kernel_rfl) rfl rfl rfl
-- struct { addr *strings.Builder; buf []uint8 }
theorem tab80 : TI.Ok Tryd.prog 80 ⟨.struct [(0, 78), (1, 79)], 2, 32, [.pointer none, .slice none 0 0]⟩ := TI.mk' (z := (.agg #[.pointer none, .slice none 0 0])) (TD.mkStruct (l := [(0, 78), (1, 79)]) (by kernel_rfl) (by kernel_rfl) (by kernel_rfl)) (by kernel_rfl) rfl rfl rfl
-- strings.Builder
theorem tab81 : TI.Ok Tryd.prog 81 ⟨.struct [(0, 78), (1, 79)], 2, 32, [.pointer none, .slice none 0 0]⟩ := TI.mk' (z := (.agg #[.pointer none, .slice none 0 0])) (TD.mkStruct (l := [(0, 78), (1, 79)]) (by kernel_rfl) (by kernel_rfl) (by kernel_rfl)) (by kernel_rfl) rfl rfl rfl
-- func(func(int) bool)
theorem tab82 : TI.Ok Tryd.prog 82 ⟨.other, 1, 8, [.nilFunc]⟩ := TI.mk' (z := (.nilFunc)) (TD.mkOther (by kernel_rfl)) (by kernel_rfl) rfl rfl rfl
-- iter.Seq[int]
theorem tab83 : TI.Ok Tryd.prog 83 ⟨.other, 1, 8, [.nilFunc]⟩ := TI.mk' (z := (.nilFunc)) (TD.mkOther (by kernel_rfl)) (by kernel_rfl) rfl rfl rfl
-- func(int) iter.Seq[int]
theorem tab84 : TI.Ok Tryd.prog 84 ⟨.other, 1, 8, [.nilFunc]⟩ := TI.mk' (z := (.nilFunc)) (TD.mkOther (by kernel_rfl)) (by kernel_rfl) rfl rfl rfl
-- interface { Error() string }
theorem tab85 : TI.Ok Tryd.prog 85 ⟨.other, 1, 16, [.nilIface]⟩ := TI.mk' (z := (.nilIface)) (TD.mkOther (by kernel_rfl)) (by kernel_rfl) rfl rfl rfl
-- error
theorem tab86 : TI.Ok Tryd.prog 86 ⟨.other, 1, 16, [.nilIface]⟩ := TI.mk' (z := (.nilIface)) (TD.mkOther (by kernel_rfl)) (by kernel_rfl) rfl rfl rfl
-- func(uint8) error
theorem tab87 : TI.Ok Tryd.prog 87 ⟨.other, 1, 8, [.nilFunc]⟩ := TI.mk' (z := (.nilFunc)) (TD.mkOther (by kernel_rfl)) (by kernel_rfl) rfl rfl rfl
-- func() string
theorem tab88 : TI.Ok Tryd.prog 88 ⟨.other, 1, 8, [.nilFunc]⟩ := TI.mk' (z := (.nilFunc)) (TD.mkOther (by kernel_rfl)) (by kernel_rfl) rfl rfl rfl
-- func(api.Table) string
theorem tab89 : TI.Ok Tryd.prog 89 ⟨.other, 1, 8, [.nilFunc]⟩ := TI.mk' (z := (.nilFunc)) (TD.mkOther (by kernel_rfl)) (by kernel_rfl) rfl rfl rfl
-- func(uint) int
theorem tab90 : TI.Ok Tryd.prog 90 ⟨.other, 1, 8, [.nilFunc]⟩ := TI.mk' (z := (.nilFunc)) (TD.mkOther (by kernel_rfl)) (by kernel_rfl) rfl rfl rfl
-- uint
theorem tab91 : TI.Ok Tryd.prog 91 ⟨.int .u64, 1, 8, [.int .u64 0]⟩ := TI.mk' (z := (.int .u64 0)) (show Tryd.prog.underlying 91 = some (.int .u64) by kernel_rfl) (by kernel_rfl) rfl rfl rfl
-- func(int, []int) api.Table
theorem tab92 : TI.Ok Tryd.prog 92 ⟨.other, 1, 8, [.nilFunc]⟩ := TI.mk' (z := (.nilFunc)) (TD.mkOther (by kernel_rfl)) (by kernel_rfl) rfl rfl rfl
-- func(int) uint64
theorem tab93 : TI.Ok Tryd.prog 93 ⟨.other, 1, 8, [.nilFunc]⟩ := TI.mk' (z := (.nilFunc)) (TD.mkOther (by kernel_rfl)) (by kernel_rfl) rfl rfl rfl
-- func(api.Table, api.Table, func(uint64, uint64) uint64) (api.Table, api.Errno)
theorem tab94 : TI.Ok Tryd.prog 94 ⟨.other, 1, 8, [.nilFunc]⟩ := TI.mk' (z := (.nilFunc)) (TD.mkOther (by kernel_rfl)) (by kernel_rfl) rfl rfl rfl
-- func(uint64, uint64) uint64
theorem tab95 : TI.Ok Tryd.prog 95 ⟨.other, 1, 8, [.nilFunc]⟩ := TI.mk' (z := (.nilFunc)) (TD.mkOther (by kernel_rfl)) (by kernel_rfl) rfl rfl rfl
-- func(api.Table, api.Table) int
theorem tab96 : TI.Ok Tryd.prog 96 ⟨.other, 1, 8, [.nilFunc]⟩ := TI.mk' (z := (.nilFunc)) (TD.mkOther (by kernel_rfl)) (by kernel_rfl) rfl rfl rfl
-- func(api.Table, api.Table) api.Table
theorem tab97 : TI.Ok Tryd.prog 97 ⟨.other, 1, 8, [.nilFunc]⟩ := TI.mk' (z := (.nilFunc)) (TD.mkOther (by kernel_rfl)) (by kernel_rfl) rfl rfl rfl
-- func(api.Table, int) bool
theorem tab98 : TI.Ok Tryd.prog 98 ⟨.other, 1, 8, [.nilFunc]⟩ := TI.mk' (z := (.nilFunc)) (TD.mkOther (by kernel_rfl)) (by kernel_rfl) rfl rfl rfl
-- func(int) bool
theorem tab99 : TI.Ok Tryd.prog 99 ⟨.other, 1, 8, [.nilFunc]⟩ := TI.mk' (z := (.nilFunc)) (TD.mkOther (by kernel_rfl)) (by kernel_rfl) rfl rfl rfl
-- func(int, func(int) bool) api.Table
theorem tab100 : TI.Ok Tryd.prog 100 ⟨.other, 1, 8, [.nilFunc]⟩ := TI.mk' (z := (.nilFunc)) (TD.mkOther (by kernel_rfl)) (by kernel_rfl) rfl rfl rfl
-- func(api.Table, int) api.Errno
theorem tab101 : TI.Ok Tryd.prog 101 ⟨.other, 1, 8, [.nilFunc]⟩ := TI.mk' (z := (.nilFunc)) (TD.mkOther (by kernel_rfl)) (by kernel_rfl) rfl rfl rfl
-- func(api.Table, int, bool) api.Table
theorem tab102 : TI.Ok Tryd.prog 102 ⟨.other, 1, 8, [.nilFunc]⟩ := TI.mk' (z := (.nilFunc)) (TD.mkOther (by kernel_rfl)) (by kernel_rfl) rfl rfl rfl
-- func(api.Table, int) int
theorem tab103 : TI.Ok Tryd.prog 103 ⟨.other, 1, 8, [.nilFunc]⟩ := TI.mk' (z := (.nilFunc)) (TD.mkOther (by kernel_rfl)) (by kernel_rfl) rfl rfl rfl
-- func(int, int, bool) int
theorem tab104 : TI.Ok Tryd.prog 104 ⟨.other, 1, 8, [.nilFunc]⟩ := TI.mk' (z := (.nilFunc)) (TD.mkOther (by kernel_rfl)) (by kernel_rfl) rfl rfl rfl
-- func([]int, int) int
theorem tab105 : TI.Ok Tryd.prog 105 ⟨.other, 1, 8, [.nilFunc]⟩ := TI.mk' (z := (.nilFunc)) (TD.mkOther (by kernel_rfl)) (by kernel_rfl) rfl rfl rfl
-- func(int, int) bool
theorem tab106 : TI.Ok Tryd.prog 106 ⟨.other, 1, 8, [.nilFunc]⟩ := TI.mk' (z := (.nilFunc)) (TD.mkOther (by kernel_rfl)) (by kernel_rfl) rfl rfl rfl
-- func(int, int) api.Table
theorem tab107 : TI.Ok Tryd.prog 107 ⟨.other, 1, 8, [.nilFunc]⟩ := TI.mk' (z := (.nilFunc)) (TD.mkOther (by kernel_rfl)) (by kernel_rfl) rfl rfl rfl
-- func(api.Table) []int
theorem tab108 : TI.Ok Tryd.prog 108 ⟨.other, 1, 8, [.nilFunc]⟩ := TI.mk' (z := (.nilFunc)) (TD.mkOther (by kernel_rfl)) (by kernel_rfl) rfl rfl rfl
-- *uint8
theorem tab109 : TI.Ok Tryd.prog 109 ⟨.other, 1, 8, [.pointer none]⟩ := TI.mk' (z := (.pointer none)) (TD.mkOther (by kernel_rfl)) (by kernel_rfl) rfl rfl rfl
-- func(uint32) int
theorem tab110 : TI.Ok Tryd.prog 110 ⟨.other, 1, 8, [.nilFunc]⟩ := TI.mk' (z := (.nilFunc)) (TD.mkOther (by kernel_rfl)) (by kernel_rfl) rfl rfl rfl
-- uint32
theorem tab111 : TI.Ok Tryd.prog 111 ⟨.int .u32, 1, 4, [.int .u32 0]⟩ := TI.mk' (z := (.int .u32 0)) (show Tryd.prog.underlying 111 = some (.int .u32) by kernel_rfl) (by kernel_rfl) rfl rfl rfl
-- func(uint64) int
theorem tab112 : TI.Ok Tryd.prog 112 ⟨.other, 1, 8, [.nilFunc]⟩ := TI.mk' (z := (.nilFunc)) (TD.mkOther (by kernel_rfl)) (by kernel_rfl) rfl rfl rfl
-- []api.Table
theorem tab113 : TI.Ok Tryd.prog 113 ⟨.slice 24, 1, 24, [.slice none 0 0]⟩ := TI.mk' (z := (.slice none 0 0)) (show Tryd.prog.underlying 113 = some (.slice 24) by kernel_rfl) (by kernel_rfl) rfl rfl rfl
-- unsafe.Pointer
theorem tab114 : TI.Ok Tryd.prog 114 ⟨.other, 1, 8, [.pointer none]⟩ := TI.mk' (z := (.pointer none)) (TD.mkOther (by kernel_rfl)) (by kernel_rfl) rfl rfl rfl
-- func(unsafe.Pointer) unsafe.Pointer
theorem tab115 : TI.Ok Tryd.prog 115 ⟨.other, 1, 8, [.nilFunc]⟩ := TI.mk' (z := (.nilFunc)) (TD.mkOther (by kernel_rfl)) (by kernel_rfl) rfl rfl rfl
-- [32]uint8
theorem tab116 : TI.Ok Tryd.prog 116 ⟨.array 32 5, 32, 32, [.int .u8 0, .int .u8 0, .int .u8 0, .int .u8 0, .int .u8 0, .int .u8 0, .int .u8 0, .int .u8 0, .int .u8 0, .int .u8 0, .int .u8 0, .int .u8 0, .int .u8 0, .int .u8 0, .int .u8 0, .int .u8 0, .int .u8 0, .int .u8 0, .int .u8 0, .int .u8 0, .int .u8 0, .int .u8 0, .int .u8 0, .int .u8 0, .int .u8 0, .int .u8 0, .int .u8 0, .int .u8 0, .int .u8 0, .int .u8 0, .int .u8 0, .int .u8 0]⟩ := TI.mk' (z := (.agg #[.int .u8 0, .int .u8 0, .int .u8 0, .int .u8 0, .int .u8 0, .int .u8 0, .int .u8 0, .int .u8 0, .int .u8 0, .int .u8 0, .int .u8 0, .int .u8 0, .int .u8 0, .int .u8 0, .int .u8 0, .int .u8 0, .int .u8 0, .int .u8 0, .int .u8 0, .int .u8 0, .int .u8 0, .int .u8 0, .int .u8 0, .int .u8 0, .int .u8 0, .int .u8 0, .int .u8 0, .int .u8 0, .int .u8 0, .int .u8 0, .int .u8 0, .int .u8 0])) (show Tryd.prog.underlying 116 = some (.array 32 5) by kernel_rfl) (by kernel_rfl) rfl rfl rfl
-- [0]*runtime.PanicNilError
theorem tab120 : TI.Ok Tryd.prog 120 ⟨.array 0 16, 0, 0, []⟩ := TI.mk' (z := (.agg #[])) (show Tryd.prog.underlying 120 = some (.array 0 16) by kernel_rfl) (by kernel_rfl) rfl rfl rfl
-- func() int
theorem tab123 : TI.Ok Tryd.prog 123 ⟨.other, 1, 8, [.nilFunc]⟩ := TI.mk' (z := (.nilFunc)) (TD.mkOther (by kernel_rfl)) (by kernel_rfl) rfl rfl rfl
-- abi.TFlag
theorem tab124 : TI.Ok Tryd.prog 124 ⟨.int .u8, 1, 1, [.int .u8 0]⟩ := TI.mk' (z := (.int .u8 0)) (show Tryd.prog.underlying 124 = some (.int .u8) by kernel_rfl) (by kernel_rfl) rfl rfl rfl
-- abi.Kind
theorem tab125 : TI.Ok Tryd.prog 125 ⟨.int .u8, 1, 1, [.int .u8 0]⟩ := TI.mk' (z := (.int .u8 0)) (show Tryd.prog.underlying 125 = some (.int .u8) by kernel_rfl) (by kernel_rfl) rfl rfl rfl
-- func(unsafe.Pointer, unsafe.Pointer) bool
theorem tab126 : TI.Ok Tryd.prog 126 ⟨.other, 1, 8, [.nilFunc]⟩ := TI.mk' (z := (.nilFunc)) (TD.mkOther (by kernel_rfl)) (by kernel_rfl) rfl rfl rfl
-- abi.NameOff
theorem tab127 : TI.Ok Tryd.prog 127 ⟨.int .i32, 1, 4, [.int .i32 0]⟩ := TI.mk' (z := (.int .i32 0)) (show Tryd.prog.underlying 127 = some (.int .i32) by kernel_rfl) (by kernel_rfl) rfl rfl rfl
-- abi.TypeOff
theorem tab128 : TI.Ok Tryd.prog 128 ⟨.int .i32, 1, 4, [.int .i32 0]⟩ := TI.mk' (z := (.int .i32 0)) (show Tryd.prog.underlying 128 = some (.int .i32) by kernel_rfl) (by kernel_rfl) rfl rfl rfl

def tab : Tab := [
  (1, ⟨.other, 1, 8, [.nilFunc]⟩),
  (2, ⟨.int .i64, 1, 8, [.int .i64 0]⟩),
  (3, ⟨.int .i64, 1, 8, [.int .i64 0]⟩),
  (4, ⟨.bool, 1, 1, [.bool false]⟩),
  (5, ⟨.int .u8, 1, 1, [.int .u8 0]⟩),
  (6, ⟨.int .u8, 1, 1, [.int .u8 0]⟩),
  (7, ⟨.struct [(0, 2), (1, 3), (2, 4), (3, 6)], 4, 24, [.int .i64 0, .int .i64 0, .bool false, .int .u8 0]⟩),
  (8, ⟨.struct [(0, 2), (1, 3), (2, 4), (3, 6)], 4, 24, [.int .i64 0, .int .i64 0, .bool false, .int .u8 0]⟩),
  (9, ⟨.string, 1, 16, [.string ByteArray.empty]⟩),
  (10, ⟨.string, 1, 16, [.string ByteArray.empty]⟩),
  (11, ⟨.string, 1, 16, [.string ByteArray.empty]⟩),
  (12, ⟨.int .u64, 1, 8, [.int .u64 0]⟩),
  (15, ⟨.other, 1, 8, [.pointer none]⟩),
  (16, ⟨.other, 1, 8, [.pointer none]⟩),
  (17, ⟨.other, 1, 8, [.pointer none]⟩),
  (20, ⟨.other, 1, 16, [.nilIface]⟩),
  (21, ⟨.int .i32, 1, 4, [.int .i32 0]⟩),
  (22, ⟨.int .u64, 1, 8, [.int .u64 0]⟩),
  (23, ⟨.struct [(0, 3), (1, 22)], 2, 16, [.int .i64 0, .int .u64 0]⟩),
  (24, ⟨.struct [(0, 3), (1, 22)], 2, 16, [.int .i64 0, .int .u64 0]⟩),
  (25, ⟨.other, 1, 8, [.nilFunc]⟩),
  (26, ⟨.int .i64, 1, 8, [.int .i64 0]⟩),
  (28, ⟨.other, 1, 8, [.nilFunc]⟩),
  (30, ⟨.other, 1, 8, [.nilFunc]⟩),
  (32, ⟨.other, 1, 8, [.nilFunc]⟩),
  (34, ⟨.other, 1, 8, [.nilFunc]⟩),
  (35, ⟨.other, 1, 8, [.nilFunc]⟩),
  (36, ⟨.other, 1, 8, [.nilFunc]⟩),
  (37, ⟨.other, 1, 8, [.nilFunc]⟩),
  (38, ⟨.other, 1, 8, [.nilFunc]⟩),
  (39, ⟨.other, 1, 8, [.nilFunc]⟩),
  (40, ⟨.struct [(0, 38), (1, 39)], 2, 16, [.nilFunc, .nilFunc]⟩),
  (41, ⟨.slice 40, 1, 24, [.slice none 0 0]⟩),
  (42, ⟨.other, 1, 8, [.nilFunc]⟩),
  (43, ⟨.other, 1, 8, [.nilFunc]⟩),
  (44, ⟨.other, 1, 8, [.nilFunc]⟩),
  (45, ⟨.other, 1, 8, [.nilFunc]⟩),
  (46, ⟨.other, 1, 8, [.nilFunc]⟩),
  (47, ⟨.other, 1, 8, [.nilFunc]⟩),
  (48, ⟨.other, 1, 8, [.nilFunc]⟩),
  (49, ⟨.other, 1, 8, [.nilFunc]⟩),
  (50, ⟨.slice 3, 1, 24, [.slice none 0 0]⟩),
  (52, ⟨.other, 1, 8, [.nilFunc]⟩),
  (54, ⟨.other, 1, 8, [.nilFunc]⟩),
  (56, ⟨.other, 1, 8, [.nilFunc]⟩),
  (58, ⟨.other, 1, 8, [.nilFunc]⟩),
  (59, ⟨.other, 1, 8, [.nilFunc]⟩),
  (60, ⟨.other, 1, 8, [.nilFunc]⟩),
  (61, ⟨.other, 1, 8, [.nilFunc]⟩),
  (62, ⟨.other, 1, 8, [.nilFunc]⟩),
  (63, ⟨.other, 1, 8, [.nilFunc]⟩),
  (64, ⟨.other, 1, 8, [.nilFunc]⟩),
  (65, ⟨.other, 1, 8, [.nilFunc]⟩),
  (66, ⟨.other, 1, 8, [.nilFunc]⟩),
  (67, ⟨.other, 1, 8, [.nilFunc]⟩),
  (68, ⟨.other, 1, 8, [.nilFunc]⟩),
  (70, ⟨.other, 1, 8, [.nilFunc]⟩),
  (72, ⟨.other, 1, 8, [.nilFunc]⟩),
  (73, ⟨.other, 1, 8, [.nilFunc]⟩),
  (74, ⟨.other, 1, 8, [.nilFunc]⟩),
  (75, ⟨.array 6 5, 6, 6, [.int .u8 0, .int .u8 0, .int .u8 0, .int .u8 0, .int .u8 0, .int .u8 0]⟩),
  (76, ⟨.other, 1, 8, [.nilFunc]⟩),
  (77, ⟨.other, 1, 8, [.nilFunc]⟩),
  (78, ⟨.other, 1, 8, [.pointer none]⟩),
  (79, ⟨.slice 5, 1, 24, [.slice none 0 0]⟩),
  (80, ⟨.struct [(0, 78), (1, 79)], 2, 32, [.pointer none, .slice none 0 0]⟩),
  (81, ⟨.struct [(0, 78), (1, 79)], 2, 32, [.pointer none, .slice none 0 0]⟩),
  (82, ⟨.other, 1, 8, [.nilFunc]⟩),
  (83, ⟨.other, 1, 8, [.nilFunc]⟩),
  (84, ⟨.other, 1, 8, [.nilFunc]⟩),
  (85, ⟨.other, 1, 16, [.nilIface]⟩),
  (86, ⟨.other, 1, 16, [.nilIface]⟩),
  (87, ⟨.other, 1, 8, [.nilFunc]⟩),
  (88, ⟨.other, 1, 8, [.nilFunc]⟩),
  (89, ⟨.other, 1, 8, [.nilFunc]⟩),
  (90, ⟨.other, 1, 8, [.nilFunc]⟩),
  (91, ⟨.int .u64, 1, 8, [.int .u64 0]⟩),
  (92, ⟨.other, 1, 8, [.nilFunc]⟩),
  (93, ⟨.other, 1, 8, [.nilFunc]⟩),
  (94, ⟨.other, 1, 8, [.nilFunc]⟩),
  (95, ⟨.other, 1, 8, [.nilFunc]⟩),
  (96, ⟨.other, 1, 8, [.nilFunc]⟩),
  (97, ⟨.other, 1, 8, [.nilFunc]⟩),
  (98, ⟨.other, 1, 8, [.nilFunc]⟩),
  (99, ⟨.other, 1, 8, [.nilFunc]⟩),
  (100, ⟨.other, 1, 8, [.nilFunc]⟩),
  (101, ⟨.other, 1, 8, [.nilFunc]⟩),
  (102, ⟨.other, 1, 8, [.nilFunc]⟩),
  (103, ⟨.other, 1, 8, [.nilFunc]⟩),
  (104, ⟨.other, 1, 8, [.nilFunc]⟩),
  (105, ⟨.other, 1, 8, [.nilFunc]⟩),
  (106, ⟨.other, 1, 8, [.nilFunc]⟩),
  (107, ⟨.other, 1, 8, [.nilFunc]⟩),
  (108, ⟨.other, 1, 8, [.nilFunc]⟩),
  (109, ⟨.other, 1, 8, [.pointer none]⟩),
  (110, ⟨.other, 1, 8, [.nilFunc]⟩),
  (111, ⟨.int .u32, 1, 4, [.int .u32 0]⟩),
  (112, ⟨.other, 1, 8, [.nilFunc]⟩),
  (113, ⟨.slice 24, 1, 24, [.slice none 0 0]⟩),
  (114, ⟨.other, 1, 8, [.pointer none]⟩),
  (115, ⟨.other, 1, 8, [.nilFunc]⟩),
  (116, ⟨.array 32 5, 32, 32, [.int .u8 0, .int .u8 0, .int .u8 0, .int .u8 0, .int .u8 0, .int .u8 0, .int .u8 0, .int .u8 0, .int .u8 0, .int .u8 0, .int .u8 0, .int .u8 0, .int .u8 0, .int .u8 0, .int .u8 0, .int .u8 0, .int .u8 0, .int .u8 0, .int .u8 0, .int .u8 0, .int .u8 0, .int .u8 0, .int .u8 0, .int .u8 0, .int .u8 0, .int .u8 0, .int .u8 0, .int .u8 0, .int .u8 0, .int .u8 0, .int .u8 0, .int .u8 0]⟩),
  (120, ⟨.array 0 16, 0, 0, []⟩),
  (123, ⟨.other, 1, 8, [.nilFunc]⟩),
  (124, ⟨.int .u8, 1, 1, [.int .u8 0]⟩),
  (125, ⟨.int .u8, 1, 1, [.int .u8 0]⟩),
  (126, ⟨.other, 1, 8, [.nilFunc]⟩),
  (127, ⟨.int .i32, 1, 4, [.int .i32 0]⟩),
  (128, ⟨.int .i32, 1, 4, [.int .i32 0]⟩)]
theorem tab_ok : tab.Ok Tryd.prog :=
  Tab.ok_cons tab1 <| Tab.ok_cons tab2 <| Tab.ok_cons tab3 <| Tab.ok_cons tab4 <| Tab.ok_cons tab5 <| Tab.ok_cons tab6 <| Tab.ok_cons tab7 <| Tab.ok_cons tab8 <| Tab.ok_cons tab9 <| Tab.ok_cons tab10 <| Tab.ok_cons tab11 <| Tab.ok_cons tab12 <| Tab.ok_cons tab15 <| Tab.ok_cons tab16 <| Tab.ok_cons tab17 <| Tab.ok_cons tab20 <| Tab.ok_cons tab21 <| Tab.ok_cons tab22 <| Tab.ok_cons tab23 <| Tab.ok_cons tab24 <| Tab.ok_cons tab25 <| Tab.ok_cons tab26 <| Tab.ok_cons tab28 <| Tab.ok_cons tab30 <| Tab.ok_cons tab32 <| Tab.ok_cons tab34 <| Tab.ok_cons tab35 <| Tab.ok_cons tab36 <| Tab.ok_cons tab37 <| Tab.ok_cons tab38 <| Tab.ok_cons tab39 <| Tab.ok_cons tab40 <| Tab.ok_cons tab41 <| Tab.ok_cons tab42 <| Tab.ok_cons tab43 <| Tab.ok_cons tab44 <| Tab.ok_cons tab45 <| Tab.ok_cons tab46 <| Tab.ok_cons tab47 <| Tab.ok_cons tab48 <| Tab.ok_cons tab49 <| Tab.ok_cons tab50 <| Tab.ok_cons tab52 <| Tab.ok_cons tab54 <| Tab.ok_cons tab56 <| Tab.ok_cons tab58 <| Tab.ok_cons tab59 <| Tab.ok_cons tab60 <| Tab.ok_cons tab61 <| Tab.ok_cons tab62 <| Tab.ok_cons tab63 <| Tab.ok_cons tab64 <| Tab.ok_cons tab65 <| Tab.ok_cons tab66 <| Tab.ok_cons tab67 <| Tab.ok_cons tab68 <| Tab.ok_cons tab70 <| Tab.ok_cons tab72 <| Tab.ok_cons tab73 <| Tab.ok_cons tab74 <| Tab.ok_cons tab75 <| Tab.ok_cons tab76 <| Tab.ok_cons tab77 <| Tab.ok_cons tab78 <| Tab.ok_cons tab79 <| Tab.ok_cons tab80 <| Tab.ok_cons tab81 <| Tab.ok_cons tab82 <| Tab.ok_cons tab83 <| Tab.ok_cons tab84 <| Tab.ok_cons tab85 <| Tab.ok_cons tab86 <| Tab.ok_cons tab87 <| Tab.ok_cons tab88 <| Tab.ok_cons tab89 <| Tab.ok_cons tab90 <| Tab.ok_cons tab91 <| Tab.ok_cons tab92 <| Tab.ok_cons tab93 <| Tab.ok_cons tab94 <| Tab.ok_cons tab95 <| Tab.ok_cons tab96 <| Tab.ok_cons tab97 <| Tab.ok_cons tab98 <| Tab.ok_cons tab99 <| Tab.ok_cons tab100 <| Tab.ok_cons tab101 <| Tab.ok_cons tab102 <| Tab.ok_cons tab103 <| Tab.ok_cons tab104 <| Tab.ok_cons tab105 <| Tab.ok_cons tab106 <| Tab.ok_cons tab107 <| Tab.ok_cons tab108 <| Tab.ok_cons tab109 <| Tab.ok_cons tab110 <| Tab.ok_cons tab111 <| Tab.ok_cons tab112 <| Tab.ok_cons tab113 <| Tab.ok_cons tab114 <| Tab.ok_cons tab115 <| Tab.ok_cons tab116 <| Tab.ok_cons tab120 <| Tab.ok_cons tab123 <| Tab.ok_cons tab124 <| Tab.ok_cons tab125 <| Tab.ok_cons tab126 <| Tab.ok_cons tab127 <| Tab.ok_cons tab128 <| Tab.ok_nil
theorem mixed : Tryd.prog.follows .mixedOrders = true := by kernel_rfl
end Go.Sx.Pn
