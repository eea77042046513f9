/- ChartShares, part 4 of its proof: declarations that the last part uses. -/
import Derived.Test.YteenedbiifampaaGreatDoorH3
set_option maxHeartbeats 1000000
set_option maxRecDepth 4000
set_option linter.unusedSimpArgs false
set_option linter.unusedVariables false
set_option linter.unusedSectionVars false
namespace Go.Sx.Pn
open Go Go.Proofs Go.Sx
def tab:Tab:=[(1,⟨.other,1,8,[.nilFunc]⟩),(2,⟨.int .i64,1,8,[.int .i64 0]⟩),(3,⟨.int .i64,1,8,[.int .i64 0]⟩),(4,⟨.bool,1,1,[.bool false]⟩),(5,⟨.int .u8,1,1,[.int .u8 0]⟩),(6,⟨.int .u8,1,1,[.int .u8 0]⟩),(7,⟨.struct [(0,2),(1,3),(2,4),(3,6)],4,24,[.int .i64 0,.int .i64 0,.bool false,.int .u8 0]⟩),(8,⟨.struct [(0,2),(1,3),(2,4),(3,6)],4,24,[.int .i64 0,.int .i64 0,.bool false,.int .u8 0]⟩),(9,⟨.string,1,16,[.string ByteArray.empty]⟩),(10,⟨.string,1,16,[.string ByteArray.empty]⟩),(11,⟨.string,1,16,[.string ByteArray.empty]⟩),(12,⟨.int .u64,1,8,[.int .u64 0]⟩),(15,⟨.other,1,8,[.pointer none]⟩),(16,⟨.other,1,8,[.pointer none]⟩),(17,⟨.other,1,8,[.pointer none]⟩),(20,⟨.other,1,16,[.nilIface]⟩),(21,⟨.int .i32,1,4,[.int .i32 0]⟩),(22,⟨.slice 9,1,24,[.slice none 0 0]⟩),(23,⟨.slice 108,1,24,[.slice none 0 0]⟩),(24,⟨.slice 81,1,24,[.slice none 0 0]⟩),(25,⟨.struct [(0,3),(1,22),(2,23),(3,24)],4,80,[.int .i64 0,.slice none 0 0,.slice none 0 0,.slice none 0 0]⟩),(26,⟨.struct [(0,3),(1,22),(2,23),(3,24)],4,80,[.int .i64 0,.slice none 0 0,.slice none 0 0,.slice none 0 0]⟩),(27,⟨.other,1,8,[.nilFunc]⟩),(28,⟨.other,1,8,[.nilFunc]⟩),(29,⟨.slice 3,1,24,[.slice none 0 0]⟩),(30,⟨.int .i64,1,8,[.int .i64 0]⟩),(32,⟨.other,1,8,[.nilFunc]⟩),(33,⟨.slice 89,1,24,[.slice none 0 0]⟩),(34,⟨.slice 123,1,24,[.slice none 0 0]⟩),(35,⟨.struct [(0,3),(1,22),(2,33),(3,34)],4,80,[.int .i64 0,.slice none 0 0,.slice none 0 0,.slice none 0 0]⟩),(36,⟨.struct [(0,3),(1,22),(2,33),(3,34)],4,80,[.int .i64 0,.slice none 0 0,.slice none 0 0,.slice none 0 0]⟩),(37,⟨.other,1,8,[.nilFunc]⟩),(39,⟨.other,1,8,[.nilFunc]⟩),(40,⟨.other,1,8,[.nilFunc]⟩),(41,⟨.slice 95,1,24,[.slice none 0 0]⟩),(43,⟨.struct [(0,3),(1,41)],2,32,[.int .i64 0,.slice none 0 0]⟩),(46,⟨.other,1,8,[.nilFunc]⟩),(48,⟨.other,1,8,[.nilFunc]⟩),(49,⟨.other,1,8,[.nilFunc]⟩),(50,⟨.other,1,8,[.nilFunc]⟩),(52,⟨.other,1,8,[.nilFunc]⟩),(54,⟨.other,1,8,[.nilFunc]⟩),(56,⟨.other,1,8,[.nilFunc]⟩),(58,⟨.other,1,8,[.nilFunc]⟩),(59,⟨.other,1,8,[.nilFunc]⟩),(60,⟨.other,1,8,[.nilFunc]⟩),(61,⟨.other,1,8,[.nilFunc]⟩),(62,⟨.slice 72,1,24,[.slice none 0 0]⟩),(64,⟨.other,1,8,[.nilFunc]⟩),(66,⟨.other,1,8,[.nilFunc]⟩),(68,⟨.other,1,8,[.nilFunc]⟩),(70,⟨.other,1,8,[.nilFunc]⟩),(71,⟨.other,1,8,[.nilFunc]⟩),(72,⟨.slice 4,1,24,[.slice none 0 0]⟩),(75,⟨.other,1,8,[.nilFunc]⟩),(76,⟨.map 3 4,1,8,[.map none]⟩),(77,⟨.slice 79,1,24,[.slice none 0 0]⟩),(78,⟨.struct [(0,3),(1,3),(2,77)],3,40,[.int .i64 0,.int .i64 0,.slice none 0 0]⟩),(79,⟨.struct [(0,3),(1,3),(2,77)],3,40,[.int .i64 0,.int .i64 0,.slice none 0 0]⟩),(80,⟨.struct [(0,29),(1,29),(2,79)],5,88,[.slice none 0 0,.slice none 0 0,.int .i64 0,.int .i64 0,.slice none 0 0]⟩),(81,⟨.struct [(0,29),(1,29),(2,79)],5,88,[.slice none 0 0,.slice none 0 0,.int .i64 0,.int .i64 0,.slice none 0 0]⟩),(82,⟨.other,1,8,[.nilFunc]⟩),(83,⟨.other,1,8,[.nilFunc]⟩),(84,⟨.other,1,8,[.nilFunc]⟩),(87,⟨.slice 94,1,24,[.slice none 0 0]⟩),(88,⟨.struct [(0,87),(1,3)],2,32,[.slice none 0 0,.int .i64 0]⟩),(89,⟨.struct [(0,87),(1,3)],2,32,[.slice none 0 0,.int .i64 0]⟩),(91,⟨.other,1,8,[.nilFunc]⟩),(92,⟨.other,1,8,[.nilFunc]⟩),(93,⟨.struct [(0,3),(1,4)],2,16,[.int .i64 0,.bool false]⟩),(94,⟨.struct [(0,3),(1,4)],2,16,[.int .i64 0,.bool false]⟩),(95,⟨.struct [(0,87),(1,3)],2,32,[.slice none 0 0,.int .i64 0]⟩),(96,⟨.other,1,8,[.nilFunc]⟩),(97,⟨.other,1,8,[.nilFunc]⟩),(99,⟨.other,1,8,[.nilFunc]⟩),(100,⟨.map 3 3,1,8,[.map none]⟩),(102,⟨.other,1,8,[.nilFunc]⟩),(107,⟨.other,1,8,[.nilFunc]⟩),(108,⟨.struct [(0,87),(1,3)],2,32,[.slice none 0 0,.int .i64 0]⟩),(109,⟨.other,1,8,[.nilFunc]⟩),(110,⟨.other,1,8,[.nilFunc]⟩),(112,⟨.slice 117,1,24,[.slice none 0 0]⟩),(113,⟨.slice 29,1,24,[.slice none 0 0]⟩),(115,⟨.other,1,8,[.nilFunc]⟩),(116,⟨.array 24 4,24,24,[.bool false,.bool false,.bool false,.bool false,.bool false,.bool false,.bool false,.bool false,.bool false,.bool false,.bool false,.bool false,.bool false,.bool false,.bool false,.bool false,.bool false,.bool false,.bool false,.bool false,.bool false,.bool false,.bool false,.bool false]⟩),(117,⟨.array 24 4,24,24,[.bool false,.bool false,.bool false,.bool false,.bool false,.bool false,.bool false,.bool false,.bool false,.bool false,.bool false,.bool false,.bool false,.bool false,.bool false,.bool false,.bool false,.bool false,.bool false,.bool false,.bool false,.bool false,.bool false,.bool false]⟩),(120,⟨.other,1,8,[.nilFunc]⟩),(121,⟨.other,1,8,[.nilFunc]⟩),(122,⟨.other,1,8,[.nilFunc]⟩),(123,⟨.struct [(0,29),(1,29),(2,79)],5,88,[.slice none 0 0,.slice none 0 0,.int .i64 0,.int .i64 0,.slice none 0 0]⟩),(124,⟨.slice 129,1,24,[.slice none 0 0]⟩),(126,⟨.other,1,8,[.nilFunc]⟩),(127,⟨.other,1,8,[.nilFunc]⟩),(128,⟨.struct [(0,72),(1,29)],2,48,[.slice none 0 0,.slice none 0 0]⟩),(129,⟨.struct [(0,72),(1,29)],2,48,[.slice none 0 0,.slice none 0 0]⟩),(130,⟨.other,1,8,[.nilFunc]⟩),(131,⟨.other,1,8,[.nilFunc]⟩),(132,⟨.other,1,8,[.nilFunc]⟩),(133,⟨.other,1,8,[.nilFunc]⟩),(135,⟨.other,1,8,[.nilFunc]⟩),(136,⟨.other,1,8,[.nilFunc]⟩),(137,⟨.other,1,8,[.nilFunc]⟩),(138,⟨.other,1,8,[.nilFunc]⟩),(139,⟨.other,1,8,[.nilFunc]⟩),(140,⟨.other,1,8,[.pointer none]⟩),(141,⟨.slice 5,1,24,[.slice none 0 0]⟩),(142,⟨.struct [(0,140),(1,141)],2,32,[.pointer none,.slice none 0 0]⟩),(143,⟨.struct [(0,140),(1,141)],2,32,[.pointer none,.slice none 0 0]⟩),(144,⟨.other,1,16,[.nilIface]⟩),(145,⟨.other,1,16,[.nilIface]⟩),(147,⟨.other,1,8,[.nilFunc]⟩),(148,⟨.other,1,8,[.nilFunc]⟩),(149,⟨.other,1,8,[.nilFunc]⟩),(150,⟨.other,1,8,[.nilFunc]⟩),(151,⟨.other,1,8,[.nilFunc]⟩),(152,⟨.other,1,8,[.nilFunc]⟩),(153,⟨.other,1,8,[.nilFunc]⟩),(156,⟨.other,1,8,[.nilFunc]⟩),(159,⟨.other,1,8,[.nilFunc]⟩),(160,⟨.other,1,8,[.nilFunc]⟩),(161,⟨.other,1,8,[.nilFunc]⟩),(163,⟨.other,1,8,[.nilFunc]⟩),(164,⟨.other,1,8,[.nilFunc]⟩),(165,⟨.other,1,8,[.nilFunc]⟩),(166,⟨.other,1,8,[.nilFunc]⟩),(167,⟨.other,1,8,[.nilFunc]⟩),(168,⟨.other,1,8,[.nilFunc]⟩),(169,⟨.other,1,8,[.nilFunc]⟩),(170,⟨.other,1,8,[.nilFunc]⟩),(171,⟨.other,1,8,[.nilFunc]⟩),(172,⟨.other,1,8,[.nilFunc]⟩),(173,⟨.other,1,8,[.nilFunc]⟩),(177,⟨.other,1,8,[.nilFunc]⟩),(178,⟨.other,1,8,[.nilFunc]⟩),(179,⟨.other,1,8,[.nilFunc]⟩),(180,⟨.other,1,8,[.nilFunc]⟩),(181,⟨.other,1,8,[.nilFunc]⟩),(182,⟨.other,1,8,[.nilFunc]⟩),(183,⟨.other,1,8,[.nilFunc]⟩),(184,⟨.other,1,8,[.nilFunc]⟩),(185,⟨.other,1,8,[.nilFunc]⟩),(186,⟨.other,1,8,[.nilFunc]⟩),(187,⟨.other,1,8,[.nilFunc]⟩),(188,⟨.other,1,8,[.nilFunc]⟩),(189,⟨.other,1,8,[.nilFunc]⟩),(190,⟨.other,1,8,[.nilFunc]⟩),(191,⟨.other,1,8,[.nilFunc]⟩),(192,⟨.other,1,8,[.nilFunc]⟩),(193,⟨.array 6 4,6,6,[.bool false,.bool false,.bool false,.bool false,.bool false,.bool false]⟩),(194,⟨.array 6 4,6,6,[.bool false,.bool false,.bool false,.bool false,.bool false,.bool false]⟩),(196,⟨.other,1,8,[.nilFunc]⟩),(197,⟨.other,1,8,[.nilFunc]⟩),(198,⟨.other,1,8,[.nilFunc]⟩),(199,⟨.other,1,8,[.nilFunc]⟩),(200,⟨.other,1,8,[.pointer none]⟩),(201,⟨.struct [(0,143),(2,22)],3,56,[.pointer none,.slice none 0 0,.slice none 0 0]⟩),(202,⟨.struct [(0,143),(2,22)],3,56,[.pointer none,.slice none 0 0,.slice none 0 0]⟩),(203,⟨.other,1,8,[.nilFunc]⟩),(204,⟨.other,1,8,[.nilFunc]⟩),(205,⟨.other,1,8,[.nilFunc]⟩),(206,⟨.other,1,8,[.pointer none]⟩),(208,⟨.other,1,8,[.nilFunc]⟩),(209,⟨.other,1,8,[.nilFunc]⟩),(210,⟨.other,1,8,[.nilFunc]⟩),(211,⟨.other,1,8,[.nilFunc]⟩),(212,⟨.other,1,8,[.nilFunc]⟩),(213,⟨.other,1,8,[.nilFunc]⟩),(214,⟨.int .u64,1,8,[.int .u64 0]⟩),(215,⟨.other,1,8,[.nilFunc]⟩),(216,⟨.other,1,8,[.nilFunc]⟩),(217,⟨.other,1,8,[.nilFunc]⟩),(218,⟨.other,1,8,[.nilFunc]⟩),(219,⟨.other,1,8,[.nilFunc]⟩),(220,⟨.other,1,8,[.nilFunc]⟩),(222,⟨.other,1,8,[.nilFunc]⟩),(223,⟨.map 117 4,1,8,[.map none]⟩),(224,⟨.other,1,8,[.nilFunc]⟩),(225,⟨.other,1,8,[.nilFunc]⟩),(226,⟨.other,1,8,[.pointer none]⟩),(227,⟨.other,1,8,[.nilFunc]⟩),(228,⟨.other,1,8,[.nilFunc]⟩),(229,⟨.other,1,8,[.nilFunc]⟩),(232,⟨.other,1,8,[.nilFunc]⟩),(233,⟨.other,1,8,[.nilFunc]⟩),(234,⟨.other,1,8,[.nilFunc]⟩),(237,⟨.slice 3,1,24,[.slice none 0 0]⟩),(238,⟨.other,1,8,[.nilFunc]⟩),(239,⟨.other,1,8,[.nilFunc]⟩),(240,⟨.other,1,8,[.nilFunc]⟩),(241,⟨.other,1,8,[.nilFunc]⟩),(243,⟨.int .i64,1,8,[.int .i64 0]⟩),(245,⟨.other,1,8,[.nilFunc]⟩),(246,⟨.other,1,8,[.nilFunc]⟩),(250,⟨.int .u32,1,4,[.int .u32 0]⟩),(252,⟨.int .u64,1,8,[.int .u64 0]⟩),(253,⟨.array 24 5,24,24,[.int .u8 0,.int .u8 0,.int .u8 0,.int .u8 0,.int .u8 0,.int .u8 0,.int .u8 0,.int .u8 0,.int .u8 0,.int .u8 0,.int .u8 0,.int .u8 0,.int .u8 0,.int .u8 0,.int .u8 0,.int .u8 0,.int .u8 0,.int .u8 0,.int .u8 0,.int .u8 0,.int .u8 0,.int .u8 0,.int .u8 0,.int .u8 0]⟩),(256,⟨.other,1,8,[.nilFunc]⟩),(257,⟨.other,1,8,[.nilFunc]⟩),(258,⟨.other,1,8,[.nilFunc]⟩),(260,⟨.struct [(0,3),(1,3),(2,258)],3,24,[.int .i64 0,.int .i64 0,.nilFunc]⟩),(261,⟨.array 5 260,15,120,[.int .i64 0,.int .i64 0,.nilFunc,.int .i64 0,.int .i64 0,.nilFunc,.int .i64 0,.int .i64 0,.nilFunc,.int .i64 0,.int .i64 0,.nilFunc,.int .i64 0,.int .i64 0,.nilFunc]⟩),(265,⟨.int .u64,1,8,[.int .u64 0]⟩),(266,⟨.other,1,8,[.nilFunc]⟩),(267,⟨.other,1,8,[.nilFunc]⟩),(269,⟨.other,1,8,[.pointer none]⟩),(271,⟨.other,1,8,[.nilFunc]⟩),(272,⟨.other,1,8,[.nilFunc]⟩),(275,⟨.array 20 252,20,160,[.int .u64 0,.int .u64 0,.int .u64 0,.int .u64 0,.int .u64 0,.int .u64 0,.int .u64 0,.int .u64 0,.int .u64 0,.int .u64 0,.int .u64 0,.int .u64 0,.int .u64 0,.int .u64 0,.int .u64 0,.int .u64 0,.int .u64 0,.int .u64 0,.int .u64 0,.int .u64 0]⟩),(276,⟨.array 65 5,65,65,[.int .u8 0,.int .u8 0,.int .u8 0,.int .u8 0,.int .u8 0,.int .u8 0,.int .u8 0,.int .u8 0,.int .u8 0,.int .u8 0,.int .u8 0,.int .u8 0,.int .u8 0,.int .u8 0,.int .u8 0,.int .u8 0,.int .u8 0,.int .u8 0,.int .u8 0,.int .u8 0,.int .u8 0,.int .u8 0,.int .u8 0,.int .u8 0,.int .u8 0,.int .u8 0,.int .u8 0,.int .u8 0,.int .u8 0,.int .u8 0,.int .u8 0,.int .u8 0,.int .u8 0,.int .u8 0,.int .u8 0,.int .u8 0,.int .u8 0,.int .u8 0,.int .u8 0,.int .u8 0,.int .u8 0,.int .u8 0,.int .u8 0,.int .u8 0,.int .u8 0,.int .u8 0,.int .u8 0,.int .u8 0,.int .u8 0,.int .u8 0,.int .u8 0,.int .u8 0,.int .u8 0,.int .u8 0,.int .u8 0,.int .u8 0,.int .u8 0,.int .u8 0,.int .u8 0,.int .u8 0,.int .u8 0,.int .u8 0,.int .u8 0,.int .u8 0,.int .u8 0]⟩),(277,⟨.other,1,8,[.nilFunc]⟩),(278,⟨.other,1,8,[.nilFunc]⟩),(282,⟨.other,1,8,[.pointer none]⟩),(284,⟨.other,1,8,[.nilFunc]⟩),(285,⟨.other,1,8,[.nilFunc]⟩),(286,⟨.array 256 4,256,256,(List.replicate 256 (.bool false))⟩),(287,⟨.array 256 4,256,256,(List.replicate 256 (.bool false))⟩),(291,⟨.other,1,8,[.pointer none]⟩),(292,⟨.array 32 5,32,32,[.int .u8 0,.int .u8 0,.int .u8 0,.int .u8 0,.int .u8 0,.int .u8 0,.int .u8 0,.int .u8 0,.int .u8 0,.int .u8 0,.int .u8 0,.int .u8 0,.int .u8 0,.int .u8 0,.int .u8 0,.int .u8 0,.int .u8 0,.int .u8 0,.int .u8 0,.int .u8 0,.int .u8 0,.int .u8 0,.int .u8 0,.int .u8 0,.int .u8 0,.int .u8 0,.int .u8 0,.int .u8 0,.int .u8 0,.int .u8 0,.int .u8 0,.int .u8 0]⟩),(293,⟨.array 64 5,64,64,[.int .u8 0,.int .u8 0,.int .u8 0,.int .u8 0,.int .u8 0,.int .u8 0,.int .u8 0,.int .u8 0,.int .u8 0,.int .u8 0,.int .u8 0,.int .u8 0,.int .u8 0,.int .u8 0,.int .u8 0,.int .u8 0,.int .u8 0,.int .u8 0,.int .u8 0,.int .u8 0,.int .u8 0,.int .u8 0,.int .u8 0,.int .u8 0,.int .u8 0,.int .u8 0,.int .u8 0,.int .u8 0,.int .u8 0,.int .u8 0,.int .u8 0,.int .u8 0,.int .u8 0,.int .u8 0,.int .u8 0,.int .u8 0,.int .u8 0,.int .u8 0,.int .u8 0,.int .u8 0,.int .u8 0,.int .u8 0,.int .u8 0,.int .u8 0,.int .u8 0,.int .u8 0,.int .u8 0,.int .u8 0,.int .u8 0,.int .u8 0,.int .u8 0,.int .u8 0,.int .u8 0,.int .u8 0,.int .u8 0,.int .u8 0,.int .u8 0,.int .u8 0,.int .u8 0,.int .u8 0,.int .u8 0,.int .u8 0,.int .u8 0,.int .u8 0]⟩),(314,⟨.int .i32,1,4,[.int .i32 0]⟩)]
theorem aB:tab.Ok Tryz.prog:=
  Tab.aj (TI.mk' (z:=(.nilFunc)) (TD.av (by kernel_rfl)) (by kernel_rfl) rfl rfl rfl)<|Tab.aj (TI.mk' (z:=(.int .i64 0)) (show Tryz.prog.underlying 2=some (.int .i64) by kernel_rfl) (by kernel_rfl) rfl rfl rfl)<|Tab.aj (TI.mk' (z:=(.int .i64 0)) (show Tryz.prog.underlying 3=some (.int .i64) by kernel_rfl) (by kernel_rfl) rfl rfl rfl)<|Tab.aj (TI.mk' (z:=(.bool false)) (show Tryz.prog.underlying 4=some (.bool) by kernel_rfl) (by kernel_rfl) rfl rfl rfl)<|Tab.aj (TI.mk' (z:=(.int .u8 0)) (show Tryz.prog.underlying 5=some (.int .u8) by kernel_rfl) (by kernel_rfl) rfl rfl rfl)<|Tab.aj (TI.mk' (z:=(.int .u8 0)) (show Tryz.prog.underlying 6=some (.int .u8) by kernel_rfl) (by kernel_rfl) rfl rfl rfl)<|Tab.aj (TI.mk' (z:=(.agg #[.int .i64 0,.int .i64 0,.bool false,.int .u8 0])) (TD.mkStruct (l:=[(0,2),(1,3),(2,4),(3,6)]) (by kernel_rfl) (by kernel_rfl) (by kernel_rfl)) (by kernel_rfl) rfl rfl rfl)<|Tab.aj (TI.mk' (z:=(.agg #[.int .i64 0,.int .i64 0,.bool false,.int .u8 0])) (TD.mkStruct (l:=[(0,2),(1,3),(2,4),(3,6)]) (by kernel_rfl) (by kernel_rfl) (by kernel_rfl)) (by kernel_rfl) rfl rfl rfl)<|Tab.aj (TI.mk' (z:=(.string ByteArray.empty)) (show Tryz.prog.underlying 9=some (.string) by kernel_rfl) (by kernel_rfl) rfl rfl rfl)<|Tab.aj (TI.mk' (z:=(.string ByteArray.empty)) (show Tryz.prog.underlying 10=some (.string) by kernel_rfl) (by kernel_rfl) rfl rfl rfl)<|Tab.aj (TI.mk' (z:=(.string ByteArray.empty)) (show Tryz.prog.underlying 11=some (.string) by kernel_rfl) (by kernel_rfl) rfl rfl rfl)<|Tab.aj (TI.mk' (z:=(.int .u64 0)) (show Tryz.prog.underlying 12=some (.int .u64) by kernel_rfl) (by kernel_rfl) rfl rfl rfl)<|Tab.aj (TI.mk' (z:=(.pointer none)) (TD.av (by kernel_rfl)) (by kernel_rfl) rfl rfl rfl)<|Tab.aj (TI.mk' (z:=(.pointer none)) (TD.av (by kernel_rfl)) (by kernel_rfl) rfl rfl rfl)<|Tab.aj (TI.mk' (z:=(.pointer none)) (TD.av (by kernel_rfl)) (by kernel_rfl) rfl rfl rfl)<|Tab.aj (TI.mk' (z:=(.nilIface)) (TD.av (by kernel_rfl)) (by kernel_rfl) rfl rfl rfl)<|Tab.aj (TI.mk' (z:=(.int .i32 0)) (show Tryz.prog.underlying 21=some (.int .i32) by kernel_rfl) (by kernel_rfl) rfl rfl rfl)<|Tab.aj (TI.mk' (z:=(.slice none 0 0)) (show Tryz.prog.underlying 22=some (.slice 9) by kernel_rfl) (by kernel_rfl) rfl rfl rfl)<|Tab.aj (TI.mk' (z:=(.slice none 0 0)) (show Tryz.prog.underlying 23=some (.slice 108) by kernel_rfl) (by kernel_rfl) rfl rfl rfl)<|Tab.aj (TI.mk' (z:=(.slice none 0 0)) (show Tryz.prog.underlying 24=some (.slice 81) by kernel_rfl) (by kernel_rfl) rfl rfl rfl)<|Tab.aj (TI.mk' (z:=(.agg #[.int .i64 0,.slice none 0 0,.slice none 0 0,.slice none 0 0])) (TD.mkStruct (l:=[(0,3),(1,22),(2,23),(3,24)]) (by kernel_rfl) (by kernel_rfl) (by kernel_rfl)) (by kernel_rfl) rfl rfl rfl)<|Tab.aj (TI.mk' (z:=(.agg #[.int .i64 0,.slice none 0 0,.slice none 0 0,.slice none 0 0])) (TD.mkStruct (l:=[(0,3),(1,22),(2,23),(3,24)]) (by kernel_rfl) (by kernel_rfl) (by kernel_rfl)) (by kernel_rfl) rfl rfl rfl)<|Tab.aj (TI.mk' (z:=(.nilFunc)) (TD.av (by kernel_rfl)) (by kernel_rfl) rfl rfl rfl)<|Tab.aj (TI.mk' (z:=(.nilFunc)) (TD.av (by kernel_rfl)) (by kernel_rfl) rfl rfl rfl)<|Tab.aj (TI.mk' (z:=(.slice none 0 0)) (show Tryz.prog.underlying 29=some (.slice 3) by kernel_rfl) (by kernel_rfl) rfl rfl rfl)<|Tab.aj (TI.mk' (z:=(.int .i64 0)) (show Tryz.prog.underlying 30=some (.int .i64) by kernel_rfl) (by kernel_rfl) rfl rfl rfl)<|Tab.aj (TI.mk' (z:=(.nilFunc)) (TD.av (by kernel_rfl)) (by kernel_rfl) rfl rfl rfl)<|Tab.aj (TI.mk' (z:=(.slice none 0 0)) (show Tryz.prog.underlying 33=some (.slice 89) by kernel_rfl) (by kernel_rfl) rfl rfl rfl)<|Tab.aj (TI.mk' (z:=(.slice none 0 0)) (show Tryz.prog.underlying 34=some (.slice 123) by kernel_rfl) (by kernel_rfl) rfl rfl rfl)<|Tab.aj (TI.mk' (z:=(.agg #[.int .i64 0,.slice none 0 0,.slice none 0 0,.slice none 0 0])) (TD.mkStruct (l:=[(0,3),(1,22),(2,33),(3,34)]) (by kernel_rfl) (by kernel_rfl) (by kernel_rfl)) (by kernel_rfl) rfl rfl rfl)<|Tab.aj (TI.mk' (z:=(.agg #[.int .i64 0,.slice none 0 0,.slice none 0 0,.slice none 0 0])) (TD.mkStruct (l:=[(0,3),(1,22),(2,33),(3,34)]) (by kernel_rfl) (by kernel_rfl) (by kernel_rfl)) (by kernel_rfl) rfl rfl rfl)<|Tab.aj (TI.mk' (z:=(.nilFunc)) (TD.av (by kernel_rfl)) (by kernel_rfl) rfl rfl rfl)<|Tab.aj (TI.mk' (z:=(.nilFunc)) (TD.av (by kernel_rfl)) (by kernel_rfl) rfl rfl rfl)<|Tab.aj (TI.mk' (z:=(.nilFunc)) (TD.av (by kernel_rfl)) (by kernel_rfl) rfl rfl rfl)<|Tab.aj (TI.mk' (z:=(.slice none 0 0)) (show Tryz.prog.underlying 41=some (.slice 95) by kernel_rfl) (by kernel_rfl) rfl rfl rfl)<|Tab.aj (TI.mk' (z:=(.agg #[.int .i64 0,.slice none 0 0])) (TD.mkStruct (l:=[(0,3),(1,41)]) (by kernel_rfl) (by kernel_rfl) (by kernel_rfl)) (by kernel_rfl) rfl rfl rfl)<|Tab.aj (TI.mk' (z:=(.nilFunc)) (TD.av (by kernel_rfl)) (by kernel_rfl) rfl rfl rfl)<|Tab.aj (TI.mk' (z:=(.nilFunc)) (TD.av (by kernel_rfl)) (by kernel_rfl) rfl rfl rfl)<|Tab.aj (TI.mk' (z:=(.nilFunc)) (TD.av (by kernel_rfl)) (by kernel_rfl) rfl rfl rfl)<|Tab.aj (TI.mk' (z:=(.nilFunc)) (TD.av (by kernel_rfl)) (by kernel_rfl) rfl rfl rfl)<|Tab.aj (TI.mk' (z:=(.nilFunc)) (TD.av (by kernel_rfl)) (by kernel_rfl) rfl rfl rfl)<|Tab.aj (TI.mk' (z:=(.nilFunc)) (TD.av (by kernel_rfl)) (by kernel_rfl) rfl rfl rfl)<|Tab.aj (TI.mk' (z:=(.nilFunc)) (TD.av (by kernel_rfl)) (by kernel_rfl) rfl rfl rfl)<|Tab.aj (TI.mk' (z:=(.nilFunc)) (TD.av (by kernel_rfl)) (by kernel_rfl) rfl rfl rfl)<|Tab.aj (TI.mk' (z:=(.nilFunc)) (TD.av (by kernel_rfl)) (by kernel_rfl) rfl rfl rfl)<|Tab.aj (TI.mk' (z:=(.nilFunc)) (TD.av (by kernel_rfl)) (by kernel_rfl) rfl rfl rfl)<|Tab.aj (TI.mk' (z:=(.nilFunc)) (TD.av (by kernel_rfl)) (by kernel_rfl) rfl rfl rfl)<|Tab.aj (TI.mk' (z:=(.slice none 0 0)) (show Tryz.prog.underlying 62=some (.slice 72) by kernel_rfl) (by kernel_rfl) rfl rfl rfl)<|Tab.aj (TI.mk' (z:=(.nilFunc)) (TD.av (by kernel_rfl)) (by kernel_rfl) rfl rfl rfl)<|Tab.aj (TI.mk' (z:=(.nilFunc)) (TD.av (by kernel_rfl)) (by kernel_rfl) rfl rfl rfl)<|Tab.aj (TI.mk' (z:=(.nilFunc)) (TD.av (by kernel_rfl)) (by kernel_rfl) rfl rfl rfl)<|Tab.aj (TI.mk' (z:=(.nilFunc)) (TD.av (by kernel_rfl)) (by kernel_rfl) rfl rfl rfl)<|Tab.aj (TI.mk' (z:=(.nilFunc)) (TD.av (by kernel_rfl)) (by kernel_rfl) rfl rfl rfl)<|Tab.aj (TI.mk' (z:=(.slice none 0 0)) (show Tryz.prog.underlying 72=some (.slice 4) by kernel_rfl) (by kernel_rfl) rfl rfl rfl)<|Tab.aj (TI.mk' (z:=(.nilFunc)) (TD.av (by kernel_rfl)) (by kernel_rfl) rfl rfl rfl)<|Tab.aj (TI.mk' (z:=(.map none)) (show Tryz.prog.underlying 76=some (.map 3 4) by kernel_rfl) (by kernel_rfl) rfl rfl rfl)<|Tab.aj (TI.mk' (z:=(.slice none 0 0)) (show Tryz.prog.underlying 77=some (.slice 79) by kernel_rfl) (by kernel_rfl) rfl rfl rfl)<|Tab.aj (TI.mk' (z:=(.agg #[.int .i64 0,.int .i64 0,.slice none 0 0])) (TD.mkStruct (l:=[(0,3),(1,3),(2,77)]) (by kernel_rfl) (by kernel_rfl) (by kernel_rfl)) (by kernel_rfl) rfl rfl rfl)<|Tab.aj (TI.mk' (z:=(.agg #[.int .i64 0,.int .i64 0,.slice none 0 0])) (TD.mkStruct (l:=[(0,3),(1,3),(2,77)]) (by kernel_rfl) (by kernel_rfl) (by kernel_rfl)) (by kernel_rfl) rfl rfl rfl)<|Tab.aj (TI.mk' (z:=(.agg #[.slice none 0 0,.slice none 0 0,.int .i64 0,.int .i64 0,.slice none 0 0])) (TD.mkStruct (l:=[(0,29),(1,29),(2,79)]) (by kernel_rfl) (by kernel_rfl) (by kernel_rfl)) (by kernel_rfl) rfl rfl rfl)<|Tab.aj (TI.mk' (z:=(.agg #[.slice none 0 0,.slice none 0 0,.int .i64 0,.int .i64 0,.slice none 0 0])) (TD.mkStruct (l:=[(0,29),(1,29),(2,79)]) (by kernel_rfl) (by kernel_rfl) (by kernel_rfl)) (by kernel_rfl) rfl rfl rfl)<|Tab.aj (TI.mk' (z:=(.nilFunc)) (TD.av (by kernel_rfl)) (by kernel_rfl) rfl rfl rfl)<|Tab.aj (TI.mk' (z:=(.nilFunc)) (TD.av (by kernel_rfl)) (by kernel_rfl) rfl rfl rfl)<|Tab.aj (TI.mk' (z:=(.nilFunc)) (TD.av (by kernel_rfl)) (by kernel_rfl) rfl rfl rfl)<|Tab.aj (TI.mk' (z:=(.slice none 0 0)) (show Tryz.prog.underlying 87=some (.slice 94) by kernel_rfl) (by kernel_rfl) rfl rfl rfl)<|Tab.aj (TI.mk' (z:=(.agg #[.slice none 0 0,.int .i64 0])) (TD.mkStruct (l:=[(0,87),(1,3)]) (by kernel_rfl) (by kernel_rfl) (by kernel_rfl)) (by kernel_rfl) rfl rfl rfl)<|Tab.aj (TI.mk' (z:=(.agg #[.slice none 0 0,.int .i64 0])) (TD.mkStruct (l:=[(0,87),(1,3)]) (by kernel_rfl) (by kernel_rfl) (by kernel_rfl)) (by kernel_rfl) rfl rfl rfl)<|Tab.aj (TI.mk' (z:=(.nilFunc)) (TD.av (by kernel_rfl)) (by kernel_rfl) rfl rfl rfl)<|Tab.aj (TI.mk' (z:=(.nilFunc)) (TD.av (by kernel_rfl)) (by kernel_rfl) rfl rfl rfl)<|Tab.aj (TI.mk' (z:=(.agg #[.int .i64 0,.bool false])) (TD.mkStruct (l:=[(0,3),(1,4)]) (by kernel_rfl) (by kernel_rfl) (by kernel_rfl)) (by kernel_rfl) rfl rfl rfl)<|Tab.aj (TI.mk' (z:=(.agg #[.int .i64 0,.bool false])) (TD.mkStruct (l:=[(0,3),(1,4)]) (by kernel_rfl) (by kernel_rfl) (by kernel_rfl)) (by kernel_rfl) rfl rfl rfl)<|Tab.aj (TI.mk' (z:=(.agg #[.slice none 0 0,.int .i64 0])) (TD.mkStruct (l:=[(0,87),(1,3)]) (by kernel_rfl) (by kernel_rfl) (by kernel_rfl)) (by kernel_rfl) rfl rfl rfl)<|Tab.aj (TI.mk' (z:=(.nilFunc)) (TD.av (by kernel_rfl)) (by kernel_rfl) rfl rfl rfl)<|Tab.aj (TI.mk' (z:=(.nilFunc)) (TD.av (by kernel_rfl)) (by kernel_rfl) rfl rfl rfl)<|Tab.aj (TI.mk' (z:=(.nilFunc)) (TD.av (by kernel_rfl)) (by kernel_rfl) rfl rfl rfl)<|Tab.aj (TI.mk' (z:=(.map none)) (show Tryz.prog.underlying 100=some (.map 3 3) by kernel_rfl) (by kernel_rfl) rfl rfl rfl)<|Tab.aj (TI.mk' (z:=(.nilFunc)) (TD.av (by kernel_rfl)) (by kernel_rfl) rfl rfl rfl)<|Tab.aj (TI.mk' (z:=(.nilFunc)) (TD.av (by kernel_rfl)) (by kernel_rfl) rfl rfl rfl)<|Tab.aj (TI.mk' (z:=(.agg #[.slice none 0 0,.int .i64 0])) (TD.mkStruct (l:=[(0,87),(1,3)]) (by kernel_rfl) (by kernel_rfl) (by kernel_rfl)) (by kernel_rfl) rfl rfl rfl)<|Tab.aj (TI.mk' (z:=(.nilFunc)) (TD.av (by kernel_rfl)) (by kernel_rfl) rfl rfl rfl)<|Tab.aj (TI.mk' (z:=(.nilFunc)) (TD.av (by kernel_rfl)) (by kernel_rfl) rfl rfl rfl)<|Tab.aj (TI.mk' (z:=(.slice none 0 0)) (show Tryz.prog.underlying 112=some (.slice 117) by kernel_rfl) (by kernel_rfl) rfl rfl rfl)<|Tab.aj (TI.mk' (z:=(.slice none 0 0)) (show Tryz.prog.underlying 113=some (.slice 29) by kernel_rfl) (by kernel_rfl) rfl rfl rfl)<|Tab.aj (TI.mk' (z:=(.nilFunc)) (TD.av (by kernel_rfl)) (by kernel_rfl) rfl rfl rfl)<|Tab.aj (TI.mk' (z:=(.agg #[.bool false,.bool false,.bool false,.bool false,.bool false,.bool false,.bool false,.bool false,.bool false,.bool false,.bool false,.bool false,.bool false,.bool false,.bool false,.bool false,.bool false,.bool false,.bool false,.bool false,.bool false,.bool false,.bool false,.bool false])) (show Tryz.prog.underlying 116=some (.array 24 4) by kernel_rfl) (by kernel_rfl) rfl rfl rfl)<|Tab.aj (TI.mk' (z:=(.agg #[.bool false,.bool false,.bool false,.bool false,.bool false,.bool false,.bool false,.bool false,.bool false,.bool false,.bool false,.bool false,.bool false,.bool false,.bool false,.bool false,.bool false,.bool false,.bool false,.bool false,.bool false,.bool false,.bool false,.bool false])) (show Tryz.prog.underlying 117=some (.array 24 4) by kernel_rfl) (by kernel_rfl) rfl rfl rfl)<|Tab.aj (TI.mk' (z:=(.nilFunc)) (TD.av (by kernel_rfl)) (by kernel_rfl) rfl rfl rfl)<|Tab.aj (TI.mk' (z:=(.nilFunc)) (TD.av (by kernel_rfl)) (by kernel_rfl) rfl rfl rfl)<|Tab.aj (TI.mk' (z:=(.nilFunc)) (TD.av (by kernel_rfl)) (by kernel_rfl) rfl rfl rfl)<|Tab.aj (TI.mk' (z:=(.agg #[.slice none 0 0,.slice none 0 0,.int .i64 0,.int .i64 0,.slice none 0 0])) (TD.mkStruct (l:=[(0,29),(1,29),(2,79)]) (by kernel_rfl) (by kernel_rfl) (by kernel_rfl)) (by kernel_rfl) rfl rfl rfl)<|Tab.aj (TI.mk' (z:=(.slice none 0 0)) (show Tryz.prog.underlying 124=some (.slice 129) by kernel_rfl) (by kernel_rfl) rfl rfl rfl)<|Tab.aj (TI.mk' (z:=(.nilFunc)) (TD.av (by kernel_rfl)) (by kernel_rfl) rfl rfl rfl)<|Tab.aj (TI.mk' (z:=(.nilFunc)) (TD.av (by kernel_rfl)) (by kernel_rfl) rfl rfl rfl)<|Tab.aj (TI.mk' (z:=(.agg #[.slice none 0 0,.slice none 0 0])) (TD.mkStruct (l:=[(0,72),(1,29)]) (by kernel_rfl) (by kernel_rfl) (by kernel_rfl)) (by kernel_rfl) rfl rfl rfl)<|Tab.aj (TI.mk' (z:=(.agg #[.slice none 0 0,.slice none 0 0])) (TD.mkStruct (l:=[(0,72),(1,29)]) (by kernel_rfl) (by kernel_rfl) (by kernel_rfl)) (by kernel_rfl) rfl rfl rfl)<|Tab.aj (TI.mk' (z:=(.nilFunc)) (TD.av (by kernel_rfl)) (by kernel_rfl) rfl rfl rfl)<|Tab.aj (TI.mk' (z:=(.nilFunc)) (TD.av (by kernel_rfl)) (by kernel_rfl) rfl rfl rfl)<|Tab.aj (TI.mk' (z:=(.nilFunc)) (TD.av (by kernel_rfl)) (by kernel_rfl) rfl rfl rfl)<|Tab.aj (TI.mk' (z:=(.nilFunc)) (TD.av (by kernel_rfl)) (by kernel_rfl) rfl rfl rfl)<|Tab.aj (TI.mk' (z:=(.nilFunc)) (TD.av (by kernel_rfl)) (by kernel_rfl) rfl rfl rfl)<|Tab.aj (TI.mk' (z:=(.nilFunc)) (TD.av (by kernel_rfl)) (by kernel_rfl) rfl rfl rfl)<|Tab.aj (TI.mk' (z:=(.nilFunc)) (TD.av (by kernel_rfl)) (by kernel_rfl) rfl rfl rfl)<|Tab.aj (TI.mk' (z:=(.nilFunc)) (TD.av (by kernel_rfl)) (by kernel_rfl) rfl rfl rfl)<|Tab.aj (TI.mk' (z:=(.nilFunc)) (TD.av (by kernel_rfl)) (by kernel_rfl) rfl rfl rfl)<|Tab.aj (TI.mk' (z:=(.pointer none)) (TD.av (by kernel_rfl)) (by kernel_rfl) rfl rfl rfl)<|Tab.aj (TI.mk' (z:=(.slice none 0 0)) (show Tryz.prog.underlying 141=some (.slice 5) by kernel_rfl) (by kernel_rfl) rfl rfl rfl)<|Tab.aj (TI.mk' (z:=(.agg #[.pointer none,.slice none 0 0])) (TD.mkStruct (l:=[(0,140),(1,141)]) (by kernel_rfl) (by kernel_rfl) (by kernel_rfl)) (by kernel_rfl) rfl rfl rfl)<|Tab.aj (TI.mk' (z:=(.agg #[.pointer none,.slice none 0 0])) (TD.mkStruct (l:=[(0,140),(1,141)]) (by kernel_rfl) (by kernel_rfl) (by kernel_rfl)) (by kernel_rfl) rfl rfl rfl)<|Tab.aj (TI.mk' (z:=(.nilIface)) (TD.av (by kernel_rfl)) (by kernel_rfl) rfl rfl rfl)<|Tab.aj (TI.mk' (z:=(.nilIface)) (TD.av (by kernel_rfl)) (by kernel_rfl) rfl rfl rfl)<|Tab.aj (TI.mk' (z:=(.nilFunc)) (TD.av (by kernel_rfl)) (by kernel_rfl) rfl rfl rfl)<|Tab.aj (TI.mk' (z:=(.nilFunc)) (TD.av (by kernel_rfl)) (by kernel_rfl) rfl rfl rfl)<|Tab.aj (TI.mk' (z:=(.nilFunc)) (TD.av (by kernel_rfl)) (by kernel_rfl) rfl rfl rfl)<|Tab.aj (TI.mk' (z:=(.nilFunc)) (TD.av (by kernel_rfl)) (by kernel_rfl) rfl rfl rfl)<|Tab.aj (TI.mk' (z:=(.nilFunc)) (TD.av (by kernel_rfl)) (by kernel_rfl) rfl rfl rfl)<|Tab.aj (TI.mk' (z:=(.nilFunc)) (TD.av (by kernel_rfl)) (by kernel_rfl) rfl rfl rfl)<|Tab.aj (TI.mk' (z:=(.nilFunc)) (TD.av (by kernel_rfl)) (by kernel_rfl) rfl rfl rfl)<|Tab.aj (TI.mk' (z:=(.nilFunc)) (TD.av (by kernel_rfl)) (by kernel_rfl) rfl rfl rfl)<|Tab.aj (TI.mk' (z:=(.nilFunc)) (TD.av (by kernel_rfl)) (by kernel_rfl) rfl rfl rfl)<|Tab.aj (TI.mk' (z:=(.nilFunc)) (TD.av (by kernel_rfl)) (by kernel_rfl) rfl rfl rfl)<|Tab.aj (TI.mk' (z:=(.nilFunc)) (TD.av (by kernel_rfl)) (by kernel_rfl) rfl rfl rfl)<|Tab.aj (TI.mk' (z:=(.nilFunc)) (TD.av (by kernel_rfl)) (by kernel_rfl) rfl rfl rfl)<|Tab.aj (TI.mk' (z:=(.nilFunc)) (TD.av (by kernel_rfl)) (by kernel_rfl) rfl rfl rfl)<|Tab.aj (TI.mk' (z:=(.nilFunc)) (TD.av (by kernel_rfl)) (by kernel_rfl) rfl rfl rfl)<|Tab.aj (TI.mk' (z:=(.nilFunc)) (TD.av (by kernel_rfl)) (by kernel_rfl) rfl rfl rfl)<|Tab.aj (TI.mk' (z:=(.nilFunc)) (TD.av (by kernel_rfl)) (by kernel_rfl) rfl rfl rfl)<|Tab.aj (TI.mk' (z:=(.nilFunc)) (TD.av (by kernel_rfl)) (by kernel_rfl) rfl rfl rfl)<|Tab.aj (TI.mk' (z:=(.nilFunc)) (TD.av (by kernel_rfl)) (by kernel_rfl) rfl rfl rfl)<|Tab.aj (TI.mk' (z:=(.nilFunc)) (TD.av (by kernel_rfl)) (by kernel_rfl) rfl rfl rfl)<|Tab.aj (TI.mk' (z:=(.nilFunc)) (TD.av (by kernel_rfl)) (by kernel_rfl) rfl rfl rfl)<|Tab.aj (TI.mk' (z:=(.nilFunc)) (TD.av (by kernel_rfl)) (by kernel_rfl) rfl rfl rfl)<|Tab.aj (TI.mk' (z:=(.nilFunc)) (TD.av (by kernel_rfl)) (by kernel_rfl) rfl rfl rfl)<|Tab.aj (TI.mk' (z:=(.nilFunc)) (TD.av (by kernel_rfl)) (by kernel_rfl) rfl rfl rfl)<|Tab.aj (TI.mk' (z:=(.nilFunc)) (TD.av (by kernel_rfl)) (by kernel_rfl) rfl rfl rfl)<|Tab.aj (TI.mk' (z:=(.nilFunc)) (TD.av (by kernel_rfl)) (by kernel_rfl) rfl rfl rfl)<|Tab.aj (TI.mk' (z:=(.nilFunc)) (TD.av (by kernel_rfl)) (by kernel_rfl) rfl rfl rfl)<|Tab.aj (TI.mk' (z:=(.nilFunc)) (TD.av (by kernel_rfl)) (by kernel_rfl) rfl rfl rfl)<|Tab.aj (TI.mk' (z:=(.nilFunc)) (TD.av (by kernel_rfl)) (by kernel_rfl) rfl rfl rfl)<|Tab.aj (TI.mk' (z:=(.nilFunc)) (TD.av (by kernel_rfl)) (by kernel_rfl) rfl rfl rfl)<|Tab.aj (TI.mk' (z:=(.nilFunc)) (TD.av (by kernel_rfl)) (by kernel_rfl) rfl rfl rfl)<|Tab.aj (TI.mk' (z:=(.nilFunc)) (TD.av (by kernel_rfl)) (by kernel_rfl) rfl rfl rfl)<|Tab.aj (TI.mk' (z:=(.nilFunc)) (TD.av (by kernel_rfl)) (by kernel_rfl) rfl rfl rfl)<|Tab.aj (TI.mk' (z:=(.nilFunc)) (TD.av (by kernel_rfl)) (by kernel_rfl) rfl rfl rfl)<|Tab.aj (TI.mk' (z:=(.nilFunc)) (TD.av (by kernel_rfl)) (by kernel_rfl) rfl rfl rfl)<|Tab.aj (TI.mk' (z:=(.nilFunc)) (TD.av (by kernel_rfl)) (by kernel_rfl) rfl rfl rfl)<|Tab.aj (TI.mk' (z:=(.nilFunc)) (TD.av (by kernel_rfl)) (by kernel_rfl) rfl rfl rfl)<|Tab.aj (TI.mk' (z:=(.nilFunc)) (TD.av (by kernel_rfl)) (by kernel_rfl) rfl rfl rfl)<|Tab.aj (TI.mk' (z:=(.nilFunc)) (TD.av (by kernel_rfl)) (by kernel_rfl) rfl rfl rfl)<|Tab.aj (TI.mk' (z:=(.agg #[.bool false,.bool false,.bool false,.bool false,.bool false,.bool false])) (show Tryz.prog.underlying 193=some (.array 6 4) by kernel_rfl) (by kernel_rfl) rfl rfl rfl)<|Tab.aj (TI.mk' (z:=(.agg #[.bool false,.bool false,.bool false,.bool false,.bool false,.bool false])) (show Tryz.prog.underlying 194=some (.array 6 4) by kernel_rfl) (by kernel_rfl) rfl rfl rfl)<|Tab.aj (TI.mk' (z:=(.nilFunc)) (TD.av (by kernel_rfl)) (by kernel_rfl) rfl rfl rfl)<|Tab.aj (TI.mk' (z:=(.nilFunc)) (TD.av (by kernel_rfl)) (by kernel_rfl) rfl rfl rfl)<|Tab.aj (TI.mk' (z:=(.nilFunc)) (TD.av (by kernel_rfl)) (by kernel_rfl) rfl rfl rfl)<|Tab.aj (TI.mk' (z:=(.nilFunc)) (TD.av (by kernel_rfl)) (by kernel_rfl) rfl rfl rfl)<|Tab.aj (TI.mk' (z:=(.pointer none)) (TD.av (by kernel_rfl)) (by kernel_rfl) rfl rfl rfl)<|Tab.aj (TI.mk' (z:=(.agg #[.pointer none,.slice none 0 0,.slice none 0 0])) (TD.mkStruct (l:=[(0,143),(2,22)]) (by kernel_rfl) (by kernel_rfl) (by kernel_rfl)) (by kernel_rfl) rfl rfl rfl)<|Tab.aj (TI.mk' (z:=(.agg #[.pointer none,.slice none 0 0,.slice none 0 0])) (TD.mkStruct (l:=[(0,143),(2,22)]) (by kernel_rfl) (by kernel_rfl) (by kernel_rfl)) (by kernel_rfl) rfl rfl rfl)<|Tab.aj (TI.mk' (z:=(.nilFunc)) (TD.av (by kernel_rfl)) (by kernel_rfl) rfl rfl rfl)<|Tab.aj (TI.mk' (z:=(.nilFunc)) (TD.av (by kernel_rfl)) (by kernel_rfl) rfl rfl rfl)<|Tab.aj (TI.mk' (z:=(.nilFunc)) (TD.av (by kernel_rfl)) (by kernel_rfl) rfl rfl rfl)<|Tab.aj (TI.mk' (z:=(.pointer none)) (TD.av (by kernel_rfl)) (by kernel_rfl) rfl rfl rfl)<|Tab.aj (TI.mk' (z:=(.nilFunc)) (TD.av (by kernel_rfl)) (by kernel_rfl) rfl rfl rfl)<|Tab.aj (TI.mk' (z:=(.nilFunc)) (TD.av (by kernel_rfl)) (by kernel_rfl) rfl rfl rfl)<|Tab.aj (TI.mk' (z:=(.nilFunc)) (TD.av (by kernel_rfl)) (by kernel_rfl) rfl rfl rfl)<|Tab.aj (TI.mk' (z:=(.nilFunc)) (TD.av (by kernel_rfl)) (by kernel_rfl) rfl rfl rfl)<|Tab.aj (TI.mk' (z:=(.nilFunc)) (TD.av (by kernel_rfl)) (by kernel_rfl) rfl rfl rfl)<|Tab.aj (TI.mk' (z:=(.nilFunc)) (TD.av (by kernel_rfl)) (by kernel_rfl) rfl rfl rfl)<|Tab.aj (TI.mk' (z:=(.int .u64 0)) (show Tryz.prog.underlying 214=some (.int .u64) by kernel_rfl) (by kernel_rfl) rfl rfl rfl)<|Tab.aj (TI.mk' (z:=(.nilFunc)) (TD.av (by kernel_rfl)) (by kernel_rfl) rfl rfl rfl)<|Tab.aj (TI.mk' (z:=(.nilFunc)) (TD.av (by kernel_rfl)) (by kernel_rfl) rfl rfl rfl)<|Tab.aj (TI.mk' (z:=(.nilFunc)) (TD.av (by kernel_rfl)) (by kernel_rfl) rfl rfl rfl)<|Tab.aj (TI.mk' (z:=(.nilFunc)) (TD.av (by kernel_rfl)) (by kernel_rfl) rfl rfl rfl)<|Tab.aj (TI.mk' (z:=(.nilFunc)) (TD.av (by kernel_rfl)) (by kernel_rfl) rfl rfl rfl)<|Tab.aj (TI.mk' (z:=(.nilFunc)) (TD.av (by kernel_rfl)) (by kernel_rfl) rfl rfl rfl)<|Tab.aj (TI.mk' (z:=(.nilFunc)) (TD.av (by kernel_rfl)) (by kernel_rfl) rfl rfl rfl)<|Tab.aj (TI.mk' (z:=(.map none)) (show Tryz.prog.underlying 223=some (.map 117 4) by kernel_rfl) (by kernel_rfl) rfl rfl rfl)<|Tab.aj (TI.mk' (z:=(.nilFunc)) (TD.av (by kernel_rfl)) (by kernel_rfl) rfl rfl rfl)<|Tab.aj (TI.mk' (z:=(.nilFunc)) (TD.av (by kernel_rfl)) (by kernel_rfl) rfl rfl rfl)<|Tab.aj (TI.mk' (z:=(.pointer none)) (TD.av (by kernel_rfl)) (by kernel_rfl) rfl rfl rfl)<|Tab.aj (TI.mk' (z:=(.nilFunc)) (TD.av (by kernel_rfl)) (by kernel_rfl) rfl rfl rfl)<|Tab.aj (TI.mk' (z:=(.nilFunc)) (TD.av (by kernel_rfl)) (by kernel_rfl) rfl rfl rfl)<|Tab.aj (TI.mk' (z:=(.nilFunc)) (TD.av (by kernel_rfl)) (by kernel_rfl) rfl rfl rfl)<|Tab.aj (TI.mk' (z:=(.nilFunc)) (TD.av (by kernel_rfl)) (by kernel_rfl) rfl rfl rfl)<|Tab.aj (TI.mk' (z:=(.nilFunc)) (TD.av (by kernel_rfl)) (by kernel_rfl) rfl rfl rfl)<|Tab.aj (TI.mk' (z:=(.nilFunc)) (TD.av (by kernel_rfl)) (by kernel_rfl) rfl rfl rfl)<|Tab.aj (TI.mk' (z:=(.slice none 0 0)) (show Tryz.prog.underlying 237=some (.slice 3) by kernel_rfl) (by kernel_rfl) rfl rfl rfl)<|Tab.aj (TI.mk' (z:=(.nilFunc)) (TD.av (by kernel_rfl)) (by kernel_rfl) rfl rfl rfl)<|Tab.aj (TI.mk' (z:=(.nilFunc)) (TD.av (by kernel_rfl)) (by kernel_rfl) rfl rfl rfl)<|Tab.aj (TI.mk' (z:=(.nilFunc)) (TD.av (by kernel_rfl)) (by kernel_rfl) rfl rfl rfl)<|Tab.aj (TI.mk' (z:=(.nilFunc)) (TD.av (by kernel_rfl)) (by kernel_rfl) rfl rfl rfl)<|Tab.aj (TI.mk' (z:=(.int .i64 0)) (show Tryz.prog.underlying 243=some (.int .i64) by kernel_rfl) (by kernel_rfl) rfl rfl rfl)<|Tab.aj (TI.mk' (z:=(.nilFunc)) (TD.av (by kernel_rfl)) (by kernel_rfl) rfl rfl rfl)<|Tab.aj (TI.mk' (z:=(.nilFunc)) (TD.av (by kernel_rfl)) (by kernel_rfl) rfl rfl rfl)<|Tab.aj (TI.mk' (z:=(.int .u32 0)) (show Tryz.prog.underlying 250=some (.int .u32) by kernel_rfl) (by kernel_rfl) rfl rfl rfl)<|Tab.aj (TI.mk' (z:=(.int .u64 0)) (show Tryz.prog.underlying 252=some (.int .u64) by kernel_rfl) (by kernel_rfl) rfl rfl rfl)<|Tab.aj (TI.mk' (z:=(.agg #[.int .u8 0,.int .u8 0,.int .u8 0,.int .u8 0,.int .u8 0,.int .u8 0,.int .u8 0,.int .u8 0,.int .u8 0,.int .u8 0,.int .u8 0,.int .u8 0,.int .u8 0,.int .u8 0,.int .u8 0,.int .u8 0,.int .u8 0,.int .u8 0,.int .u8 0,.int .u8 0,.int .u8 0,.int .u8 0,.int .u8 0,.int .u8 0])) (show Tryz.prog.underlying 253=some (.array 24 5) by kernel_rfl) (by kernel_rfl) rfl rfl rfl)<|Tab.aj (TI.mk' (z:=(.nilFunc)) (TD.av (by kernel_rfl)) (by kernel_rfl) rfl rfl rfl)<|Tab.aj (TI.mk' (z:=(.nilFunc)) (TD.av (by kernel_rfl)) (by kernel_rfl) rfl rfl rfl)<|Tab.aj (TI.mk' (z:=(.nilFunc)) (TD.av (by kernel_rfl)) (by kernel_rfl) rfl rfl rfl)<|Tab.aj (TI.mk' (z:=(.agg #[.int .i64 0,.int .i64 0,.nilFunc])) (TD.mkStruct (l:=[(0,3),(1,3),(2,258)]) (by kernel_rfl) (by kernel_rfl) (by kernel_rfl)) (by kernel_rfl) rfl rfl rfl)<|Tab.aj (TI.mk' (z:=(.agg #[.int .i64 0,.int .i64 0,.nilFunc,.int .i64 0,.int .i64 0,.nilFunc,.int .i64 0,.int .i64 0,.nilFunc,.int .i64 0,.int .i64 0,.nilFunc,.int .i64 0,.int .i64 0,.nilFunc])) (show Tryz.prog.underlying 261=some (.array 5 260) by kernel_rfl) (by kernel_rfl) rfl rfl rfl)<|Tab.aj (TI.mk' (z:=(.int .u64 0)) (show Tryz.prog.underlying 265=some (.int .u64) by kernel_rfl) (by kernel_rfl) rfl rfl rfl)<|Tab.aj (TI.mk' (z:=(.nilFunc)) (TD.av (by kernel_rfl)) (by kernel_rfl) rfl rfl rfl)<|Tab.aj (TI.mk' (z:=(.nilFunc)) (TD.av (by kernel_rfl)) (by kernel_rfl) rfl rfl rfl)<|Tab.aj (TI.mk' (z:=(.pointer none)) (TD.av (by kernel_rfl)) (by kernel_rfl) rfl rfl rfl)<|Tab.aj (TI.mk' (z:=(.nilFunc)) (TD.av (by kernel_rfl)) (by kernel_rfl) rfl rfl rfl)<|Tab.aj (TI.mk' (z:=(.nilFunc)) (TD.av (by kernel_rfl)) (by kernel_rfl) rfl rfl rfl)<|Tab.aj (TI.mk' (z:=(.agg #[.int .u64 0,.int .u64 0,.int .u64 0,.int .u64 0,.int .u64 0,.int .u64 0,.int .u64 0,.int .u64 0,.int .u64 0,.int .u64 0,.int .u64 0,.int .u64 0,.int .u64 0,.int .u64 0,.int .u64 0,.int .u64 0,.int .u64 0,.int .u64 0,.int .u64 0,.int .u64 0])) (show Tryz.prog.underlying 275=some (.array 20 252) by kernel_rfl) (by kernel_rfl) rfl rfl rfl)<|Tab.aj (TI.mk' (z:=(.agg #[.int .u8 0,.int .u8 0,.int .u8 0,.int .u8 0,.int .u8 0,.int .u8 0,.int .u8 0,.int .u8 0,.int .u8 0,.int .u8 0,.int .u8 0,.int .u8 0,.int .u8 0,.int .u8 0,.int .u8 0,.int .u8 0,.int .u8 0,.int .u8 0,.int .u8 0,.int .u8 0,.int .u8 0,.int .u8 0,.int .u8 0,.int .u8 0,.int .u8 0,.int .u8 0,.int .u8 0,.int .u8 0,.int .u8 0,.int .u8 0,.int .u8 0,.int .u8 0,.int .u8 0,.int .u8 0,.int .u8 0,.int .u8 0,.int .u8 0,.int .u8 0,.int .u8 0,.int .u8 0,.int .u8 0,.int .u8 0,.int .u8 0,.int .u8 0,.int .u8 0,.int .u8 0,.int .u8 0,.int .u8 0,.int .u8 0,.int .u8 0,.int .u8 0,.int .u8 0,.int .u8 0,.int .u8 0,.int .u8 0,.int .u8 0,.int .u8 0,.int .u8 0,.int .u8 0,.int .u8 0,.int .u8 0,.int .u8 0,.int .u8 0,.int .u8 0,.int .u8 0])) (show Tryz.prog.underlying 276=some (.array 65 5) by kernel_rfl) (by kernel_rfl) rfl rfl rfl)<|Tab.aj (TI.mk' (z:=(.nilFunc)) (TD.av (by kernel_rfl)) (by kernel_rfl) rfl rfl rfl)<|Tab.aj (TI.mk' (z:=(.nilFunc)) (TD.av (by kernel_rfl)) (by kernel_rfl) rfl rfl rfl)<|Tab.aj (TI.mk' (z:=(.pointer none)) (TD.av (by kernel_rfl)) (by kernel_rfl) rfl rfl rfl)<|Tab.aj (TI.mk' (z:=(.nilFunc)) (TD.av (by kernel_rfl)) (by kernel_rfl) rfl rfl rfl)<|Tab.aj (TI.mk' (z:=(.nilFunc)) (TD.av (by kernel_rfl)) (by kernel_rfl) rfl rfl rfl)<|Tab.aj (TI.mk' (z:=(.agg (List.replicate 256 (.bool false)).toArray)) (show Tryz.prog.underlying 286=some (.array 256 4) by kernel_rfl) (by kernel_rfl) rfl rfl rfl)<|Tab.aj (TI.mk' (z:=(.agg (List.replicate 256 (.bool false)).toArray)) (show Tryz.prog.underlying 287=some (.array 256 4) by kernel_rfl) (by kernel_rfl) rfl rfl rfl)<|Tab.aj (TI.mk' (z:=(.pointer none)) (TD.av (by kernel_rfl)) (by kernel_rfl) rfl rfl rfl)<|Tab.aj (TI.mk' (z:=(.agg #[.int .u8 0,.int .u8 0,.int .u8 0,.int .u8 0,.int .u8 0,.int .u8 0,.int .u8 0,.int .u8 0,.int .u8 0,.int .u8 0,.int .u8 0,.int .u8 0,.int .u8 0,.int .u8 0,.int .u8 0,.int .u8 0,.int .u8 0,.int .u8 0,.int .u8 0,.int .u8 0,.int .u8 0,.int .u8 0,.int .u8 0,.int .u8 0,.int .u8 0,.int .u8 0,.int .u8 0,.int .u8 0,.int .u8 0,.int .u8 0,.int .u8 0,.int .u8 0])) (show Tryz.prog.underlying 292=some (.array 32 5) by kernel_rfl) (by kernel_rfl) rfl rfl rfl)<|Tab.aj (TI.mk' (z:=(.agg #[.int .u8 0,.int .u8 0,.int .u8 0,.int .u8 0,.int .u8 0,.int .u8 0,.int .u8 0,.int .u8 0,.int .u8 0,.int .u8 0,.int .u8 0,.int .u8 0,.int .u8 0,.int .u8 0,.int .u8 0,.int .u8 0,.int .u8 0,.int .u8 0,.int .u8 0,.int .u8 0,.int .u8 0,.int .u8 0,.int .u8 0,.int .u8 0,.int .u8 0,.int .u8 0,.int .u8 0,.int .u8 0,.int .u8 0,.int .u8 0,.int .u8 0,.int .u8 0,.int .u8 0,.int .u8 0,.int .u8 0,.int .u8 0,.int .u8 0,.int .u8 0,.int .u8 0,.int .u8 0,.int .u8 0,.int .u8 0,.int .u8 0,.int .u8 0,.int .u8 0,.int .u8 0,.int .u8 0,.int .u8 0,.int .u8 0,.int .u8 0,.int .u8 0,.int .u8 0,.int .u8 0,.int .u8 0,.int .u8 0,.int .u8 0,.int .u8 0,.int .u8 0,.int .u8 0,.int .u8 0,.int .u8 0,.int .u8 0,.int .u8 0,.int .u8 0])) (show Tryz.prog.underlying 293=some (.array 64 5) by kernel_rfl) (by kernel_rfl) rfl rfl rfl)<|Tab.aj (TI.mk' (z:=(.int .i32 0)) (show Tryz.prog.underlying 314=some (.int .i32) by kernel_rfl) (by kernel_rfl) rfl rfl rfl)<|Tab.aq1
theorem mixed:Tryz.prog.follows .mixedOrders=true:=by kernel_rfl
end Go.Sx.Pn
namespace Go.Sx.Pe
open Go Go.Proofs Go.Sx.Pn
theorem iE {a b:Int} (h:a=b):a=b:=h
theorem iL {a b:Nat} (h:a≤b):a≤b:=h
theorem iM {n k:Nat} (h:k<n):n-(k+1)<n-k:=by omega
theorem iN {k n:Nat} (h:k<n):(k:Int)<(n:Int):=by omega
theorem a4 {α β γ δ:Type} {a:α} {b:β} {c:γ} {d:δ} {p:Prop} (h:p):a=a∧b=b∧c=c∧d=d∧p:=⟨rfl,rfl,rfl,rfl,h⟩
theorem mxL {n s:Nat} (h:n≤10000000) (hs:s≤10000):n≤maxLen∧n*s≤140737488355328:=⟨by unfold maxLen;omega,aln (Nat.mul_le_mul h hs) (by decide)⟩
theorem lt1 {p:Nat→Prop} (h:p 0) (k:Nat) (hk:k<1):p k:=by
 obtain rfl:k=0:=by omega
 exact h
def iP (n:Int):PV:=.val (.int .i64 n)
def bP (b:Bool):PV:=.val (.bool b)
def sP (s:List UInt8):PV:=.val (.string (strOf s))
def cP (c:UInt8):PV:=.val (.int .u8 (c.toNat:Int))
def iA (n:Int):SV:=.p false (.val (.int .i64 n))
def bA (b:Bool):SV:=.p false (.val (.bool b))
def sA (s:List UInt8):SV:=.p false (.val (.string (strOf s)))
def cA (c:UInt8):SV:=.p false (.val (.int .u8 (c.toNat:Int)))
def jD (l:List Int):PV:=.seq l.length (fun k=>[iP (l.getD k 0)])
def kJ (l:List Bool):PV:=.seq l.length (fun k=>[bP (l.getD k false)])
def ssP (l:List (List UInt8)):PV:=.seq l.length (fun k=>[sP (l.getD k [])])
def isA (l:List Int):SV:=.p false (jD l)
def ql (l:List Bool):SV:=.p false (kJ l)
def ssA (l:List (List UInt8)):SV:=.p false (ssP l)
def bT {α:Type} (args:α→List SV) (pre:α→Prop) (res:α→PV):Spec:={ A:=α,args:=args,objs:=fun _=>[],pre:=pre,res:=res,objs':=fun _=>[],fresh:=true,ro:=0 }
def iO {α:Type} (args:α→List SV) (pre:α→Prop) (res:α→PV):Spec:={ A:=α,args:=args,objs:=fun _=>[],pre:=pre,res:=res,objs':=fun _=>[],fresh:=false,ro:=0 }
theorem aaC {P:Program} {f:Nat} {α:Type} {args:α→List SV} {pre:α→Prop} {res:α→PV} (h:aL P f (bT args pre res)) (a:α) (hp:pre a) {r:PV} (e:res a=r) :
  aL P f (bT (fun _:Unit=>args a) (fun _=>True) (fun _=>r)):=by
 subst e
 exact ⟨h.1,fun _ _ E vs w hg hh hA=>h.2 a hp E vs w hg hh hA⟩
theorem jc {P:Program} {f:Nat} {α:Type} {args:α→List SV} {pre:α→Prop} {res:α→PV} (h:aL P f (iO args pre res)) (a:α) (hp:pre a) {r:PV} (e:res a=r) :
  aL P f (iO (fun _:Unit=>args a) (fun _=>True) (fun _=>r)):=by
 subst e
 exact ⟨h.1,fun _ _ E vs w hg hh hA=>h.2 a hp E vs w hg hh hA⟩
theorem u7 {P:Program} {f:Nat} {S:Spec} (m:S.A→Nat) (h:∀n,aL P f { S with pre:=fun a=>S.pre a∧m a≤n }):aL P f S:=
 ⟨(h 0).1,fun a hp E vs w hg hh hA=>(h (m a)).2 a ⟨hp,aha _⟩ E vs w hg hh hA⟩
theorem aQ {α:Type} {l:List α} {k:Nat} (d:α) (hk:k<l.length):l.take (k+1)=l.take k++[l.getD k d]:=by
 rw[at1,abn hk,abo,abn hk];rfl
theorem bI {α:Type} {l:List α} {k:Nat} (d:α) (h:k<l.length):l[k]?=some (l.getD k d):=by rw[abo,abn h];rfl
structure Ex:Type where
 node ::
 op:Int
 idx:Int
 args:List Ex
mutual
def exC:Ex→List PV
 | .node o i l=>[iP o,iP i,.seq l.length (vP l)]
def vP:List Ex→Nat→List PV
 | [],_=>[]
 | x :: _,0=>exC x
 | _ :: l,k+1=>vP l k
end
def dF:Ex:=.node 0 0 []
def exF (l:List Ex) (k:Nat):List PV:=[iP (l.getD k dF).op,iP (l.getD k dF).idx,.seq (l.getD k dF).args.length (vP (l.getD k dF).args)]
def vk (x:Ex):List PV:=[iP x.op,iP x.idx,.seq x.args.length (exF x.args)]
def exP (x:Ex):PV:=.agg (vk x)
def sG (x:Ex):SV:=.p false (.agg (vk x))
theorem arf (o i:Int) (l:List Ex):exC (.node o i l)=[iP o,iP i,.seq l.length (vP l)]:=by rw[exC]
theorem agd:∀(l:List Ex) (k:Nat) (x:Ex),l[k]?=some x→vP l k=exC x
 | [],k,x,h=>by simp at h
 | y :: l,0,x,h=>by simp at h;subst h;rw[vP]
 | y :: l,k+1,x,h=>by rw[vP];exact agd l k x (by simpa using h)
theorem ama (x:Ex):exC x=[iP x.op,iP x.idx,.seq x.args.length (vP x.args)]:=by cases x;rw[arf]
theorem exE (l:List Ex):∀k,k<l.length→vP l k=exF l k:=fun k hk=>by
 rw[agd l k _ (abn hk),ama]
 have:l.getD k dF=l[k]:=by rw[abo,abn hk];rfl
 unfold exF;rw[this]
theorem akv (l:List Ex):∀k,k<l.length→exF l k=vP l k:=fun k hk=>(exE l k hk).symm
theorem sU {l:List Ex} {k:Nat} (hk:k<l.length):l[k]?=some (l.getD k dF):=bI dF hk
mutual
def Ex.size:Ex→Nat
 | .node _ _ l=>sizes l+1
def sizes:List Ex→Nat
 | []=>0
 | x :: l=>x.size+sizes l
end
mutual
def Ex.deep:Ex→Nat
 | .node _ _ l=>je l+1
def je:List Ex→Nat
 | []=>0
 | x :: l=>max x.deep (je l)
end
theorem Ex.size_eq (x:Ex):x.size=sizes x.args+1:=by cases x;rw[Ex.size]
theorem Ex.wo (x:Ex):x.deep=je x.args+1:=by cases x;rw[Ex.deep]
theorem size_pos (x:Ex):0<x.size:=by rw[x.size_eq];omega
theorem ahs (x:Ex):0<x.deep:=by rw[x.wo];omega
theorem jO:∀{l:List Ex} {x:Ex},x∈l→x.size≤sizes l
 | [],x,h=>by simp at h
 | y :: l,x,h=>by
  rw[sizes]
  rcases ai0.1 h with rfl | h
  ·omega
  ·have:=jO h;omega
theorem ab6:∀{l:List Ex} {x:Ex},x∈l→x.deep≤je l
 | [],x,h=>by simp at h
 | y :: l,x,h=>by
  rw[je]
  rcases ai0.1 h with rfl | h
  ·omega
  ·have:=ab6 h;omega
theorem zh:∀(l:List Ex),l.length≤sizes l
 | []=>by simp
 | x :: l=>by rw[sizes];have:=zh l;have:=size_pos x;simp;omega
mutual
def bY (d:Nat):Ex→List (Nat×Ex)
 | .node o i l=>(d,.node o i l) :: (if d≤16 then fK (d+1) l else [])
def fK (d:Nat):List Ex→List (Nat×Ex)
 | []=>[]
 | x :: l=>bY d x++fK d l
end
def yP (y:Nat×Ex):List PV:=[iP y.1,exP y.2]
theorem pG (d:Nat):∀(a b:List Ex),fK d (a++b)=fK d a++fK d b
 | [],b=>by rw[fK];rfl
 | x :: a,b=>by rw[List.cons_append,fK,fK,pG d a b,atl]
def gH (d:Nat) (l:List Ex):List (Nat×Ex):=if d≤16 then fK (d+1) l else []
theorem qx (d:Nat) (o i:Int) (l:List Ex):bY d (.node o i l)=(d,.node o i l) :: gH d l:=by rw[bY];rfl
theorem ae6 {d:Nat} (hd:d≤16) {l:List Ex} {k:Nat} {x:Ex} (h:l[k]?=some x):gH d (l.take (k+1))=gH d (l.take k)++bY (d+1) x:=by
 unfold gH
 rw[if_pos hd,if_pos hd,at1,h,pG]
 show _++fK (d+1) [x]=_
 rw[fK,fK,arD]
def as4 (l:Nat):Ob:=.cells 257 [.p false (.val (.func (.yield l) #[] #[]))]
def asO:Ob:=.cells 187 [.fn 204 [.own 0 0,.own 1 0]]
def agl (n:Nat):ads:={ A:=Ex×Nat,args:=fun _ y=>[.p true (.agg (vk y.1)),iA y.2,.own 0 0,.own 1 0],objs:=fun l y=>[as4 l,asO],pre:=fun y=>y.1.size≤n∧y.2≤17∧y.1.size≤1000000,ys:=fun y=>(bY y.2 y.1).map yP }
theorem al4 (d:Nat) (x:Ex):((bY d x).map yP)[0]?=some (yP (d,x)):=by cases x;rw[qx];rfl
theorem abL (d:Nat) (x:Ex):bY d x=(d,x) :: gH d x.args:=by cases x;rw[qx]
theorem akq {d:Nat} (hd:d≤16) {l:List Ex} {k:Nat} (hk:k<l.length):gH d l=gH d (l.take k)++(bY (d+1) (l.getD k dF)++gH d (l.drop (k+1))):=by
 have e:l=l.take k++(l.getD k dF :: l.drop (k+1)):=by
  have h1:l.drop k=l[k] :: l.drop (k+1):=aoN hk
  have h2:l.getD k dF=l[k]:=by rw[abo,abn hk];rfl
  rw[h2,←h1,ato]
 unfold gH
 rw[if_pos hd,if_pos hd,if_pos hd]
 conv=>lhs;rw[e]
 rw[pG,fK]
theorem ank {d:Nat} (hd:d≤16) {x:Ex} {k:Nat} (hk:k<x.args.length) {i:Nat} {v:List PV} (h:((bY (d+1) (x.args.getD k dF)).map yP)[i]?=some v) :
  ((bY d x).map yP)[1+(gH d (x.args.take k)).length+i]?=some v:=by
 rw[abL,akq hd hk,aoM,show 1+(gH d (x.args.take k)).length+i=(gH d (x.args.take k)).length+i+1 by omega,aoz,asG,agH (by simp),amo,atq,asG,afk (abA.1 h).1]
 exact h
theorem ahM:∀n,agP Tryz.prog 204 (agl n)
 | 0=>by
  refine amw [] (Tb:=tab) mixed aB Tryz.func204 rfl rfl ?_
  rintro ⟨x,d⟩ ⟨h1,_⟩ L
  have:=size_pos x
  exact absurd h1 (by show ¬x.size≤0;omega)
 | n+1=>by
  have ih:=ahM n
  refine amw [2000000+204] (Tb:=tab) mixed aB Tryz.func204 rfl rfl ?_
  rintro ⟨x,d⟩ ⟨h1,h2,h3⟩ L
  have hsz:sizes x.args+1≤n+1∧sizes x.args+1≤1000000:=by rw[←x.size_eq];exact ⟨h1,h3⟩
  have hd:d≤17:=h2
  refine ai rfl ?_
  refine ai rfl (ei (yP (d,x)) (ai (al4 d x) (ai ?_ (ai ?_ ?_))))
  ·exact (ai (ai trivial rfl) (ai trivial (ai rfl (ai rfl (ai rfl (fun _ _=>rfl))))))
  ·have hlen:=zh x.args
   refine ei (bE.inv { X:=Nat,up:=fun k=>[(17,.s (iA k))],uo:=fun _=>[],inv:=fun k=>k≤x.args.length,meas:=fun k=>x.args.length-k,x0:=0,cnt:=fun k=>some (1+(gH d (x.args.take k)).length) }) ?_
   refine ai (ai (ai (by exact (a4 (ai rfl rfl))) (ai ?_ ?_)) ?_) (ai ?_ ?_)
   ·exact (ai (ai (fun _=>rfl) rfl) rfl)
   ·exact trivial
   ·show some (0+1)=some (1+(gH d (x.args.take 0)).length)
    unfold gH;split<;>simp[fK]
   ·exact afc _
   intro (k:Nat) (hk:k≤x.args.length)
   refine ah (p:=k<x.args.length) (au (by dsimp only;omega)) (fun hkl=>?_) (fun hkl=>?_)
   ·refine ai (ai (abq _) (by show (k:Int)<(x.args.length:Int);omega)) (ai rfl ?_)
    refine ah (p:=d≤16) (cu (by omega)) (fun hdd=>?_) (fun hdd=>?_)
    ·have hget:=sU hkl
     have hy:=jO (adh hget)
     refine ei (agl n) (ai ih (ei (x.args.getD k dF,d+1) (ei [0,1] (ai (ai rfl (ai rfl rfl)) (ai ?_ (ai ?_ (ai ?_ (ai ?_ (ai ?_ ?_)))))))))
     ·exact (ai (ai (iE (by simp only[zz,reduceCtorEq])) (ai (iE (by simp only[zz,reduceCtorEq])) (ai rfl (exE _)))) (ai (aP (by omega)) (ai (ai rfl rfl) (ai rfl rfl))))
     ·exact (ai (ai rfl rfl) (ai rfl (ai rfl (ai (ai rfl rfl) (ai rfl rfl)))))
     ·exact ⟨by show (x.args.getD k dF).size≤n;omega,by show d+1≤17;omega,by show (x.args.getD k dF).size≤1000000;omega⟩
     ·exact fun i vs hi=>ank hdd hkl hi
     ·refine ei ((k+1)) (ai (ai rfl rfl) (ai (ai ?_ ?_) (ai ?_ ?_)))
      ·exact (ai rfl (ai (ai rfl rfl) (ai (ai rfl rfl) (ai (ai (ai (fun _=>rfl) (aP (by omega))) rfl) trivial))))
      ·show some (1+(gH d (x.args.take k)).length+((bY (d+1) (x.args.getD k dF)).map yP).length)=some (1+(gH d (x.args.take (k+1))).length)
       rw[ae6 hdd hget,amo,aaf,atI]
      ·show k+1≤x.args.length;omega
      ·show x.args.length-(k+1)<x.args.length-k;omega
     ·exact rfl
    ·refine ei ((k+1)) (ai (ai rfl rfl) (ai (ai ?_ ?_) (ai ?_ ?_)))
     ·exact (ai rfl (ai (ai rfl rfl) (ai (ai rfl rfl) (ai (ai (ai (fun _=>rfl) (aP (by omega))) rfl) trivial))))
     ·show some (1+(gH d (x.args.take k)).length)=some (1+(gH d (x.args.take (k+1))).length)
      unfold gH;rw[if_neg hdd,if_neg hdd]
     ·show k+1≤x.args.length;omega
     ·show x.args.length-(k+1)<x.args.length-k;omega
   ·obtain rfl:k=x.args.length:=by omega
    refine ai rfl ?_
    show 1+(gH d (x.args.take x.args.length)).length=((bY d x).map yP).length
    rw[ahb,abL,aoM,ai1,amo,Nat.add_comm]
  ·exact rfl
def preS:oU:={ A:=Ex,capt:=fun x=>[.pt (vk x) 0],pre:=fun x=>x.size≤1000000,xs:=fun x=>(bY 1 x).map yP }
theorem af3:adg Tryz.prog 203 preS:=by
 refine alm [2000000+204] (Tb:=tab) mixed aB Tryz.func203 rfl rfl ?_
 intro (x:Ex) hpre
 refine ai rfl ?_
 intro L
 refine ei (agl x.size) (ai (ahM x.size) (ei (x,1) (ei [0,1] (ai (ai rfl (ai rfl rfl)) (ai ?_ (ai ?_ (ai ?_ (ai ?_ (ai ?_ ?_)))))))))
 ·exact (ai (ai rfl (ai rfl (ai rfl (fun _ _=>rfl)))) (ai (iE (by simp only[zz,reduceCtorEq];rfl)) (ai (ai rfl rfl) (ai rfl rfl))))
 ·exact (ai (ai rfl rfl) (ai rfl (ai rfl (ai (ai rfl rfl) (ai rfl rfl)))))
 ·exact ⟨aha _,by show 1≤17;omega,hpre⟩
 ·intro i vs hi
  show ((bY 1 x).map yP)[0+i]?=some vs
  rw[aiF];exact hi
 ·refine ai trivial ?_
  show 0+((bY 1 x).map yP).length=((bY 1 x).map yP).length
  rw[aiF]
 ·exact ai trivial trivial
def asa:Spec:=iO (fun x:Ex=>[sG x]) (fun _=>True) (fun x=>.fn 203 [.pt (vk x) 0])
theorem alf:aL Tryz.prog 171 asa:=by
 refine aY (Tb:=tab) mixed aB Tryz.func171 rfl rfl ?_
 rintro (x:Ex) hpre
 refine ai (ai rfl (ai rfl rfl)) ?_
 refine ai (ai nof ?_) trivial
 exact (ai rfl rfl)
def xP (x:Ex):Option (Nat×Nat):=if x.size≤256∧x.deep≤16 then some (x.size,x.deep) else none
def nE (x:Ex):PV:=match xP x with
 | some (n,d)=>.tup [iP n,iP d,bP true]
 | none=>.tup [iP 0,iP 0,bP false]
def maxD (l:List (Nat×Ex)):Nat:=l.foldl (fun m y=>max m y.1) 0
theorem alN (l:List (Nat×Ex)) (y:Nat×Ex):maxD (l++[y])=max (maxD l) y.1:=by unfold maxD;rw[asK];rfl
mutual
theorem aed:∀(x:Ex) (d:Nat),x.deep+d≤17→(bY d x).length=x.size
 | .node o i l,d,h=>by
  have h1:je l+1+d≤17:=by rw[Ex.wo] at h;exact h
  rw[qx,ai1,Ex.size]
  unfold gH
  rw[if_pos (by omega),ahi l (d+1) (by omega)]
theorem ahi:∀(l:List Ex) (d:Nat),je l+d≤17→(fK d l).length=sizes l
 | [],d,h=>by rw[fK,sizes];rfl
 | x :: l,d,h=>by
  rw[je] at h
  rw[fK,sizes,aaf,aed x d (by omega),ahi l d (by omega)]
end
theorem foldl_max (l:List (Nat×Ex)):∀m,(∀y∈l,y.1≤l.foldl (fun m y=>max m y.1) m)∧m≤l.foldl (fun m y=>max m y.1) m∧(∀M,m≤M→(∀y∈l,y.1≤M)→l.foldl (fun m y=>max m y.1) m≤M):=by
 induction l with
 | nil=>intro m;simp
 | cons x l ih=>
  intro m
  obtain ⟨h1,h2,h3⟩:=ih (max m x.1)
  refine ⟨fun y hy=>?_,?_,fun M hm hM=>?_⟩
  ·rcases ai0.1 hy with rfl | hy
   ·show y.1≤l.foldl _ (max m y.1)
    exact aln (Nat.le_max_right _ _) h2
   ·exact h1 y hy
  ·exact aln (Nat.le_max_left _ _) h2
  ·exact h3 M (by have:=hM x (by simp);omega) fun y hy=>hM y (by simp[hy])
theorem maxD_eq {l:List (Nat×Ex)} {M:Nat} (h1:∀z∈l,z.1≤M) (h2:∃z∈l,z.1=M):maxD l=M:=by
 obtain ⟨g1,g2,g3⟩:=foldl_max l 0
 obtain ⟨z,hz,rfl⟩:=h2
 exact Nat.le_antisymm (g3 _ (afc _) h1) (g1 z hz)
mutual
theorem af6:∀(x:Ex) (d:Nat) (z:Nat×Ex),z∈bY d x→z.1+1≤x.deep+d
 | .node o i l,d,z,h=>by
  rw[qx] at h
  rw[Ex.deep]
  rcases ai0.1 h with rfl | h
  ·show d+1≤_;omega
  ·unfold gH at h
   split at h
   ·have:=aiV l (d+1) z h;omega
   ·simp at h
theorem aiV:∀(l:List Ex) (d:Nat) (z:Nat×Ex),z∈fK d l→z.1+1≤je l+d
 | [],d,z,h=>by rw[fK] at h;simp at h
 | x :: l,d,z,h=>by
  rw[fK] at h
  rw[je]
  rcases ahN.1 h with h | h
  ·have:=af6 x d z h;omega
  ·have:=aiV l d z h;omega
end
mutual
theorem afS:∀(x:Ex) (d e:Nat),d≤e→e≤17→e+1≤x.deep+d→∃z∈bY d x,z.1=e
 | .node o i l,d,e,h1,h2,h3=>by
  rw[Ex.deep] at h3
  rw[qx]
  by_cases he:d=e
  ·exact ⟨_,aoP,he⟩
  ·obtain ⟨z,hz,hz2⟩:=ajv l (d+1) e (by omega) h2 (by omega)
   refine ⟨z,aoI _ ?_,hz2⟩
   unfold gH;rw[if_pos (by omega)];exact hz
theorem ajv:∀(l:List Ex) (d e:Nat),d≤e→e≤17→e+1≤je l+d→∃z∈fK d l,z.1=e
 | [],d,e,h1,h2,h3=>by rw[je] at h3;omega
 | x :: l,d,e,h1,h2,h3=>by
  rw[je] at h3
  rw[fK]
  by_cases hx:e+1≤x.deep+d
  ·obtain ⟨z,hz,hz2⟩:=afS x d e h1 h2 hx
   exact ⟨z,aua _ hz,hz2⟩
  ·obtain ⟨z,hz,hz2⟩:=ajv l d e h1 h2 (by omega)
   exact ⟨z,aun _ hz,hz2⟩
end
theorem afO (x:Ex):(∀z∈bY 1 x,z.1≤16)↔x.deep≤16:=by
 constructor
 ·intro h
  refine Classical.byContradiction fun hn=>?_
  obtain ⟨z,hz,he⟩:=afS x 1 17 (by omega) (by omega) (by omega)
  have:=h z hz;omega
 ·intro h z hz
  have:=af6 x 1 z hz;omega
theorem aew {x:Ex} (h1:(bY 1 x).length≤256) (h2:∀z∈bY 1 x,z.1≤16):xP x=some ((bY 1 x).length,maxD (bY 1 x)):=by
 have hd:=(afO x).1 h2
 have hl:=aed x 1 (by omega)
 have hm:maxD (bY 1 x)=x.deep:=maxD_eq (fun z hz=>by have:=af6 x 1 z hz;omega) (afS x 1 x.deep (ahs x) (by omega) (by omega))
 unfold xP
 rw[if_pos ⟨by omega,hd⟩,hl,hm]
theorem aen {x:Ex} (h:256<(bY 1 x).length∨∃z∈bY 1 x,16<z.1):xP x=none:=by
 unfold xP
 rw[if_neg]
 rintro ⟨h1,h2⟩
 rcases h with h | ⟨z,hz,h⟩
 ·have:=aed x 1 (by omega);omega
 ·have:=(afO x).2 h2 z hz;omega
theorem akX {l:List (Nat×Ex)} {k:Nat} {vs:List PV} (h:(l.map yP)[k]?=some vs):∃d x,l[k]?=some (d,x)∧vs=[iP d,exP x]:=by
 rw[ajs] at h
 cases hc:l[k]? with
 | none=>rw[hc] at h;cases h
 | some y=>
  rw[hc] at h
  simp only[aoF,Option.some.injEq] at h
  exact ⟨y.1,y.2,rfl,h.symm⟩
theorem alg {l:List (Nat×Ex)}:∀v∈l.map yP,v.length=2:=fun v hv=>by
 obtain ⟨y,_,rfl⟩:=asJ.1 hv;rfl
def measS:Spec:=bT (fun x:Ex=>[sG x]) (fun x=>x.size≤1000000) nE
theorem aiM:aL Tryz.prog 170 measS:=by
 refine aY (Tb:=tab) mixed aB Tryz.func170 rfl rfl ?_
 rintro (x:Ex) hpre
 refine ai (ai rfl (ai rfl rfl)) ?_
 refine ei _ (ai (alf) (ei (x) (ei [] (ai (a4 (ai (fun _=>Or.inl rfl) (ai nof (Or.inl rfl)))) (ai (by exact (ai rfl (ai rfl (ai rfl (fun _ _=>rfl))))) (ai trivial (ai (trivial) ?_)))))))
 refine ai (ai rfl rfl) (ei preS (ai af3 (ei x (ai ?_ (ai hpre (ai alg (ei { X:=Nat,uo:=fun k=>[⟨4,3,[.s (iA k)]⟩,⟨5,3,[.s (iA (maxD ((bY 1 x).take k):Nat))]⟩],inv:=fun k y=>y=k∧k≤256∧∀z∈(bY 1 x).take k,z.1≤16,x0:=0 } (ai ?_ (ai ?_ (ai ?_ (ai ?_ ?_)))))))))))
 ·exact (ai rfl rfl)
 ·exact (ai rfl (ai rfl (ai rfl rfl)))
 ·exact (ai (ai (ai (fun _=>rfl) rfl) rfl) (ai (ai (ai (fun _=>rfl) rfl) rfl) trivial))
 ·exact ⟨rfl,afc _,by simp⟩
 ·rintro k (y:Nat) vs ⟨hy,hk,hall⟩ hvs
  subst hy
  obtain ⟨d,z,hg,rfl⟩:=akX hvs
  have hs:(bY 1 x).take (y+1)=(bY 1 x).take y++[(d,z)]:=by rw[at1,hg];rfl
  have hyl:y<(bY 1 x).length:=(abA.1 hg).1
  have hw:IntKind.i64.wrap ((y:Int)+1)=((y+1:Nat):Int):=aP (by omega)
  refine ah (p:=256<y+1) (by exact au (by rw[hw];omega)) (fun h1=>?_) (fun h1=>?_)
  ·refine ai (ai (fun _=>(by exact (ai trivial (ai trivial trivial)))) ?_) trivial
   show ak _ (nE x)
   rw[nE,aen (.inl (by omega))]
   exact (ai rfl (ai rfl rfl))
  refine ah (p:=16<d) (au (by omega)) (fun h2=>?_) (fun h2=>?_)
  ·refine ai (ai (fun _=>(by exact (ai trivial (ai trivial trivial)))) ?_) trivial
   show ak _ (nE x)
   rw[nE,aen (.inr ⟨_,adh hg,h2⟩)]
   exact (ai rfl (ai rfl rfl))
  refine ei (y+1) (ai rfl (ai (ai (ai rfl rfl) (ai (ai rfl rfl) ?_)) ?_))
  ·refine ai ?_ (ai ?_ trivial)
   ·exact (ai (ai (fun _=>rfl) (aP (by omega))) rfl)
   ·refine ai (ai nof ?_) rfl
    show (if (d:Int)>_ then (d:Int) else _)=((maxD ((bY 1 x).take (y+1)):Nat):Int)
    rw[hs,alN]
    show (if (d:Int)>((maxD ((bY 1 x).take y):Nat):Int) then (d:Int) else _)=((max _ d:Nat):Int)
    split<;>omega
  ·refine ⟨rfl,by omega,fun w hw=>?_⟩
   rw[hs] at hw
   rcases ahN.1 hw with hw | hw
   ·exact hall w hw
   ·simp at hw;subst hw;show d≤16;omega
 ·rintro (y:Nat) ⟨hy,hk,hall⟩
  have hl:(preS.xs x).length=(bY 1 x).length:=amo _
  rw[hl] at hy hk hall
  subst hy
  rw[ahb] at hall
  refine ei (.one 0 (.alt 1 (.one 2 (.one 3 (.one 4 .done))) (.alt 2 (.one 1 (.one 3 (.one 4 .done))) .stop))) (ai (by kernel_rfl) ?_)
  refine ai ?_ (ai ?_ trivial)
  ·refine ai (ai (fun _=>(by exact (ai trivial (ai trivial trivial)))) ?_) trivial
   show ak _ (nE x)
   rw[nE,aew hk hall]
   refine (ai rfl (ai ?_ rfl))
   ·show ((maxD ((bY 1 x).take (bY 1 x).length):Nat):Int)=_
    rw[ahb]
  ·refine ai (ai (fun _=>(by exact (ai trivial (ai trivial trivial)))) ?_) trivial
   show ak _ (nE x)
   rw[nE,aew hk hall]
   refine (ai rfl (ai ?_ rfl))
   ·show ((maxD ((bY 1 x).take (bY 1 x).length):Nat):Int)=_
    rw[ahb]
def pz (o:Int):Nat:=if o=2 then 1 else if o=3∨o=4 then 2 else 0
def adj (o:Int):Nat:=if o=2 then 1 else if o=3∨o=4 then 256 else 0
def vQ (o n:Int):Int:=if o=0 then 1 else if o=1 then n-1 else 0
def aK (x:Ex) (n:Int):Int:=
 if x.op<0∨5≤x.op then 1 else if x.args.length<pz x.op∨adj x.op<x.args.length then 3 else if x.idx<0∨vQ x.op n<x.idx then 2 else 0
def evC (v:Bool):PV:=.fn 228 [.pt [bP v] 0]
def shC:List PV:=[iP 0,iP 0,.val .nilFunc,iP 0,iP 0,.val .nilFunc,iP 1,iP 1,evC false,iP 2,iP 256,evC true,iP 2,iP 256,.fn 221 []]
def aq9:Spec:=bT (fun v:Bool=>[bA v]) (fun _=>True) (fun v=>evC v)
theorem ab0:aL Tryz.prog 220 aq9:=by
 refine aY (Tb:=tab) mixed aB Tryz.func220 rfl rfl ?_
 rintro (v:Bool) hpre
 refine ai (ai rfl (ai rfl rfl)) ?_
 refine ai (ai (fun _=>trivial) ?_) trivial
 exact (ai rfl rfl)
def ap8:Spec:=bT (fun _:Unit=>[]) (fun _=>True) (fun _=>.agg shC)
theorem iq:aL Tryz.prog 205 ap8:=by
 refine aY (Tb:=tab) mixed aB Tryz.func205 rfl rfl ?_
 rintro ⟨⟩ hpre
 refine ai (ai rfl (ai rfl rfl)) ?_
 refine ei _ (ai (ab0) (ei (false) (ei [] (ai (a4 (ai (fun _=>Or.inl rfl) (ai nof (Or.inl rfl)))) (ai (by exact rfl) (ai trivial (ai (trivial) ?_)))))))
 refine ei _ (ai (ab0) (ei (true) (ei [] (ai (a4 (ai (fun _=>Or.inl rfl) (ai nof (Or.inl rfl)))) (ai (by exact rfl) (ai trivial (ai (trivial) ?_)))))))
 refine ai (ai (fun _=>(by exact (ai trivial (ai trivial (ai trivial (ai trivial (ai trivial (ai trivial (ai trivial (ai trivial (ai trivial (ai trivial (ai trivial (ai trivial (ai trivial (ai trivial trivial)))))))))))))))) ?_) trivial
 exact (ai rfl (ai rfl (ai rfl (ai rfl (ai rfl (ai rfl (ai rfl (ai rfl (ai (ai rfl rfl) (ai rfl (ai rfl (ai (ai rfl rfl) (ai rfl (ai rfl (ai rfl rfl)))))))))))))))
def asz:Spec:=bT (fun y:Ex×Int=>[sG y.1,iA y.2]) (fun y=>y.1.args.length≤1000000∧0≤y.2∧y.2≤256) (fun y=>iP (aK y.1 y.2))
theorem apM:aL Tryz.prog 172 asz:=by
 refine aY (Tb:=tab) mixed aB Tryz.func172 rfl rfl ?_
 rintro ⟨⟨o,i,l⟩,n⟩ hpre
 refine ai (ai rfl (ai rfl rfl)) ?_
 obtain ⟨hl,hn1,hn2⟩:=hpre
 have hl:l.length≤1000000:=hl
 have hn1:0≤n:=hn1
 have hn2:n≤256:=hn2
 refine ah (p:=o<0) (au Iff.rfl) (fun h1=>?_) (fun h1=>?_)
 ·refine ai (ai (fun _=>trivial) ?_) trivial
  show ak _ (iP (aK (.node o i l) n))
  rw[aK,if_pos (.inl h1)]
  exact rfl
 refine ah (p:=5≤o) (cu Iff.rfl) (fun h2=>?_) (fun h2=>?_)
 ·refine ai (ai (fun _=>trivial) ?_) trivial
  show ak _ (iP (aK (.node o i l) n))
  rw[aK,if_pos (.inr h2)]
  exact rfl
 have hA:aK (.node o i l) n=if l.length<pz o∨adj o<l.length then 3 else if i<0∨vQ o n<i then 2 else 0:=by
  unfold aK
  rw[if_neg (by show ¬(o<0∨5≤o);omega)]
 have ho:o=0∨o=1∨o=2∨o=3∨o=4:=by omega
 rcases ho with rfl | rfl | rfl | rfl | rfl
 ·refine ei (.one 1 (.one 2 (.alt 0 (.one 3 (.one 4 (.one 5 .done))) (.alt 4 (.one 0 (.one 3 (.one 5 .done))) .stop)))) (ai (by kernel_rfl) ?_)
  refine ai ?_ (ai ?_ trivial)
  ·refine ei _ (ai (iq) (ei (()) (ei [] (ai (a4 (ai (fun _=>Or.inl rfl) (ai nof (Or.inl rfl)))) (ai (by exact trivial) (ai trivial (ai (trivial) ?_)))))))
   refine ai (ai (by show (0:Int)≤0;decide) (by show (0:Int)<5;decide)) ?_
   have hA:aK (.node 0 i l) n=if l.length<0∨0<l.length then 3 else if i<0∨1<i then 2 else 0:=hA
   refine ah (p:=0<l.length) (au (by dsimp only;omega)) (fun h4=>?_) (fun h4=>?_)
   ·refine ai (ai (fun _=>trivial) ?_) trivial
    show ak _ (iP (aK (.node 0 i l) n))
    rw[hA,if_pos (.inr h4)]
    exact rfl
   rw[if_neg (fun h=>h.elim (alJ _) h4)] at hA
   refine ah (p:=i<0) (au Iff.rfl) (fun h5=>?_) (fun h5=>?_)
   ·refine ai (ai (fun _=>trivial) ?_) trivial
    show ak _ (iP (aK (.node 0 i l) n))
    rw[hA,if_pos (.inl h5)]
    exact rfl
   refine ah (p:=1<i) (by first | exact au Iff.rfl | exact au (by rw[jk (n:=n-1) (by omega) (by omega)])) (fun h6=>?_) (fun h6=>?_)
   ·refine ai (ai (fun _=>trivial) ?_) trivial
    show ak _ (iP (aK (.node 0 i l) n))
    rw[hA,if_pos (.inr h6)]
    exact rfl
   ·refine ai (ai (fun _=>trivial) ?_) trivial
    show ak _ (iP (aK (.node 0 i l) n))
    rw[hA,if_neg (fun h=>h.elim h5 h6)]
    exact rfl
  ·refine ei _ (ai (iq) (ei (()) (ei [] (ai (a4 (ai (fun _=>Or.inl rfl) (ai nof (Or.inl rfl)))) (ai (by exact trivial) (ai trivial (ai (trivial) ?_)))))))
   refine ai (ai (by show (0:Int)≤0;decide) (by show (0:Int)<5;decide)) ?_
   have hA:aK (.node 0 i l) n=if l.length<0∨0<l.length then 3 else if i<0∨1<i then 2 else 0:=hA
   refine ah (p:=0<l.length) (au (by dsimp only;omega)) (fun h4=>?_) (fun h4=>?_)
   ·refine ai (ai (fun _=>trivial) ?_) trivial
    show ak _ (iP (aK (.node 0 i l) n))
    rw[hA,if_pos (.inr h4)]
    exact rfl
   rw[if_neg (fun h=>h.elim (alJ _) h4)] at hA
   refine ah (p:=i<0) (au Iff.rfl) (fun h5=>?_) (fun h5=>?_)
   ·refine ai (ai (fun _=>trivial) ?_) trivial
    show ak _ (iP (aK (.node 0 i l) n))
    rw[hA,if_pos (.inl h5)]
    exact rfl
   refine ah (p:=1<i) (by first | exact au Iff.rfl | exact au (by rw[jk (n:=n-1) (by omega) (by omega)])) (fun h6=>?_) (fun h6=>?_)
   ·refine ai (ai (fun _=>trivial) ?_) trivial
    show ak _ (iP (aK (.node 0 i l) n))
    rw[hA,if_pos (.inr h6)]
    exact rfl
   ·refine ai (ai (fun _=>trivial) ?_) trivial
    show ak _ (iP (aK (.node 0 i l) n))
    rw[hA,if_neg (fun h=>h.elim h5 h6)]
    exact rfl
 ·refine ei (.one 1 (.one 2 (.alt 0 (.one 3 (.one 4 (.one 5 .done))) (.alt 4 (.one 0 (.one 3 (.one 5 .done))) .stop)))) (ai (by kernel_rfl) ?_)
  refine ai ?_ (ai ?_ trivial)
  ·refine ei _ (ai (iq) (ei (()) (ei [] (ai (a4 (ai (fun _=>Or.inl rfl) (ai nof (Or.inl rfl)))) (ai (by exact trivial) (ai trivial (ai (trivial) ?_)))))))
   refine ai (ai (by show (0:Int)≤1;decide) (by show (1:Int)<5;decide)) ?_
   have hA:aK (.node 1 i l) n=if l.length<0∨0<l.length then 3 else if i<0∨(n-1)<i then 2 else 0:=hA
   refine ah (p:=0<l.length) (au (by dsimp only;omega)) (fun h4=>?_) (fun h4=>?_)
   ·refine ai (ai (fun _=>trivial) ?_) trivial
    show ak _ (iP (aK (.node 1 i l) n))
    rw[hA,if_pos (.inr h4)]
    exact rfl
   rw[if_neg (fun h=>h.elim (alJ _) h4)] at hA
   refine ah (p:=i<0) (au Iff.rfl) (fun h5=>?_) (fun h5=>?_)
   ·refine ai (ai (fun _=>trivial) ?_) trivial
    show ak _ (iP (aK (.node 1 i l) n))
    rw[hA,if_pos (.inl h5)]
    exact rfl
   refine ah (p:=(n-1)<i) (by first | exact au Iff.rfl | exact au (by rw[jk (n:=n-1) (by omega) (by omega)])) (fun h6=>?_) (fun h6=>?_)
   ·refine ai (ai (fun _=>trivial) ?_) trivial
    show ak _ (iP (aK (.node 1 i l) n))
    rw[hA,if_pos (.inr h6)]
    exact rfl
   ·refine ai (ai (fun _=>trivial) ?_) trivial
    show ak _ (iP (aK (.node 1 i l) n))
    rw[hA,if_neg (fun h=>h.elim h5 h6)]
    exact rfl
  ·refine ei _ (ai (iq) (ei (()) (ei [] (ai (a4 (ai (fun _=>Or.inl rfl) (ai nof (Or.inl rfl)))) (ai (by exact trivial) (ai trivial (ai (trivial) ?_)))))))
   refine ai (ai (by show (0:Int)≤1;decide) (by show (1:Int)<5;decide)) ?_
   have hA:aK (.node 1 i l) n=if l.length<0∨0<l.length then 3 else if i<0∨(n-1)<i then 2 else 0:=hA
   refine ah (p:=0<l.length) (au (by dsimp only;omega)) (fun h4=>?_) (fun h4=>?_)
   ·refine ai (ai (fun _=>trivial) ?_) trivial
    show ak _ (iP (aK (.node 1 i l) n))
    rw[hA,if_pos (.inr h4)]
    exact rfl
   rw[if_neg (fun h=>h.elim (alJ _) h4)] at hA
   refine ah (p:=i<0) (au Iff.rfl) (fun h5=>?_) (fun h5=>?_)
   ·refine ai (ai (fun _=>trivial) ?_) trivial
    show ak _ (iP (aK (.node 1 i l) n))
    rw[hA,if_pos (.inl h5)]
    exact rfl
   refine ah (p:=(n-1)<i) (by first | exact au Iff.rfl | exact au (by rw[jk (n:=n-1) (by omega) (by omega)])) (fun h6=>?_) (fun h6=>?_)
   ·refine ai (ai (fun _=>trivial) ?_) trivial
    show ak _ (iP (aK (.node 1 i l) n))
    rw[hA,if_pos (.inr h6)]
    exact rfl
   ·refine ai (ai (fun _=>trivial) ?_) trivial
    show ak _ (iP (aK (.node 1 i l) n))
    rw[hA,if_neg (fun h=>h.elim h5 h6)]
    exact rfl
 ·refine ei (.one 1 (.one 2 (.alt 0 (.one 3 (.one 4 (.one 5 .done))) (.alt 4 (.one 0 (.one 3 (.one 5 .done))) .stop)))) (ai (by kernel_rfl) ?_)
  refine ai ?_ (ai ?_ trivial)
  ·refine ei _ (ai (iq) (ei (()) (ei [] (ai (a4 (ai (fun _=>Or.inl rfl) (ai nof (Or.inl rfl)))) (ai (by exact trivial) (ai trivial (ai (trivial) ?_)))))))
   refine ai (ai (by show (0:Int)≤2;decide) (by show (2:Int)<5;decide)) ?_
   have hA:aK (.node 2 i l) n=if l.length<1∨1<l.length then 3 else if i<0∨0<i then 2 else 0:=hA
   refine ah (p:=l.length<1) (au (by dsimp only;omega)) (fun h3=>?_) (fun h3=>?_)
   ·refine ai (ai (fun _=>trivial) ?_) trivial
    show ak _ (iP (aK (.node 2 i l) n))
    rw[hA,if_pos (.inl h3)]
    exact rfl
   refine ah (p:=1<l.length) (au (by dsimp only;omega)) (fun h4=>?_) (fun h4=>?_)
   ·refine ai (ai (fun _=>trivial) ?_) trivial
    show ak _ (iP (aK (.node 2 i l) n))
    rw[hA,if_pos (.inr h4)]
    exact rfl
   rw[if_neg (fun h=>h.elim h3 h4)] at hA
   refine ah (p:=i<0) (au Iff.rfl) (fun h5=>?_) (fun h5=>?_)
   ·refine ai (ai (fun _=>trivial) ?_) trivial
    show ak _ (iP (aK (.node 2 i l) n))
    rw[hA,if_pos (.inl h5)]
    exact rfl
   skip
   refine ah (p:=0<i) (au Iff.rfl) (fun h6=>?_) (fun h6=>?_)
   ·refine ai (ai (fun _=>trivial) ?_) trivial
    show ak _ (iP (aK (.node 2 i l) n))
    rw[hA,if_pos (.inr h6)]
    exact rfl
   ·refine ai (ai (fun _=>trivial) ?_) trivial
    show ak _ (iP (aK (.node 2 i l) n))
    rw[hA,if_neg (fun h=>h.elim h5 h6)]
    exact rfl
  ·refine ei _ (ai (iq) (ei (()) (ei [] (ai (a4 (ai (fun _=>Or.inl rfl) (ai nof (Or.inl rfl)))) (ai (by exact trivial) (ai trivial (ai (trivial) ?_)))))))
   refine ai (ai (by show (0:Int)≤2;decide) (by show (2:Int)<5;decide)) ?_
   have hA:aK (.node 2 i l) n=if l.length<1∨1<l.length then 3 else if i<0∨0<i then 2 else 0:=hA
   refine ah (p:=l.length<1) (au (by dsimp only;omega)) (fun h3=>?_) (fun h3=>?_)
   ·refine ai (ai (fun _=>trivial) ?_) trivial
    show ak _ (iP (aK (.node 2 i l) n))
    rw[hA,if_pos (.inl h3)]
    exact rfl
   refine ah (p:=1<l.length) (au (by dsimp only;omega)) (fun h4=>?_) (fun h4=>?_)
   ·refine ai (ai (fun _=>trivial) ?_) trivial
    show ak _ (iP (aK (.node 2 i l) n))
    rw[hA,if_pos (.inr h4)]
    exact rfl
   rw[if_neg (fun h=>h.elim h3 h4)] at hA
   refine ah (p:=i<0) (au Iff.rfl) (fun h5=>?_) (fun h5=>?_)
   ·refine ai (ai (fun _=>trivial) ?_) trivial
    show ak _ (iP (aK (.node 2 i l) n))
    rw[hA,if_pos (.inl h5)]
    exact rfl
   skip
   refine ah (p:=0<i) (au Iff.rfl) (fun h6=>?_) (fun h6=>?_)
   ·refine ai (ai (fun _=>trivial) ?_) trivial
    show ak _ (iP (aK (.node 2 i l) n))
    rw[hA,if_pos (.inr h6)]
    exact rfl
   ·refine ai (ai (fun _=>trivial) ?_) trivial
    show ak _ (iP (aK (.node 2 i l) n))
    rw[hA,if_neg (fun h=>h.elim h5 h6)]
    exact rfl
 ·refine ei (.one 1 (.one 2 (.alt 0 (.one 3 (.one 4 (.one 5 .done))) (.alt 4 (.one 0 (.one 3 (.one 5 .done))) .stop)))) (ai (by kernel_rfl) ?_)
  refine ai ?_ (ai ?_ trivial)
  ·refine ei _ (ai (iq) (ei (()) (ei [] (ai (a4 (ai (fun _=>Or.inl rfl) (ai nof (Or.inl rfl)))) (ai (by exact trivial) (ai trivial (ai (trivial) ?_)))))))
   refine ai (ai (by show (0:Int)≤3;decide) (by show (3:Int)<5;decide)) ?_
   have hA:aK (.node 3 i l) n=if l.length<2∨256<l.length then 3 else if i<0∨0<i then 2 else 0:=hA
   refine ah (p:=l.length<2) (au (by dsimp only;omega)) (fun h3=>?_) (fun h3=>?_)
   ·refine ai (ai (fun _=>trivial) ?_) trivial
    show ak _ (iP (aK (.node 3 i l) n))
    rw[hA,if_pos (.inl h3)]
    exact rfl
   refine ah (p:=256<l.length) (au (by dsimp only;omega)) (fun h4=>?_) (fun h4=>?_)
   ·refine ai (ai (fun _=>trivial) ?_) trivial
    show ak _ (iP (aK (.node 3 i l) n))
    rw[hA,if_pos (.inr h4)]
    exact rfl
   rw[if_neg (fun h=>h.elim h3 h4)] at hA
   refine ah (p:=i<0) (au Iff.rfl) (fun h5=>?_) (fun h5=>?_)
   ·refine ai (ai (fun _=>trivial) ?_) trivial
    show ak _ (iP (aK (.node 3 i l) n))
    rw[hA,if_pos (.inl h5)]
    exact rfl
   skip
   refine ah (p:=0<i) (au Iff.rfl) (fun h6=>?_) (fun h6=>?_)
   ·refine ai (ai (fun _=>trivial) ?_) trivial
    show ak _ (iP (aK (.node 3 i l) n))
    rw[hA,if_pos (.inr h6)]
    exact rfl
   ·refine ai (ai (fun _=>trivial) ?_) trivial
    show ak _ (iP (aK (.node 3 i l) n))
    rw[hA,if_neg (fun h=>h.elim h5 h6)]
    exact rfl
  ·refine ei _ (ai (iq) (ei (()) (ei [] (ai (a4 (ai (fun _=>Or.inl rfl) (ai nof (Or.inl rfl)))) (ai (by exact trivial) (ai trivial (ai (trivial) ?_)))))))
   refine ai (ai (by show (0:Int)≤3;decide) (by show (3:Int)<5;decide)) ?_
   have hA:aK (.node 3 i l) n=if l.length<2∨256<l.length then 3 else if i<0∨0<i then 2 else 0:=hA
   refine ah (p:=l.length<2) (au (by dsimp only;omega)) (fun h3=>?_) (fun h3=>?_)
   ·refine ai (ai (fun _=>trivial) ?_) trivial
    show ak _ (iP (aK (.node 3 i l) n))
    rw[hA,if_pos (.inl h3)]
    exact rfl
   refine ah (p:=256<l.length) (au (by dsimp only;omega)) (fun h4=>?_) (fun h4=>?_)
   ·refine ai (ai (fun _=>trivial) ?_) trivial
    show ak _ (iP (aK (.node 3 i l) n))
    rw[hA,if_pos (.inr h4)]
    exact rfl
   rw[if_neg (fun h=>h.elim h3 h4)] at hA
   refine ah (p:=i<0) (au Iff.rfl) (fun h5=>?_) (fun h5=>?_)
   ·refine ai (ai (fun _=>trivial) ?_) trivial
    show ak _ (iP (aK (.node 3 i l) n))
    rw[hA,if_pos (.inl h5)]
    exact rfl
   skip
   refine ah (p:=0<i) (au Iff.rfl) (fun h6=>?_) (fun h6=>?_)
   ·refine ai (ai (fun _=>trivial) ?_) trivial
    show ak _ (iP (aK (.node 3 i l) n))
    rw[hA,if_pos (.inr h6)]
    exact rfl
   ·refine ai (ai (fun _=>trivial) ?_) trivial
    show ak _ (iP (aK (.node 3 i l) n))
    rw[hA,if_neg (fun h=>h.elim h5 h6)]
    exact rfl
 ·refine ei (.one 1 (.one 2 (.alt 0 (.one 3 (.one 4 (.one 5 .done))) (.alt 4 (.one 0 (.one 3 (.one 5 .done))) .stop)))) (ai (by kernel_rfl) ?_)
  refine ai ?_ (ai ?_ trivial)
  ·refine ei _ (ai (iq) (ei (()) (ei [] (ai (a4 (ai (fun _=>Or.inl rfl) (ai nof (Or.inl rfl)))) (ai (by exact trivial) (ai trivial (ai (trivial) ?_)))))))
   refine ai (ai (by show (0:Int)≤4;decide) (by show (4:Int)<5;decide)) ?_
   have hA:aK (.node 4 i l) n=if l.length<2∨256<l.length then 3 else if i<0∨0<i then 2 else 0:=hA
   refine ah (p:=l.length<2) (au (by dsimp only;omega)) (fun h3=>?_) (fun h3=>?_)
   ·refine ai (ai (fun _=>trivial) ?_) trivial
    show ak _ (iP (aK (.node 4 i l) n))
    rw[hA,if_pos (.inl h3)]
    exact rfl
   refine ah (p:=256<l.length) (au (by dsimp only;omega)) (fun h4=>?_) (fun h4=>?_)
   ·refine ai (ai (fun _=>trivial) ?_) trivial
    show ak _ (iP (aK (.node 4 i l) n))
    rw[hA,if_pos (.inr h4)]
    exact rfl
   rw[if_neg (fun h=>h.elim h3 h4)] at hA
   refine ah (p:=i<0) (au Iff.rfl) (fun h5=>?_) (fun h5=>?_)
   ·refine ai (ai (fun _=>trivial) ?_) trivial
    show ak _ (iP (aK (.node 4 i l) n))
    rw[hA,if_pos (.inl h5)]
    exact rfl
   skip
   refine ah (p:=0<i) (au Iff.rfl) (fun h6=>?_) (fun h6=>?_)
   ·refine ai (ai (fun _=>trivial) ?_) trivial
    show ak _ (iP (aK (.node 4 i l) n))
    rw[hA,if_pos (.inr h6)]
    exact rfl
   ·refine ai (ai (fun _=>trivial) ?_) trivial
    show ak _ (iP (aK (.node 4 i l) n))
    rw[hA,if_neg (fun h=>h.elim h5 h6)]
    exact rfl
  ·refine ei _ (ai (iq) (ei (()) (ei [] (ai (a4 (ai (fun _=>Or.inl rfl) (ai nof (Or.inl rfl)))) (ai (by exact trivial) (ai trivial (ai (trivial) ?_)))))))
   refine ai (ai (by show (0:Int)≤4;decide) (by show (4:Int)<5;decide)) ?_
   have hA:aK (.node 4 i l) n=if l.length<2∨256<l.length then 3 else if i<0∨0<i then 2 else 0:=hA
   refine ah (p:=l.length<2) (au (by dsimp only;omega)) (fun h3=>?_) (fun h3=>?_)
   ·refine ai (ai (fun _=>trivial) ?_) trivial
    show ak _ (iP (aK (.node 4 i l) n))
    rw[hA,if_pos (.inl h3)]
    exact rfl
   refine ah (p:=256<l.length) (au (by dsimp only;omega)) (fun h4=>?_) (fun h4=>?_)
   ·refine ai (ai (fun _=>trivial) ?_) trivial
    show ak _ (iP (aK (.node 4 i l) n))
    rw[hA,if_pos (.inr h4)]
    exact rfl
   rw[if_neg (fun h=>h.elim h3 h4)] at hA
   refine ah (p:=i<0) (au Iff.rfl) (fun h5=>?_) (fun h5=>?_)
   ·refine ai (ai (fun _=>trivial) ?_) trivial
    show ak _ (iP (aK (.node 4 i l) n))
    rw[hA,if_pos (.inl h5)]
    exact rfl
   skip
   refine ah (p:=0<i) (au Iff.rfl) (fun h6=>?_) (fun h6=>?_)
   ·refine ai (ai (fun _=>trivial) ?_) trivial
    show ak _ (iP (aK (.node 4 i l) n))
    rw[hA,if_pos (.inr h6)]
    exact rfl
   ·refine ai (ai (fun _=>trivial) ?_) trivial
    show ak _ (iP (aK (.node 4 i l) n))
    rw[hA,if_neg (fun h=>h.elim h5 h6)]
    exact rfl
def dS (l:List (Nat×Ex)) (n:Int):Int:=((l.map fun y=>aK y.2 n).find? (fun e=>e != 0)).getD 0
def dn (x:Ex) (n:Int):Int:=if n<0∨256<n then 2 else if x.size≤256∧x.deep≤16 then dS (bY 1 x) n else 5
theorem aeT {α:Type} {p:α→Bool}:∀{l:List α} {k:Nat},(∀j,j<k→∀y,l[j]?=some y→p y=false)→∀{y:α},l[k]?=some y→p y=true→l.find? p=some y
 | [],k,_,y,h,_=>by simp at h
 | z :: l,0,_,y,h,hp=>by simp at h;subst h;simp[hp]
 | z :: l,k+1,hs,y,h,hp=>by
  have h0:=hs 0 (by omega) z rfl
  rw[List.find?_cons,h0]
  exact aeT (k:=k) (fun j hj y hy=>hs (j+1) (by omega) y (by simpa using hy)) (by simpa using h) hp
theorem aev {l:List (Nat×Ex)} {n:Int} {k d:Nat} {x:Ex} (h0:∀z∈l.take k,aK z.2 n=0) (h:l[k]?=some (d,x)) (hn:aK x n≠0):dS l n=aK x n:=by
 unfold dS
 rw[aeT (k:=k) (y:=aK x n)]
 ·rfl
 ·intro j hj y hy
  rw[ajs] at hy
  cases hc:l[j]? with
  | none=>rw[hc] at hy;simp at hy
  | some z=>
   rw[hc] at hy;simp at hy;subst hy
   have:z∈l.take k:=by
    have:(l.take k)[j]?=some z:=by rw[alD];simp[hj,hc]
    exact adh this
   simp[h0 z this]
 ·rw[ajs,h];rfl
 ·simpa using hn
theorem vR {l:List (Nat×Ex)} {n:Int} (h0:∀z∈l,aK z.2 n=0):dS l n=0:=by
 unfold dS
 rw[atN.2]
 ·rfl
 ·intro y hy
  obtain ⟨z,hz,rfl⟩:=asJ.1 hy
  simp[h0 z hz]
theorem aco {l:List (Nat×Ex)} {n:Int}:dS l n=0↔∀z∈l,aK z.2 n=0:=by
 constructor
 ·intro h z hz
  refine Classical.byContradiction fun hne=>?_
  unfold dS at h
  cases hf:(l.map fun y=>aK y.2 n).find? (fun e=>e != 0) with
  | none=>
   have:=atN.1 hf (aK z.2 n) (List.mem_map_of_mem hz)
   simp at this;exact hne this
  | some e=>
   rw[hf] at h
   have:=List.find?_some hf
   simp at h;simp[h] at this
 ·exact vR
mutual
theorem agE:∀(x:Ex) (d:Nat) (z:Nat×Ex),z∈bY d x→z.2.size≤x.size
 | .node o i l,d,z,h=>by
  rw[qx] at h
  rcases ai0.1 h with rfl | h
  ·exact aha _
  ·unfold gH at h
   rw[Ex.size]
   split at h
   ·have:=aes l (d+1) z h;omega
   ·simp at h
theorem aes:∀(l:List Ex) (d:Nat) (z:Nat×Ex),z∈fK d l→z.2.size≤sizes l
 | [],d,z,h=>by rw[fK] at h;simp at h
 | x :: l,d,z,h=>by
  rw[fK] at h
  rw[sizes]
  rcases ahN.1 h with h | h
  ·have:=agE x d z h;omega
  ·have:=aes l d z h;omega
end
theorem uD (x:Ex):x.args.length<x.size:=by rw[x.size_eq];have:=zh x.args;omega
def aqs:Spec:=bT (fun y:Ex×Int=>[sG y.1,iA y.2]) (fun y=>y.1.size≤1000000) (fun y=>iP (dn y.1 y.2))
theorem ab5:aL Tryz.prog 140 aqs:=by
 refine aY (Tb:=tab) mixed aB Tryz.func140 rfl rfl ?_
 rintro ⟨x,n⟩ hpre
 refine ai (ai rfl (ai rfl rfl)) ?_
 have hpre:x.size≤1000000:=hpre
 refine ah (p:=n<0) (au (by omega)) (fun h1=>?_) (fun h1=>?_)
 ·refine ai (ai (fun _=>trivial) ?_) trivial
  show ak _ (iP (dn x n))
  rw[dn,if_pos (.inl h1)]
  exact rfl
 refine ah (p:=256<n) (au (by omega)) (fun h2=>?_) (fun h2=>?_)
 ·refine ai (ai (fun _=>trivial) ?_) trivial
  show ak _ (iP (dn x n))
  rw[dn,if_pos (.inr h2)]
  exact rfl
 have hA:dn x n=if x.size≤256∧x.deep≤16 then dS (bY 1 x) n else 5:=by
  unfold dn;rw[if_neg (fun h=>h.elim h1 h2)]
 by_cases hm:x.size≤256∧x.deep≤16
 ·have e1:nE x=.tup [iP x.size,iP x.deep,bP true]:=by unfold nE xP;rw[if_pos hm]
  rw[if_pos hm] at hA
  refine ei _ (ai ((aaC aiM x hpre e1)) (ei (()) (ei [] (ai (a4 (ai (fun _=>Or.inl rfl) (ai nof (Or.inl rfl)))) (ai (by exact (ai rfl (ai rfl (ai rfl (fun _ _=>rfl))))) (ai trivial (ai (trivial) ?_)))))))
  refine ei _ (ai (alf) (ei (x) (ei [] (ai (a4 (ai (fun _=>Or.inl rfl) (ai nof (Or.inl rfl)))) (ai (by exact (ai rfl (ai rfl (ai rfl (fun _ _=>rfl))))) (ai trivial (ai (trivial) ?_)))))))
  refine ai (ai rfl rfl) (ei preS (ai af3 (ei x (ai ?_ (ai hpre (ai alg (ei { X:=Nat,uo:=fun k=>[],inv:=fun k y=>y=k∧∀z∈(bY 1 x).take k,aK z.2 n=0,x0:=0 } (ai ?_ (ai ?_ (ai ?_ (ai ?_ ?_)))))))))))
  ·exact (ai rfl rfl)
  ·exact (ai rfl (ai rfl (ai rfl rfl)))
  ·exact trivial
  ·exact ⟨rfl,by simp⟩
  ·rintro k (y:Nat) vs ⟨hy,hall⟩ hvs
   subst hy
   obtain ⟨d,z,hg,rfl⟩:=akX hvs
   have hz:=adh hg
   have hzs:z.size≤x.size:=agE x 1 _ hz
   have hza:=uD z
   refine ei _ (ai (apM) (ei ((z,n)) (ei [] (ai (a4 (ai (fun _=>Or.inl rfl) (ai nof (Or.inl rfl)))) (ai (by exact (ai (ai rfl (ai rfl (ai rfl (fun _ _=>rfl)))) rfl)) (ai trivial (ai (⟨by show z.args.length≤1000000;omega,by show 0≤n;omega,by show n≤256;omega⟩) ?_)))))))
   refine bg (p:=aK z n=0) (bK (by dsimp only;omega)) (fun h3=>?_) (fun h3=>?_)
   ·refine ai (ai (fun _=>trivial) ?_) trivial
    show ak _ (iP (dn x n))
    rw[hA,aev hall hg h3]
    exact rfl
   refine ei (y+1) (ai rfl (ai (ai (ai rfl rfl) (ai (ai rfl rfl) ?_)) ⟨rfl,?_⟩))
   ·exact trivial
   ·intro w hw
    have hs:(bY 1 x).take (y+1)=(bY 1 x).take y++[(d,z)]:=by rw[at1,hg];rfl
    rw[hs] at hw
    rcases ahN.1 hw with hw | hw
    ·exact hall w hw
    ·simp at hw;subst hw;exact h3
  ·rintro (y:Nat) ⟨hy,hall⟩
   have hl:(preS.xs x).length=(bY 1 x).length:=amo _
   rw[hl] at hy hall
   subst hy
   rw[ahb] at hall
   refine ai (ai (fun _=>trivial) ?_) trivial
   show ak _ (iP (dn x n))
   rw[hA,vR hall]
   exact rfl
 ·have e1:nE x=.tup [iP 0,iP 0,bP false]:=by unfold nE xP;rw[if_neg hm]
  rw[if_neg hm] at hA
  refine ei _ (ai ((aaC aiM x hpre e1)) (ei (()) (ei [] (ai (a4 (ai (fun _=>Or.inl rfl) (ai nof (Or.inl rfl)))) (ai (by exact (ai rfl (ai rfl (ai rfl (fun _ _=>rfl))))) (ai trivial (ai (trivial) ?_)))))))
  refine ai (ai (fun _=>trivial) ?_) trivial
  show ak _ (iP (dn x n))
  rw[hA]
  exact rfl
mutual
def eG (vs:List Bool):Ex→Bool
 | .node o i l=>if o=0 then decide (i=1) else if o=1 then vs.getD i.toNat false else if o=2 then (xu vs l).all (·==false) else if o=3 then (xu vs l).all (·==true) else !(xu vs l).all (·==false)
def xu (vs:List Bool):List Ex→List Bool
 | []=>[]
 | x :: l=>eG vs x :: xu vs l
end
theorem aeF (vs:List Bool):∀l:List Ex,xu vs l=l.map (eG vs)
 | []=>by rw[xu];rfl
 | x :: l=>by rw[xu,aeF vs l];rfl
theorem apX (vs:List Bool) (o i:Int) (l:List Ex):eG vs (.node o i l)=if o=0 then decide (i=1) else if o=1 then vs.getD i.toNat false else if o=2 then (l.map (eG vs)).all (·==false) else if o=3 then (l.map (eG vs)).all (·==true) else !(l.map (eG vs)).all (·==false):=by
 rw[eG,aeF]
mutual
def lg (n:Int):Ex→Prop
 | .node o i l=>aK (.node o i l) n=0∧rD n l
def rD (n:Int):List Ex→Prop
 | []=>True
 | x :: l=>lg n x∧rD n l
end
theorem acY (n:Int):∀l:List Ex,rD n l↔∀x∈l,lg n x
 | []=>by rw[rD];simp
 | x :: l=>by rw[rD,acY n l];simp
theorem qF (n:Int) (x:Ex):lg n x↔aK x n=0∧∀y∈x.args,lg n y:=by
 cases x;rw[lg,acY]
mutual
theorem ahr (n:Int):∀(x:Ex) (d:Nat),x.deep+d≤17→((∀z∈bY d x,aK z.2 n=0)↔lg n x)
 | .node o i l,d,h=>by
  rw[Ex.deep] at h
  rw[qx,lg]
  unfold gH
  rw[if_pos (by omega),←aeR n l (d+1) (by omega)]
  constructor
  ·exact fun h=>⟨h _ aoP,fun z hz=>h z (aoI _ hz)⟩
  ·rintro ⟨h1,h2⟩ z hz
   rcases ai0.1 hz with rfl | hz
   ·exact h1
   ·exact h2 z hz
theorem aeR (n:Int):∀(l:List Ex) (d:Nat),je l+d≤17→((∀z∈fK d l,aK z.2 n=0)↔rD n l)
 | [],d,h=>by rw[fK,rD];simp
 | x :: l,d,h=>by
  rw[je] at h
  rw[fK,rD,←ahr n x d (by omega),←aeR n l d (by omega)]
  constructor
  ·exact fun h=>⟨fun z hz=>h z (aua _ hz),fun z hz=>h z (aun _ hz)⟩
  ·rintro ⟨h1,h2⟩ z hz
   rcases ahN.1 hz with hz | hz
   ·exact h1 z hz
   ·exact h2 z hz
end
theorem vW {x:Ex} {n:Int}:dn x n=0↔(0≤n∧n≤256)∧(x.size≤256∧x.deep≤16)∧lg n x:=by
 unfold dn
 by_cases h1:n<0∨256<n
 ·rw[if_pos h1]
  constructor
  ·intro h;exact absurd h (by decide)
  ·rintro ⟨h,_⟩;omega
 ·rw[if_neg h1]
  by_cases h2:x.size≤256∧x.deep≤16
  ·rw[if_pos h2,aco,ahr n x 1 (by omega)]
   exact ⟨fun h=>⟨by omega,h2,h⟩,fun h=>h.2.2⟩
  ·rw[if_neg h2]
   constructor
   ·intro h;exact absurd h (by decide)
   ·rintro ⟨_,h,_⟩;exact absurd h h2
def afA (a:Ex×List Bool):Prop:=lg a.2.length a.1∧a.1.size≤256∧a.2.length≤256
def evS:Spec:=bT (fun a:Ex×List Bool=>[sG a.1,ql a.2]) afA (fun a=>bP (eG a.2 a.1))
def evN (n:Nat):Spec:={ evS with pre:=fun a=>evS.pre a∧a.1.size≤n }
def aoJ (a:Ex×List Bool):PV:=.fn 215 [.pt (vk a.1) 0,.pt [kJ a.2] 0]
def ada (n:Nat):oU:={ A:=Ex×List Bool,capt:=fun a=>[.pt (vk a.1) 0,.pt [kJ a.2] 0],pre:=fun a=>afA a∧a.1.size≤n+1,xs:=fun a=>a.1.args.map fun y=>[bP (eG a.2 y)] }
theorem al9 (n:Nat) (ih:aL Tryz.prog 196 (evN n)):adg Tryz.prog 215 (ada n):=by
 refine ar6 (Tb:=tab) mixed aB Tryz.func215 rfl rfl ?_
 rintro (a:Ex×List Bool) hpre
 refine ai rfl ?_
 obtain ⟨⟨hg,hs,hv⟩,hn⟩:=hpre
 have hn:a.1.size≤n+1:=hn
 have hal:=uD a.1
 intro l
 refine ei (bE.inv { X:=Nat,up:=fun k=>[(9,.s (iA k))],uo:=fun _=>[],inv:=fun k=>k≤a.1.args.length,meas:=fun k=>a.1.args.length-k,x0:=0,cnt:=fun k=>some k }) ?_
 refine ai (ai (ai (by exact (a4 (ai rfl rfl))) (by exact (ai (ai (ai (fun _=>rfl) rfl) rfl) trivial))) rfl) (ai ?_ ?_)
 ·exact afc _
 intro (k:Nat) (hk:k≤a.1.args.length)
 refine ah (p:=k<a.1.args.length) (au (by omega)) (fun h1=>?_) (fun h1=>?_)
 ·refine ai (ai (abq _) (by show (k:Int)<(a.1.args.length:Int);omega)) ?_
  have hy:a.1.args.getD k dF∈a.1.args:=adh (sU h1)
  have hys:(a.1.args.getD k dF).size≤n:=by have:=jO hy;have:=a.1.size_eq;omega
  refine ai rfl ?_
  refine ei _ (ai (ih) (ei ((a.1.args.getD k dF,a.2)) (ei [] (ai (a4 (ai (fun _=>Or.inl rfl) (ai nof (Or.inl rfl)))) (ai (by exact (ai (ai (iE (by simp only[zz,reduceCtorEq])) (ai (iE (by simp only[zz,reduceCtorEq])) (ai rfl (exE _)))) (ai rfl (fun _ _=>rfl)))) (ai trivial (ai (ai ⟨((qF _ _).1 hg).2 _ hy,by show (a.1.args.getD k dF).size≤256;have:=jO hy;have:=a.1.size_eq;omega,hv⟩ hys) ?_)))))))
  refine ai rfl (ei [bP (eG a.2 (a.1.args.getD k dF))] (ai ?_ (ai ?_ (ai ?_ ?_))))
  ·show (a.1.args.map fun y=>[bP (eG a.2 y)])[k]?=_
   rw[ajs,sU h1];rfl
  ·exact (ai trivial rfl)
  ·refine ei (k+1) (ai (ai rfl rfl) (ai (ai ?_ ?_) (ai ?_ ?_)))
   ·exact (ai rfl (ai (ai rfl rfl) (ai (ai rfl rfl) (ai (ai (ai (fun _=>rfl) (aP (by omega))) rfl) trivial))))
   ·rfl
   ·show k+1≤a.1.args.length;omega
   ·show a.1.args.length-(k+1)<a.1.args.length-k;omega
  ·exact ai trivial trivial
 ·obtain rfl:k=a.1.args.length:=by omega
  refine ai trivial ?_
  show a.1.args.length=(a.1.args.map fun y=>[bP (eG a.2 y)]).length
  simp
def apz (n:Nat):Spec:=bT (fun b:(Ex×List Bool)×Bool=>[.p false (aoJ b.1),.p false (.pt [bP b.2] 0)]) (fun b=>afA b.1∧b.1.1.size≤n+1) (fun b=>bP ((b.1.1.args.map (eG b.1.2)).all (·==b.2)))
theorem ap7 {l:List Bool} {v x:Bool} {k:Nat} (h:l[k]?=some x) (hx:x≠v):l.all (·==v)=false:=by
 rw[ar2]
 exact ⟨x,adh h,by simpa using hx⟩
theorem aaq (n:Nat) (ih:aL Tryz.prog 196 (evN n)):aL Tryz.prog 228 (apz n):=by
 refine aY (Tb:=tab) mixed aB Tryz.func228 rfl rfl ?_
 rintro (b:(Ex×List Bool)×Bool) hpre
 refine ai (ai rfl (ai rfl rfl)) ?_
 have hlen:∀w∈(ada n).xs b.1,w.length=1:=fun w hw=>by obtain ⟨y,_,rfl⟩:=asJ.1 hw;rfl
 refine ai (ai rfl rfl) (ei (ada n) (ai (al9 n ih) (ei b.1 (ai ?_ (ai hpre (ai hlen (ei { X:=Nat,uo:=fun k=>[],inv:=fun k y=>y=k∧∀z∈(b.1.1.args.map (eG b.1.2)).take k,z=b.2,x0:=0 } (ai ?_ (ai ?_ (ai ?_ (ai ?_ ?_)))))))))))
 ·exact (ai (ai rfl rfl) (ai rfl rfl))
 ·exact (ai rfl (ai rfl (ai rfl rfl)))
 ·exact trivial
 ·exact ⟨rfl,by simp⟩
 ·rintro k (y:Nat) vs ⟨hy,hall⟩ hvs
  subst hy
  have hvs:(b.1.1.args.map fun y=>[bP (eG b.1.2 y)])[y]?=some vs:=hvs
  rw[ajs] at hvs
  cases hc:b.1.1.args[y]? with
  | none=>rw[hc] at hvs;cases hvs
  | some c=>
   rw[hc] at hvs
   simp only[aoF,Option.some.injEq] at hvs
   subst hvs
   have hg:(b.1.1.args.map (eG b.1.2))[y]?=some (eG b.1.2 c):=by rw[ajs,hc];rfl
   refine bg (p:=eG b.1.2 c=b.2) (by exact (aqR.1 rfl).trans bne_iff_ne) (fun h3=>?_) (fun h3=>?_)
   ·refine ai (ai (fun _=>trivial) ?_) trivial
    show ak _ (bP ((b.1.1.args.map (eG b.1.2)).all (·==b.2)))
    rw[ap7 hg h3]
    exact rfl
   refine ei (y+1) (ai rfl (ai (ai (ai rfl rfl) (ai (ai rfl rfl) ?_)) ⟨rfl,?_⟩))
   ·exact trivial
   ·intro w hw
    rw[at1,hg] at hw
    rcases ahN.1 hw with hw | hw
    ·exact hall w hw
    ·simp at hw;subst hw;exact h3
 ·rintro (y:Nat) ⟨hy,hall⟩
  have hl:((ada n).xs b.1).length=(b.1.1.args.map (eG b.1.2)).length:=(amo _).trans (amo _).symm
  rw[hl] at hy hall
  subst hy
  rw[ahb] at hall
  refine ai (ai (fun _=>trivial) ?_) trivial
  show ak _ (bP ((b.1.1.args.map (eG b.1.2)).all (·==b.2)))
  rw[ak7.2 (fun z hz=>by simp[hall z hz])]
  exact rfl
def apv (n:Nat):Spec:=bT (fun b:Ex×List Bool=>[.p false (aoJ b)]) (fun b=>afA b∧b.1.size≤n+1) (fun b=>bP (!(b.1.args.map (eG b.2)).all (·==false)))
theorem amI (n:Nat) (ih:aL Tryz.prog 196 (evN n)):aL Tryz.prog 221 (apv n):=by
 refine aY (Tb:=tab) mixed aB Tryz.func221 rfl rfl ?_
 rintro (b:Ex×List Bool) hpre
 refine ai (ai rfl (ai rfl rfl)) ?_
 refine ei _ (ai (ab0) (ei (false) (ei [] (ai (a4 (ai (fun _=>Or.inl rfl) (ai nof (Or.inl rfl)))) (ai (by exact rfl) (ai trivial (ai (trivial) ?_)))))))
 refine ei _ (ai (aaq n ih) (ei ((b,false)) (ei [] (ai (a4 (ai (fun _=>Or.inl rfl) (ai nof (Or.inl rfl)))) (ai (by exact (ai (ai rfl rfl) (ai rfl rfl))) (ai trivial (ai (hpre) ?_)))))))
 refine ai (ai (fun _=>trivial) ?_) trivial
 exact rfl
theorem pK {x:Ex} {n:Int} (h:aK x n=0):(0≤x.op∧x.op<5)∧(pz x.op≤x.args.length∧x.args.length≤adj x.op)∧(0≤x.idx∧x.idx≤vQ x.op n):=by
 unfold aK at h
 split at h
 ·exact absurd h (by decide)
 ·split at h
  ·exact absurd h (by decide)
  ·split at h
   ·exact absurd h (by decide)
   ·omega
theorem ak9:∀n,aL Tryz.prog 196 (evN n)
 | 0=>by
  refine jy [3000024] ?_
  refine aY (Tb:=tab) mixed aB Tryz.func196 rfl rfl ?_
  rintro (a:Ex×List Bool) hpre
  refine ai (ai rfl (ai rfl rfl)) ?_
  have:=size_pos a.1
  exact absurd hpre.2 (by show ¬a.1.size≤0;omega)
 | n+1=>by
  have ih:=ak9 n
  refine jy [3000024] ?_
  refine aY (Tb:=tab) mixed aB Tryz.func196 rfl rfl ?_
  rintro (a:Ex×List Bool) hpre
  refine ai (ai rfl (ai rfl rfl)) ?_
  obtain ⟨hev,hn⟩:=hpre
  have hg:lg a.2.length a.1:=hev.1
  obtain ⟨hn0,-⟩:=(qF _ _).1 hg
  obtain ⟨ho,-,hi⟩:=pK hn0
  have hA:eG a.2 a.1=if a.1.op=0 then decide (a.1.idx=1) else if a.1.op=1 then a.2.getD a.1.idx.toNat false else if a.1.op=2 then (a.1.args.map (eG a.2)).all (·==false) else if a.1.op=3 then (a.1.args.map (eG a.2)).all (·==true) else !(a.1.args.map (eG a.2)).all (·==false):=by
   obtain ⟨⟨o,i,l⟩,vs⟩:=a;exact apX vs o i l
  refine ah (p:=a.1.op=0) (gB (by omega)) (fun h0=>?_) (fun h0=>?_)
  ·refine ai (ai (fun _=>trivial) ?_) trivial
   show ak _ (bP (eG a.2 a.1))
   rw[hA,if_pos h0]
   exact rfl
  rw[if_neg h0] at hA
  refine ah (p:=a.1.op=1) (gB (by omega)) (fun h1=>?_) (fun h1=>?_)
  ·have ht:vQ a.1.op a.2.length=a.2.length-1:=by rw[h1];rfl
   rw[ht] at hi
   refine ai (ai hi.1 (by show a.1.idx<(a.2.length:Int);omega)) ?_
   refine ai rfl ?_
   refine ai (ai (fun _=>trivial) ?_) trivial
   show ak _ (bP (eG a.2 a.1))
   rw[hA,if_pos h1]
   exact rfl
  rw[if_neg h1] at hA
  obtain ⟨⟨o,i,l⟩,vs⟩:=a
  have hA:eG vs (.node o i l)=if o=2 then (l.map (eG vs)).all (·==false) else if o=3 then (l.map (eG vs)).all (·==true) else !(l.map (eG vs)).all (·==false):=hA
  have ho2:o=2∨o=3∨o=4:=by
   have h0:¬o=0:=h0
   have h1:¬o=1:=h1
   have ho:0≤o∧o<5:=ho
   omega
  refine ei (.seq [1,2,5,0,3,4,6,7]) (ai (by kernel_rfl) ?_)
  rcases ho2 with rfl | rfl | rfl
  ·refine ei _ (ai (iq) (ei (()) (ei [] (ai (a4 (ai (fun _=>Or.inl rfl) (ai nof (Or.inl rfl)))) (ai (by exact trivial) (ai trivial (ai (trivial) ?_)))))))
   refine ai ho ?_
   refine ei _ (ai (aaq n ih) (ei (((.node 2 i l,vs),false)) (ei [] (ai (a4 (ai (fun _=>Or.inl rfl) (ai nof (Or.inl rfl)))) (ai (by exact (ai (ai rfl rfl) (ai rfl rfl))) (ai trivial (ai (ai hev hn) ?_)))))))
   refine ai (ai (fun _=>trivial) ?_) trivial
   show ak _ (bP (eG vs (.node 2 i l)))
   rw[hA,if_pos rfl]
   exact rfl
  ·refine ei _ (ai (iq) (ei (()) (ei [] (ai (a4 (ai (fun _=>Or.inl rfl) (ai nof (Or.inl rfl)))) (ai (by exact trivial) (ai trivial (ai (trivial) ?_)))))))
   refine ai ho ?_
   refine ei _ (ai (aaq n ih) (ei (((.node 3 i l,vs),true)) (ei [] (ai (a4 (ai (fun _=>Or.inl rfl) (ai nof (Or.inl rfl)))) (ai (by exact (ai (ai rfl rfl) (ai rfl rfl))) (ai trivial (ai (ai hev hn) ?_)))))))
   refine ai (ai (fun _=>trivial) ?_) trivial
   show ak _ (bP (eG vs (.node 3 i l)))
   rw[hA,if_neg (show ¬(3:Int)=2 by decide),if_pos rfl]
   exact rfl
  ·refine ei _ (ai (iq) (ei (()) (ei [] (ai (a4 (ai (fun _=>Or.inl rfl) (ai nof (Or.inl rfl)))) (ai (by exact trivial) (ai trivial (ai (trivial) ?_)))))))
   refine ai ho ?_
   refine ei _ (ai (amI n ih) (ei ((.node 4 i l,vs)) (ei [] (ai (a4 (ai (fun _=>Or.inl rfl) (ai nof (Or.inl rfl)))) (ai (by exact (ai rfl rfl)) (ai trivial (ai (ai hev hn) ?_)))))))
   refine ai (ai (fun _=>trivial) ?_) trivial
   show ak _ (bP (eG vs (.node 4 i l)))
   rw[hA,if_neg (show ¬(4:Int)=2 by decide),if_neg (show ¬(4:Int)=3 by decide)]
   exact rfl
theorem apZ:aL Tryz.prog 196 evS:=u7 (fun a=>a.1.size) ak9
def oz (x:Ex) (vs:List Bool):Bool×Int:=if dn x vs.length=0 then (eG vs x,0) else (false,dn x vs.length)
def asb:Spec:=bT (fun a:Ex×List Bool=>[sG a.1,ql a.2]) (fun a=>a.1.size≤1000000) (fun a=>.tup [bP (oz a.1 a.2).1,iP (oz a.1 a.2).2])
theorem apm:aL Tryz.prog 160 asb:=by
 refine aY (Tb:=tab) mixed aB Tryz.func160 rfl rfl ?_
 rintro (a:Ex×List Bool) hpre
 refine ai (ai rfl (ai rfl rfl)) ?_
 refine ei _ (ai (ab5) (ei ((a.1,(a.2.length:Int))) (ei [] (ai (a4 (ai (fun _=>Or.inl rfl) (ai nof (Or.inl rfl)))) (ai (by exact (ai (ai rfl (ai rfl (ai rfl (fun _ _=>rfl)))) rfl)) (ai trivial (ai (hpre) ?_)))))))
 refine bg (p:=dn a.1 a.2.length=0) (bK (by dsimp only;omega)) (fun h1=>?_) (fun h1=>?_)
 ·have e:oz a.1 a.2=(false,dn a.1 a.2.length):=if_neg h1
  refine ai (ai (fun _=>(by exact (ai trivial trivial))) ?_) trivial
  show ak _ (.tup [bP (oz a.1 a.2).1,iP (oz a.1 a.2).2])
  rw[e]
  exact (ai rfl rfl)
 have e:oz a.1 a.2=(eG a.2 a.1,0):=if_pos h1
 obtain ⟨h2,h3,h4⟩:=vW.1 h1
 refine ei _ (ai (apZ) (ei (a) (ei [] (ai (a4 (ai (fun _=>Or.inl rfl) (ai nof (Or.inl rfl)))) (ai (by exact (ai (ai rfl (ai rfl (ai rfl (fun _ _=>rfl)))) (ai rfl (fun _ _=>rfl)))) (ai trivial (ai (⟨h4,h3.1,by omega⟩) ?_)))))))
 refine ai (ai (fun _=>(by exact (ai trivial trivial))) ?_) trivial
 show ak _ (.tup [bP (oz a.1 a.2).1,iP (oz a.1 a.2).2])
 rw[e]
 exact (ai rfl rfl)
theorem uK:∀(a b:List Ex),sizes (a++b)=sizes a+sizes b
 | [],b=>by rw[sizes,List.nil_append];omega
 | x :: a,b=>by rw[List.cons_append,sizes,sizes,uK a b];omega
theorem xq {l:List Ex} {k:Nat} (h:k<l.length):sizes (l.take (k+1))=sizes (l.take k)+(l.getD k dF).size:=by
 rw[aQ dF h,uK];show _+(_+sizes [])=_;rw[sizes];rfl
theorem adw (l:List Ex) (k:Nat):sizes (l.take k)≤sizes l:=by
 conv=>rhs;rw[←ato k l,uK]
 omega
def agT:Spec:=bT (fun a:Ex×Nat=>[sG a.1,iA a.2]) (fun a=>a.2≤1000000) (fun a=>iP (min a.1.size (a.2+1):Nat))
def aq5 (n:Nat):Spec:={ agT with pre:=fun a=>agT.pre a∧a.1.size≤n }
theorem aiY:∀n,aL Tryz.prog 121 (aq5 n)
 | 0=>by
  refine aY (Tb:=tab) mixed aB Tryz.func121 rfl rfl ?_
  rintro (a:Ex×Nat) hpre
  refine ai (ai rfl (ai rfl rfl)) ?_
  have:=size_pos a.1
  exact absurd hpre.2 (by show ¬a.1.size≤0;omega)
 | n+1=>by
  have ih:=aiY n
  refine aY (Tb:=tab) mixed aB Tryz.func121 rfl rfl ?_
  rintro (a:Ex×Nat) hpre
  refine ai (ai rfl (ai rfl rfl)) ?_
  obtain ⟨hm,hn⟩:=hpre
  have hm:a.2≤1000000:=hm
  have hn:a.1.size≤n+1:=hn
  have hsz:=a.1.size_eq
  refine ei (bE.inv { X:=Nat,up:=fun k=>[(6,.s (iA k)),(5,.s (iA (min (1+sizes (a.1.args.take k)) (a.2+1):Nat)))],uo:=fun _=>[],inv:=fun k=>k≤a.1.args.length∧k≤sizes (a.1.args.take k)∧k≤a.2,meas:=fun k=>a.2-k,x0:=0 }) ?_
  refine ai (ai (ai (by exact (a4 (ai rfl rfl))) (ai ?_ ?_)) ?_) (ai ?_ ?_)
  ·exact (ai (ai (ai (fun _=>rfl) (iE (by simp only[zz,reduceCtorEq];rfl))) rfl) (ai (ai (fun _=>rfl) (iE (by simp only[zz,reduceCtorEq];rfl))) rfl))
  ·exact trivial
  ·exact rfl
  ·exact ⟨afc _,afc _,afc _⟩
  rintro (k:Nat) ⟨hk1,hk2,hk3⟩
  refine ah (p:=k<a.1.args.length) (au (by omega)) (fun h1=>?_) (fun h1=>?_)
  ·refine ah (p:=1+sizes (a.1.args.take k)≤a.2) (by exact cu (by show ((min (1+sizes (a.1.args.take k)) (a.2+1):Nat):Int)≤(a.2:Int)↔_;omega)) (fun h2=>?_) (fun h2=>?_)
   ·refine ai (ai (abq _) (by show (k:Int)<(a.1.args.length:Int);omega)) ?_
    refine ai rfl ?_
    have e1:min (1+sizes (a.1.args.take k)) (a.2+1)=1+sizes (a.1.args.take k):=by omega
    have hw:IntKind.i64.wrap ((a.2:Int)-((min (1+sizes (a.1.args.take k)) (a.2+1):Nat):Int))=((a.2-(1+sizes (a.1.args.take k)):Nat):Int):=by
     rw[e1,jk (by omega) (by omega)];omega
    have hy:a.1.args.getD k dF∈a.1.args:=adh (sU h1)
    have hys:(a.1.args.getD k dF).size≤n:=by have:=jO hy;omega
    refine ei _ (ai (ih) (ei ((a.1.args.getD k dF,a.2-(1+sizes (a.1.args.take k)))) (ei [] (ai (a4 (ai (fun _=>Or.inl rfl) (ai nof (Or.inl rfl)))) (ai (by exact (ai (ai (iE (by simp only[zz,reduceCtorEq])) (ai (iE (by simp only[zz,reduceCtorEq])) (ai rfl (exE _)))) (iE (by simp only[zz,reduceCtorEq];omega)))) (ai trivial (ai (ai (by show a.2-(1+sizes (a.1.args.take k))≤1000000;omega) hys) ?_)))))))
    refine ei ((k+1)) (ai (ai rfl rfl) (ai (ai ?_ ?_) (ai ?_ ?_)))
    ·refine (ai rfl (ai (ai rfl rfl) (ai (ai rfl rfl) (ai (ai (ai (ai (fun _=>rfl) (aP (by omega))) rfl) (ai (ai (fun _=>rfl) ?_) rfl)) trivial))))
     show IntKind.i64.wrap (((min (1+sizes (a.1.args.take k)) (a.2+1):Nat):Int)+((min (a.1.args.getD k dF).size (a.2-(1+sizes (a.1.args.take k))+1):Nat):Int))=_
     rw[jk (by omega) (by omega),xq h1];omega
    ·exact rfl
    ·have:=size_pos (a.1.args.getD k dF)
     exact ⟨h1,by rw[xq h1];omega,by omega⟩
    ·show a.2-(k+1)<a.2-k;omega
   ·have:=adw a.1.args k
    refine ai (ai (fun _=>trivial) ?_) trivial
    show ak _ (iP (min a.1.size (a.2+1):Nat))
    rw[show min a.1.size (a.2+1)=min (1+sizes (a.1.args.take k)) (a.2+1) by omega]
    exact rfl
  ·obtain rfl:k=a.1.args.length:=by omega
   rw[ahb] at hk2
   refine ai (ai (fun _=>trivial) ?_) trivial
   show ak _ (iP (min a.1.size (a.2+1):Nat))
   rw[show min a.1.size (a.2+1)=min (1+sizes (a.1.args.take a.1.args.length)) (a.2+1) by rw[ahb];omega]
   exact rfl
theorem afW:aL Tryz.prog 121 agT:=u7 (fun a=>a.1.size) aiY
def akd:Spec:=bT (fun a:Ex×Int=>[sG a.1,iA a.2]) (fun a=>a.2≤1000000∧a.1.size≤1000000) (fun a=>bP (decide ((a.1.deep:Int)≤a.2)))
def ar7 (n:Nat):Spec:={ akd with pre:=fun a=>akd.pre a∧a.1.size≤n }
theorem ant {l:List Ex} {m:Nat} (h:∀x∈l,x.deep≤m):je l≤m:=by
 induction l with
 | nil=>rw[je];omega
 | cons x l ih=>
  rw[je]
  have:=h x (by simp)
  have:=ih fun y hy=>h y (by simp[hy])
  omega
theorem amS (x:Ex):decide ((x.deep:Int)≤1)=((x.args.length:Int)==0):=by
 have hde:=x.wo
 cases hl:x.args with
 | nil=>rw[hl,je] at hde;rw[hde];rfl
 | cons y l=>
  rw[hl,je] at hde
  have:=ahs y
  rw[decide_eq_false (by omega)]
  symm;rw[beq_eq_false_iff_ne];simp;omega
theorem ale:∀n,aL Tryz.prog 122 (ar7 n)
 | 0=>by
  refine aY (Tb:=tab) mixed aB Tryz.func122 rfl rfl ?_
  rintro (a:Ex×Int) hpre
  refine ai (ai rfl (ai rfl rfl)) ?_
  have:=size_pos a.1
  exact absurd hpre.2 (by show ¬a.1.size≤0;omega)
 | n+1=>by
  have ih:=ale n
  refine aY (Tb:=tab) mixed aB Tryz.func122 rfl rfl ?_
  rintro (a:Ex×Int) hpre
  refine ai (ai rfl (ai rfl rfl)) ?_
  obtain ⟨hm,hn⟩:=hpre
  have hm1:a.2≤1000000:=hm.1
  have hm2:a.1.size≤1000000:=hm.2
  have hn:a.1.size≤n+1:=hn
  have hsz:=a.1.size_eq
  have hde:=a.1.wo
  refine ah (p:=a.2<1) (au (by omega)) (fun h1=>?_) (fun h1=>?_)
  ·refine ai (ai (fun _=>trivial) ?_) trivial
   show ak _ (bP (decide ((a.1.deep:Int)≤a.2)))
   rw[show decide ((a.1.deep:Int)≤a.2)=false from decide_eq_false (by omega)]
   exact rfl
  refine ah (p:=a.2=1) (gB (by omega)) (fun h2=>?_) (fun h2=>?_)
  ·refine ai (ai (fun _=>trivial) ?_) trivial
   show ak _ (bP (decide ((a.1.deep:Int)≤a.2)))
   rw[show decide ((a.1.deep:Int)≤a.2)=((a.1.args.length:Int)==0) by rw[h2];exact amS a.1]
   exact rfl
  have hal:=uD a.1
  refine ei (bE.inv { X:=Nat,up:=fun k=>[(5,.s (iA k))],uo:=fun k=>[],inv:=fun k=>k≤a.1.args.length∧(∀y∈a.1.args.take k,(y.deep:Int)≤a.2-1),meas:=fun k=>a.1.args.length-k,x0:=0 }) ?_
  refine ai (ai (ai (by exact (a4 (ai rfl rfl))) (ai (by exact (ai (ai (fun _=>rfl) (iE (by simp only[zz,reduceCtorEq];rfl))) rfl)) (by exact trivial))) rfl) (ai (ai (afc _) ?_) ?_)
  ·exact fun y hy=>absurd hy (by simp)
  intro (k:Nat) ⟨hk,hall⟩
  refine ah (p:=k<a.1.args.length) (au (by omega)) (fun h3=>?_) (fun h3=>?_)
  ·refine ai (ai (abq _) (iN (n:=a.1.args.length) (by omega))) (ai rfl ?_)
   have hy:a.1.args.getD k dF∈a.1.args:=adh (sU h3)
   have hms:=jO hy
   have hys:(a.1.args.getD k dF).size≤n:=by omega
   have hw:IntKind.i64.wrap (a.2-1)=a.2-1:=jk (by omega) (by omega)
   refine ei _ (ai (ih) (ei ((a.1.args.getD k dF,a.2-1)) (ei [] (ai (a4 (ai (fun _=>Or.inl rfl) (ai nof (Or.inl rfl)))) (ai (by exact (ai (ai (iE (by simp only[zz,reduceCtorEq])) (ai (iE (by simp only[zz,reduceCtorEq])) (ai rfl (exE _)))) (iE (by simp only[zz,reduceCtorEq];omega)))) (ai trivial (ai (ai ⟨by show a.2-1≤1000000;omega,by show (a.1.args.getD k dF).size≤1000000;omega⟩ hys) ?_)))))))
   refine bg (p:=((a.1.args.getD k dF).deep:Int)≤a.2-1) (by exact Iff.trans (by show (!decide ((a.1.args.getD k dF).deep≤a.2-1))=true↔_;simp) Iff.rfl) (fun h4=>?_) (fun h4=>?_)
   ·have:=ab6 hy
    refine ai (ai (fun _=>trivial) ?_) trivial
    show ak _ (bP (decide ((a.1.deep:Int)≤a.2)))
    rw[show decide ((a.1.deep:Int)≤a.2)=false from decide_eq_false (by omega)]
    exact rfl
   refine ei (k+1) (ai (ai rfl rfl) (ai (ai (ai rfl (ai (ai rfl rfl) (ai (ai rfl rfl) (ai (ai (ai (fun _=>rfl) (aP (by omega))) rfl) trivial)))) rfl) (ai (ai (iL (by omega)) ?_) (iM (by omega)))))
   intro y hy
   rw[aQ dF h3] at hy
   rcases ahN.1 hy with hy | hy
   ·exact hall y hy
   ·simp only[aiy] at hy;subst hy;exact h4
  ·obtain rfl:k=a.1.args.length:=by omega
   rw[ahb] at hall
   have:je a.1.args≤(a.2-1).toNat:=ant fun y hy=>by have:=hall y hy;omega
   refine ai (ai (fun _=>trivial) ?_) trivial
   show ak _ (bP (decide ((a.1.deep:Int)≤a.2)))
   rw[show decide ((a.1.deep:Int)≤a.2)=true from decide_eq_true (by omega)]
   exact rfl
theorem ajy:aL Tryz.prog 122 akd:=u7 (fun a=>a.1.size) ale
def nZ (x:Ex):Bool:=decide (x.size≤256)&&decide (x.deep≤16)
theorem adt {x:Ex}:nZ x=true↔x.size≤256∧x.deep≤16:=by unfold nZ;simp
def arS:Spec:=bT (fun x:Ex=>[sG x]) (fun x=>True) (fun x=>bP (nZ x))
theorem aog:aL Tryz.prog 133 arS:=by
 refine aY (Tb:=tab) mixed aB Tryz.func133 rfl rfl ?_
 rintro (x:Ex) hpre
 refine ai (ai rfl (ai rfl rfl)) ?_
 refine ei _ (ai (afW) (ei ((x,256)) (ei [] (ai (a4 (ai (fun _=>Or.inl rfl) (ai nof (Or.inl rfl)))) (ai (by exact (ai (ai rfl (ai rfl (ai rfl (fun _ _=>rfl)))) (iE (by simp only[zz,reduceCtorEq];rfl)))) (ai trivial (ai ((by show 256≤1000000;omega)) ?_)))))))
 refine ah (p:=x.size≤256) (by exact cu (by show ((min x.size (256+1):Nat):Int)≤256↔_;omega)) (fun h1=>?_) (fun h1=>?_)
 ·refine ei _ (ai (ajy) (ei ((x,16)) (ei [] (ai (a4 (ai (fun _=>Or.inl rfl) (ai nof (Or.inl rfl)))) (ai (by exact (ai (ai rfl (ai rfl (ai rfl (fun _ _=>rfl)))) rfl)) (ai trivial (ai (⟨by show (16:Int)≤1000000;omega,by show x.size≤1000000;omega⟩) ?_)))))))
  refine ai (ai (fun _=>trivial) ?_) trivial
  show ak _ (bP (nZ x))
  rw[show nZ x=decide ((x.deep:Int)≤16) by unfold nZ;rw[decide_eq_true h1,aiI];exact decide_eq_decide.2 (by omega)]
  exact rfl
 ·refine ai (ai (fun _=>trivial) ?_) trivial
  show ak _ (bP (nZ x))
  rw[show nZ x=false by unfold nZ;rw[decide_eq_false h1];rfl]
  exact rfl
def arz:Spec:=bT (fun y:Ex×Int=>[sG y.1,iA y.2]) (fun y=>y.1.args.length≤256) (fun y=>iP (aK y.1 y.2))
theorem amV {x:Ex} {n:Int} (h0:¬x.op<0) (h1:¬5≤x.op):aK x n=if x.args.length<pz x.op∨adj x.op<x.args.length then 3 else if x.idx<0∨vQ x.op n<x.idx then 2 else 0:=by
 unfold aK;rw[if_neg (by omega)]
theorem amM:aL Tryz.prog 183 arz:=by
 refine aY (Tb:=tab) mixed aB Tryz.func183 rfl rfl ?_
 rintro ⟨⟨o,i,l⟩,n⟩ hpre
 refine ai (ai rfl (ai rfl rfl)) ?_
 have hl:l.length≤256:=hpre
 refine ah (p:=o<0) (au Iff.rfl) (fun h1=>?_) (fun h1=>?_)
 ·refine ai (ai (fun _=>trivial) ?_) trivial
  show ak _ (iP (aK (.node o i l) n))
  rw[aK,if_pos (.inl h1)]
  exact rfl
 refine ah (p:=5≤o) (cu Iff.rfl) (fun h2=>?_) (fun h2=>?_)
 ·refine ai (ai (fun _=>trivial) ?_) trivial
  show ak _ (iP (aK (.node o i l) n))
  rw[aK,if_pos (.inr h2)]
  exact rfl
 have hA:aK (.node o i l) n=if l.length<pz o∨adj o<l.length then 3 else if i<0∨vQ o n<i then 2 else 0:=amV h1 h2
 have ho:o=0∨o=1∨o=2∨o=3∨o=4:=by omega
 rcases ho with rfl | rfl | rfl | rfl | rfl
 ·have hA:aK (.node 0 i l) n=if l.length<0∨0<l.length then 3 else if i<0∨1<i then 2 else 0:=hA
  refine bg (p:=l.length=0) (bK (by dsimp only;omega)) (fun h3=>?_) (fun h3=>?_)
  ·refine ai (ai (fun _=>trivial) ?_) trivial
   show ak _ (iP (aK (.node 0 i l) n))
   rw[hA,if_pos (show l.length<0∨0<l.length by omega)]
   exact rfl
  rw[if_neg (show ¬(l.length<0∨0<l.length) by omega)] at hA
  refine ah (p:=i<0) (au Iff.rfl) (fun h5=>?_) (fun h5=>?_)
  ·refine ai (ai (fun _=>trivial) ?_) trivial
   show ak _ (iP (aK (.node 0 i l) n))
   rw[hA,if_pos (.inl h5)]
   exact rfl
  refine ah (p:=2≤i) (cu Iff.rfl) (fun h6=>?_) (fun h6=>?_)
  ·refine ai (ai (fun _=>trivial) ?_) trivial
   show ak _ (iP (aK (.node 0 i l) n))
   rw[hA,if_pos (.inr (by omega))]
   exact rfl
  ·refine ai (ai (fun _=>trivial) ?_) trivial
   show ak _ (iP (aK (.node 0 i l) n))
   rw[hA,if_neg (show ¬(i<0∨1<i) by omega)]
   exact rfl
 ·have hA:aK (.node 1 i l) n=if l.length<0∨0<l.length then 3 else if i<0∨(n-1)<i then 2 else 0:=hA
  refine bg (p:=l.length=0) (bK (by dsimp only;omega)) (fun h3=>?_) (fun h3=>?_)
  ·refine ai (ai (fun _=>trivial) ?_) trivial
   show ak _ (iP (aK (.node 1 i l) n))
   rw[hA,if_pos (show l.length<0∨0<l.length by omega)]
   exact rfl
  rw[if_neg (show ¬(l.length<0∨0<l.length) by omega)] at hA
  refine ah (p:=i<0) (au Iff.rfl) (fun h5=>?_) (fun h5=>?_)
  ·refine ai (ai (fun _=>trivial) ?_) trivial
   show ak _ (iP (aK (.node 1 i l) n))
   rw[hA,if_pos (.inl h5)]
   exact rfl
  refine ah (p:=n≤i) (cu Iff.rfl) (fun h6=>?_) (fun h6=>?_)
  ·refine ai (ai (fun _=>trivial) ?_) trivial
   show ak _ (iP (aK (.node 1 i l) n))
   rw[hA,if_pos (.inr (by omega))]
   exact rfl
  ·refine ai (ai (fun _=>trivial) ?_) trivial
   show ak _ (iP (aK (.node 1 i l) n))
   rw[hA,if_neg (show ¬(i<0∨(n-1)<i) by omega)]
   exact rfl
 ·have hA:aK (.node 2 i l) n=if l.length<1∨1<l.length then 3 else if i<0∨0<i then 2 else 0:=hA
  refine bg (p:=l.length=1) (bK (by dsimp only;omega)) (fun h3=>?_) (fun h3=>?_)
  ·refine ai (ai (fun _=>trivial) ?_) trivial
   show ak _ (iP (aK (.node 2 i l) n))
   rw[hA,if_pos (show l.length<1∨1<l.length by omega)]
   exact rfl
  rw[if_neg (show ¬(l.length<1∨1<l.length) by omega)] at hA
  refine ah (p:=i<0) (au Iff.rfl) (fun h5=>?_) (fun h5=>?_)
  ·refine ai (ai (fun _=>trivial) ?_) trivial
   show ak _ (iP (aK (.node 2 i l) n))
   rw[hA,if_pos (.inl h5)]
   exact rfl
  refine ah (p:=1≤i) (cu Iff.rfl) (fun h6=>?_) (fun h6=>?_)
  ·refine ai (ai (fun _=>trivial) ?_) trivial
   show ak _ (iP (aK (.node 2 i l) n))
   rw[hA,if_pos (.inr (by omega))]
   exact rfl
  ·refine ai (ai (fun _=>trivial) ?_) trivial
   show ak _ (iP (aK (.node 2 i l) n))
   rw[hA,if_neg (show ¬(i<0∨0<i) by omega)]
   exact rfl
 ·have hA:aK (.node 3 i l) n=if l.length<2∨256<l.length then 3 else if i<0∨0<i then 2 else 0:=hA
  refine ah (p:=l.length<2) (au (by dsimp only;omega)) (fun h3=>?_) (fun h3=>?_)
  ·refine ai (ai (fun _=>trivial) ?_) trivial
   show ak _ (iP (aK (.node 3 i l) n))
   rw[hA,if_pos (show l.length<2∨256<l.length by omega)]
   exact rfl
  rw[if_neg (show ¬(l.length<2∨256<l.length) by omega)] at hA
  refine ah (p:=i<0) (au Iff.rfl) (fun h5=>?_) (fun h5=>?_)
  ·refine ai (ai (fun _=>trivial) ?_) trivial
   show ak _ (iP (aK (.node 3 i l) n))
   rw[hA,if_pos (.inl h5)]
   exact rfl
  refine ah (p:=1≤i) (cu Iff.rfl) (fun h6=>?_) (fun h6=>?_)
  ·refine ai (ai (fun _=>trivial) ?_) trivial
   show ak _ (iP (aK (.node 3 i l) n))
   rw[hA,if_pos (.inr (by omega))]
   exact rfl
  ·refine ai (ai (fun _=>trivial) ?_) trivial
   show ak _ (iP (aK (.node 3 i l) n))
   rw[hA,if_neg (show ¬(i<0∨0<i) by omega)]
   exact rfl
 ·have hA:aK (.node 4 i l) n=if l.length<2∨256<l.length then 3 else if i<0∨0<i then 2 else 0:=hA
  refine ah (p:=l.length<2) (au (by dsimp only;omega)) (fun h3=>?_) (fun h3=>?_)
  ·refine ai (ai (fun _=>trivial) ?_) trivial
   show ak _ (iP (aK (.node 4 i l) n))
   rw[hA,if_pos (show l.length<2∨256<l.length by omega)]
   exact rfl
  rw[if_neg (show ¬(l.length<2∨256<l.length) by omega)] at hA
  refine ah (p:=i<0) (au Iff.rfl) (fun h5=>?_) (fun h5=>?_)
  ·refine ai (ai (fun _=>trivial) ?_) trivial
   show ak _ (iP (aK (.node 4 i l) n))
   rw[hA,if_pos (.inl h5)]
   exact rfl
  refine ah (p:=1≤i) (cu Iff.rfl) (fun h6=>?_) (fun h6=>?_)
  ·refine ai (ai (fun _=>trivial) ?_) trivial
   show ak _ (iP (aK (.node 4 i l) n))
   rw[hA,if_pos (.inr (by omega))]
   exact rfl
  ·refine ai (ai (fun _=>trivial) ?_) trivial
   show ak _ (iP (aK (.node 4 i l) n))
   rw[hA,if_neg (show ¬(i<0∨0<i) by omega)]
   exact rfl
theorem rY (a b:List (Nat×Ex)) (n:Int):dS (a++b) n=if dS a n=0 then dS b n else dS a n:=by
 by_cases h:dS a n=0
 ·rw[if_pos h]
  have h0:=aco.1 h
  unfold dS
  rw[asG,auy,atN.2]
  ·rfl
  ·intro y hy
   obtain ⟨z,hz,rfl⟩:=asJ.1 hy
   simp[h0 z hz]
 ·rw[if_neg h]
  unfold dS at h ⊢
  rw[asG,auy]
  cases hc:(a.map fun y=>aK y.2 n).find? (fun e=>e != 0) with
  | none=>rw[hc] at h;exact absurd rfl h
  | some e=>rfl
theorem ait (d:Nat) (x:Ex) (l:List (Nat×Ex)) (n:Int):dS ((d,x) :: l) n=if aK x n=0 then dS l n else aK x n:=by
 have:dS [(d,x)] n=aK x n:=by
  by_cases h:aK x n=0
  ·rw[h];exact vR (by simpa using h)
  ·exact aev (k:=0) (by simp) rfl h
 rw[show (d,x) :: l=[(d,x)]++l from rfl,rY,this]
def agj:Spec:=bT (fun a:Ex×Int×Nat=>[sG a.1,iA a.2.1]) (fun a=>a.1.deep+a.2.2≤17∧a.1.size≤256) (fun a=>iP (dS (bY a.2.2 a.1) a.2.1))
def aqN (n:Nat):Spec:={ agj with pre:=fun a=>agj.pre a∧a.1.size≤n }
theorem aiU:∀n,aL Tryz.prog 151 (aqN n)
 | 0=>by
  refine aY (Tb:=tab) mixed aB Tryz.func151 rfl rfl ?_
  rintro (a:Ex×Int×Nat) hpre
  refine ai (ai rfl (ai rfl rfl)) ?_
  have:=size_pos a.1
  exact absurd hpre.2 (by show ¬a.1.size≤0;omega)
 | n+1=>by
  have ih:=aiU n
  refine aY (Tb:=tab) mixed aB Tryz.func151 rfl rfl ?_
  rintro (a:Ex×Int×Nat) hpre
  refine ai (ai rfl (ai rfl rfl)) ?_
  obtain ⟨hm,hn⟩:=hpre
  have hm1:a.1.deep+a.2.2≤17:=hm.1
  have hm2:a.1.size≤256:=hm.2
  have hn:a.1.size≤n+1:=hn
  have hsz:=a.1.size_eq
  have hde:=a.1.wo
  have hal:=uD a.1
  have hdd:a.2.2≤16:=by omega
  have hA:dS (bY a.2.2 a.1) a.2.1=if aK a.1 a.2.1=0 then dS (gH a.2.2 a.1.args) a.2.1 else aK a.1 a.2.1:=by rw[abL,ait]
  refine ei _ (ai (amM) (ei ((a.1,a.2.1)) (ei [] (ai (a4 (ai (fun _=>Or.inl rfl) (ai nof (Or.inl rfl)))) (ai (by exact (ai (ai rfl (ai rfl (ai rfl (fun _ _=>rfl)))) rfl)) (ai trivial (ai ((by show a.1.args.length≤256;omega)) ?_)))))))
  refine bg (p:=aK a.1 a.2.1=0) (bK (by dsimp only;omega)) (fun h1=>?_) (fun h1=>?_)
  ·refine ai (ai (fun _=>trivial) ?_) trivial
   show ak _ (iP (dS (bY a.2.2 a.1) a.2.1))
   rw[hA,if_neg h1]
   exact rfl
  rw[if_pos h1] at hA
  refine ei (bE.inv { X:=Nat,up:=fun k=>[(6,.s (iA k))],uo:=fun k=>[],inv:=fun k=>k≤a.1.args.length∧(dS (gH a.2.2 (a.1.args.take k)) a.2.1=0),meas:=fun k=>a.1.args.length-k,x0:=0 }) ?_
  refine ai (ai (ai (by exact (a4 (ai rfl rfl))) (ai (by exact (ai (ai (fun _=>rfl) (iE (by simp only[zz,reduceCtorEq];rfl))) rfl)) (by exact trivial))) rfl) (ai (ai (afc _) ?_) ?_)
  ·rw[List.take_zero];unfold gH;rw[if_pos hdd,fK];rfl
  intro (k:Nat) ⟨hk,hall⟩
  refine ah (p:=k<a.1.args.length) (au (by omega)) (fun h3=>?_) (fun h3=>?_)
  ·refine ai (ai (abq _) (iN (n:=a.1.args.length) (by omega))) (ai rfl ?_)
   have hy:a.1.args.getD k dF∈a.1.args:=adh (sU h3)
   have hms:=jO hy
   have hmd:=ab6 hy
   have hys:(a.1.args.getD k dF).size≤n:=by omega
   have hsn:dS (gH a.2.2 (a.1.args.take (k+1))) a.2.1=dS (bY (a.2.2+1) (a.1.args.getD k dF)) a.2.1:=by
    rw[ae6 hdd (sU h3),rY,if_pos hall]
   refine ei _ (ai (ih) (ei ((a.1.args.getD k dF,a.2.1,a.2.2+1)) (ei [] (ai (a4 (ai (fun _=>Or.inl rfl) (ai nof (Or.inl rfl)))) (ai (by exact (ai (ai (iE (by simp only[zz,reduceCtorEq])) (ai (iE (by simp only[zz,reduceCtorEq])) (ai rfl (exE _)))) rfl)) (ai trivial (ai (ai ⟨by show (a.1.args.getD k dF).deep+(a.2.2+1)≤17;omega,by show (a.1.args.getD k dF).size≤256;omega⟩ hys) ?_)))))))
   refine bg (p:=dS (bY (a.2.2+1) (a.1.args.getD k dF)) a.2.1=0) (bK (by dsimp only;omega)) (fun h4=>?_) (fun h4=>?_)
   ·have hs:gH a.2.2 a.1.args=gH a.2.2 (a.1.args.take (k+1))++gH a.2.2 (a.1.args.drop (k+1)):=by
     unfold gH;rw[if_pos hdd,if_pos hdd,if_pos hdd,←pG,ato]
    refine ai (ai (fun _=>trivial) ?_) trivial
    show ak _ (iP (dS (bY a.2.2 a.1) a.2.1))
    rw[hA,hs,rY,hsn,if_neg h4]
    exact rfl
   refine ei (k+1) (ai (ai rfl rfl) (ai (ai (ai rfl (ai (ai rfl rfl) (ai (ai rfl rfl) (ai (ai (ai (fun _=>rfl) (aP (by omega))) rfl) trivial)))) rfl) (ai (ai (iL (by omega)) (iE (by simp only[zz,reduceCtorEq];omega))) (iM (by omega)))))
  ·obtain rfl:k=a.1.args.length:=by omega
   rw[ahb] at hall
   refine ai (ai (fun _=>trivial) ?_) trivial
   show ak _ (iP (dS (bY a.2.2 a.1) a.2.1))
   rw[hA,hall]
   exact rfl
theorem aoi:aL Tryz.prog 151 agj:=u7 (fun a=>a.1.size) aiU
def aqa:Spec:=bT (fun y:Ex×Int=>[sG y.1,iA y.2]) (fun y=>True) (fun y=>iP (dn y.1 y.2))
theorem alk:aL Tryz.prog 97 aqa:=by
 refine aY (Tb:=tab) mixed aB Tryz.func97 rfl rfl ?_
 rintro (y:Ex×Int) hpre
 refine ai (ai rfl (ai rfl rfl)) ?_
 refine ah (p:=y.2<0) (au (by omega)) (fun h1=>?_) (fun h1=>?_)
 ·refine ai (ai (fun _=>trivial) ?_) trivial
  show ak _ (iP (dn y.1 y.2))
  rw[dn,if_pos (.inl h1)]
  exact rfl
 refine ah (p:=256<y.2) (au (by omega)) (fun h2=>?_) (fun h2=>?_)
 ·refine ai (ai (fun _=>trivial) ?_) trivial
  show ak _ (iP (dn y.1 y.2))
  rw[dn,if_pos (.inr h2)]
  exact rfl
 have hA:dn y.1 y.2=if y.1.size≤256∧y.1.deep≤16 then dS (bY 1 y.1) y.2 else 5:=by
  unfold dn;rw[if_neg (fun h=>h.elim h1 h2)]
 refine ei _ (ai (aog) (ei (y.1) (ei [] (ai (a4 (ai (fun _=>Or.inl rfl) (ai nof (Or.inl rfl)))) (ai (by exact (ai rfl (ai rfl (ai rfl (fun _ _=>rfl))))) (ai trivial (ai (trivial) ?_)))))))
 refine aX (b:=!nZ y.1) rfl (fun h3=>?_) (fun h3=>?_)
 ·have h3:¬(y.1.size≤256∧y.1.deep≤16):=fun h=>by rw[adt.2 h] at h3;exact absurd h3 (by decide)
  refine ai (ai (fun _=>trivial) ?_) trivial
  show ak _ (iP (dn y.1 y.2))
  rw[hA,if_neg h3]
  exact rfl
 have h3:y.1.size≤256∧y.1.deep≤16:=adt.1 (by simpa using h3)
 refine ei _ (ai (aoi) (ei ((y.1,y.2,1)) (ei [] (ai (a4 (ai (fun _=>Or.inl rfl) (ai nof (Or.inl rfl)))) (ai (by exact (ai (ai rfl (ai rfl (ai rfl (fun _ _=>rfl)))) rfl)) (ai trivial (ai (⟨by show y.1.deep+1≤17;omega,h3.1⟩) ?_)))))))
 refine ai (ai (fun _=>trivial) ?_) trivial
 show ak _ (iP (dn y.1 y.2))
 rw[hA,if_pos h3]
 exact rfl
def lq (x:Ex):Bool:=decide (x.size≤40)||(decide (256<x.size)&&decide (x.size≤512)&&decide (x.deep≤40))
theorem akQ {x:Ex} (h:lq x=true):x.size≤512:=by
 unfold lq at h;simp at h;omega
def as2:Spec:=bT (fun x:Ex=>[sG x]) (fun x=>True) (fun x=>bP (lq x))
theorem ari:aL Tryz.prog 56 as2:=by
 refine aY (Tb:=tab) mixed aB Tryz.func56 rfl rfl ?_
 rintro (x:Ex) hpre
 refine ai (ai rfl (ai rfl rfl)) ?_
 refine ei _ (ai (afW) (ei ((x,512)) (ei [] (ai (a4 (ai (fun _=>Or.inl rfl) (ai nof (Or.inl rfl)))) (ai (by exact (ai (ai rfl (ai rfl (ai rfl (fun _ _=>rfl)))) (iE (by simp only[zz,reduceCtorEq];rfl)))) (ai trivial (ai ((by show 512≤1000000;omega)) ?_)))))))
 refine ah (p:=x.size≤40) (by exact cu (by show ((min x.size (512+1):Nat):Int)≤40↔_;omega)) (fun h1=>?_) (fun h1=>?_)
 ·refine ai (ai (fun _=>trivial) ?_) trivial
  show ak _ (bP (lq x))
  rw[show lq x=true by unfold lq;rw[decide_eq_true h1];rfl]
  exact rfl
 refine ah (p:=256<x.size) (by exact au (by show (256:Int)<((min x.size (512+1):Nat):Int)↔_;omega)) (fun h2=>?_) (fun h2=>?_)
 ·refine ah (p:=x.size≤512) (by exact cu (by show ((min x.size (512+1):Nat):Int)≤512↔_;omega)) (fun h3=>?_) (fun h3=>?_)
  ·refine ei _ (ai (ajy) (ei ((x,40)) (ei [] (ai (a4 (ai (fun _=>Or.inl rfl) (ai nof (Or.inl rfl)))) (ai (by exact (ai (ai rfl (ai rfl (ai rfl (fun _ _=>rfl)))) rfl)) (ai trivial (ai (⟨by show (40:Int)≤1000000;omega,by show x.size≤1000000;omega⟩) ?_)))))))
   refine ai (ai (fun _=>trivial) ?_) trivial
   show ak _ (bP (lq x))
   rw[show lq x=decide ((x.deep:Int)≤40) by unfold lq;rw[decide_eq_false h1,decide_eq_true h2,decide_eq_true h3,aqz,aiI,aiI];exact decide_eq_decide.2 (by omega)]
   exact rfl
  ·refine ai (ai (fun _=>trivial) ?_) trivial
   show ak _ (bP (lq x))
   rw[show lq x=false by unfold lq;rw[decide_eq_false h1,decide_eq_false h3];simp]
   exact rfl
 ·refine ai (ai (fun _=>trivial) ?_) trivial
  show ak _ (bP (lq x))
  rw[show lq x=false by unfold lq;rw[decide_eq_false h1,decide_eq_false h2];simp]
  exact rfl
def o7 (b:Bool):Ex:=.node 0 (if b then 1 else 0) []
def arO:Spec:=bT (fun b:Bool=>[bA b]) (fun _=>True) (fun b=>exP (o7 b))
theorem aoc:aL Tryz.prog 123 arO:=by
 refine aY (Tb:=tab) mixed aB Tryz.func123 rfl rfl ?_
 rintro (b:Bool) hpre
 refine ai (ai rfl (ai rfl rfl)) ?_
 refine aX (b:=b) rfl (fun h1=>?_) (fun h1=>?_)
 ·subst h1
  refine ai (ai (fun _=>trivial) ?_) trivial
  exact (ai (iE rfl) (ai (iE rfl) rfl))
 ·subst h1
  refine ai (ai (fun _=>trivial) ?_) trivial
  exact (ai (iE rfl) (ai (iE rfl) rfl))
theorem adP {P:Program} {f:Nat} {S:Spec} (h:aL P f S) {res:S.A→PV} (e:∀a,S.pre a→gW (S.res a) (res a)):aL P f { S with res:=res }:=
 ⟨h.1,fun a hp E vs w hg hh hA=>(h.2 a hp E vs w hg hh hA).mono fun e' w' ⟨v,E',h1,h2,h3⟩=>⟨v,E',h1,rA (e a hp) h2,h3⟩⟩
def SLe:List SV→List SV→Prop
 | [],[]=>True
 | s :: l,t :: m=>(s=t∨∃d d',s=.p false d∧t=.p false d'∧gW d d')∧SLe l m
 | _,_=>False
theorem SLe.get:∀{l m:List SV},SLe l m→l.length=m.length∧∀(k:Nat) (s t:SV),l[k]?=some s→m[k]?=some t→s=t∨∃d d',s=.p false d∧t=.p false d'∧gW d d'
 | [],[],_=>⟨rfl,fun k s t h=>by simp at h⟩
 | [],_ :: _,h=>h.elim
 | _ :: _,[],h=>h.elim
 | s :: l,t :: m,⟨h1,h2⟩=>by
  obtain ⟨g1,g2⟩:=SLe.get h2
  refine ⟨by simp[g1],fun k x y hx hy=>?_⟩
  cases k with
  | zero=>simp at hx hy;subst hx;subst hy;exact h1
  | succ k=>exact g2 k x y (by simpa using hx) (by simpa using hy)
theorem amZ {P:Program} {f:Nat} {S:Spec} (h:aL P f S) {args:S.A→List SV} (e:∀a,S.pre a→SLe (args a) (S.args a)):aL P f { S with args:=args }:=
 ⟨h.1,fun a hp E vs w hg hh hA=>by
  refine h.2 a hp E vs w hg hh ?_
  obtain ⟨g1,g2⟩:=(e a hp).get
  obtain ⟨h1,h2⟩:=hA
  refine ⟨h1.trans g1,fun k u t hu ht=>?_⟩
  obtain ⟨s,hs⟩:=ko g1 ht
  have hr:=h2 k u s hu hs
  rcases g2 k s t hs ht with e | ⟨d,d',e1,e2,hle⟩
  ·subst e;exact hr
  ·subst e1;subst e2
   cases hr with
   | p _ _ _ hx=>exact .p _ _ _ (rA hle hx)⟩
abbrev Sk := Int × Bool
structure Stp where
 st:List Sk
 wt:Int
structure jP where
 fr:List Int
 to:List Int
 wh:Ex
structure aJ where
 act:Int
 ins:List (List UInt8)
 sts:List Stp
 trs:List jP
def skK (x:Sk):List PV:=[iP x.1,bP x.2]
def skA (x:Sk):SV:=.p false (.agg (skK x))
def bJ:Sk:=(0,false)
def za (l:List Sk):PV:=.seq l.length (fun k=>skK (l.getD k bJ))
def arL (l:List Sk):SV:=.p false (za l)
def stK (x:Stp):List PV:=[za x.st,iP x.wt]
def stA (x:Stp):SV:=.p false (.agg (stK x))
def st0:Stp:=⟨[],0⟩
def akj (l:List Stp):PV:=.seq l.length (fun k=>stK (l.getD k st0))
def trK (x:jP):List PV:=[jD x.fr,jD x.to,iP x.wh.op,iP x.wh.idx,.seq x.wh.args.length (exF x.wh.args)]
def trA (x:jP):SV:=.p false (.agg (trK x))
def aF:jP:=⟨[],[],dF⟩
def an3 (l:List jP):PV:=.seq l.length (fun k=>trK (l.getD k aF))
def chK (c:aJ):List PV:=[iP c.act,ssP c.ins,akj c.sts,an3 c.trs]
def vC (c:aJ):PV:=.agg (chK c)
def jJ (c:aJ):SV:=.p false (vC c)
def jw {α:Type} (p:α→Bool) (l:List α):Int:=match l.findIdx? p with
 | some k=>k
 | none=>-1
theorem qJ {α:Type} {p:α→Bool}:∀{l:List α} {k:Nat} {d:α},k<l.length→p (l.getD k d)=true→(∀y∈l.take k,p y=false)→jw p l=k
 | [],k,d,h,_,_=>by simp at h
 | x :: l,0,d,_,h,_=>by
  have h:p x=true:=h
  unfold jw;simp[List.findIdx?_cons,h]
 | x :: l,k+1,d,hk,h,hn=>by
  have h1:p x=false:=hn x (by simp)
  have h2:=qJ (l:=l) (k:=k) (d:=d) (by simpa using hk) (by simpa using h) (fun y hy=>hn y (by simp[hy]))
  unfold jw at h2 ⊢
  rw[List.findIdx?_cons,h1]
  cases hc:l.findIdx? p with
  | none=>rw[hc] at h2;simp only at h2;omega
  | some q=>rw[hc] at h2;simp only at h2;simp;omega
theorem tC {α:Type} {p:α→Bool} {l:List α} (h:∀y∈l,p y=false):jw p l=-1:=by
 unfold jw
 rw[List.findIdx?_eq_none_iff.2 (by simpa using h)]
theorem qz {α:Type} (p:α→Bool) (l:List α):decide (0≤jw p l)=l.any p:=by
 unfold jw
 cases hc:l.findIdx? p with
 | none=>
  have:=List.findIdx?_eq_none_iff.1 hc
  symm;rw[show decide ((0:Int)≤-1)=false by decide,atv]
  intro x hx;simp[this x hx]
 | some k=>
  simp only
  rw[decide_eq_true (by omega)]
  symm;rw[atj]
  obtain ⟨h,h1,_⟩:=List.findIdx?_eq_some_iff_getElem.1 hc
  exact ⟨_,atL h,h1⟩
def apL:Spec:=bT (fun a:List (Int)×(Int)=>[isA a.1,iA a.2]) (fun a=>a.1.length≤1000000) (fun a=>iP (jw (fun y=>a.2==y) a.1))
theorem amq:aL Tryz.prog 107 apL:=by
 refine aY (Tb:=tab) mixed aB Tryz.func107 rfl rfl ?_
 rintro (a:List (Int)×(Int)) hpre
 refine ai (ai rfl (ai rfl rfl)) ?_
 have hl:a.1.length≤1000000:=hpre
 refine ei (bE.inv { X:=Nat,up:=fun k=>[(8,.s (iA k))],uo:=fun k=>[],inv:=fun k=>k≤a.1.length∧(∀y∈a.1.take k,(a.2==y)=false),meas:=fun k=>a.1.length-k,x0:=0 }) ?_
 refine ai (ai (ai (by exact (a4 (ai rfl rfl))) (ai (by exact (ai (ai (fun _=>rfl) (iE (by simp only[zz,reduceCtorEq];rfl))) rfl)) (by exact trivial))) rfl) (ai (ai (afc _) ?_) ?_)
 ·exact fun y hy=>absurd hy (by simp)
 intro (k:Nat) ⟨hk,hall⟩
 refine ah (p:=k<a.1.length) (au (by omega)) (fun h1=>?_) (fun h1=>?_)
 ·refine ai (ai (abq _) (iN (n:=a.1.length) (by omega))) (ai rfl ?_)
  refine ah (p:=(a.2==a.1.getD k 0)=true) (by exact Iff.rfl) (fun h2=>?_) (fun h2=>?_)
  ·refine ai (ai (fun _=>trivial) ?_) trivial
   show ak _ (iP (jw (fun y=>a.2==y) a.1))
   rw[qJ (d:=0) h1 h2 hall]
   exact rfl
  refine ei (k+1) (ai (ai rfl rfl) (ai (ai (ai rfl (ai (ai rfl rfl) (ai (ai rfl rfl) (ai (ai (ai (fun _=>rfl) (aP (by omega))) rfl) trivial)))) rfl) (ai (ai (iL (by omega)) ?_) (iM (by omega)))))
  intro y hy
  rw[aQ 0 h1] at hy
  rcases ahN.1 hy with hy | hy
  ·exact hall y hy
  ·simp only[aiy] at hy;subst hy;simpa using h2
 ·obtain rfl:k=a.1.length:=by omega
  rw[ahb] at hall
  refine ai (ai (fun _=>trivial) ?_) trivial
  show ak _ (iP (jw (fun y=>a.2==y) a.1))
  rw[tC hall]
  exact rfl
def ash:Spec:=bT (fun a:List (Int)×(Int)=>[isA a.1,iA a.2]) (fun a=>a.1.length≤1000000) (fun a=>bP (a.1.any fun y=>a.2==y))
theorem aix:aL Tryz.prog 41 ash:=by
 refine aY (Tb:=tab) mixed aB Tryz.func41 rfl rfl ?_
 rintro (a:List (Int)×(Int)) hpre
 refine ai (ai rfl (ai rfl rfl)) ?_
 refine ei _ (ai (amq) (ei (a) (ei [] (ai (a4 (ai (fun _=>Or.inl rfl) (ai nof (Or.inl rfl)))) (ai (by exact (ai (ai rfl (fun _ _=>rfl)) rfl)) (ai trivial (ai (hpre) ?_)))))))
 refine ai (ai (fun _=>trivial) ?_) trivial
 show ak _ (bP (a.1.any fun y=>a.2==y))
 rw[(qz (fun y=>a.2==y) a.1).symm]
 exact rfl
def aph:Spec:=bT (fun a:List (List UInt8)×(List UInt8)=>[ssA a.1,sA a.2]) (fun a=>a.1.length≤1000000) (fun a=>iP (jw (fun y=>a.2==y) a.1))
theorem alR:aL Tryz.prog 179 aph:=by
 refine aY (Tb:=tab) mixed aB Tryz.func179 rfl rfl ?_
 rintro (a:List (List UInt8)×(List UInt8)) hpre
 refine ai (ai rfl (ai rfl rfl)) ?_
 have hl:a.1.length≤1000000:=hpre
 refine ei (bE.inv { X:=Nat,up:=fun k=>[(8,.s (iA k))],uo:=fun k=>[],inv:=fun k=>k≤a.1.length∧(∀y∈a.1.take k,(a.2==y)=false),meas:=fun k=>a.1.length-k,x0:=0 }) ?_
 refine ai (ai (ai (by exact (a4 (ai rfl rfl))) (ai (by exact (ai (ai (fun _=>rfl) (iE (by simp only[zz,reduceCtorEq];rfl))) rfl)) (by exact trivial))) rfl) (ai (ai (afc _) ?_) ?_)
 ·exact fun y hy=>absurd hy (by simp)
 intro (k:Nat) ⟨hk,hall⟩
 refine ah (p:=k<a.1.length) (au (by omega)) (fun h1=>?_) (fun h1=>?_)
 ·refine ai (ai (abq _) (iN (n:=a.1.length) (by omega))) (ai rfl ?_)
  refine ah (p:=(a.2==a.1.getD k [])=true) (by exact Iff.rfl) (fun h2=>?_) (fun h2=>?_)
  ·refine ai (ai (fun _=>trivial) ?_) trivial
   show ak _ (iP (jw (fun y=>a.2==y) a.1))
   rw[qJ (d:=[]) h1 h2 hall]
   exact rfl
  refine ei (k+1) (ai (ai rfl rfl) (ai (ai (ai rfl (ai (ai rfl rfl) (ai (ai rfl rfl) (ai (ai (ai (fun _=>rfl) (aP (by omega))) rfl) trivial)))) rfl) (ai (ai (iL (by omega)) ?_) (iM (by omega)))))
  intro y hy
  rw[aQ [] h1] at hy
  rcases ahN.1 hy with hy | hy
  ·exact hall y hy
  ·simp only[aiy] at hy;subst hy;simpa using h2
 ·obtain rfl:k=a.1.length:=by omega
  rw[ahb] at hall
  refine ai (ai (fun _=>trivial) ?_) trivial
  show ak _ (iP (jw (fun y=>a.2==y) a.1))
  rw[tC hall]
  exact rfl
def asv:Spec:=bT (fun a:List (List UInt8)×(List UInt8)=>[ssA a.1,sA a.2]) (fun a=>a.1.length≤1000000) (fun a=>bP (a.1.any fun y=>a.2==y))
theorem aiN:aL Tryz.prog 147 asv:=by
 refine aY (Tb:=tab) mixed aB Tryz.func147 rfl rfl ?_
 rintro (a:List (List UInt8)×(List UInt8)) hpre
 refine ai (ai rfl (ai rfl rfl)) ?_
 refine ei _ (ai (alR) (ei (a) (ei [] (ai (a4 (ai (fun _=>Or.inl rfl) (ai nof (Or.inl rfl)))) (ai (by exact (ai (ai rfl (fun _ _=>rfl)) rfl)) (ai trivial (ai (hpre) ?_)))))))
 refine ai (ai (fun _=>trivial) ?_) trivial
 show ak _ (bP (a.1.any fun y=>a.2==y))
 rw[(qz (fun y=>a.2==y) a.1).symm]
 exact rfl
def apJ:Spec:=bT (fun a:List (Bool)×(Bool)=>[ql a.1,bA a.2]) (fun a=>a.1.length≤1000000) (fun a=>iP (jw (fun y=>a.2==y) a.1))
theorem al2:aL Tryz.prog 165 apJ:=by
 refine aY (Tb:=tab) mixed aB Tryz.func165 rfl rfl ?_
 rintro (a:List (Bool)×(Bool)) hpre
 refine ai (ai rfl (ai rfl rfl)) ?_
 have hl:a.1.length≤1000000:=hpre
 refine ei (bE.inv { X:=Nat,up:=fun k=>[(8,.s (iA k))],uo:=fun k=>[],inv:=fun k=>k≤a.1.length∧(∀y∈a.1.take k,(a.2==y)=false),meas:=fun k=>a.1.length-k,x0:=0 }) ?_
 refine ai (ai (ai (by exact (a4 (ai rfl rfl))) (ai (by exact (ai (ai (fun _=>rfl) (iE (by simp only[zz,reduceCtorEq];rfl))) rfl)) (by exact trivial))) rfl) (ai (ai (afc _) ?_) ?_)
 ·exact fun y hy=>absurd hy (by simp)
 intro (k:Nat) ⟨hk,hall⟩
 refine ah (p:=k<a.1.length) (au (by omega)) (fun h1=>?_) (fun h1=>?_)
 ·refine ai (ai (abq _) (iN (n:=a.1.length) (by omega))) (ai rfl ?_)
  refine ah (p:=(a.2==a.1.getD k false)=true) (by exact Iff.rfl) (fun h2=>?_) (fun h2=>?_)
  ·refine ai (ai (fun _=>trivial) ?_) trivial
   show ak _ (iP (jw (fun y=>a.2==y) a.1))
   rw[qJ (d:=false) h1 h2 hall]
   exact rfl
  refine ei (k+1) (ai (ai rfl rfl) (ai (ai (ai rfl (ai (ai rfl rfl) (ai (ai rfl rfl) (ai (ai (ai (fun _=>rfl) (aP (by omega))) rfl) trivial)))) rfl) (ai (ai (iL (by omega)) ?_) (iM (by omega)))))
  intro y hy
  rw[aQ false h1] at hy
  rcases ahN.1 hy with hy | hy
  ·exact hall y hy
  ·simp only[aiy] at hy;subst hy;simpa using h2
 ·obtain rfl:k=a.1.length:=by omega
  rw[ahb] at hall
  refine ai (ai (fun _=>trivial) ?_) trivial
  show ak _ (iP (jw (fun y=>a.2==y) a.1))
  rw[tC hall]
  exact rfl
def asq:Spec:=bT (fun a:List (Bool)×(Bool)=>[ql a.1,bA a.2]) (fun a=>a.1.length≤1000000) (fun a=>bP (a.1.any fun y=>a.2==y))
theorem apG:aL Tryz.prog 132 asq:=by
 refine aY (Tb:=tab) mixed aB Tryz.func132 rfl rfl ?_
 rintro (a:List (Bool)×(Bool)) hpre
 refine ai (ai rfl (ai rfl rfl)) ?_
 refine ei _ (ai (al2) (ei (a) (ei [] (ai (a4 (ai (fun _=>Or.inl rfl) (ai nof (Or.inl rfl)))) (ai (by exact (ai (ai rfl (fun _ _=>rfl)) rfl)) (ai trivial (ai (hpre) ?_)))))))
 refine ai (ai (fun _=>trivial) ?_) trivial
 show ak _ (bP (a.1.any fun y=>a.2==y))
 rw[(qz (fun y=>a.2==y) a.1).symm]
 exact rfl
def gG (c:UInt8):Bool:=(decide (97≤c.toNat)&&decide (c.toNat≤122))||(decide (65≤c.toNat)&&decide (c.toNat≤90))
def iB (c:UInt8):Bool:=gG c||(decide (48≤c.toNat)&&decide (c.toNat≤57))||decide (c.toNat=95)
def apN:Spec:=bT (fun c:UInt8=>[cA c]) (fun _=>True) (fun c=>bP (gG c))
theorem aeI:aL Tryz.prog 202 apN:=by
 refine aY (Tb:=tab) mixed aB Tryz.func202 rfl rfl ?_
 rintro (c:UInt8) hpre
 refine ai (ai rfl (ai rfl rfl)) ?_
 refine ah (p:=97≤c.toNat) (cu (by omega)) (fun h1=>?_) (fun h1=>?_)
 ·refine ah (p:=c.toNat≤122) (cu (by omega)) (fun h2=>?_) (fun h2=>?_)
  ·refine ai (ai (fun _=>trivial) ?_) trivial
   show ak _ (bP (gG c))
   rw[show gG c=true by unfold gG;rw[decide_eq_true h1,decide_eq_true h2];rfl]
   exact rfl
  refine ah (p:=65≤c.toNat) (cu (by omega)) (fun h3=>?_) (fun h3=>?_)
  ·refine ai (ai (fun _=>trivial) ?_) trivial
   show ak _ (bP (gG c))
   rw[show gG c=decide ((c.toNat:Int)≤90) by unfold gG;rw[decide_eq_false h2,decide_eq_true h3,aq7,aiI,aqz];exact decide_eq_decide.2 (by omega)]
   exact rfl
  ·omega
 ·refine ah (p:=65≤c.toNat) (cu (by omega)) (fun h3=>?_) (fun h3=>?_)
  ·refine ai (ai (fun _=>trivial) ?_) trivial
   show ak _ (bP (gG c))
   rw[show gG c=decide ((c.toNat:Int)≤90) by unfold gG;rw[decide_eq_false h1,decide_eq_true h3,aqA,aiI,aqz];exact decide_eq_decide.2 (by omega)]
   exact rfl
  ·refine ai (ai (fun _=>trivial) ?_) trivial
   show ak _ (bP (gG c))
   rw[show gG c=false by unfold gG;rw[decide_eq_false h1,decide_eq_false h3,aqA,aqA];rfl]
   exact rfl
def arI:Spec:=bT (fun c:UInt8=>[cA c]) (fun _=>True) (fun c=>bP (iB c))
theorem ane:aL Tryz.prog 201 arI:=by
 refine aY (Tb:=tab) mixed aB Tryz.func201 rfl rfl ?_
 rintro (c:UInt8) hpre
 refine ai (ai rfl (ai rfl rfl)) ?_
 refine ei _ (ai (aeI) (ei (c) (ei [] (ai (a4 (ai (fun _=>Or.inl rfl) (ai nof (Or.inl rfl)))) (ai (by exact rfl) (ai trivial (ai (trivial) ?_)))))))
 refine aX (b:=gG c) rfl (fun h0=>?_) (fun h0=>?_)
 ·refine ai (ai (fun _=>trivial) ?_) trivial
  show ak _ (bP (iB c))
  rw[show iB c=true by unfold iB;rw[h0];rfl]
  exact rfl
 refine ah (p:=48≤c.toNat) (cu (by omega)) (fun h1=>?_) (fun h1=>?_)
 ·refine ah (p:=c.toNat≤57) (cu (by omega)) (fun h2=>?_) (fun h2=>?_)
  ·refine ai (ai (fun _=>trivial) ?_) trivial
   show ak _ (bP (iB c))
   rw[show iB c=true by unfold iB;rw[decide_eq_true h1,decide_eq_true h2,Bool.and_self,Bool.or_true,alh]]
   exact rfl
  ·refine ai (ai (fun _=>trivial) ?_) trivial
   show ak _ (bP (iB c))
   rw[show iB c=((c.toNat:Int)==95) by unfold iB;rw[h0,decide_eq_false h2,aq7,aqz,aqz,aqR,beq_iff_eq,decide_eq_true_iff];omega]
   exact rfl
 ·refine ai (ai (fun _=>trivial) ?_) trivial
  show ak _ (bP (iB c))
  rw[show iB c=((c.toNat:Int)==95) by unfold iB;rw[h0,decide_eq_false h1,aqA,aqz,aqz,aqR,beq_iff_eq,decide_eq_true_iff];omega]
  exact rfl
def jE (s:List UInt8):Bool:=s.all iB&&(!s.isEmpty&&gG (s.getD 0 0))
def ar4:Spec:=bT (fun s:List UInt8=>[sA s]) (fun s=>s.length≤1000000) (fun s=>bP (jE s))
theorem kg {s:List UInt8} {k:Nat} (h:k<s.length):(strOf s)[k]?=some (s.getD k 0):=by
 have h1:s[k]?=some (s.getD k 0):=bI 0 h
 show (if h:k<(strOf s).size then some ((strOf s).get k h) else none)=_
 have h2:k<(strOf s).size:=by rw[dK];exact h
 rw[dif_pos h2,←h1,abn h];rfl
theorem apI:aL Tryz.prog 169 ar4:=by
 refine aY (Tb:=tab) mixed aB Tryz.func169 rfl rfl ?_
 rintro (s:List UInt8) hpre
 refine ai (ai rfl (ai rfl rfl)) ?_
 have hl:s.length≤1000000:=hpre
 have hz:=dK s
 refine ei (bE.inv { X:=Nat,up:=fun k=>[(6,.s (iA k))],uo:=fun k=>[],inv:=fun k=>k≤s.length∧(∀c∈s.take k,iB c=true),meas:=fun k=>s.length-k,x0:=0 }) ?_
 refine ai (ai (ai (by exact (a4 (ai rfl rfl))) (ai (by exact (ai (ai (fun _=>rfl) (iE (by simp only[zz,reduceCtorEq];rfl))) rfl)) (by exact trivial))) rfl) (ai (ai (afc _) ?_) ?_)
 ·exact fun y hy=>absurd hy (by simp)
 intro (k:Nat) ⟨hk,hall⟩
 refine ah (p:=k<s.length) (by exact au (by rw[hz];omega)) (fun h1=>?_) (fun h1=>?_)
 ·refine ei (s.getD k 0) (ai (ai (abq _) (kg h1)) ?_)
  refine ei _ (ai (ane) (ei (s.getD k 0) (ei [] (ai (a4 (ai (fun _=>Or.inl rfl) (ai nof (Or.inl rfl)))) (ai (by exact rfl) (ai trivial (ai (trivial) ?_)))))))
  refine aX (b:=!iB (s.getD k 0)) rfl (fun h2=>?_) (fun h2=>?_)
  ·have h3:s.all iB=false:=by
    rw[ar2]
    exact ⟨s.getD k 0,adh (bI 0 h1),by simpa using h2⟩
   refine ai (ai (fun _=>trivial) ?_) trivial
   show ak _ (bP (jE s))
   rw[jE,h3,aqA]
   exact rfl
  refine ei (k+1) (ai (ai rfl rfl) (ai (ai (ai rfl (ai (ai rfl rfl) (ai (ai rfl rfl) (ai (ai (ai (fun _=>rfl) (aP (by omega))) rfl) trivial)))) rfl) (ai (ai (iL (by omega)) ?_) (iM (by omega)))))
  intro y hy
  rw[aQ 0 h1] at hy
  rcases ahN.1 hy with hy | hy
  ·exact hall y hy
  ·simp only[aiy] at hy;subst hy;simpa using h2
 ·obtain rfl:k=s.length:=by omega
  rw[ahb] at hall
  have h3:s.all iB=true:=ak7.2 hall
  refine bg (p:=s=[]) (by show (s != [])=true↔_;exact bne_iff_ne) (fun h4=>?_) (fun h4=>?_)
  ·have hp:0<s.length:=aue.2 h4
   refine ei (s.getD 0 0) (ai (ai (by decide) (kg hp)) ?_)
   refine ei _ (ai (aeI) (ei (s.getD 0 0) (ei [] (ai (a4 (ai (fun _=>Or.inl rfl) (ai nof (Or.inl rfl)))) (ai (by exact rfl) (ai trivial (ai (trivial) ?_)))))))
   have h5:s.isEmpty=false:=by cases s with | nil=>exact absurd rfl h4 | cons x l=>rfl
   refine ai (ai (fun _=>trivial) ?_) trivial
   show ak _ (bP (jE s))
   rw[jE,h3,h5,aiI,Bool.not_false,aiI]
   exact rfl
  ·refine ai (ai (fun _=>trivial) ?_) trivial
   show ak _ (bP (jE s))
   rw[show jE s=false by rw[h4];rfl]
   exact rfl
def dx (f:Nat→Int):Nat→Int
 | 0=>0
 | n+1=>if f 0=0 then dx (fun k=>f (k+1)) n else f 0
theorem cB:∀{n:Nat} {f:Nat→Int} {k:Nat},k<n→(∀j,j<k→f j=0)→f k≠0→dx f n=f k
 | 0,_,_,h,_,_=>by omega
 | n+1,f,0,_,_,h=>by rw[dx,if_neg h]
 | n+1,f,k+1,hk,h0,h=>by
  rw[dx,if_pos (h0 0 (by omega))]
  exact cB (f:=fun k=>f (k+1)) (k:=k) (by omega) (fun j hj=>h0 (j+1) (by omega)) h
theorem gD:∀{n:Nat} {f:Nat→Int},(∀j,j<n→f j=0)→dx f n=0
 | 0,_,_=>rfl
 | n+1,f,h=>by rw[dx,if_pos (h 0 (by omega))];exact gD fun j hj=>h (j+1) (by omega)
theorem nG {n:Nat} {f:Nat→Int} (h:dx f n=0):∀j,j<n→f j=0:=by
 induction n generalizing f with
 | zero=>intro j hj;omega
 | succ n ih=>
  intro j hj
  rw[dx] at h
  by_cases h0:f 0=0
  ·rw[if_pos h0] at h
   cases j with
   | zero=>exact h0
   | succ j=>exact ih h j (by omega)
  ·rw[if_neg h0] at h;exact absurd h h0
def pQ (l:List (List UInt8)) (k:Nat):Int:=if jE (l.getD k [])=false then 3 else if 24<(l.getD k []).length then 17 else if (l.take k).any (fun y=>l.getD k []==y)=true then 7 else 0
def kI (l:List (List UInt8)):Int:=if 256<l.length then 5 else dx (pQ l) l.length
def ard:Spec:=bT (fun l:List (List UInt8)=>[ssA l]) (fun l=>∀s∈l,s.length≤1000000) (fun l=>iP (kI l))
theorem ajB {l:List (List UInt8)} {k:Nat} (hk:k≤l.length):∀j,j<k→[sP (l.getD j [])]=[sP ((l.take k).getD j [])]:=by
 intro j hj
 rw[abo,abo,alD,if_pos hj]
theorem an2:aL Tryz.prog 139 ard:=by
 refine aY (Tb:=tab) mixed aB Tryz.func139 rfl rfl ?_
 rintro (l:List (List UInt8)) hpre
 refine ai (ai rfl (ai rfl rfl)) ?_
 have hpre:∀s∈l,s.length≤1000000:=hpre
 refine ah (p:=256<l.length) (au (by omega)) (fun h0=>?_) (fun h0=>?_)
 ·refine ai (ai (fun _=>trivial) ?_) trivial
  show ak _ (iP (kI l))
  rw[kI,if_pos h0]
  exact rfl
 have hA:kI l=dx (pQ l) l.length:=by unfold kI;rw[if_neg h0]
 refine ei (bE.inv { X:=Nat,up:=fun k=>[(10,.s (iA k))],uo:=fun k=>[],inv:=fun k=>k≤l.length∧(∀j,j<k→pQ l j=0),meas:=fun k=>l.length-k,x0:=0 }) ?_
 refine ai (ai (ai (by exact (a4 (ai rfl rfl))) (ai (by exact (ai (ai (fun _=>rfl) (iE (by simp only[zz,reduceCtorEq];rfl))) rfl)) (by exact trivial))) rfl) (ai (ai (afc _) ?_) ?_)
 ·exact fun j hj=>absurd hj (alJ _)
 intro (k:Nat) ⟨hk,hall⟩
 refine ah (p:=k<l.length) (au (by omega)) (fun h1=>?_) (fun h1=>?_)
 ·refine ai (ai (abq _) (iN (n:=l.length) (by omega))) (ai rfl ?_)
  have hs:=hpre _ (adh (bI [] h1))
  have hz:=dK (l.getD k [])
  refine ei _ (ai (apI) (ei (l.getD k []) (ei [] (ai (a4 (ai (fun _=>Or.inl rfl) (ai nof (Or.inl rfl)))) (ai (by exact rfl) (ai trivial (ai (hs) ?_)))))))
  refine aX (b:=!jE (l.getD k [])) rfl (fun h2=>?_) (fun h2=>?_)
  ·have h2:jE (l.getD k [])=false:=by simpa using h2
   have e:pQ l k=3:=by unfold pQ;rw[if_pos h2]
   refine ai (ai (fun _=>trivial) ?_) trivial
   show ak _ (iP (kI l))
   rw[hA,cB h1 hall (by rw[e];decide),e]
   exact rfl
  have h2:¬jE (l.getD k [])=false:=by simpa using h2
  refine ah (p:=24<(l.getD k []).length) (by exact au (by show (24:Int)<((strOf (l.getD k [])).size:Int)↔_;rw[hz];omega)) (fun h3=>?_) (fun h3=>?_)
  ·have e:pQ l k=17:=by unfold pQ;rw[if_neg h2,if_pos h3]
   refine ai (ai (fun _=>trivial) ?_) trivial
   show ak _ (iP (kI l))
   rw[hA,cB h1 hall (by rw[e];decide),e]
   exact rfl
  refine ai (ai (by decide) (ai (abq _) (by show (k:Int)≤(l.length:Int);omega))) (ai (fun _ _=>rfl) ?_)
  have htk:(l.take k).length=k:=by rw[ajz];omega
  refine ei _ (ai (aiN) (ei ((l.take k,l.getD k [])) (ei [] (ai (a4 (ai (fun _=>Or.inl rfl) (ai nof (Or.inl rfl)))) (ai ?_ (ai (by exact trivial) (ai ((by show (l.take k).length≤1000000;omega)) ?_)))))))
  ·refine (ai (ai ?_ ?_) rfl)
   ·show ((k:Int).toNat-(0:Int).toNat)=(l.take k).length
    rw[htk];simp
   ·intro j hj
    have hj:j<(k:Int).toNat-(0:Int).toNat:=hj
    show [sP (l.getD ((0:Int).toNat+j) [])]=_
    rw[show (0:Int).toNat+j=j by simp]
    exact ajB hk j (by simpa using hj)
  refine aX (b:=(l.take k).any (fun y=>l.getD k []==y)) rfl (fun h4=>?_) (fun h4=>?_)
  ·have e:pQ l k=7:=by unfold pQ;rw[if_neg h2,if_neg h3,if_pos h4]
   refine ai (ai (fun _=>trivial) ?_) trivial
   show ak _ (iP (kI l))
   rw[hA,cB h1 hall (by rw[e];decide),e]
   exact rfl
  refine ei (k+1) (ai (ai rfl rfl) (ai (ai (ai rfl (ai (ai rfl rfl) (ai (ai rfl rfl) (ai (ai (ai (fun _=>rfl) (aP (by omega))) rfl) trivial)))) rfl) (ai (ai (iL (by omega)) ?_) (iM (by omega)))))
  intro j hj
  by_cases hjk:j=k
  ·subst hjk;unfold pQ;rw[if_neg h2,if_neg h3,if_neg (by rw[h4];decide)]
  ·exact hall j (by omega)
 ·obtain rfl:k=l.length:=by omega
  refine ai (ai (fun _=>trivial) ?_) trivial
  show ak _ (iP (kI l))
  rw[hA,gD hall]
  exact rfl
end Go.Sx.Pe
namespace Go.Proofs
open Go.Shelf
def Tryz.aa9:Go.Shelf.Ren:=⟨fun | 156=>143 | 165=>173 | 166=>78 | 169=>84 | 240=>135 | 241=>206 | 276=>166 | 277=>222 | n=>n,fun | 31=>22 | 9=>9 | 3=>3 | 4=>4 | 0=>0 | 20=>20 | 72=>143 | 76=>146 | 70=>140 | 37=>141 | 75=>145 | 127=>206 | 164=>226 | 5=>5 | 80=>153 | n=>n,fun | n=>n⟩
theorem Tryz.aiH : Go.Proofs.Lays.n156 Tryz.prog Tryz.aa9 := {
  mixed := by kernel_rfl
  f156 := Tryz.func143.trans (congrArg some (by kernel_rfl))
  f165 := Tryz.func173.trans (congrArg some (by kernel_rfl))
  f166 := Tryz.func78.trans (congrArg some (by kernel_rfl))
  f169 := Tryz.func84.trans (congrArg some (by kernel_rfl))
  f240 := Tryz.func135.trans (congrArg some (by kernel_rfl))
  f241 := Tryz.func206.trans (congrArg some (by kernel_rfl))
  f276 := Tryz.func166.trans (congrArg some (by kernel_rfl))
  f277 := Tryz.func222.trans (congrArg some (by kernel_rfl))
  t0 := Tryz.underlying0
  a0 := Tryz.isAgg0
  z0 := Tryz.sizeOf0
  v0 := Tryz.zeroValue0
  t3 := Tryz.underlying3
  a3 := Tryz.isAgg3
  z3 := Tryz.sizeOf3
  v3 := Tryz.zeroValue3
  t4 := Tryz.underlying4
  a4 := Tryz.isAgg4
  z4 := Tryz.sizeOf4
  v4 := Tryz.zeroValue4
  t9 := Tryz.underlying9
  a9 := Tryz.isAgg9
  z9 := Tryz.sizeOf9
  v9 := Tryz.zeroValue9
  t20 := Tryz.underlying20
  a20 := Tryz.isAgg20
  z20 := Tryz.sizeOf20
  v20 := Tryz.zeroValue20
  t31 := Tryz.underlying22
  a31 := Tryz.isAgg22
  z31 := Tryz.sizeOf22
  v31 := Tryz.zeroValue22
  t37 := Tryz.underlying141
  a37 := Tryz.isAgg141
  z37 := Tryz.sizeOf141
  v37 := Tryz.zeroValue141
  t70 := Tryz.underlying140
  a70 := Tryz.isAgg140
  z70 := Tryz.sizeOf140
  v70 := Tryz.zeroValue140
  t72 := Tryz.underlying143
  a72 := Tryz.isAgg143
  z72 := Tryz.sizeOf143
  v72 := Tryz.zeroValue143
  t75 := Tryz.underlying145
  a75 := Tryz.isAgg145
  z75 := Tryz.sizeOf145
  v75 := Tryz.zeroValue145
  t76 := Tryz.underlying146
  a76 := Tryz.isAgg146
  z76 := Tryz.sizeOf146
  v76 := Tryz.zeroValue146
  t127 := Tryz.underlying206
  a127 := Tryz.isAgg206
  z127 := Tryz.sizeOf206
  v127 := Tryz.zeroValue206
  t164 := Tryz.underlying226
  a164 := Tryz.isAgg226
  z164 := Tryz.sizeOf226
  v164 := Tryz.zeroValue226 }
theorem Tryz.sK : Builder.Extra Tryz.prog Tryz.aa9 := {
  sizeBuilder := by kernel_rfl
  liesBuilder := by kernel_rfl
  t5 := Tryz.underlying5
  a5 := Tryz.isAgg5
  z5 := Tryz.sizeOf5
  v5 := Tryz.zeroValue5
  infoByte := by kernel_rfl
  cellsByte := by kernel_rfl
  sizeByte := by kernel_rfl
  neB5 := by decide }
open Go.RowKit in
theorem Tryz.strings_Join_none (a:Option Addr) (c:Nat) (sep:ByteArray) (w:World) :
  Calls Tryz.prog 143 #[.slice a 0 c,.string sep] w fun e w'=>e=.returned (.string ⟨#[]⟩)∧w'=w:=Any.strings_Join_none Tryz.aiH Tryz.sK a c sep w
open Go.RowKit in
theorem Tryz.strings_Join (bk o c:Nat) (xs:List ByteArray) (sep:ByteArray) (w:World) (hcells:∀(j:Nat) x,xs[j]?=some x→w.cell? ⟨bk,o+j,none⟩=some (.string x)) (hbk:bk<w.heap.size) (hN:xs.length≤140737488355328) (hcap:xs.length≤c) (hlen:(Lib.join (xs.map (·.data.toList)) sep.data.toList).length≤140737488355328) :
  Calls Tryz.prog 143 #[.slice (some ⟨bk,o,none⟩) xs.length c,.string sep] w fun e w'=>e=.returned (.string ⟨(Lib.join (xs.map (·.data.toList)) sep.data.toList).toArray⟩)∧Below w.heap.size w w':=Any.strings_Join Tryz.aiH Tryz.sK bk o c xs sep w hcells hbk hN hcap hlen
def Tryz.ag8:Go.Shelf.Ren:=⟨fun | 171=>79 | 243=>136 | 246=>167 | 283=>197 | 284=>198 | 285=>199 | 286=>200 | 129=>193 | 317=>216 | 318=>217 | 319=>218 | 320=>219 | 337=>226 | 338=>227 | n=>n,fun | 3=>3 | 9=>9 | 2=>2 | 4=>4 | 171=>253 | 0=>0 | 53=>252 | 37=>141 | 5=>5 | 173=>255 | 212=>275 | 51=>250 | 20=>20 | 213=>276 | 46=>214 | 232=>292 | 233=>293 | n=>n,fun | 17=>0 | 18=>2 | 19=>3 | n=>n⟩
theorem Tryz.aoq : Go.Proofs.LaysM.n171 Tryz.prog Tryz.ag8 := {
  mixed := by kernel_rfl
  f129 := Tryz.func193.trans (congrArg some (by kernel_rfl))
  f171 := Tryz.func79.trans (congrArg some (by kernel_rfl))
  f243 := Tryz.func136.trans (congrArg some (by kernel_rfl))
  f246 := Tryz.func167.trans (congrArg some (by kernel_rfl))
  f283 := Tryz.func197.trans (congrArg some (by kernel_rfl))
  f284 := Tryz.func198.trans (congrArg some (by kernel_rfl))
  f285 := Tryz.func199.trans (congrArg some (by kernel_rfl))
  f286 := Tryz.func200.trans (congrArg some (by kernel_rfl))
  f317 := Tryz.func216.trans (congrArg some (by kernel_rfl))
  f318 := Tryz.func217.trans (congrArg some (by kernel_rfl))
  f319 := Tryz.func218.trans (congrArg some (by kernel_rfl))
  f320 := Tryz.func219.trans (congrArg some (by kernel_rfl))
  f337 := Tryz.func226.trans (congrArg some (by kernel_rfl))
  f338 := Tryz.func227.trans (congrArg some (by kernel_rfl))
  t0 := Tryz.underlying0
  a0 := Tryz.isAgg0
  z0 := Tryz.sizeOf0
  v0 := Tryz.zeroValue0
  t2 := Tryz.underlying2
  a2 := Tryz.isAgg2
  z2 := Tryz.sizeOf2
  v2 := Tryz.zeroValue2
  t3 := Tryz.underlying3
  a3 := Tryz.isAgg3
  z3 := Tryz.sizeOf3
  v3 := Tryz.zeroValue3
  t4 := Tryz.underlying4
  a4 := Tryz.isAgg4
  z4 := Tryz.sizeOf4
  v4 := Tryz.zeroValue4
  t5 := Tryz.underlying5
  a5 := Tryz.isAgg5
  z5 := Tryz.sizeOf5
  v5 := Tryz.zeroValue5
  t9 := Tryz.underlying9
  a9 := Tryz.isAgg9
  z9 := Tryz.sizeOf9
  v9 := Tryz.zeroValue9
  t20 := Tryz.underlying20
  a20 := Tryz.isAgg20
  z20 := Tryz.sizeOf20
  v20 := Tryz.zeroValue20
  t37 := Tryz.underlying141
  a37 := Tryz.isAgg141
  z37 := Tryz.sizeOf141
  v37 := Tryz.zeroValue141
  t46 := Tryz.underlying214
  a46 := Tryz.isAgg214
  z46 := Tryz.sizeOf214
  v46 := Tryz.zeroValue214
  t51 := Tryz.underlying250
  a51 := Tryz.isAgg250
  z51 := Tryz.sizeOf250
  v51 := Tryz.zeroValue250
  t53 := Tryz.underlying252
  a53 := Tryz.isAgg252
  z53 := Tryz.sizeOf252
  v53 := Tryz.zeroValue252
  t171 := Tryz.underlying253
  a171 := Tryz.isAgg253
  z171 := Tryz.sizeOf253
  v171 := Tryz.zeroValue253
  t173 := Tryz.underlying255
  a173 := Tryz.isAgg255
  z173 := Tryz.sizeOf255
  v173 := Tryz.zeroValue255
  t212 := Tryz.underlying275
  a212 := Tryz.isAgg275
  z212 := Tryz.sizeOf275
  v212 := Tryz.zeroValue275
  t213 := Tryz.underlying276
  a213 := Tryz.isAgg276
  z213 := Tryz.sizeOf276
  t232 := Tryz.underlying292
  a232 := Tryz.isAgg292
  z232 := Tryz.sizeOf292
  v232 := Tryz.zeroValue292
  t233 := Tryz.underlying293
  a233 := Tryz.isAgg293
  z233 := Tryz.sizeOf293
  v233 := Tryz.zeroValue293
  g17 := by kernel_rfl
  g18 := by kernel_rfl
  g19 := by kernel_rfl
  i0 := by kernel_rfl
  i2 := by kernel_rfl
  i3 := by kernel_rfl
  i4 := by kernel_rfl
  i5 := by kernel_rfl
  i9 := by kernel_rfl
  i20 := by kernel_rfl
  i37 := by kernel_rfl
  i46 := by kernel_rfl
  i51 := by kernel_rfl
  i53 := by kernel_rfl
  i171 := by kernel_rfl
  i173 := by kernel_rfl
  i212 := by kernel_rfl
  i232 := by kernel_rfl
  i233 := by kernel_rfl
  m17 := by kernel_rfl
  m18 := by kernel_rfl
  m19 := by kernel_rfl }
open Go.RowKit Go.Sort Go.Lib in
theorem Tryz.strconv_Itoa (n:Int) (h0:-9223372036854775808≤n) (h1:n≤9223372036854775807) (w:World) (htab:Lib.TabIs Tryz.prog w "internal/strconv.uint64pow10" .u64 Lib.pow10Tab) :
  Calls Tryz.prog 79 #[.int .i64 n] w fun e w'=>e=.returned (.string ⟨(Lib.itoa n).toArray⟩)∧∃k os,w'=grow (w.drewN k) os:=Any.strconv_Itoa Tryz.aoq n h0 h1 w htab
def Tryz.ah4:Go.Shelf.Ren:=⟨fun | 171=>79 | 243=>136 | 246=>167 | 283=>197 | 284=>198 | 285=>199 | 286=>200 | 129=>193 | 317=>216 | 318=>217 | 319=>218 | 320=>219 | 337=>226 | 338=>227 | n=>n,fun | 3=>3 | 9=>9 | 2=>2 | 4=>4 | 171=>253 | 0=>0 | 53=>252 | 37=>141 | 5=>5 | 173=>255 | 212=>275 | 51=>250 | 20=>20 | 213=>276 | 46=>214 | 232=>292 | 233=>293 | n=>n,fun | 17=>0 | 18=>2 | 19=>3 | n=>n⟩
theorem Tryz.apw : Go.Proofs.Lays.n171 Tryz.prog Tryz.ah4 := {
  mixed := by kernel_rfl
  f129 := Tryz.func193.trans (congrArg some (by kernel_rfl))
  f171 := Tryz.func79.trans (congrArg some (by kernel_rfl))
  f243 := Tryz.func136.trans (congrArg some (by kernel_rfl))
  f246 := Tryz.func167.trans (congrArg some (by kernel_rfl))
  f283 := Tryz.func197.trans (congrArg some (by kernel_rfl))
  f284 := Tryz.func198.trans (congrArg some (by kernel_rfl))
  f285 := Tryz.func199.trans (congrArg some (by kernel_rfl))
  f286 := Tryz.func200.trans (congrArg some (by kernel_rfl))
  f317 := Tryz.func216.trans (congrArg some (by kernel_rfl))
  f318 := Tryz.func217.trans (congrArg some (by kernel_rfl))
  f319 := Tryz.func218.trans (congrArg some (by kernel_rfl))
  f320 := Tryz.func219.trans (congrArg some (by kernel_rfl))
  f337 := Tryz.func226.trans (congrArg some (by kernel_rfl))
  f338 := Tryz.func227.trans (congrArg some (by kernel_rfl))
  t0 := Tryz.underlying0
  a0 := Tryz.isAgg0
  z0 := Tryz.sizeOf0
  v0 := Tryz.zeroValue0
  t2 := Tryz.underlying2
  a2 := Tryz.isAgg2
  z2 := Tryz.sizeOf2
  v2 := Tryz.zeroValue2
  t3 := Tryz.underlying3
  a3 := Tryz.isAgg3
  z3 := Tryz.sizeOf3
  v3 := Tryz.zeroValue3
  t4 := Tryz.underlying4
  a4 := Tryz.isAgg4
  z4 := Tryz.sizeOf4
  v4 := Tryz.zeroValue4
  t5 := Tryz.underlying5
  a5 := Tryz.isAgg5
  z5 := Tryz.sizeOf5
  v5 := Tryz.zeroValue5
  t9 := Tryz.underlying9
  a9 := Tryz.isAgg9
  z9 := Tryz.sizeOf9
  v9 := Tryz.zeroValue9
  t20 := Tryz.underlying20
  a20 := Tryz.isAgg20
  z20 := Tryz.sizeOf20
  v20 := Tryz.zeroValue20
  t37 := Tryz.underlying141
  a37 := Tryz.isAgg141
  z37 := Tryz.sizeOf141
  v37 := Tryz.zeroValue141
  t46 := Tryz.underlying214
  a46 := Tryz.isAgg214
  z46 := Tryz.sizeOf214
  v46 := Tryz.zeroValue214
  t51 := Tryz.underlying250
  a51 := Tryz.isAgg250
  z51 := Tryz.sizeOf250
  v51 := Tryz.zeroValue250
  t53 := Tryz.underlying252
  a53 := Tryz.isAgg252
  z53 := Tryz.sizeOf252
  v53 := Tryz.zeroValue252
  t171 := Tryz.underlying253
  a171 := Tryz.isAgg253
  z171 := Tryz.sizeOf253
  v171 := Tryz.zeroValue253
  t173 := Tryz.underlying255
  a173 := Tryz.isAgg255
  z173 := Tryz.sizeOf255
  v173 := Tryz.zeroValue255
  t212 := Tryz.underlying275
  a212 := Tryz.isAgg275
  z212 := Tryz.sizeOf275
  v212 := Tryz.zeroValue275
  t213 := Tryz.underlying276
  a213 := Tryz.isAgg276
  z213 := Tryz.sizeOf276
  t232 := Tryz.underlying292
  a232 := Tryz.isAgg292
  z232 := Tryz.sizeOf292
  v232 := Tryz.zeroValue292
  t233 := Tryz.underlying293
  a233 := Tryz.isAgg293
  z233 := Tryz.sizeOf293
  v233 := Tryz.zeroValue293
  g17 := by kernel_rfl
  g18 := by kernel_rfl
  g19 := by kernel_rfl }
open Go.RowKit Go.Sort Go.Lib in
theorem Tryz.strconv_Itoa_small (i:Nat) (hi:i<100) (w:World) :
  Calls Tryz.prog 79 #[.int .i64 i] w fun e w'=>e=.returned (.string ⟨(Lib.decDigits i).toArray⟩)∧w'=w:=Any.strconv_Itoa_small Tryz.apw i hi w
def Tryz.aic:Go.Shelf.Ren:=⟨fun | 144=>208 | 143=>223 | 219=>229 | 217=>237 | 225=>238 | 224=>239 | 267=>240 | 266=>245 | 314=>246 | n=>n,fun | 9=>9 | 4=>4 | 3=>3 | 5=>5 | 46=>214 | 146=>298 | 51=>250 | n=>n,fun | 1=>1 | n=>n⟩
theorem Tryz.aqm : Go.Proofs.Lays.n144 Tryz.prog Tryz.aic := {
  mixed := by kernel_rfl
  f143 := Tryz.func223.trans (congrArg some (by kernel_rfl))
  f144 := Tryz.func208.trans (congrArg some (by kernel_rfl))
  f217 := Tryz.func237.trans (congrArg some (by kernel_rfl))
  f219 := Tryz.func229.trans (congrArg some (by kernel_rfl))
  f224 := Tryz.func239.trans (congrArg some (by kernel_rfl))
  f225 := Tryz.func238.trans (congrArg some (by kernel_rfl))
  f266 := Tryz.func245.trans (congrArg some (by kernel_rfl))
  f267 := Tryz.func240.trans (congrArg some (by kernel_rfl))
  f314 := Tryz.func246.trans (congrArg some (by kernel_rfl))
  t3 := Tryz.underlying3
  a3 := Tryz.isAgg3
  z3 := Tryz.sizeOf3
  v3 := Tryz.zeroValue3
  t4 := Tryz.underlying4
  a4 := Tryz.isAgg4
  z4 := Tryz.sizeOf4
  v4 := Tryz.zeroValue4
  t5 := Tryz.underlying5
  a5 := Tryz.isAgg5
  z5 := Tryz.sizeOf5
  v5 := Tryz.zeroValue5
  t9 := Tryz.underlying9
  a9 := Tryz.isAgg9
  z9 := Tryz.sizeOf9
  v9 := Tryz.zeroValue9
  t46 := Tryz.underlying214
  a46 := Tryz.isAgg214
  z46 := Tryz.sizeOf214
  v46 := Tryz.zeroValue214
  t51 := Tryz.underlying250
  a51 := Tryz.isAgg250
  z51 := Tryz.sizeOf250
  v51 := Tryz.zeroValue250
  t146 := Tryz.underlying298
  a146 := Tryz.isAgg298
  z146 := Tryz.sizeOf298
  v146 := Tryz.zeroValue298
  g1 := by kernel_rfl }
open Go.RowKit Go.Lib in
theorem Tryz.strings_Contains_one (s:ByteArray) (c:UInt8) (w:World) :
  Calls Tryz.prog 208 #[.string s,.string ⟨#[c]⟩] w fun e w'=>e=.returned (.bool (decide (0≤Lib.indexByte s.data.toList c)))∧w'=w:=Any.strings_Contains_one Tryz.aqm s c w
end Go.Proofs
namespace Go.Sx.Pe
open Go Go.Proofs Go.Sx.Pn
def dU (c:UInt8):Bool:=decide (48≤c.toNat)&&decide (c.toNat≤57)
def jC (c:UInt8):Bool:=decide (97≤c.toNat)&&decide (c.toNat≤122)
def uR (c:UInt8):Bool:=decide (65≤c.toNat)&&decide (c.toNat≤90)
def iT (c:UInt8):Bool:=dU c||jC c||uR c||decide (c.toNat=95)
def cO (c:UInt8):Bool:=[97,98,99,100,101,102,116,120,121,122].any (fun y:UInt8=>c==y)
def lJ (c:UInt8):Bool:=decide (97≤c.toNat)&&decide (c.toNat≤102)
theorem uQ:aL Tryz.prog 182 (bT (fun c:UInt8=>[cA c]) (fun _=>True) (fun c=>bP (dU c))):=by
 refine aY (Tb:=tab) mixed aB Tryz.func182 rfl rfl ?_
 rintro (c:UInt8) hpre
 refine ai (ai rfl (ai rfl rfl)) ?_
 repeat' (refine aZ (fun h=>?_) (fun h=>?_))
 all_goals
  refine ai (ai (fun _=>(by (repeat' (first | exact rfl | exact trivial | exact exE _ | exact akv _ | exact (fun _=>rfl) | exact (fun _ _=>rfl) | exact nof | refine ai ?_ ?_)))) ?_) trivial
  show (_:Bool)=dU c
  rw[aqR]
  simp only[agw,aqK,decide_eq_true_eq,decide_eq_false_iff_not,beq_iff_eq,beq_eq_false_iff_ne,ne_eq,dU,jC,uR,iT,lJ,true_iff,iff_true,reduceCtorEq,false_iff] at *
  omega
theorem ahL:aL Tryz.prog 180 (bT (fun c:UInt8=>[cA c]) (fun _=>True) (fun c=>bP (jC c))):=by
 refine aY (Tb:=tab) mixed aB Tryz.func180 rfl rfl ?_
 rintro (c:UInt8) hpre
 refine ai (ai rfl (ai rfl rfl)) ?_
 repeat' (refine aZ (fun h=>?_) (fun h=>?_))
 all_goals
  refine ai (ai (fun _=>(by (repeat' (first | exact rfl | exact trivial | exact exE _ | exact akv _ | exact (fun _=>rfl) | exact (fun _ _=>rfl) | exact nof | refine ai ?_ ?_)))) ?_) trivial
  show (_:Bool)=jC c
  rw[aqR]
  simp only[agw,aqK,decide_eq_true_eq,decide_eq_false_iff_not,beq_iff_eq,beq_eq_false_iff_ne,ne_eq,dU,jC,uR,iT,lJ,true_iff,iff_true,reduceCtorEq,false_iff] at *
  omega
theorem akJ:aL Tryz.prog 178 (bT (fun c:UInt8=>[cA c]) (fun _=>True) (fun c=>bP (iT c))):=by
 refine aY (Tb:=tab) mixed aB Tryz.func178 rfl rfl ?_
 rintro (c:UInt8) hpre
 refine ai (ai rfl (ai rfl rfl)) ?_
 repeat' (refine aZ (fun h=>?_) (fun h=>?_))
 all_goals
  refine ai (ai (fun _=>(by (repeat' (first | exact rfl | exact trivial | exact exE _ | exact akv _ | exact (fun _=>rfl) | exact (fun _ _=>rfl) | exact nof | refine ai ?_ ?_)))) ?_) trivial
  show (_:Bool)=iT c
  rw[aqR]
  simp only[agw,aqK,decide_eq_true_eq,decide_eq_false_iff_not,beq_iff_eq,beq_eq_false_iff_ne,ne_eq,dU,jC,uR,iT,lJ,true_iff,iff_true,reduceCtorEq,false_iff] at *
  omega
def resE:List UInt8→Bool
 | []=>false
 | c :: t=>!t.isEmpty&&((cO c&&t.all dU)||(lJ c&&(t==[112]||t==[109])))
theorem aem:∀(l:List UInt8) (c:UInt8),decide (0≤Lib.indexByte l c)=l.any fun y=>c==y
 | [],c=>by simp[Lib.indexByte]
 | x :: l,c=>by
  have ih:=aem l c
  have hge:=Lib.indexByte_ge l c
  unfold Lib.indexByte
  rw[atX]
  by_cases h:x=c
  ·subst h;simp
  ·rw[show (c==x)=false by simpa using fun e=>h e.symm,aqz,←ih]
   simp only[beq_iff_eq,h,if_false]
   split
   ·rename_i h2;rw[h2]
   ·exact decide_eq_decide.2 (by omega)
theorem adQ:aL Tryz.prog 208 (bT (fun a:List UInt8×UInt8=>[sA a.1,sA [a.2]]) (fun _=>True) (fun a=>bP (a.1.any fun y=>a.2==y))):=
 afY (afb (α:=List UInt8×UInt8) Tryz.func208 rfl rfl (vals:=fun a=>[.string (strOf a.1),.string (strOf [a.2])]) (pre:=fun _=>True) (ret:=fun a=>.bool (decide (0≤Lib.indexByte a.1 a.2))) (fun _ _=>rfl)
  fun a _ w=>(Tryz.strings_Contains_one (strOf a.1) a.2 w).mono fun e w' h=>by
   obtain ⟨h1,h2⟩:=h
   subst h2
   exact ⟨h1,RowKit.Below.refl _ _⟩) id
  (fun _ _=>rfl) (fun _ _=>rfl) (fun _ _=>rfl) (fun a _=>by show PV.val (.bool (decide (0≤Lib.indexByte a.1 a.2)))=_;rw[aem];rfl) (fun _ _=>trivial)
theorem am1:aL Tryz.prog 181 (bT (fun s:List UInt8=>[sA s]) (fun s=>s.length≤1000000) (fun s=>bP (resE s))):=by
 refine aY (Tb:=tab) mixed aB Tryz.func181 rfl rfl ?_
 rintro (s:List UInt8) hpre
 refine ai (ai rfl (ai rfl rfl)) ?_
 have hl:s.length≤1000000:=hpre
 have hz:=dK s
 refine ah (p:=s.length<2) (by exact au (by rw[hz];omega)) (fun h1=>?_) (fun h1=>?_)
 ·have e:resE s=false:=by
   cases s with
   | nil=>rfl
   | cons c t=>cases t with
    | nil=>rfl
    | cons d t=>simp at h1;omega
  refine ai (ai (fun _=>trivial) ?_) trivial
  show ak _ (bP (resE s))
  rw[e]
  exact rfl
 obtain ⟨c,d,t,rfl⟩:∃c d t,s=c :: d :: t:=by
  cases s with
  | nil=>simp at h1
  | cons c t=>cases t with
   | nil=>simp at h1
   | cons d t=>exact ⟨c,d,t,rfl⟩
 have i0:(strOf (c :: d :: t))[(0:Int).toNat]?=some c:=kg (s:=c :: d :: t) (k:=0) (by simp)
 have i1:(strOf (c :: d :: t))[(1:Int).toNat]?=some d:=kg (s:=c :: d :: t) (k:=1) (by simp)
 have hl2:(d :: t).length≤1000000:=by simp only[ai1] at hl ⊢;omega
 have hR:resE (c :: d :: t)=((cO c&&(d :: t).all dU)||(lJ c&&((d :: t)==[112]||(d :: t)==[109]))):=rfl
 refine ah (p:=t=[]) (by exact gB (by show (((strOf (c :: d :: t)).size:Nat):Int)=2↔_;rw[hz];cases t with | nil=>simp | cons y t=>simp;omega)) (fun h2=>?_) (fun h2=>?_)
 ·refine ei c (ai (ai (by decide) i0) ?_)
  refine ah (p:=97≤c.toNat) (cu (by omega)) (fun h3=>?_) (fun h3=>?_)
  ·refine ei c (ai (ai (by decide) i0) ?_)
   refine ah (p:=c.toNat≤102) (cu (by omega)) (fun h4=>?_) (fun h4=>?_)
   ·refine ei d (ai (ai (by decide) i1) ?_)
    have hac:lJ c=true:=by unfold lJ;rw[decide_eq_true h3,decide_eq_true h4];rfl
    refine ah (p:=d=112) (by exact cK rfl) (fun h5=>?_) (fun h5=>?_)
    ·refine ai (ai (fun _=>trivial) ?_) trivial
     show ak _ (bP (resE (c :: d :: t)))
     rw[show resE (c :: d :: t)=true by rw[hR,hac,h5,h2];simp]
     exact rfl
    ·refine ei d (ai (ai (by decide) i1) ?_)
     refine ah (p:=d=109) (by exact cK rfl) (fun h6=>?_) (fun h6=>?_)
     ·refine ai (ai (fun _=>trivial) ?_) trivial
      show ak _ (bP (resE (c :: d :: t)))
      rw[show resE (c :: d :: t)=true by rw[hR,hac,h6,h2];simp]
      exact rfl
     ·have hN:(lJ c&&((d :: t)==[112]||(d :: t)==[109]))=false:=by rw[hac,h2];simp[h5,h6]
      refine ei (bE.inv { X:=Nat,up:=fun k=>[(3,.s (iA (k+1:Nat)))],uo:=fun k=>[],inv:=fun k=>k≤(d :: t).length∧(∀x∈(d :: t).take k,dU x=true),meas:=fun k=>(d :: t).length-k,x0:=0 }) ?_
      refine ai (ai (ai (by exact (a4 (ai rfl rfl))) (ai (by exact (ai (ai (fun _=>rfl) (iE (by simp only[zz,reduceCtorEq];rfl))) rfl)) (by exact trivial))) rfl) (ai (ai (afc _) ?_) ?_)
      ·exact fun y hy=>absurd hy (by simp)
      intro (k:Nat) ⟨hk,hall⟩
      refine ah (p:=k<(d :: t).length) (by exact au (by rw[hz];simp only[ai1];omega)) (fun h8=>?_) (fun h8=>?_)
      ·refine ei ((d :: t).getD k 0) (ai (ai (abq _) (kg (s:=c :: d :: t) (k:=k+1) (by simp at h8 ⊢;omega))) ?_)
       refine ei _ (ai (uQ) (ei ((d :: t).getD k 0) (ei [] (ai (a4 (ai (fun _=>Or.inl rfl) (ai nof (Or.inl rfl)))) (ai (by exact rfl) (ai trivial (ai (trivial) ?_)))))))
       refine aX (b:=!dU ((d :: t).getD k 0)) rfl (fun h9=>?_) (fun h9=>?_)
       ·have e:(d :: t).all dU=false:=by
         rw[ar2]
         exact ⟨_,adh (bI 0 h8),by simpa using h9⟩
        refine ai (ai (fun _=>trivial) ?_) trivial
        show ak _ (bP (resE (c :: d :: t)))
        rw[hR,e,aq7,aqz,hN]
        exact rfl
       refine ei (k+1) (ai (ai rfl rfl) (ai (ai (ai rfl (ai (ai rfl rfl) (ai (ai rfl rfl) (ai (ai (ai (fun _=>rfl) (aP (by omega))) rfl) trivial)))) rfl) (ai (ai (iL (by omega)) ?_) (iM (by omega)))))
       intro y hy
       rw[aQ 0 h8] at hy
       rcases ahN.1 hy with hy | hy
       ·exact hall y hy
       ·simp only[aiy] at hy;subst hy;simpa using h9
      ·obtain rfl:k=(d :: t).length:=by omega
       rw[ahb] at hall
       have e:(d :: t).all dU=true:=ak7.2 hall
       refine ai (by decide) ?_
       refine ei (bE.unroll 11) ?_
       refine ai (ai (by decide) (by decide)) ?_
       refine ai rfl ?_
       refine ei c (ai (ai (by decide) i0) ?_)
       refine ah (p:=c=97) (by exact cK rfl) (fun m97=>?_) (fun m97=>?_)
       ·have e2:cO c=true:=by rw[m97];rfl
        refine ai (ai (fun _=>trivial) ?_) trivial
        show ak _ (bP (resE (c :: d :: t)))
        rw[hR,e,e2,aiI,alh]
        exact rfl
       refine ai (ai (by decide) (by decide)) ?_
       refine ai rfl ?_
       refine ei c (ai (ai (by decide) i0) ?_)
       refine ah (p:=c=98) (by exact cK rfl) (fun m98=>?_) (fun m98=>?_)
       ·have e2:cO c=true:=by rw[m98];rfl
        refine ai (ai (fun _=>trivial) ?_) trivial
        show ak _ (bP (resE (c :: d :: t)))
        rw[hR,e,e2,aiI,alh]
        exact rfl
       refine ai (ai (by decide) (by decide)) ?_
       refine ai rfl ?_
       refine ei c (ai (ai (by decide) i0) ?_)
       refine ah (p:=c=99) (by exact cK rfl) (fun m99=>?_) (fun m99=>?_)
       ·have e2:cO c=true:=by rw[m99];rfl
        refine ai (ai (fun _=>trivial) ?_) trivial
        show ak _ (bP (resE (c :: d :: t)))
        rw[hR,e,e2,aiI,alh]
        exact rfl
       refine ai (ai (by decide) (by decide)) ?_
       refine ai rfl ?_
       refine ei c (ai (ai (by decide) i0) ?_)
       refine ah (p:=c=100) (by exact cK rfl) (fun m100=>?_) (fun m100=>?_)
       ·have e2:cO c=true:=by rw[m100];rfl
        refine ai (ai (fun _=>trivial) ?_) trivial
        show ak _ (bP (resE (c :: d :: t)))
        rw[hR,e,e2,aiI,alh]
        exact rfl
       refine ai (ai (by decide) (by decide)) ?_
       refine ai rfl ?_
       refine ei c (ai (ai (by decide) i0) ?_)
       refine ah (p:=c=101) (by exact cK rfl) (fun m101=>?_) (fun m101=>?_)
       ·have e2:cO c=true:=by rw[m101];rfl
        refine ai (ai (fun _=>trivial) ?_) trivial
        show ak _ (bP (resE (c :: d :: t)))
        rw[hR,e,e2,aiI,alh]
        exact rfl
       refine ai (ai (by decide) (by decide)) ?_
       refine ai rfl ?_
       refine ei c (ai (ai (by decide) i0) ?_)
       refine ah (p:=c=102) (by exact cK rfl) (fun m102=>?_) (fun m102=>?_)
       ·have e2:cO c=true:=by rw[m102];rfl
        refine ai (ai (fun _=>trivial) ?_) trivial
        show ak _ (bP (resE (c :: d :: t)))
        rw[hR,e,e2,aiI,alh]
        exact rfl
       refine ai (ai (by decide) (by decide)) ?_
       refine ai rfl ?_
       refine ei c (ai (ai (by decide) i0) ?_)
       refine ah (p:=c=116) (by exact cK rfl) (fun m116=>?_) (fun m116=>?_)
       ·have e2:cO c=true:=by rw[m116];rfl
        refine ai (ai (fun _=>trivial) ?_) trivial
        show ak _ (bP (resE (c :: d :: t)))
        rw[hR,e,e2,aiI,alh]
        exact rfl
       refine ai (ai (by decide) (by decide)) ?_
       refine ai rfl ?_
       refine ei c (ai (ai (by decide) i0) ?_)
       refine ah (p:=c=120) (by exact cK rfl) (fun m120=>?_) (fun m120=>?_)
       ·have e2:cO c=true:=by rw[m120];rfl
        refine ai (ai (fun _=>trivial) ?_) trivial
        show ak _ (bP (resE (c :: d :: t)))
        rw[hR,e,e2,aiI,alh]
        exact rfl
       refine ai (ai (by decide) (by decide)) ?_
       refine ai rfl ?_
       refine ei c (ai (ai (by decide) i0) ?_)
       refine ah (p:=c=121) (by exact cK rfl) (fun m121=>?_) (fun m121=>?_)
       ·have e2:cO c=true:=by rw[m121];rfl
        refine ai (ai (fun _=>trivial) ?_) trivial
        show ak _ (bP (resE (c :: d :: t)))
        rw[hR,e,e2,aiI,alh]
        exact rfl
       refine ai (ai (by decide) (by decide)) ?_
       refine ai rfl ?_
       refine ei c (ai (ai (by decide) i0) ?_)
       refine ah (p:=c=122) (by exact cK rfl) (fun m122=>?_) (fun m122=>?_)
       ·have e2:cO c=true:=by rw[m122];rfl
        refine ai (ai (fun _=>trivial) ?_) trivial
        show ak _ (bP (resE (c :: d :: t)))
        rw[hR,e,e2,aiI,alh]
        exact rfl
       have e2:cO c=false:=by unfold cO;simp[m97,m98,m99,m100,m101,m102,m116,m120,m121,m122]
       refine ai (ai (fun _=>trivial) ?_) trivial
       show ak _ (bP (resE (c :: d :: t)))
       rw[hR,e2,aqA,aqz,hN]
       exact rfl
   ·have hN:(lJ c&&((d :: t)==[112]||(d :: t)==[109]))=false:=by unfold lJ;rw[decide_eq_false h4];simp
    refine ei (bE.inv { X:=Nat,up:=fun k=>[(3,.s (iA (k+1:Nat)))],uo:=fun k=>[],inv:=fun k=>k≤(d :: t).length∧(∀x∈(d :: t).take k,dU x=true),meas:=fun k=>(d :: t).length-k,x0:=0 }) ?_
    refine ai (ai (ai (by exact (a4 (ai rfl rfl))) (ai (by exact (ai (ai (fun _=>rfl) (iE (by simp only[zz,reduceCtorEq];rfl))) rfl)) (by exact trivial))) rfl) (ai (ai (afc _) ?_) ?_)
    ·exact fun y hy=>absurd hy (by simp)
    intro (k:Nat) ⟨hk,hall⟩
    refine ah (p:=k<(d :: t).length) (by exact au (by rw[hz];simp only[ai1];omega)) (fun h8=>?_) (fun h8=>?_)
    ·refine ei ((d :: t).getD k 0) (ai (ai (abq _) (kg (s:=c :: d :: t) (k:=k+1) (by simp at h8 ⊢;omega))) ?_)
     refine ei _ (ai (uQ) (ei ((d :: t).getD k 0) (ei [] (ai (a4 (ai (fun _=>Or.inl rfl) (ai nof (Or.inl rfl)))) (ai (by exact rfl) (ai trivial (ai (trivial) ?_)))))))
     refine aX (b:=!dU ((d :: t).getD k 0)) rfl (fun h9=>?_) (fun h9=>?_)
     ·have e:(d :: t).all dU=false:=by
       rw[ar2]
       exact ⟨_,adh (bI 0 h8),by simpa using h9⟩
      refine ai (ai (fun _=>trivial) ?_) trivial
      show ak _ (bP (resE (c :: d :: t)))
      rw[hR,e,aq7,aqz,hN]
      exact rfl
     refine ei (k+1) (ai (ai rfl rfl) (ai (ai (ai rfl (ai (ai rfl rfl) (ai (ai rfl rfl) (ai (ai (ai (fun _=>rfl) (aP (by omega))) rfl) trivial)))) rfl) (ai (ai (iL (by omega)) ?_) (iM (by omega)))))
     intro y hy
     rw[aQ 0 h8] at hy
     rcases ahN.1 hy with hy | hy
     ·exact hall y hy
     ·simp only[aiy] at hy;subst hy;simpa using h9
    ·obtain rfl:k=(d :: t).length:=by omega
     rw[ahb] at hall
     have e:(d :: t).all dU=true:=ak7.2 hall
     refine ai (by decide) ?_
     refine ei (bE.unroll 11) ?_
     refine ai (ai (by decide) (by decide)) ?_
     refine ai rfl ?_
     refine ei c (ai (ai (by decide) i0) ?_)
     refine ah (p:=c=97) (by exact cK rfl) (fun m97=>?_) (fun m97=>?_)
     ·have e2:cO c=true:=by rw[m97];rfl
      refine ai (ai (fun _=>trivial) ?_) trivial
      show ak _ (bP (resE (c :: d :: t)))
      rw[hR,e,e2,aiI,alh]
      exact rfl
     refine ai (ai (by decide) (by decide)) ?_
     refine ai rfl ?_
     refine ei c (ai (ai (by decide) i0) ?_)
     refine ah (p:=c=98) (by exact cK rfl) (fun m98=>?_) (fun m98=>?_)
     ·have e2:cO c=true:=by rw[m98];rfl
      refine ai (ai (fun _=>trivial) ?_) trivial
      show ak _ (bP (resE (c :: d :: t)))
      rw[hR,e,e2,aiI,alh]
      exact rfl
     refine ai (ai (by decide) (by decide)) ?_
     refine ai rfl ?_
     refine ei c (ai (ai (by decide) i0) ?_)
     refine ah (p:=c=99) (by exact cK rfl) (fun m99=>?_) (fun m99=>?_)
     ·have e2:cO c=true:=by rw[m99];rfl
      refine ai (ai (fun _=>trivial) ?_) trivial
      show ak _ (bP (resE (c :: d :: t)))
      rw[hR,e,e2,aiI,alh]
      exact rfl
     refine ai (ai (by decide) (by decide)) ?_
     refine ai rfl ?_
     refine ei c (ai (ai (by decide) i0) ?_)
     refine ah (p:=c=100) (by exact cK rfl) (fun m100=>?_) (fun m100=>?_)
     ·have e2:cO c=true:=by rw[m100];rfl
      refine ai (ai (fun _=>trivial) ?_) trivial
      show ak _ (bP (resE (c :: d :: t)))
      rw[hR,e,e2,aiI,alh]
      exact rfl
     refine ai (ai (by decide) (by decide)) ?_
     refine ai rfl ?_
     refine ei c (ai (ai (by decide) i0) ?_)
     refine ah (p:=c=101) (by exact cK rfl) (fun m101=>?_) (fun m101=>?_)
     ·have e2:cO c=true:=by rw[m101];rfl
      refine ai (ai (fun _=>trivial) ?_) trivial
      show ak _ (bP (resE (c :: d :: t)))
      rw[hR,e,e2,aiI,alh]
      exact rfl
     refine ai (ai (by decide) (by decide)) ?_
     refine ai rfl ?_
     refine ei c (ai (ai (by decide) i0) ?_)
     refine ah (p:=c=102) (by exact cK rfl) (fun m102=>?_) (fun m102=>?_)
     ·have e2:cO c=true:=by rw[m102];rfl
      refine ai (ai (fun _=>trivial) ?_) trivial
      show ak _ (bP (resE (c :: d :: t)))
      rw[hR,e,e2,aiI,alh]
      exact rfl
     refine ai (ai (by decide) (by decide)) ?_
     refine ai rfl ?_
     refine ei c (ai (ai (by decide) i0) ?_)
     refine ah (p:=c=116) (by exact cK rfl) (fun m116=>?_) (fun m116=>?_)
     ·have e2:cO c=true:=by rw[m116];rfl
      refine ai (ai (fun _=>trivial) ?_) trivial
      show ak _ (bP (resE (c :: d :: t)))
      rw[hR,e,e2,aiI,alh]
      exact rfl
     refine ai (ai (by decide) (by decide)) ?_
     refine ai rfl ?_
     refine ei c (ai (ai (by decide) i0) ?_)
     refine ah (p:=c=120) (by exact cK rfl) (fun m120=>?_) (fun m120=>?_)
     ·have e2:cO c=true:=by rw[m120];rfl
      refine ai (ai (fun _=>trivial) ?_) trivial
      show ak _ (bP (resE (c :: d :: t)))
      rw[hR,e,e2,aiI,alh]
      exact rfl
     refine ai (ai (by decide) (by decide)) ?_
     refine ai rfl ?_
     refine ei c (ai (ai (by decide) i0) ?_)
     refine ah (p:=c=121) (by exact cK rfl) (fun m121=>?_) (fun m121=>?_)
     ·have e2:cO c=true:=by rw[m121];rfl
      refine ai (ai (fun _=>trivial) ?_) trivial
      show ak _ (bP (resE (c :: d :: t)))
      rw[hR,e,e2,aiI,alh]
      exact rfl
     refine ai (ai (by decide) (by decide)) ?_
     refine ai rfl ?_
     refine ei c (ai (ai (by decide) i0) ?_)
     refine ah (p:=c=122) (by exact cK rfl) (fun m122=>?_) (fun m122=>?_)
     ·have e2:cO c=true:=by rw[m122];rfl
      refine ai (ai (fun _=>trivial) ?_) trivial
      show ak _ (bP (resE (c :: d :: t)))
      rw[hR,e,e2,aiI,alh]
      exact rfl
     have e2:cO c=false:=by unfold cO;simp[m97,m98,m99,m100,m101,m102,m116,m120,m121,m122]
     refine ai (ai (fun _=>trivial) ?_) trivial
     show ak _ (bP (resE (c :: d :: t)))
     rw[hR,e2,aqA,aqz,hN]
     exact rfl
  ·have hN:(lJ c&&((d :: t)==[112]||(d :: t)==[109]))=false:=by unfold lJ;rw[decide_eq_false h3];simp
   refine ei (bE.inv { X:=Nat,up:=fun k=>[(3,.s (iA (k+1:Nat)))],uo:=fun k=>[],inv:=fun k=>k≤(d :: t).length∧(∀x∈(d :: t).take k,dU x=true),meas:=fun k=>(d :: t).length-k,x0:=0 }) ?_
   refine ai (ai (ai (by exact (a4 (ai rfl rfl))) (ai (by exact (ai (ai (fun _=>rfl) (iE (by simp only[zz,reduceCtorEq];rfl))) rfl)) (by exact trivial))) rfl) (ai (ai (afc _) ?_) ?_)
   ·exact fun y hy=>absurd hy (by simp)
   intro (k:Nat) ⟨hk,hall⟩
   refine ah (p:=k<(d :: t).length) (by exact au (by rw[hz];simp only[ai1];omega)) (fun h8=>?_) (fun h8=>?_)
   ·refine ei ((d :: t).getD k 0) (ai (ai (abq _) (kg (s:=c :: d :: t) (k:=k+1) (by simp at h8 ⊢;omega))) ?_)
    refine ei _ (ai (uQ) (ei ((d :: t).getD k 0) (ei [] (ai (a4 (ai (fun _=>Or.inl rfl) (ai nof (Or.inl rfl)))) (ai (by exact rfl) (ai trivial (ai (trivial) ?_)))))))
    refine aX (b:=!dU ((d :: t).getD k 0)) rfl (fun h9=>?_) (fun h9=>?_)
    ·have e:(d :: t).all dU=false:=by
      rw[ar2]
      exact ⟨_,adh (bI 0 h8),by simpa using h9⟩
     refine ai (ai (fun _=>trivial) ?_) trivial
     show ak _ (bP (resE (c :: d :: t)))
     rw[hR,e,aq7,aqz,hN]
     exact rfl
    refine ei (k+1) (ai (ai rfl rfl) (ai (ai (ai rfl (ai (ai rfl rfl) (ai (ai rfl rfl) (ai (ai (ai (fun _=>rfl) (aP (by omega))) rfl) trivial)))) rfl) (ai (ai (iL (by omega)) ?_) (iM (by omega)))))
    intro y hy
    rw[aQ 0 h8] at hy
    rcases ahN.1 hy with hy | hy
    ·exact hall y hy
    ·simp only[aiy] at hy;subst hy;simpa using h9
   ·obtain rfl:k=(d :: t).length:=by omega
    rw[ahb] at hall
    have e:(d :: t).all dU=true:=ak7.2 hall
    refine ai (by decide) ?_
    refine ei (bE.unroll 11) ?_
    refine ai (ai (by decide) (by decide)) ?_
    refine ai rfl ?_
    refine ei c (ai (ai (by decide) i0) ?_)
    refine ah (p:=c=97) (by exact cK rfl) (fun m97=>?_) (fun m97=>?_)
    ·have e2:cO c=true:=by rw[m97];rfl
     refine ai (ai (fun _=>trivial) ?_) trivial
     show ak _ (bP (resE (c :: d :: t)))
     rw[hR,e,e2,aiI,alh]
     exact rfl
    refine ai (ai (by decide) (by decide)) ?_
    refine ai rfl ?_
    refine ei c (ai (ai (by decide) i0) ?_)
    refine ah (p:=c=98) (by exact cK rfl) (fun m98=>?_) (fun m98=>?_)
    ·have e2:cO c=true:=by rw[m98];rfl
     refine ai (ai (fun _=>trivial) ?_) trivial
     show ak _ (bP (resE (c :: d :: t)))
     rw[hR,e,e2,aiI,alh]
     exact rfl
    refine ai (ai (by decide) (by decide)) ?_
    refine ai rfl ?_
    refine ei c (ai (ai (by decide) i0) ?_)
    refine ah (p:=c=99) (by exact cK rfl) (fun m99=>?_) (fun m99=>?_)
    ·have e2:cO c=true:=by rw[m99];rfl
     refine ai (ai (fun _=>trivial) ?_) trivial
     show ak _ (bP (resE (c :: d :: t)))
     rw[hR,e,e2,aiI,alh]
     exact rfl
    refine ai (ai (by decide) (by decide)) ?_
    refine ai rfl ?_
    refine ei c (ai (ai (by decide) i0) ?_)
    refine ah (p:=c=100) (by exact cK rfl) (fun m100=>?_) (fun m100=>?_)
    ·have e2:cO c=true:=by rw[m100];rfl
     refine ai (ai (fun _=>trivial) ?_) trivial
     show ak _ (bP (resE (c :: d :: t)))
     rw[hR,e,e2,aiI,alh]
     exact rfl
    refine ai (ai (by decide) (by decide)) ?_
    refine ai rfl ?_
    refine ei c (ai (ai (by decide) i0) ?_)
    refine ah (p:=c=101) (by exact cK rfl) (fun m101=>?_) (fun m101=>?_)
    ·have e2:cO c=true:=by rw[m101];rfl
     refine ai (ai (fun _=>trivial) ?_) trivial
     show ak _ (bP (resE (c :: d :: t)))
     rw[hR,e,e2,aiI,alh]
     exact rfl
    refine ai (ai (by decide) (by decide)) ?_
    refine ai rfl ?_
    refine ei c (ai (ai (by decide) i0) ?_)
    refine ah (p:=c=102) (by exact cK rfl) (fun m102=>?_) (fun m102=>?_)
    ·have e2:cO c=true:=by rw[m102];rfl
     refine ai (ai (fun _=>trivial) ?_) trivial
     show ak _ (bP (resE (c :: d :: t)))
     rw[hR,e,e2,aiI,alh]
     exact rfl
    refine ai (ai (by decide) (by decide)) ?_
    refine ai rfl ?_
    refine ei c (ai (ai (by decide) i0) ?_)
    refine ah (p:=c=116) (by exact cK rfl) (fun m116=>?_) (fun m116=>?_)
    ·have e2:cO c=true:=by rw[m116];rfl
     refine ai (ai (fun _=>trivial) ?_) trivial
     show ak _ (bP (resE (c :: d :: t)))
     rw[hR,e,e2,aiI,alh]
     exact rfl
    refine ai (ai (by decide) (by decide)) ?_
    refine ai rfl ?_
    refine ei c (ai (ai (by decide) i0) ?_)
    refine ah (p:=c=120) (by exact cK rfl) (fun m120=>?_) (fun m120=>?_)
    ·have e2:cO c=true:=by rw[m120];rfl
     refine ai (ai (fun _=>trivial) ?_) trivial
     show ak _ (bP (resE (c :: d :: t)))
     rw[hR,e,e2,aiI,alh]
     exact rfl
    refine ai (ai (by decide) (by decide)) ?_
    refine ai rfl ?_
    refine ei c (ai (ai (by decide) i0) ?_)
    refine ah (p:=c=121) (by exact cK rfl) (fun m121=>?_) (fun m121=>?_)
    ·have e2:cO c=true:=by rw[m121];rfl
     refine ai (ai (fun _=>trivial) ?_) trivial
     show ak _ (bP (resE (c :: d :: t)))
     rw[hR,e,e2,aiI,alh]
     exact rfl
    refine ai (ai (by decide) (by decide)) ?_
    refine ai rfl ?_
    refine ei c (ai (ai (by decide) i0) ?_)
    refine ah (p:=c=122) (by exact cK rfl) (fun m122=>?_) (fun m122=>?_)
    ·have e2:cO c=true:=by rw[m122];rfl
     refine ai (ai (fun _=>trivial) ?_) trivial
     show ak _ (bP (resE (c :: d :: t)))
     rw[hR,e,e2,aiI,alh]
     exact rfl
    have e2:cO c=false:=by unfold cO;simp[m97,m98,m99,m100,m101,m102,m116,m120,m121,m122]
    refine ai (ai (fun _=>trivial) ?_) trivial
    show ak _ (bP (resE (c :: d :: t)))
    rw[hR,e2,aqA,aqz,hN]
    exact rfl
 ·have hN:(lJ c&&((d :: t)==[112]||(d :: t)==[109]))=false:=by
   cases t with
   | nil=>exact absurd rfl h2
   | cons y t=>simp
  refine ei (bE.inv { X:=Nat,up:=fun k=>[(3,.s (iA (k+1:Nat)))],uo:=fun k=>[],inv:=fun k=>k≤(d :: t).length∧(∀x∈(d :: t).take k,dU x=true),meas:=fun k=>(d :: t).length-k,x0:=0 }) ?_
  refine ai (ai (ai (by exact (a4 (ai rfl rfl))) (ai (by exact (ai (ai (fun _=>rfl) (iE (by simp only[zz,reduceCtorEq];rfl))) rfl)) (by exact trivial))) rfl) (ai (ai (afc _) ?_) ?_)
  ·exact fun y hy=>absurd hy (by simp)
  intro (k:Nat) ⟨hk,hall⟩
  refine ah (p:=k<(d :: t).length) (by exact au (by rw[hz];simp only[ai1];omega)) (fun h8=>?_) (fun h8=>?_)
  ·refine ei ((d :: t).getD k 0) (ai (ai (abq _) (kg (s:=c :: d :: t) (k:=k+1) (by simp at h8 ⊢;omega))) ?_)
   refine ei _ (ai (uQ) (ei ((d :: t).getD k 0) (ei [] (ai (a4 (ai (fun _=>Or.inl rfl) (ai nof (Or.inl rfl)))) (ai (by exact rfl) (ai trivial (ai (trivial) ?_)))))))
   refine aX (b:=!dU ((d :: t).getD k 0)) rfl (fun h9=>?_) (fun h9=>?_)
   ·have e:(d :: t).all dU=false:=by
     rw[ar2]
     exact ⟨_,adh (bI 0 h8),by simpa using h9⟩
    refine ai (ai (fun _=>trivial) ?_) trivial
    show ak _ (bP (resE (c :: d :: t)))
    rw[hR,e,aq7,aqz,hN]
    exact rfl
   refine ei (k+1) (ai (ai rfl rfl) (ai (ai (ai rfl (ai (ai rfl rfl) (ai (ai rfl rfl) (ai (ai (ai (fun _=>rfl) (aP (by omega))) rfl) trivial)))) rfl) (ai (ai (iL (by omega)) ?_) (iM (by omega)))))
   intro y hy
   rw[aQ 0 h8] at hy
   rcases ahN.1 hy with hy | hy
   ·exact hall y hy
   ·simp only[aiy] at hy;subst hy;simpa using h9
  ·obtain rfl:k=(d :: t).length:=by omega
   rw[ahb] at hall
   have e:(d :: t).all dU=true:=ak7.2 hall
   refine ai (by decide) ?_
   refine ei (bE.unroll 11) ?_
   refine ai (ai (by decide) (by decide)) ?_
   refine ai rfl ?_
   refine ei c (ai (ai (by decide) i0) ?_)
   refine ah (p:=c=97) (by exact cK rfl) (fun m97=>?_) (fun m97=>?_)
   ·have e2:cO c=true:=by rw[m97];rfl
    refine ai (ai (fun _=>trivial) ?_) trivial
    show ak _ (bP (resE (c :: d :: t)))
    rw[hR,e,e2,aiI,alh]
    exact rfl
   refine ai (ai (by decide) (by decide)) ?_
   refine ai rfl ?_
   refine ei c (ai (ai (by decide) i0) ?_)
   refine ah (p:=c=98) (by exact cK rfl) (fun m98=>?_) (fun m98=>?_)
   ·have e2:cO c=true:=by rw[m98];rfl
    refine ai (ai (fun _=>trivial) ?_) trivial
    show ak _ (bP (resE (c :: d :: t)))
    rw[hR,e,e2,aiI,alh]
    exact rfl
   refine ai (ai (by decide) (by decide)) ?_
   refine ai rfl ?_
   refine ei c (ai (ai (by decide) i0) ?_)
   refine ah (p:=c=99) (by exact cK rfl) (fun m99=>?_) (fun m99=>?_)
   ·have e2:cO c=true:=by rw[m99];rfl
    refine ai (ai (fun _=>trivial) ?_) trivial
    show ak _ (bP (resE (c :: d :: t)))
    rw[hR,e,e2,aiI,alh]
    exact rfl
   refine ai (ai (by decide) (by decide)) ?_
   refine ai rfl ?_
   refine ei c (ai (ai (by decide) i0) ?_)
   refine ah (p:=c=100) (by exact cK rfl) (fun m100=>?_) (fun m100=>?_)
   ·have e2:cO c=true:=by rw[m100];rfl
    refine ai (ai (fun _=>trivial) ?_) trivial
    show ak _ (bP (resE (c :: d :: t)))
    rw[hR,e,e2,aiI,alh]
    exact rfl
   refine ai (ai (by decide) (by decide)) ?_
   refine ai rfl ?_
   refine ei c (ai (ai (by decide) i0) ?_)
   refine ah (p:=c=101) (by exact cK rfl) (fun m101=>?_) (fun m101=>?_)
   ·have e2:cO c=true:=by rw[m101];rfl
    refine ai (ai (fun _=>trivial) ?_) trivial
    show ak _ (bP (resE (c :: d :: t)))
    rw[hR,e,e2,aiI,alh]
    exact rfl
   refine ai (ai (by decide) (by decide)) ?_
   refine ai rfl ?_
   refine ei c (ai (ai (by decide) i0) ?_)
   refine ah (p:=c=102) (by exact cK rfl) (fun m102=>?_) (fun m102=>?_)
   ·have e2:cO c=true:=by rw[m102];rfl
    refine ai (ai (fun _=>trivial) ?_) trivial
    show ak _ (bP (resE (c :: d :: t)))
    rw[hR,e,e2,aiI,alh]
    exact rfl
   refine ai (ai (by decide) (by decide)) ?_
   refine ai rfl ?_
   refine ei c (ai (ai (by decide) i0) ?_)
   refine ah (p:=c=116) (by exact cK rfl) (fun m116=>?_) (fun m116=>?_)
   ·have e2:cO c=true:=by rw[m116];rfl
    refine ai (ai (fun _=>trivial) ?_) trivial
    show ak _ (bP (resE (c :: d :: t)))
    rw[hR,e,e2,aiI,alh]
    exact rfl
   refine ai (ai (by decide) (by decide)) ?_
   refine ai rfl ?_
   refine ei c (ai (ai (by decide) i0) ?_)
   refine ah (p:=c=120) (by exact cK rfl) (fun m120=>?_) (fun m120=>?_)
   ·have e2:cO c=true:=by rw[m120];rfl
    refine ai (ai (fun _=>trivial) ?_) trivial
    show ak _ (bP (resE (c :: d :: t)))
    rw[hR,e,e2,aiI,alh]
    exact rfl
   refine ai (ai (by decide) (by decide)) ?_
   refine ai rfl ?_
   refine ei c (ai (ai (by decide) i0) ?_)
   refine ah (p:=c=121) (by exact cK rfl) (fun m121=>?_) (fun m121=>?_)
   ·have e2:cO c=true:=by rw[m121];rfl
    refine ai (ai (fun _=>trivial) ?_) trivial
    show ak _ (bP (resE (c :: d :: t)))
    rw[hR,e,e2,aiI,alh]
    exact rfl
   refine ai (ai (by decide) (by decide)) ?_
   refine ai rfl ?_
   refine ei c (ai (ai (by decide) i0) ?_)
   refine ah (p:=c=122) (by exact cK rfl) (fun m122=>?_) (fun m122=>?_)
   ·have e2:cO c=true:=by rw[m122];rfl
    refine ai (ai (fun _=>trivial) ?_) trivial
    show ak _ (bP (resE (c :: d :: t)))
    rw[hR,e,e2,aiI,alh]
    exact rfl
   have e2:cO c=false:=by unfold cO;simp[m97,m98,m99,m100,m101,m102,m116,m120,m121,m122]
   refine ai (ai (fun _=>trivial) ?_) trivial
   show ak _ (bP (resE (c :: d :: t)))
   rw[hR,e2,aqA,aqz,hN]
   exact rfl
def uV (l:List UInt8) (k:Nat):PV:=bP (l.any fun y=>y.toNat==k)
theorem sV:∀(l:List Value) (k:Nat),jZ (vals l) k=.val (l.getD k undef)
 | [],k=>rfl
 | v :: l,0=>rfl
 | v :: l,k+1=>by
  show jZ (vals l) k=_
  rw[sV l k];rfl
theorem adC (n:Nat) (v:Value) {k:Nat} (h:k<n):(List.replicate n v).getD k undef=v:=by
 rw[abo,atW,if_pos h];rfl
theorem alC {l:List UInt8} {c:UInt8} (k:Nat):oH (uV l) c.toNat (bP true) k=uV (l++[c]) k:=by
 unfold oH uV
 rw[List.any_append]
 by_cases h:k=c.toNat
 ·rw[if_pos h];subst h;simp
 ·rw[if_neg h]
  have:(c.toNat==k)=false:=by simpa using fun e=>h e.symm
  simp[this]
def aq6:Spec:=bT (fun l:List UInt8=>[sA l]) (fun l=>l.length≤1000∧∀y∈l,y.toNat<128) (fun l=>.tup [.arr 256 (uV l),bP true])
theorem am6:aL Tryz.prog 232 aq6:=by
 refine aY (Tb:=tab) mixed aB Tryz.func232 rfl rfl ?_
 rintro (l:List UInt8) hpre
 refine ai (ai rfl (ai rfl rfl)) ?_
 obtain ⟨hl,ha⟩:=hpre
 have hl:l.length≤1000:=hl
 have hz:=dK l
 refine ei (bE.inv { X:=Nat,up:=fun k=>[(4,.s (iA k))],uo:=fun k=>[⟨0,287,[.ob (.arr 287 256 (uV (l.take k)))]⟩],inv:=fun k=>k≤l.length∧(True),meas:=fun k=>l.length-k,x0:=0 }) ?_
 refine ai (ai (ai (by exact (a4 (ai rfl rfl))) (ai ?_ ?_)) rfl) (ai (ai (afc _) ?_) ?_)
 ·exact (ai (ai (fun _=>rfl) (iE (by simp only[zz,reduceCtorEq];rfl))) rfl)
 ·refine (ai (ai rfl (ai rfl ?_)) trivial)
  intro k hk
  show jZ (vals (List.replicate 256 (.bool false))) k=_
  rw[sV,adC 256 _ hk];rfl
 ·trivial
 intro (k:Nat) ⟨hk,_⟩
 refine ah (p:=k<l.length) (by exact au (by rw[hz];omega)) (fun h1=>?_) (fun h1=>?_)
 ·refine ei (l.getD k 0) (ai (ai (abq _) (kg h1)) ?_)
  have hc:=ha _ (adh (bI 0 h1))
  refine ah (p:=128≤(l.getD k 0).toNat) (by exact cu (by omega)) (fun h2=>?_) (fun h2=>?_)
  ·omega
  refine ai (ai (abq _) (by show (((l.getD k 0).toNat:Nat):Int)<256;omega)) ?_
  refine ai (by show 0+(((l.getD k 0).toNat:Nat):Int).toNat*1<256;rw[arZ];omega) ?_
  refine ei (k+1) (ai (ai rfl rfl) (ai (ai (ai rfl (ai (ai rfl rfl) (ai (ai rfl rfl) (ai (ai (ai (fun _=>rfl) (aP (by omega))) rfl) (ai (ai rfl (ai rfl ?_)) trivial))))) rfl) (ai (ai (iL (by omega)) trivial) (iM (by omega)))))
  intro j hj
  show oH (uV (l.take k)) (0+(((l.getD k 0).toNat:Nat):Int).toNat*1) (bP true) j=_
  rw[arZ,apT,aiF,alC,aQ 0 h1]
 ·obtain rfl:k=l.length:=by omega
  rw[ahb]
  refine ai (ai (fun _=>(by exact (ai (fun _ _=>rfl) trivial))) ?_) trivial
  exact (ai (ai rfl (fun _ _=>rfl)) rfl)
def fq (l:List UInt8) (c:UInt8):Bool:=l.any fun y=>y.toNat==c.toNat
def ar9:Spec:={ A:=List UInt8×UInt8,args:=fun a=>[.own 0 0,cA a.2],objs:=fun a=>[.arr 287 256 (uV a.1)],pre:=fun _=>True,res:=fun a=>bP (fq a.1 a.2),objs':=fun _=>[],fresh:=true,ro:=1 }
theorem aja:aL Tryz.prog 241 ar9:=by
 refine aY (Tb:=tab) mixed aB Tryz.func241 rfl rfl ?_
 rintro (a:List UInt8×UInt8) hpre
 refine ai (ai rfl (ai rfl rfl)) ?_
 have hc:a.2.toNat<256:=a.2.toNat_lt
 have e0:0+((a.2.toNat:Nat):Int).toNat*1=a.2.toNat:=by simp
 refine ai (ai (abq _) (by show ((a.2.toNat:Nat):Int)<256;omega)) ?_
 refine ai (by show 0+((a.2.toNat:Nat):Int).toNat*1<256;rw[e0];exact hc) ?_
 refine ai (ai (fun _=>trivial) ?_) trivial
 show (a.1.any fun y=>y.toNat==0+((a.2.toNat:Nat):Int).toNat*1)=_
 rw[e0];rfl
def sJ (p:UInt8→Bool) (s:List UInt8):Nat→Nat
 | 0=>0
 | k+1=>if p (s.getD k 0) then sJ p s k else k+1
def vo (p:UInt8→Bool) (s:List UInt8):List UInt8:=s.take (sJ p s s.length)
theorem afV (s:List UInt8) (k:Nat):(strOf s).extract 0 k=strOf (s.take k):=by
 apply ByteArray.ext
 simp[strOf]
theorem ahD (s:List UInt8) (k:Nat):(strOf s).extract k (strOf s).size=strOf (s.drop k):=by
 apply ByteArray.ext
 have:(strOf s).size=s.length:=dK s
 rw[this]
 simp[strOf]
 rw[atr (by simp)]
def aq8 (g:List UInt8→List UInt8→List UInt8):Spec:={ A:=List UInt8×List UInt8,args:=fun a=>[sA a.2,.own 0 0],objs:=fun a=>[.arr 287 256 (uV a.1)],pre:=fun a=>a.2.length≤1000000,res:=fun a=>sP (g a.1 a.2),objs':=fun _=>[],fresh:=true,ro:=1 }
theorem anO:aL Tryz.prog 234 (aq8 fun l s=>vo (fq l) s):=by
 refine aY (Tb:=tab) mixed aB Tryz.func234 rfl rfl ?_
 rintro (a:List UInt8×List UInt8) hpre
 refine ai (ai rfl (ai rfl rfl)) ?_
 have hl:a.2.length≤1000000:=hpre
 refine ei (bE.inv { X:=Nat,up:=fun k=>[(0,.s (sA (a.2.take k)))],uo:=fun _=>[],inv:=fun k=>k≤a.2.length∧sJ (fq a.1) a.2 a.2.length=sJ (fq a.1) a.2 k,meas:=fun k=>k,x0:=a.2.length }) ?_
 refine ai (ai (ai (by exact (a4 (ai rfl rfl))) (ai ?_ ?_)) ?_) (ai ?_ ?_)
 ·refine (ai (ai nof ?_) rfl)
  show strOf a.2=strOf (a.2.take a.2.length)
  rw[ahb]
 ·exact trivial
 ·rfl
 ·exact ⟨aha _,rfl⟩
 intro (k:Nat) ⟨hk,hinv⟩
 have htl:(a.2.take k).length=k:=by rw[ajz];omega
 have hz:(strOf (a.2.take k)).size=k:=by rw[dK,htl]
 refine ah (p:=0<k) (by exact au (by show (0:Int)<(((strOf (a.2.take k)).size:Nat):Int)↔_;rw[hz];omega)) (fun h1=>?_) (fun h1=>?_)
 ·obtain ⟨k,rfl⟩:∃j,k=j+1:=⟨k-1,by omega⟩
  have hw:IntKind.i64.wrap ((((strOf (a.2.take (k+1))).size:Nat):Int)-1)=(k:Int):=by rw[hz,jk (by omega) (by omega)];omega
  have hg:(a.2.take (k+1)).getD k 0=a.2.getD k 0:=by rw[abo,abo,alD,if_pos (by omega)]
  refine ei (a.2.getD k 0) (ai (ai (by rw[hw];exact abq _) (by rw[hw,←hg];exact kg (by omega))) ?_)
  refine ei _ (ai (aja) (ei ((a.1,a.2.getD k 0)) (ei [0] (ai (a4 (ai (fun _=>Or.inl rfl) (ai nof (Or.inl rfl)))) (ai (by exact (ai (ai rfl rfl) rfl)) (ai (by exact (ai rfl (ai rfl (fun _ _=>rfl)))) (ai (trivial) ?_)))))))
  have hT:sJ (fq a.1) a.2 (k+1)=if fq a.1 (a.2.getD k 0) then sJ (fq a.1) a.2 k else k+1:=rfl
  refine aX (b:=!fq a.1 (a.2.getD k 0)) rfl (fun h2=>?_) (fun h2=>?_)
  ·have h2:fq a.1 (a.2.getD k 0)=false:=by simpa using h2
   have e:vo (fq a.1) a.2=a.2.take (k+1):=by
    unfold vo;rw[hinv,hT,h2];rfl
   refine ai (ai (fun _=>trivial) ?_) trivial
   show ak _ (sP (vo (fq a.1) a.2))
   rw[e]
   exact rfl
  ·have h2:fq a.1 (a.2.getD k 0)=true:=by simpa using h2
   refine ai (ai (by decide) (ai (by rw[hw];exact abq _) (by rw[hw,hz];omega))) ?_
   refine ei (k) (ai (ai rfl rfl) (ai (ai ?_ ?_) (ai ?_ ?_)))
   ·refine (ai rfl (ai (ai rfl rfl) (ai (ai rfl rfl) (ai (ai (ai (fun _=>rfl) ?_) rfl) trivial))))
    show (strOf (a.2.take (k+1))).extract 0 (IntKind.i64.wrap ((((strOf (a.2.take (k+1))).size:Nat):Int)-1)).toNat=strOf (a.2.take k)
    rw[hw,arZ,afV,aug,atP (by omega)]
   ·rfl
   ·exact ⟨by omega,by rw[hinv,hT,h2];rfl⟩
   ·show k<k+1;omega
 ·obtain rfl:k=0:=by omega
  have e:vo (fq a.1) a.2=a.2.take 0:=by
   unfold vo;rw[hinv];rfl
  refine ai (ai (fun _=>trivial) ?_) trivial
  show ak _ (sP (vo (fq a.1) a.2))
  rw[e]
  exact rfl
theorem am5:aL Tryz.prog 233 (aq8 fun l s=>s.dropWhile (fq l)):=by
 refine aY (Tb:=tab) mixed aB Tryz.func233 rfl rfl ?_
 rintro (a:List UInt8×List UInt8) hpre
 refine ai (ai rfl (ai rfl rfl)) ?_
 have hl:a.2.length≤1000000:=hpre
 refine ei (bE.inv { X:=Nat,up:=fun k=>[(0,.s (sA (a.2.drop k)))],uo:=fun _=>[],inv:=fun k=>k≤a.2.length∧a.2.dropWhile (fq a.1)=(a.2.drop k).dropWhile (fq a.1),meas:=fun k=>a.2.length-k,x0:=0 }) ?_
 refine ai (ai (ai (by exact (a4 (ai rfl rfl))) (ai ?_ ?_)) ?_) (ai ?_ ?_)
 ·exact (ai (ai nof rfl) rfl)
 ·exact trivial
 ·rfl
 ·exact ⟨afc _,rfl⟩
 intro (k:Nat) ⟨hk,hinv⟩
 have htl:(a.2.drop k).length=a.2.length-k:=arP
 have hz:(strOf (a.2.drop k)).size=a.2.length-k:=by rw[dK,htl]
 refine ah (p:=k<a.2.length) (by exact au (by show (0:Int)<(((strOf (a.2.drop k)).size:Nat):Int)↔_;rw[hz];omega)) (fun h1=>?_) (fun h1=>?_)
 ·have hcons:a.2.drop k=a.2.getD k 0 :: a.2.drop (k+1):=by
   rw[aoN h1,abo,abn h1];rfl
  refine ei (a.2.getD k 0) (ai (ai (by decide) (by rw[hcons];rfl)) ?_)
  refine ei _ (ai (aja) (ei ((a.1,a.2.getD k 0)) (ei [0] (ai (a4 (ai (fun _=>Or.inl rfl) (ai nof (Or.inl rfl)))) (ai (by exact (ai (ai rfl rfl) rfl)) (ai (by exact (ai rfl (ai rfl (fun _ _=>rfl)))) (ai (trivial) ?_)))))))
  refine aX (b:=!fq a.1 (a.2.getD k 0)) rfl (fun h2=>?_) (fun h2=>?_)
  ·have h2:fq a.1 (a.2.getD k 0)=false:=by simpa using h2
   have e:a.2.dropWhile (fq a.1)=a.2.drop k:=by
    rw[hinv,hcons,aur,if_neg (by rw[h2];decide)]
   refine ai (ai (fun _=>trivial) ?_) trivial
   show ak _ (sP (a.2.dropWhile (fq a.1)))
   rw[e]
   exact rfl
  ·have h2:fq a.1 (a.2.getD k 0)=true:=by simpa using h2
   refine ai (ai (by decide) (ai (by rw[hz];omega) (Int.le_refl _))) ?_
   refine ei ((k+1)) (ai (ai rfl rfl) (ai (ai ?_ ?_) (ai ?_ ?_)))
   ·refine (ai rfl (ai (ai rfl rfl) (ai (ai rfl rfl) (ai (ai (ai (fun _=>rfl) ?_) rfl) trivial))))
    show (strOf (a.2.drop k)).extract 1 ((((strOf (a.2.drop k)).size:Nat):Int)).toNat=strOf (a.2.drop (k+1))
    rw[arZ,ahD,List.drop_drop]
   ·rfl
   ·exact ⟨h1,by rw[hinv,hcons,aur,if_pos h2]⟩
   ·show a.2.length-(k+1)<a.2.length-k;omega
 ·have e:a.2.dropWhile (fq a.1)=a.2.drop k:=by
   rw[hinv,atM (by omega)];rfl
  refine ai (ai (fun _=>trivial) ?_) trivial
  show ak _ (sP (a.2.dropWhile (fq a.1)))
  rw[e]
  exact rfl
def r9:List UInt8:=[48,49,50,51,52,53,54,55,56,57]
def afx (s:List UInt8):List UInt8:=(vo (fq r9) s).dropWhile (fq r9)
theorem ao0:aL Tryz.prog 224 (bT (fun s:List UInt8=>[sA s,sA r9]) (fun s=>s.length≤1000000) (fun s=>sP (afx s))):=by
 refine aY (Tb:=tab) mixed aB Tryz.func224 rfl rfl ?_
 rintro (s:List UInt8) hpre
 refine ai (ai rfl (ai rfl rfl)) ?_
 have hl:s.length≤1000000:=hpre
 refine ah (p:=s=[]) (by show (s==[])=true↔_;exact beq_iff_eq) (fun h1=>?_) (fun h1=>?_)
 ·subst h1
  refine ai (ai (fun _=>trivial) ?_) trivial
  exact rfl
 refine ei _ (ai (am6) (ei (r9) (ei [] (ai (a4 (ai (fun _=>Or.inl rfl) (ai nof (Or.inl rfl)))) (ai (by exact rfl) (ai trivial (ai (⟨by show r9.length≤1000;decide,by decide⟩) ?_)))))))
 refine ei _ (ai (anO) (ei ((r9,s)) (ei [0] (ai (a4 (ai (fun _=>Or.inl rfl) (ai nof (Or.inl rfl)))) (ai (by exact (ai rfl (ai rfl rfl))) (ai (by exact (ai rfl (ai rfl (fun _ _=>rfl)))) (ai (hl) ?_)))))))
 refine ei _ (ai (am5) (ei ((r9,vo (fq r9) s)) (ei [0] (ai (a4 (ai (fun _=>Or.inl rfl) (ai nof (Or.inl rfl)))) (ai (by exact (ai rfl (ai rfl rfl))) (ai (by exact (ai rfl (ai rfl (fun _ _=>rfl)))) (ai ((by show (vo (fq r9) s).length≤1000000;unfold vo;rw[ajz];omega)) ?_)))))))
 refine ai (ai (fun _=>trivial) ?_) trivial
 exact rfl
theorem amT (c:UInt8):fq r9 c=dU c:=by
 rw[aqR]
 unfold fq r9 dU
 simp only[atX,List.any_nil,atQ,aqK,agw,beq_iff_eq,decide_eq_true_eq]
 have h48:(48:UInt8).toNat=48:=rfl
 have h49:(49:UInt8).toNat=49:=rfl
 have h50:(50:UInt8).toNat=50:=rfl
 have h51:(51:UInt8).toNat=51:=rfl
 have h52:(52:UInt8).toNat=52:=rfl
 have h53:(53:UInt8).toNat=53:=rfl
 have h54:(54:UInt8).toNat=54:=rfl
 have h55:(55:UInt8).toNat=55:=rfl
 have h56:(56:UInt8).toNat=56:=rfl
 have h57:(57:UInt8).toNat=57:=rfl
 omega
theorem aiG {p:UInt8→Bool} {s:List UInt8}:∀{k:Nat},(∀j,j<k→p (s.getD j 0)=true)→sJ p s k=0
 | 0,_=>rfl
 | k+1,h=>by rw[sJ,if_pos (h k (by omega))];exact aiG fun j hj=>h j (by omega)
theorem ajj {p:UInt8→Bool} {s:List UInt8}:∀{k:Nat},sJ p s k≠0→∃j,sJ p s k=j+1∧p (s.getD j 0)=false∧j<k
 | 0,h=>absurd rfl h
 | k+1,h=>by
  by_cases hp:p (s.getD k 0)=true
  ·rw[sJ,if_pos hp] at h ⊢
   obtain ⟨j,h1,h2,h3⟩:=ajj h
   exact ⟨j,h1,h2,by omega⟩
  ·rw[sJ,if_neg hp]
   exact ⟨k,rfl,by simpa using hp,by omega⟩
theorem aez {p:UInt8→Bool}:∀{l:List UInt8},l.dropWhile p=[]↔∀x∈l,p x=true
 | []=>by simp
 | y :: l=>by
  rw[aur]
  by_cases h:p y=true
  ·rw[if_pos h,aez];simp[h]
  ·rw[if_neg h];simp[h]
theorem alu (s:List UInt8):(afx s==[])=s.all dU:=by
 have hset:fq r9=dU:=funext amT
 unfold afx
 rw[hset,aqR,beq_iff_eq,aez,ak7]
 constructor
 ·intro h
  by_cases h0:sJ dU s s.length=0
  ·intro x hx
   refine Classical.byContradiction fun hn=>?_
   obtain ⟨k,hk,rfl⟩:=arp hx
   have:∀m,k<m→sJ dU s m≠0:=by
    intro m hm
    induction m with
    | zero=>omega
    | succ m ih=>
     rw[sJ]
     by_cases e:k=m
     ·subst e
      rw[if_neg (by rw[abo,abn hk];exact hn)]
      omega
     ·split
      ·exact ih (by omega)
      ·omega
   exact this _ hk h0
  ·obtain ⟨j,h1,h2,h3⟩:=ajj h0
   have:s.getD j 0∈vo dU s:=by
    unfold vo
    rw[h1,aQ 0 h3];simp
   have:=h _ this
   rw[h2] at this;cases this
 ·intro h x hx
  have:sJ dU s s.length=0:=aiG fun j hj=>h _ (adh (bI 0 hj))
  unfold vo at hx
  rw[this] at hx;simp at hx
theorem akZ:aL Tryz.prog 209 (bT (fun s:List UInt8=>[sA s]) (fun s=>s.length≤1000000) (fun s=>bP (!s.isEmpty&&s.all dU))):=by
 refine aY (Tb:=tab) mixed aB Tryz.func209 rfl rfl ?_
 rintro (s:List UInt8) hpre
 refine ai (ai rfl (ai rfl rfl)) ?_
 have hl:s.length≤1000000:=hpre
 refine bg (p:=s=[]) (by show (s != [])=true↔_;exact bne_iff_ne) (fun h1=>?_) (fun h1=>?_)
 ·refine ei _ (ai (ao0) (ei (s) (ei [] (ai (a4 (ai (fun _=>Or.inl rfl) (ai nof (Or.inl rfl)))) (ai (by exact (ai rfl rfl)) (ai trivial (ai (hl) ?_)))))))
  have h2:s.isEmpty=false:=by cases s with | nil=>exact absurd rfl h1 | cons x l=>rfl
  refine ai (ai (fun _=>trivial) ?_) trivial
  show ak _ (bP (!s.isEmpty&&s.all dU))
  rw[show (!s.isEmpty&&s.all dU)=(afx s==[]) by rw[h2,alu];rfl]
  exact rfl
 ·refine ai (ai (fun _=>trivial) ?_) trivial
  show ak _ (bP (!s.isEmpty&&s.all dU))
  rw[show (!s.isEmpty&&s.all dU)=false by rw[h1];rfl]
  exact rfl
theorem aju (c:UInt8):(([97,98,99,100,101,102]:List UInt8).any fun y=>c==y)=lJ c:=by
 rw[aqR]
 unfold lJ
 have h97:(97:UInt8).toNat=97:=rfl
 have h98:(98:UInt8).toNat=98:=rfl
 have h99:(99:UInt8).toNat=99:=rfl
 have h100:(100:UInt8).toNat=100:=rfl
 have h101:(101:UInt8).toNat=101:=rfl
 have h102:(102:UInt8).toNat=102:=rfl
 simp only[atX,List.any_nil,atQ,aqK,agw,beq_iff_eq,decide_eq_true_eq,←UInt8.toNat_inj]
 omega
theorem apU:aL Tryz.prog 177 (bT (fun s:List UInt8=>[sA s]) (fun s=>s.length≤1000000) (fun s=>bP (resE s))):=by
 refine aY (Tb:=tab) mixed aB Tryz.func177 rfl rfl ?_
 rintro (s:List UInt8) hpre
 refine ai (ai rfl (ai rfl rfl)) ?_
 have hl:s.length≤1000000:=hpre
 refine ah (p:=s=[]) (by show (s==[])=true↔_;exact beq_iff_eq) (fun h1=>?_) (fun h1=>?_)
 ·subst h1
  refine ai (ai (fun _=>trivial) ?_) trivial
  exact rfl
 obtain ⟨c,t,rfl⟩:∃c t,s=c :: t:=by
  cases s with
  | nil=>exact absurd rfl h1
  | cons c t=>exact ⟨c,t,rfl⟩
 have hz:(strOf (c :: t)).size=t.length+1:=by rw[dK];rfl
 have e1:(strOf (c :: t)).extract (0:Int).toNat (1:Int).toNat=strOf [c]:=afV (c :: t) 1
 have e2:(strOf (c :: t)).extract (1:Int).toNat ((((strOf (c :: t)).size:Nat):Int)).toNat=strOf t:=by rw[arZ];exact ahD (c :: t) 1
 have hR:resE (c :: t)=(!t.isEmpty&&((cO c&&t.all dU)||(lJ c&&(t==[112]||t==[109])))):=rfl
 have b1:(0:Int)≤0∧(0:Int)≤1∧(1:Int)≤(((strOf (c :: t)).size:Nat):Int):=⟨by decide,by decide,by rw[hz];omega⟩
 have b2:(0:Int)≤1∧(1:Int)≤(((strOf (c :: t)).size:Nat):Int)∧(((strOf (c :: t)).size:Nat):Int)≤(((strOf (c :: t)).size:Nat):Int):=⟨by decide,by rw[hz];omega,Int.le_refl _⟩
 have ht:t.length≤1000000:=by simp at hl;omega
 have e3:∀y:UInt8,(((strOf (c :: t)).extract (1:Int).toNat ((((strOf (c :: t)).size:Nat):Int)).toNat).data.toList==[y])=true↔t=[y]:=fun y=>by rw[e2];exact beq_iff_eq
 refine ai b1 ?_
 refine ei _ (ai (adQ) (ei (([97,98,99,100,101,102,116,120,121,122],c)) (ei [] (ai (a4 (ai (fun _=>Or.inl rfl) (ai nof (Or.inl rfl)))) (ai ?_ (ai (by exact trivial) (ai (trivial) ?_)))))))
 ·refine (ai rfl ?_)
  exact e1
 refine ah (p:=cO c=true) (by exact Iff.rfl) (fun h2=>?_) (fun h2=>?_)
 ·refine ai b2 ?_
  refine ei _ (ai (akZ) (ei (t) (ei [] (ai (a4 (ai (fun _=>Or.inl rfl) (ai nof (Or.inl rfl)))) (ai ?_ (ai (by exact trivial) (ai (ht) ?_)))))))
  ·skip
   exact e2
  refine ah (p:=(!t.isEmpty&&t.all dU)=true) (by exact Iff.rfl) (fun h3=>?_) (fun h3=>?_)
  ·refine ai (ai (fun _=>trivial) ?_) trivial
   show ak _ (bP (resE (c :: t)))
   rw[show resE (c :: t)=true by rw[hR,h2];simp at h3 ⊢;exact ⟨h3.1,.inl h3.2⟩]
   exact rfl
  ·have hN:resE (c :: t)=(lJ c&&(t==[112]||t==[109])):=by
    rw[hR]
    cases t with
    | nil=>simp
    | cons y t=>
     have h3:¬((y :: t).all dU)=true:=fun e=>h3 (by rw[e];rfl)
     rw[att.2 h3];simp
   refine ai b1 ?_
   refine ei _ (ai (adQ) (ei (([97,98,99,100,101,102],c)) (ei [] (ai (a4 (ai (fun _=>Or.inl rfl) (ai nof (Or.inl rfl)))) (ai ?_ (ai (by exact trivial) (ai (trivial) ?_)))))))
   ·refine (ai rfl ?_)
    exact e1
   refine ah (p:=lJ c=true) (by rw[aju]) (fun h4=>?_) (fun h4=>?_)
   ·refine ai b2 ?_
    refine ah (p:=t=[112]) (by exact e3 112) (fun h5=>?_) (fun h5=>?_)
    ·refine ai (ai (fun _=>trivial) ?_) trivial
     show ak _ (bP (resE (c :: t)))
     rw[hN,h4,h5]
     exact rfl
    ·refine ai b2 ?_
     refine ai (ai (fun _=>trivial) ?_) trivial
     show ak _ (bP (resE (c :: t)))
     rw[hN,h4,e2]
     skip
     show (t==[109])=(true&&(t==[112]||t==[109]))
     rw[show (t==[112])=false by simpa using h5];rfl
   ·refine ai (ai (fun _=>trivial) ?_) trivial
    show ak _ (bP (resE (c :: t)))
    rw[hN,att.2 h4,aqA]
    exact rfl
 ·have hN:resE (c :: t)=(lJ c&&(t==[112]||t==[109])):=by
   rw[hR,att.2 h2]
   cases t with
   | nil=>simp
   | cons y t=>simp
  refine ai b1 ?_
  refine ei _ (ai (adQ) (ei (([97,98,99,100,101,102],c)) (ei [] (ai (a4 (ai (fun _=>Or.inl rfl) (ai nof (Or.inl rfl)))) (ai ?_ (ai (by exact trivial) (ai (trivial) ?_)))))))
  ·refine (ai rfl ?_)
   exact e1
  refine ah (p:=lJ c=true) (by rw[aju]) (fun h4=>?_) (fun h4=>?_)
  ·refine ai b2 ?_
   refine ah (p:=t=[112]) (by exact e3 112) (fun h5=>?_) (fun h5=>?_)
   ·refine ai (ai (fun _=>trivial) ?_) trivial
    show ak _ (bP (resE (c :: t)))
    rw[hN,h4,h5]
    exact rfl
   ·refine ai b2 ?_
    refine ai (ai (fun _=>trivial) ?_) trivial
    show ak _ (bP (resE (c :: t)))
    rw[hN,h4,e2]
    skip
    show (t==[109])=(true&&(t==[112]||t==[109]))
    rw[show (t==[112])=false by simpa using h5];rfl
  ·refine ai (ai (fun _=>trivial) ?_) trivial
   show ak _ (bP (resE (c :: t)))
   rw[hN,att.2 h4,aqA]
   exact rfl
def dN (s:List UInt8):Int:=if 24<s.length then 17 else if s.isEmpty||!jC (s.getD 0 0)||resE s then 3 else if s.all iT then 0 else 3
theorem aqh:aL Tryz.prog 146 (bT (fun s:List UInt8=>[sA s]) (fun s=>True) (fun s=>iP (dN s))):=by
 refine aY (Tb:=tab) mixed aB Tryz.func146 rfl rfl ?_
 rintro (s:List UInt8) hpre
 refine ai (ai rfl (ai rfl rfl)) ?_
 have hz:=dK s
 refine ah (p:=24<s.length) (by exact au (by rw[hz];omega)) (fun h1=>?_) (fun h1=>?_)
 ·refine ai (ai (fun _=>trivial) ?_) trivial
  show ak _ (iP (dN s))
  rw[dN,if_pos h1]
  exact rfl
 have hN:dN s=if s.isEmpty||!jC (s.getD 0 0)||resE s then 3 else if s.all iT then 0 else 3:=by unfold dN;rw[if_neg h1]
 refine ah (p:=s=[]) (by show (s==[])=true↔_;exact beq_iff_eq) (fun h2=>?_) (fun h2=>?_)
 ·refine ai (ai (fun _=>trivial) ?_) trivial
  show ak _ (iP (dN s))
  rw[show dN s=3 by rw[hN,h2];rfl]
  exact rfl
 have hp:0<s.length:=aue.2 h2
 have he:s.isEmpty=false:=by cases s with | nil=>exact absurd rfl h2 | cons x l=>rfl
 have i0:(strOf s)[(0:Int).toNat]?=some (s.getD 0 0):=kg hp
 refine ei (s.getD 0 0) (ai (ai (by decide) i0) ?_)
 refine ah (p:=(s.getD 0 0).toNat<97) (au (by omega)) (fun h3=>?_) (fun h3=>?_)
 ·have hsF:jC (s.getD 0 0)=false:=by unfold jC;rw[decide_eq_false (by omega)];rfl
  refine ai (ai (fun _=>trivial) ?_) trivial
  show ak _ (iP (dN s))
  rw[show dN s=3 by rw[hN,he,hsF];simp]
  exact rfl
 refine ei (s.getD 0 0) (ai (ai (by decide) i0) ?_)
 refine ah (p:=122<(s.getD 0 0).toNat) (au (by omega)) (fun h4=>?_) (fun h4=>?_)
 ·have hsF:jC (s.getD 0 0)=false:=by unfold jC;rw[decide_eq_false (show ¬(s.getD 0 0).toNat≤122 by omega)];simp
  refine ai (ai (fun _=>trivial) ?_) trivial
  show ak _ (iP (dN s))
  rw[show dN s=3 by rw[hN,he,hsF];simp]
  exact rfl
 have hs:jC (s.getD 0 0)=true:=by unfold jC;rw[decide_eq_true (by omega),decide_eq_true (by omega)];rfl
 rw[he,hs,Bool.not_true,aqz,aqz] at hN
 refine ei _ (ai (apU) (ei (s) (ei [] (ai (a4 (ai (fun _=>Or.inl rfl) (ai nof (Or.inl rfl)))) (ai (by exact rfl) (ai trivial (ai ((by show s.length≤1000000;omega)) ?_)))))))
 refine aX (b:=resE s) rfl (fun h5=>?_) (fun h5=>?_)
 ·refine ai (ai (fun _=>trivial) ?_) trivial
  show ak _ (iP (dN s))
  rw[hN,if_pos h5]
  exact rfl
 rw[if_neg (by rw[h5];decide)] at hN
 refine ei (bE.inv { X:=Nat,up:=fun k=>[(25,.s (iA k))],uo:=fun k=>[],inv:=fun k=>k≤s.length∧(∀c∈s.take k,iT c=true),meas:=fun k=>s.length-k,x0:=0 }) ?_
 refine ai (ai (ai (by exact (a4 (ai rfl rfl))) (ai (by exact (ai (ai (fun _=>rfl) (iE (by simp only[zz,reduceCtorEq];rfl))) rfl)) (by exact trivial))) rfl) (ai (ai (afc _) ?_) ?_)
 ·exact fun y hy=>absurd hy (by simp)
 intro (k:Nat) ⟨hk,hall⟩
 refine ah (p:=k<s.length) (by exact au (by rw[hz];omega)) (fun h6=>?_) (fun h6=>?_)
 ·refine ei (s.getD k 0) (ai (ai (abq _) (kg h6)) ?_)
  refine ei _ (ai (akJ) (ei (s.getD k 0) (ei [] (ai (a4 (ai (fun _=>Or.inl rfl) (ai nof (Or.inl rfl)))) (ai (by exact rfl) (ai trivial (ai (trivial) ?_)))))))
  refine aX (b:=!iT (s.getD k 0)) rfl (fun h7=>?_) (fun h7=>?_)
  ·have h8:s.all iT=false:=by
    rw[ar2]
    exact ⟨s.getD k 0,adh (bI 0 h6),by simpa using h7⟩
   refine ai (ai (fun _=>trivial) ?_) trivial
   show ak _ (iP (dN s))
   rw[hN,if_neg (show ¬s.all iT=true by rw[h8];decide)]
   exact rfl
  refine ei (k+1) (ai (ai rfl rfl) (ai (ai (ai rfl (ai (ai rfl rfl) (ai (ai rfl rfl) (ai (ai (ai (fun _=>rfl) (aP (by omega))) rfl) trivial)))) rfl) (ai (ai (iL (by omega)) ?_) (iM (by omega)))))
  intro y hy
  rw[aQ 0 h6] at hy
  rcases ahN.1 hy with hy | hy
  ·exact hall y hy
  ·simp only[aiy] at hy;subst hy;simpa using h7
 ·obtain rfl:k=s.length:=by omega
  rw[ahb] at hall
  refine ai (ai (fun _=>trivial) ?_) trivial
  show ak _ (iP (dN s))
  rw[hN,if_pos (ak7.2 hall)]
  exact rfl
theorem anm:aL Tryz.prog 150 (bT (fun s:List UInt8=>[sA s]) (fun s=>True) (fun s=>iP (dN s))):=by
 refine aY (Tb:=tab) mixed aB Tryz.func150 rfl rfl ?_
 rintro (s:List UInt8) hpre
 refine ai (ai rfl (ai rfl rfl)) ?_
 have hz:=dK s
 refine ah (p:=24<s.length) (by exact au (by rw[hz];omega)) (fun h1=>?_) (fun h1=>?_)
 ·refine ai (ai (fun _=>trivial) ?_) trivial
  show ak _ (iP (dN s))
  rw[dN,if_pos h1]
  exact rfl
 have hN:dN s=if s.isEmpty||!jC (s.getD 0 0)||resE s then 3 else if s.all iT then 0 else 3:=by unfold dN;rw[if_neg h1]
 refine ah (p:=s=[]) (by exact gB (by rw[hz];cases s with | nil=>simp | cons x l=>simp;omega)) (fun h2=>?_) (fun h2=>?_)
 ·refine ai (ai (fun _=>trivial) ?_) trivial
  show ak _ (iP (dN s))
  rw[show dN s=3 by rw[hN,h2];rfl]
  exact rfl
 have hp:0<s.length:=aue.2 h2
 have he:s.isEmpty=false:=by cases s with | nil=>exact absurd rfl h2 | cons x l=>rfl
 have i0:(strOf s)[(0:Int).toNat]?=some (s.getD 0 0):=kg hp
 refine ei (s.getD 0 0) (ai (ai (by decide) i0) ?_)
 refine ei _ (ai (ahL) (ei (s.getD 0 0) (ei [] (ai (a4 (ai (fun _=>Or.inl rfl) (ai nof (Or.inl rfl)))) (ai (by exact rfl) (ai trivial (ai (trivial) ?_)))))))
 refine aX (b:=!jC (s.getD 0 0)) rfl (fun h3=>?_) (fun h3=>?_)
 ·have hsF:jC (s.getD 0 0)=false:=by simpa using h3
  refine ai (ai (fun _=>trivial) ?_) trivial
  show ak _ (iP (dN s))
  rw[show dN s=3 by rw[hN,he,hsF];simp]
  exact rfl
 have hs:jC (s.getD 0 0)=true:=by simpa using h3
 rw[he,hs,Bool.not_true,aqz,aqz] at hN
 refine ei _ (ai (am1) (ei (s) (ei [] (ai (a4 (ai (fun _=>Or.inl rfl) (ai nof (Or.inl rfl)))) (ai (by exact rfl) (ai trivial (ai ((by show s.length≤1000000;omega)) ?_)))))))
 refine aX (b:=resE s) rfl (fun h5=>?_) (fun h5=>?_)
 ·refine ai (ai (fun _=>trivial) ?_) trivial
  show ak _ (iP (dN s))
  rw[hN,if_pos h5]
  exact rfl
 rw[if_neg (by rw[h5];decide)] at hN
 obtain ⟨c,t,rfl⟩:∃c t,s=c :: t:=by
  cases s with
  | nil=>exact absurd rfl h2
  | cons c t=>exact ⟨c,t,rfl⟩
 have hl2:t.length≤1000000:=by simp at h1;omega
 have hc0:iT c=true:=by
  have hs:jC c=true:=hs
  unfold iT;rw[hs];simp
 refine ei (bE.inv { X:=Nat,up:=fun k=>[(3,.s (iA (k+1:Nat)))],uo:=fun k=>[],inv:=fun k=>k≤t.length∧(∀c∈t.take k,iT c=true),meas:=fun k=>t.length-k,x0:=0 }) ?_
 refine ai (ai (ai (by exact (a4 (ai rfl rfl))) (ai (by exact (ai (ai (fun _=>rfl) (iE (by simp only[zz,reduceCtorEq];rfl))) rfl)) (by exact trivial))) rfl) (ai (ai (afc _) ?_) ?_)
 ·exact fun y hy=>absurd hy (by simp)
 intro (k:Nat) ⟨hk,hall⟩
 refine ah (p:=k<t.length) (by exact au (by rw[hz];simp only[ai1];omega)) (fun h6=>?_) (fun h6=>?_)
 ·have i1:(strOf (c :: t))[((k+1:Nat):Int).toNat]?=some (t.getD k 0):=kg (s:=c :: t) (k:=k+1) (by simp;omega)
  refine ei (t.getD k 0) (ai (ai (abq _) i1) ?_)
  refine ei _ (ai (uQ) (ei (t.getD k 0) (ei [] (ai (a4 (ai (fun _=>Or.inl rfl) (ai nof (Or.inl rfl)))) (ai (by exact rfl) (ai trivial (ai (trivial) ?_)))))))
  refine aX (b:=!dU (t.getD k 0)) rfl (fun h7=>?_) (fun h7=>?_)
  ·have hd:dU (t.getD k 0)=false:=by simpa using h7
   refine ei (t.getD k 0) (ai (ai (abq _) i1) ?_)
   refine ei _ (ai (ahL) (ei (t.getD k 0) (ei [] (ai (a4 (ai (fun _=>Or.inl rfl) (ai nof (Or.inl rfl)))) (ai (by exact rfl) (ai trivial (ai (trivial) ?_)))))))
   refine aX (b:=!jC (t.getD k 0)) rfl (fun h9=>?_) (fun h9=>?_)
   ·have hm:jC (t.getD k 0)=false:=by simpa using h9
    refine ei (t.getD k 0) (ai (ai (abq _) i1) ?_)
    refine ah (p:=65≤(t.getD k 0).toNat) (cu (by omega)) (fun h10=>?_) (fun h10=>?_)
    ·refine ei (t.getD k 0) (ai (ai (abq _) i1) ?_)
     refine bg (p:=(t.getD k 0).toNat≤90) (by (rw[aoW,decide_eq_false_iff_not];omega)) (fun h11=>?_) (fun h11=>?_)
     ·have hcap:uR (t.getD k 0)=false:=by unfold uR;rw[decide_eq_false h11];simp
      refine ei (t.getD k 0) (ai (ai (abq _) i1) ?_)
      refine bg (p:=(t.getD k 0).toNat=95) (by exact bK (by omega)) (fun hu=>?_) (fun hu=>?_)
      ·have h8:(c :: t).all iT=false:=by
        rw[ar2]
        exact ⟨t.getD k 0,aoI _ (adh (bI 0 h6)),by unfold iT;rw[hd,hm,hcap,decide_eq_false hu];decide⟩
       refine ai (ai (fun _=>trivial) ?_) trivial
       show ak _ (iP (dN (c :: t)))
       rw[hN,if_neg (show ¬(c :: t).all iT=true by rw[h8];decide)]
       exact rfl
      ·refine ei (k+1) (ai (ai rfl rfl) (ai (ai (ai rfl (ai (ai rfl rfl) (ai (ai rfl rfl) (ai (ai (ai (fun _=>rfl) (aP (by omega))) rfl) trivial)))) rfl) (ai (ai (iL (by omega)) ?_) (iM (by omega)))))
       intro y hy
       rw[aQ 0 h6] at hy
       rcases ahN.1 hy with hy | hy
       ·exact hall y hy
       ·simp only[aiy] at hy;subst hy;unfold iT;rw[decide_eq_true hu];simp
     ·have hcap:uR (t.getD k 0)=true:=by unfold uR;rw[decide_eq_true h10,decide_eq_true h11];rfl
      refine ei (k+1) (ai (ai rfl rfl) (ai (ai (ai rfl (ai (ai rfl rfl) (ai (ai rfl rfl) (ai (ai (ai (fun _=>rfl) (aP (by omega))) rfl) trivial)))) rfl) (ai (ai (iL (by omega)) ?_) (iM (by omega)))))
      intro y hy
      rw[aQ 0 h6] at hy
      rcases ahN.1 hy with hy | hy
      ·exact hall y hy
      ·simp only[aiy] at hy;subst hy;unfold iT;rw[hcap];simp
    ·have hcap:uR (t.getD k 0)=false:=by unfold uR;rw[decide_eq_false h10];simp
     refine ei (t.getD k 0) (ai (ai (abq _) i1) ?_)
     refine bg (p:=(t.getD k 0).toNat=95) (by exact bK (by omega)) (fun hu=>?_) (fun hu=>?_)
     ·have h8:(c :: t).all iT=false:=by
       rw[ar2]
       exact ⟨t.getD k 0,aoI _ (adh (bI 0 h6)),by unfold iT;rw[hd,hm,hcap,decide_eq_false hu];decide⟩
      refine ai (ai (fun _=>trivial) ?_) trivial
      show ak _ (iP (dN (c :: t)))
      rw[hN,if_neg (show ¬(c :: t).all iT=true by rw[h8];decide)]
      exact rfl
     ·refine ei (k+1) (ai (ai rfl rfl) (ai (ai (ai rfl (ai (ai rfl rfl) (ai (ai rfl rfl) (ai (ai (ai (fun _=>rfl) (aP (by omega))) rfl) trivial)))) rfl) (ai (ai (iL (by omega)) ?_) (iM (by omega)))))
      intro y hy
      rw[aQ 0 h6] at hy
      rcases ahN.1 hy with hy | hy
      ·exact hall y hy
      ·simp only[aiy] at hy;subst hy;unfold iT;rw[decide_eq_true hu];simp
   ·have hm:jC (t.getD k 0)=true:=by simpa using h9
    refine ei (k+1) (ai (ai rfl rfl) (ai (ai (ai rfl (ai (ai rfl rfl) (ai (ai rfl rfl) (ai (ai (ai (fun _=>rfl) (aP (by omega))) rfl) trivial)))) rfl) (ai (ai (iL (by omega)) ?_) (iM (by omega)))))
    intro y hy
    rw[aQ 0 h6] at hy
    rcases ahN.1 hy with hy | hy
    ·exact hall y hy
    ·simp only[aiy] at hy;subst hy;unfold iT;rw[hm];simp
  ·have hd:dU (t.getD k 0)=true:=by simpa using h7
   refine ei (k+1) (ai (ai rfl rfl) (ai (ai (ai rfl (ai (ai rfl rfl) (ai (ai rfl rfl) (ai (ai (ai (fun _=>rfl) (aP (by omega))) rfl) trivial)))) rfl) (ai (ai (iL (by omega)) ?_) (iM (by omega)))))
   intro y hy
   rw[aQ 0 h6] at hy
   rcases ahN.1 hy with hy | hy
   ·exact hall y hy
   ·simp only[aiy] at hy;subst hy;unfold iT;rw[hd];simp
 ·obtain rfl:k=t.length:=by omega
  rw[ahb] at hall
  refine ai (ai (fun _=>trivial) ?_) trivial
  show ak _ (iP (dN (c :: t)))
  rw[hN,if_pos (ak7.2 (fun x hx=>by rcases ai0.1 hx with rfl | hx;exact hc0;exact hall x hx))]
  exact rfl
def sH (l:List (List UInt8)) (k:Nat):Int:=if ¬dN (l.getD k [])=0 then dN (l.getD k []) else if (l.take k).any (fun y=>l.getD k []==y)=true then 7 else 0
def dL (l:List (List UInt8)):Int:=if 16<l.length then 5 else dx (sH l) l.length
def aiZ:Spec:=bT (fun l:List (List UInt8)=>[ssA l]) (fun _=>True) (fun l=>iP (dL l))
theorem alc:aL Tryz.prog 89 aiZ:=by
 refine aY (Tb:=tab) mixed aB Tryz.func89 rfl rfl ?_
 rintro (l:List (List UInt8)) hpre
 refine ai (ai rfl (ai rfl rfl)) ?_
 refine ah (p:=16<l.length) (au (by omega)) (fun h0=>?_) (fun h0=>?_)
 ·refine ai (ai (fun _=>trivial) ?_) trivial
  show ak _ (iP (dL l))
  rw[dL,if_pos h0]
  exact rfl
 have hA:dL l=dx (sH l) l.length:=by unfold dL;rw[if_neg h0]
 refine ei (bE.inv { X:=Nat,up:=fun k=>[(11,.s (iA k))],uo:=fun k=>[],inv:=fun k=>k≤l.length∧(∀j,j<k→sH l j=0),meas:=fun k=>l.length-k,x0:=0 }) ?_
 refine ai (ai (ai (by exact (a4 (ai rfl rfl))) (ai (by exact (ai (ai (fun _=>rfl) (iE (by simp only[zz,reduceCtorEq];rfl))) rfl)) (by exact trivial))) rfl) (ai (ai (afc _) ?_) ?_)
 ·exact fun j hj=>absurd hj (alJ _)
 intro (k:Nat) ⟨hk,hall⟩
 refine ah (p:=k<l.length) (au (by omega)) (fun h1=>?_) (fun h1=>?_)
 ·refine ai (ai (abq _) (iN (n:=l.length) (by omega))) (ai rfl ?_)
  refine ei _ (ai (aqh) (ei (l.getD k []) (ei [] (ai (a4 (ai (fun _=>Or.inl rfl) (ai nof (Or.inl rfl)))) (ai (by exact rfl) (ai trivial (ai (trivial) ?_)))))))
  refine bg (p:=dN (l.getD k [])=0) (bK (by omega)) (fun h2=>?_) (fun h2=>?_)
  ·have e:sH l k=dN (l.getD k []):=by unfold sH;rw[if_pos h2]
   refine ai (ai (fun _=>trivial) ?_) trivial
   show ak _ (iP (dL l))
   rw[hA,cB h1 hall (by rw[e];exact h2),e]
   exact rfl
  refine ai (ai (by decide) (ai (abq _) (by show (k:Int)≤(l.length:Int);omega))) (ai (fun _ _=>rfl) ?_)
  have htk:(l.take k).length=k:=by rw[ajz];omega
  refine ei _ (ai (aiN) (ei ((l.take k,l.getD k [])) (ei [] (ai (a4 (ai (fun _=>Or.inl rfl) (ai nof (Or.inl rfl)))) (ai ?_ (ai (by exact trivial) (ai ((by show (l.take k).length≤1000000;omega)) ?_)))))))
  ·refine (ai (ai ?_ ?_) rfl)
   ·show ((k:Int).toNat-(0:Int).toNat)=(l.take k).length
    rw[htk];simp
   ·intro j hj
    have hj:j<(k:Int).toNat-(0:Int).toNat:=hj
    show [sP (l.getD ((0:Int).toNat+j) [])]=_
    rw[show (0:Int).toNat+j=j by simp]
    exact ajB hk j (by simpa using hj)
  refine aX (b:=(l.take k).any (fun y=>l.getD k []==y)) rfl (fun h4=>?_) (fun h4=>?_)
  ·have e:sH l k=7:=by unfold sH;rw[if_neg (fun h=>h h2),if_pos h4]
   refine ai (ai (fun _=>trivial) ?_) trivial
   show ak _ (iP (dL l))
   rw[hA,cB h1 hall (by rw[e];decide),e]
   exact rfl
  refine ei (k+1) (ai (ai rfl rfl) (ai (ai (ai rfl (ai (ai rfl rfl) (ai (ai rfl rfl) (ai (ai (ai (fun _=>rfl) (aP (by omega))) rfl) trivial)))) rfl) (ai (ai (iL (by omega)) ?_) (iM (by omega)))))
  intro j hj
  by_cases hjk:j=k
  ·subst hjk;unfold sH;rw[if_neg (fun h=>h h2),if_neg (by rw[h4];decide)]
  ·exact hall j (by omega)
 ·obtain rfl:k=l.length:=by omega
  refine ai (ai (fun _=>trivial) ?_) trivial
  show ak _ (iP (dL l))
  rw[hA,gD hall]
  exact rfl
theorem ahT {α:Type} {p:α→Bool} {l:List α} {k:Nat} {d:α} (h:k<l.length) (hp:p (l.getD k d)=true):l.any p=true:=
 atj.2 ⟨_,adh (bI d h),hp⟩
theorem ajO:aL Tryz.prog 94 aiZ:=by
 refine aY (Tb:=tab) mixed aB Tryz.func94 rfl rfl ?_
 rintro (l:List (List UInt8)) hpre
 refine ai (ai rfl (ai rfl rfl)) ?_
 refine ah (p:=16<l.length) (au (by omega)) (fun h0=>?_) (fun h0=>?_)
 ·refine ai (ai (fun _=>trivial) ?_) trivial
  show ak _ (iP (dL l))
  rw[dL,if_pos h0]
  exact rfl
 have hA:dL l=dx (sH l) l.length:=by unfold dL;rw[if_neg h0]
 refine ei (bE.inv { X:=Nat,up:=fun k=>[(3,.s (iA k))],uo:=fun k=>[],inv:=fun k=>k≤l.length∧(∀j,j<k→sH l j=0),meas:=fun k=>l.length-k,x0:=0 }) ?_
 refine ai (ai (ai (by exact (a4 (ai rfl rfl))) (ai (by exact (ai (ai (fun _=>rfl) (iE (by simp only[zz,reduceCtorEq];rfl))) rfl)) (by exact trivial))) rfl) (ai (ai (afc _) ?_) ?_)
 ·exact fun j hj=>absurd hj (alJ _)
 intro (k:Nat) ⟨hk,hall⟩
 refine ah (p:=k<l.length) (au (by omega)) (fun h1=>?_) (fun h1=>?_)
 ·refine ai (ai (abq _) (iN (n:=l.length) (by omega))) (ai rfl ?_)
  refine ei _ (ai (anm) (ei (l.getD k []) (ei [] (ai (a4 (ai (fun _=>Or.inl rfl) (ai nof (Or.inl rfl)))) (ai (by exact rfl) (ai trivial (ai (trivial) ?_)))))))
  refine bg (p:=dN (l.getD k [])=0) (bK (by omega)) (fun h2=>?_) (fun h2=>?_)
  ·have e:sH l k=dN (l.getD k []):=by unfold sH;rw[if_pos h2]
   refine ai (ai (fun _=>trivial) ?_) trivial
   show ak _ (iP (dL l))
   rw[hA,cB h1 hall (by rw[e];exact h2),e]
   exact rfl
  have htk:(l.take k).length=k:=by rw[ajz];omega
  refine ei (bE.inv { X:=Nat,up:=fun j=>[(5,.s (iA j))],uo:=fun j=>[],inv:=fun j=>j≤k∧(∀y∈(l.take k).take j,(l.getD k []==y)=false),meas:=fun j=>k-j,x0:=0 }) ?_
  refine ai (ai (ai (by exact (a4 (ai rfl rfl))) (ai (by exact (ai (ai (fun _=>rfl) (iE (by simp only[zz,reduceCtorEq];rfl))) rfl)) (by exact trivial))) rfl) (ai (ai (afc _) ?_) ?_)
  ·exact fun y hy=>absurd hy (by simp)
  intro (j:Nat) ⟨hj,hno⟩
  refine ah (p:=j<k) (au (by omega)) (fun h3=>?_) (fun h3=>?_)
  ·have hjl:j<(l.take k).length:=by omega
   have hg:(l.take k).getD j []=l.getD j []:=by rw[abo,abo,alD,if_pos h3]
   refine ei (.seq [0,1,2,3,4,5,6,7,8]) (ai (by kernel_rfl) ?_)
   refine ai (ai (abq _) (iN (n:=l.length) (by omega))) (ai rfl ?_)
   refine ai (ai (abq _) (iN (n:=l.length) (by omega))) (ai rfl ?_)
   refine ah (p:=l.getD j []=l.getD k []) (by exact beq_iff_eq) (fun h4=>?_) (fun h4=>?_)
   ·have e:sH l k=7:=by unfold sH;rw[if_neg (fun h=>h h2),if_pos (ahT hjl (by rw[hg,h4];exact beq_self_eq_true _))]
    refine ai (ai (fun _=>trivial) ?_) trivial
    show ak _ (iP (dL l))
    rw[hA,cB h1 hall (by rw[e];decide),e]
    exact rfl
   refine ei (j+1) (ai (ai rfl rfl) (ai (ai (ai rfl (ai (ai rfl rfl) (ai (ai rfl rfl) (ai (ai (ai (fun _=>rfl) (aP (by omega))) rfl) trivial)))) rfl) (ai (ai (iL (by omega)) ?_) (iM (by omega)))))
   intro y hy
   rw[aQ [] hjl] at hy
   rcases ahN.1 hy with hy | hy
   ·exact hno y hy
   ·simp only[aiy] at hy;subst hy;rw[hg];exact beq_eq_false_iff_ne.2 fun e=>h4 e.symm
  ·obtain rfl:j=k:=by omega
   have hno:∀y∈l.take j,(l.getD j []==y)=false:=fun y hy=>hno y (by rw[atr (by omega)];exact hy)
   refine ei (j+1) (ai (ai rfl rfl) (ai (ai (ai rfl (ai (ai rfl rfl) (ai (ai rfl rfl) (ai (ai (ai (fun _=>rfl) (aP (by omega))) rfl) trivial)))) rfl) (ai (ai (iL (by omega)) ?_) (iM (by omega)))))
   intro i hi
   by_cases hjk:i=j
   ·subst hjk;unfold sH
    rw[if_neg (fun h=>h h2),if_neg]
    rw[atj]
    rintro ⟨y,hy,e⟩
    rw[hno y hy] at e;cases e
   ·exact hall i (by omega)
 ·obtain rfl:k=l.length:=by omega
  refine ai (ai (fun _=>trivial) ?_) trivial
  show ak _ (iP (dL l))
  rw[hA,gD hall]
  exact rfl
def jm (act:Int) (l:List Sk) (k:Nat):Int:=if (l.getD k bJ).1<0∨act≤(l.getD k bJ).1 then 2 else if 0<k∧(l.getD k bJ).1≤(l.getD (k-1) bJ).1 then 9 else 0
def eU (act:Int) (s:Stp):Int:=if ¬dx (jm act s.st) s.st.length=0 then dx (jm act s.st) s.st.length else if s.wt<0∨1000000<s.wt then 2 else 0
def aox:Spec:=bT (fun a:aJ×Stp=>[jJ a.1,stA a.2]) (fun a=>a.2.st.length≤1000000) (fun a=>iP (eU a.1.act a.2))
theorem step_ok:aL Tryz.prog 90 aox:=by
 refine aY (Tb:=tab) mixed aB Tryz.func90 rfl rfl ?_
 rintro (a:aJ×Stp) hpre
 refine ai (ai rfl (ai rfl rfl)) ?_
 have hl:a.2.st.length≤1000000:=hpre
 refine ei (bE.inv { X:=Nat,up:=fun k=>[(10,.s (iA k))],uo:=fun k=>[],inv:=fun k=>k≤a.2.st.length∧(∀j,j<k→jm a.1.act a.2.st j=0),meas:=fun k=>a.2.st.length-k,x0:=0 }) ?_
 refine ai (ai (ai (by exact (a4 (ai rfl rfl))) (ai (by exact (ai (ai (fun _=>rfl) (iE (by simp only[zz,reduceCtorEq];rfl))) rfl)) (by exact trivial))) rfl) (ai (ai (afc _) ?_) ?_)
 ·exact fun j hj=>absurd hj (alJ _)
 intro (k:Nat) ⟨hk,hall⟩
 refine ah (p:=k<a.2.st.length) (au (by omega)) (fun h1=>?_) (fun h1=>?_)
 ·refine ai (ai (abq _) (iN (n:=a.2.st.length) (by omega))) (ai rfl ?_)
  refine ah (p:=(a.2.st.getD k bJ).1<0) (au Iff.rfl) (fun h2=>?_) (fun h2=>?_)
  ·have e:jm a.1.act a.2.st k=2:=by unfold jm;rw[if_pos (by omega)]
   have e2:dx (jm a.1.act a.2.st) a.2.st.length=2:=(cB h1 hall (by rw[e];decide)).trans e
   refine ai (ai (fun _=>trivial) ?_) trivial
   show ak _ (iP (eU a.1.act a.2))
   rw[eU,if_pos (show ¬dx (jm a.1.act a.2.st) a.2.st.length=0 by rw[e2];decide),e2]
   exact rfl
  refine ah (p:=a.1.act≤(a.2.st.getD k bJ).1) (cu Iff.rfl) (fun h3=>?_) (fun h3=>?_)
  ·have e:jm a.1.act a.2.st k=2:=by unfold jm;rw[if_pos (by omega)]
   have e2:dx (jm a.1.act a.2.st) a.2.st.length=2:=(cB h1 hall (by rw[e];decide)).trans e
   refine ai (ai (fun _=>trivial) ?_) trivial
   show ak _ (iP (eU a.1.act a.2))
   rw[eU,if_pos (show ¬dx (jm a.1.act a.2.st) a.2.st.length=0 by rw[e2];decide),e2]
   exact rfl
  refine ei (.seq [0,1,2,3,4,5,6,7,8,9,10,11,12,13,14]) (ai (by kernel_rfl) ?_)
  refine ah (p:=0<k) (au (by omega)) (fun h4=>?_) (fun h4=>?_)
  ·have hw:IntKind.i64.wrap ((k:Int)-1)=((k-1:Nat):Int):=aj6 h4 (by omega)
   refine ai (ai (by rw[hw];exact abq _) (by rw[hw];show ((k-1:Nat):Int)<(a.2.st.length:Int);omega)) ?_
   refine ai rfl ?_
   refine ah (p:=(a.2.st.getD k bJ).1≤(a.2.st.getD (k-1) bJ).1) (by exact cu (by rw[hw];exact Iff.rfl)) (fun h5=>?_) (fun h5=>?_)
   ·have e:jm a.1.act a.2.st k=9:=by unfold jm;rw[if_neg (by omega),if_pos ⟨h4,h5⟩]
    have e2:dx (jm a.1.act a.2.st) a.2.st.length=9:=(cB h1 hall (by rw[e];decide)).trans e
    refine ai (ai (fun _=>trivial) ?_) trivial
    show ak _ (iP (eU a.1.act a.2))
    rw[eU,if_pos (show ¬dx (jm a.1.act a.2.st) a.2.st.length=0 by rw[e2];decide),e2]
    exact rfl
   ·refine ei (k+1) (ai (ai rfl rfl) (ai (ai (ai rfl (ai (ai rfl rfl) (ai (ai rfl rfl) (ai (ai (ai (fun _=>rfl) (aP (by omega))) rfl) trivial)))) rfl) (ai (ai (iL (by omega)) ?_) (iM (by omega)))))
    intro j hj
    by_cases hjk:j=k
    ·subst hjk;unfold jm;rw[if_neg (by omega),if_neg (fun h=>h5 h.2)]
    ·exact hall j (by omega)
  ·refine ei (k+1) (ai (ai rfl rfl) (ai (ai (ai rfl (ai (ai rfl rfl) (ai (ai rfl rfl) (ai (ai (ai (fun _=>rfl) (aP (by omega))) rfl) trivial)))) rfl) (ai (ai (iL (by omega)) ?_) (iM (by omega)))))
   intro j hj
   by_cases hjk:j=k
   ·subst hjk;unfold jm;rw[if_neg (by omega),if_neg (fun h=>h4 h.1)]
   ·exact hall j (by omega)
 ·obtain rfl:k=a.2.st.length:=by omega
  have e2:dx (jm a.1.act a.2.st) a.2.st.length=0:=gD hall
  have hA:eU a.1.act a.2=if a.2.wt<0∨1000000<a.2.wt then 2 else 0:=by unfold eU;rw[if_neg (fun h=>h e2)]
  refine ah (p:=a.2.wt<0) (au (by omega)) (fun h6=>?_) (fun h6=>?_)
  ·refine ai (ai (fun _=>trivial) ?_) trivial
   show ak _ (iP (eU a.1.act a.2))
   rw[hA,if_pos (.inl h6)]
   exact rfl
  refine ah (p:=1000000<a.2.wt) (au (by omega)) (fun h7=>?_) (fun h7=>?_)
  ·refine ai (ai (fun _=>trivial) ?_) trivial
   show ak _ (iP (eU a.1.act a.2))
   rw[hA,if_pos (.inr h7)]
   exact rfl
  ·refine ai (ai (fun _=>trivial) ?_) trivial
   show ak _ (iP (eU a.1.act a.2))
   rw[hA,if_neg (fun h=>h.elim h6 h7)]
   exact rfl
theorem aos:aL Tryz.prog 95 aox:=by
 refine aY (Tb:=tab) mixed aB Tryz.func95 rfl rfl ?_
 rintro (a:aJ×Stp) hpre
 refine ai (ai rfl (ai rfl rfl)) ?_
 have hl:a.2.st.length≤1000000:=hpre
 refine ei (bE.inv { X:=Nat,up:=fun k=>[(5,.s (iA k))],uo:=fun k=>[],inv:=fun k=>k≤a.2.st.length∧(∀j,j<k→jm a.1.act a.2.st j=0),meas:=fun k=>a.2.st.length-k,x0:=0 }) ?_
 refine ai (ai (ai (by exact (a4 (ai rfl rfl))) (ai (by exact (ai (ai (fun _=>rfl) (iE (by simp only[zz,reduceCtorEq];rfl))) rfl)) (by exact trivial))) rfl) (ai (ai (afc _) ?_) ?_)
 ·exact fun j hj=>absurd hj (alJ _)
 intro (k:Nat) ⟨hk,hall⟩
 refine ah (p:=k<a.2.st.length) (au (by omega)) (fun h1=>?_) (fun h1=>?_)
 ·refine ai (ai (abq _) (iN (n:=a.2.st.length) (by omega))) (ai rfl ?_)
  refine ah (p:=(a.2.st.getD k bJ).1<0) (au Iff.rfl) (fun h2=>?_) (fun h2=>?_)
  ·have e:jm a.1.act a.2.st k=2:=by unfold jm;rw[if_pos (by omega)]
   have e2:dx (jm a.1.act a.2.st) a.2.st.length=2:=(cB h1 hall (by rw[e];decide)).trans e
   refine ai (ai (fun _=>trivial) ?_) trivial
   show ak _ (iP (eU a.1.act a.2))
   rw[eU,if_pos (show ¬dx (jm a.1.act a.2.st) a.2.st.length=0 by rw[e2];decide),e2]
   exact rfl
  refine ah (p:=a.1.act≤(a.2.st.getD k bJ).1) (cu Iff.rfl) (fun h3=>?_) (fun h3=>?_)
  ·have e:jm a.1.act a.2.st k=2:=by unfold jm;rw[if_pos (by omega)]
   have e2:dx (jm a.1.act a.2.st) a.2.st.length=2:=(cB h1 hall (by rw[e];decide)).trans e
   refine ai (ai (fun _=>trivial) ?_) trivial
   show ak _ (iP (eU a.1.act a.2))
   rw[eU,if_pos (show ¬dx (jm a.1.act a.2.st) a.2.st.length=0 by rw[e2];decide),e2]
   exact rfl
  refine ah (p:=0<k) (au (by omega)) (fun h4=>?_) (fun h4=>?_)
  ·have hw:IntKind.i64.wrap ((k:Int)-1)=((k-1:Nat):Int):=aj6 h4 (by omega)
   refine ai (ai (by rw[hw];exact abq _) (by rw[hw];show ((k-1:Nat):Int)<(a.2.st.length:Int);omega)) ?_
   refine ai rfl ?_
   refine ah (p:=(a.2.st.getD k bJ).1≤(a.2.st.getD (k-1) bJ).1) (by exact cu (by rw[hw];exact Iff.rfl)) (fun h5=>?_) (fun h5=>?_)
   ·have e:jm a.1.act a.2.st k=9:=by unfold jm;rw[if_neg (by omega),if_pos ⟨h4,h5⟩]
    have e2:dx (jm a.1.act a.2.st) a.2.st.length=9:=(cB h1 hall (by rw[e];decide)).trans e
    refine ai (ai (fun _=>trivial) ?_) trivial
    show ak _ (iP (eU a.1.act a.2))
    rw[eU,if_pos (show ¬dx (jm a.1.act a.2.st) a.2.st.length=0 by rw[e2];decide),e2]
    exact rfl
   ·refine ei (k+1) (ai (ai rfl rfl) (ai (ai (ai rfl (ai (ai rfl rfl) (ai (ai rfl rfl) (ai (ai (ai (fun _=>rfl) (aP (by omega))) rfl) trivial)))) rfl) (ai (ai (iL (by omega)) ?_) (iM (by omega)))))
    intro j hj
    by_cases hjk:j=k
    ·subst hjk;unfold jm;rw[if_neg (by omega),if_neg (fun h=>h5 h.2)]
    ·exact hall j (by omega)
  ·refine ei (k+1) (ai (ai rfl rfl) (ai (ai (ai rfl (ai (ai rfl rfl) (ai (ai rfl rfl) (ai (ai (ai (fun _=>rfl) (aP (by omega))) rfl) trivial)))) rfl) (ai (ai (iL (by omega)) ?_) (iM (by omega)))))
   intro j hj
   by_cases hjk:j=k
   ·subst hjk;unfold jm;rw[if_neg (by omega),if_neg (fun h=>h4 h.1)]
   ·exact hall j (by omega)
 ·obtain rfl:k=a.2.st.length:=by omega
  have e2:dx (jm a.1.act a.2.st) a.2.st.length=0:=gD hall
  have hA:eU a.1.act a.2=if a.2.wt<0∨1000000<a.2.wt then 2 else 0:=by unfold eU;rw[if_neg (fun h=>h e2)]
  refine ah (p:=a.2.wt<0) (au (by omega)) (fun h6=>?_) (fun h6=>?_)
  ·refine ai (ai (fun _=>trivial) ?_) trivial
   show ak _ (iP (eU a.1.act a.2))
   rw[hA,if_pos (.inl h6)]
   exact rfl
  refine ah (p:=1000000<a.2.wt) (au (by omega)) (fun h7=>?_) (fun h7=>?_)
  ·refine ai (ai (fun _=>trivial) ?_) trivial
   show ak _ (iP (eU a.1.act a.2))
   rw[hA,if_pos (.inr h7)]
   exact rfl
  ·refine ai (ai (fun _=>trivial) ?_) trivial
   show ak _ (iP (eU a.1.act a.2))
   rw[hA,if_neg (fun h=>h.elim h6 h7)]
   exact rfl
def mH (n:Nat) (l:List Int) (k:Nat):Int:=if l.getD k 0<0∨(n:Int)≤l.getD k 0 then 2 else if 0<k∧l.getD k 0≤l.getD (k-1) 0 then 9 else 0
def eX (n:Nat) (l:List Int):Int:=if l.length=0 then 13 else dx (mH n l) l.length
def aqJ:Spec:=bT (fun a:aJ×List Int=>[jJ a.1,isA a.2]) (fun a=>a.2.length≤1000000) (fun a=>iP (eX a.1.sts.length a.2))
theorem aeD:aL Tryz.prog 148 aqJ:=by
 refine aY (Tb:=tab) mixed aB Tryz.func148 rfl rfl ?_
 rintro (a:aJ×List Int) hpre
 refine ai (ai rfl (ai rfl rfl)) ?_
 have hl:a.2.length≤1000000:=hpre
 refine ah (p:=a.2.length=0) (gB (by omega)) (fun h0=>?_) (fun h0=>?_)
 ·refine ai (ai (fun _=>trivial) ?_) trivial
  show ak _ (iP (eX a.1.sts.length a.2))
  rw[eX,if_pos h0]
  exact rfl
 have hA:eX a.1.sts.length a.2=dx (mH a.1.sts.length a.2) a.2.length:=by unfold eX;rw[if_neg h0]
 refine ei (bE.inv { X:=Nat,up:=fun k=>[(12,.s (iA k))],uo:=fun k=>[],inv:=fun k=>k≤a.2.length∧(∀j,j<k→mH a.1.sts.length a.2 j=0),meas:=fun k=>a.2.length-k,x0:=0 }) ?_
 refine ai (ai (ai (by exact (a4 (ai rfl rfl))) (ai (by exact (ai (ai (fun _=>rfl) (iE (by simp only[zz,reduceCtorEq];rfl))) rfl)) (by exact trivial))) rfl) (ai (ai (afc _) ?_) ?_)
 ·exact fun j hj=>absurd hj (alJ _)
 intro (k:Nat) ⟨hk,hall⟩
 refine ah (p:=k<a.2.length) (au (by omega)) (fun h1=>?_) (fun h1=>?_)
 ·skip
  refine ai (ai (abq _) (iN (n:=a.2.length) (by omega))) (ai rfl ?_)
  refine ah (p:=a.2.getD k 0<0) (au Iff.rfl) (fun h2=>?_) (fun h2=>?_)
  ·have e:mH a.1.sts.length a.2 k=2:=by unfold mH;rw[if_pos (by omega)]
   refine ai (ai (fun _=>trivial) ?_) trivial
   show ak _ (iP (eX a.1.sts.length a.2))
   rw[hA,cB h1 hall (by rw[e];decide),e]
   exact rfl
  skip
  refine ah (p:=(a.1.sts.length:Int)≤a.2.getD k 0) (cu Iff.rfl) (fun h3=>?_) (fun h3=>?_)
  ·have e:mH a.1.sts.length a.2 k=2:=by unfold mH;rw[if_pos (by omega)]
   refine ai (ai (fun _=>trivial) ?_) trivial
   show ak _ (iP (eX a.1.sts.length a.2))
   rw[hA,cB h1 hall (by rw[e];decide),e]
   exact rfl
  skip
  refine ah (p:=0<k) (au (by omega)) (fun h4=>?_) (fun h4=>?_)
  ·have hw:IntKind.i64.wrap ((k:Int)-1)=((k-1:Nat):Int):=aj6 h4 (by omega)
   skip
   refine ai (ai (by rw[hw];exact abq _) (by rw[hw];show ((k-1:Nat):Int)<(a.2.length:Int);omega)) ?_
   refine ai rfl ?_
   refine ah (p:=a.2.getD k 0≤a.2.getD (k-1) 0) (by exact cu (by rw[hw];exact Iff.rfl)) (fun h5=>?_) (fun h5=>?_)
   ·have e:mH a.1.sts.length a.2 k=9:=by unfold mH;rw[if_neg (by omega),if_pos ⟨h4,h5⟩]
    refine ai (ai (fun _=>trivial) ?_) trivial
    show ak _ (iP (eX a.1.sts.length a.2))
    rw[hA,cB h1 hall (by rw[e];decide),e]
    exact rfl
   ·refine ei (k+1) (ai (ai rfl rfl) (ai (ai (ai rfl (ai (ai rfl rfl) (ai (ai rfl rfl) (ai (ai (ai (fun _=>rfl) (aP (by omega))) rfl) trivial)))) rfl) (ai (ai (iL (by omega)) ?_) (iM (by omega)))))
    intro j hj
    by_cases hjk:j=k
    ·subst hjk;unfold mH;rw[if_neg (by omega),if_neg (fun h=>h5 h.2)]
    ·exact hall j (by omega)
  ·refine ei (k+1) (ai (ai rfl rfl) (ai (ai (ai rfl (ai (ai rfl rfl) (ai (ai rfl rfl) (ai (ai (ai (fun _=>rfl) (aP (by omega))) rfl) trivial)))) rfl) (ai (ai (iL (by omega)) ?_) (iM (by omega)))))
   intro j hj
   by_cases hjk:j=k
   ·subst hjk;unfold mH;rw[if_neg (by omega),if_neg (fun h=>h4 h.1)]
   ·exact hall j (by omega)
 ·obtain rfl:k=a.2.length:=by omega
  refine ai (ai (fun _=>trivial) ?_) trivial
  show ak _ (iP (eX a.1.sts.length a.2))
  rw[hA,gD hall]
  exact rfl
end Go.Sx.Pe
