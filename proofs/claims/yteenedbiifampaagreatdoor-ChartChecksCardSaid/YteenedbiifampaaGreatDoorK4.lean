/- ChartChecks, part 4 of its proof: declarations that the last part uses. -/
import Derived.Test.YteenedbiifampaaGreatDoorK3
set_option maxHeartbeats 1000000
set_option maxRecDepth 4000
set_option linter.unusedSimpArgs false
set_option linter.unusedVariables false
set_option linter.unusedSectionVars false
namespace Go.Sx.Pn
open Go Go.Proofs Go.Sx
def tab:Tab:=[(1,⟨.other,1,8,[.nilFunc]⟩),(2,⟨.int .i64,1,8,[.int .i64 0]⟩),(3,⟨.int .i64,1,8,[.int .i64 0]⟩),(4,⟨.bool,1,1,[.bool false]⟩),(5,⟨.int .u8,1,1,[.int .u8 0]⟩),(6,⟨.int .u8,1,1,[.int .u8 0]⟩),(7,⟨.struct [(0,2),(1,3),(2,4),(3,6)],4,24,[.int .i64 0,.int .i64 0,.bool false,.int .u8 0]⟩),(8,⟨.struct [(0,2),(1,3),(2,4),(3,6)],4,24,[.int .i64 0,.int .i64 0,.bool false,.int .u8 0]⟩),(9,⟨.string,1,16,[.string ByteArray.empty]⟩),(10,⟨.string,1,16,[.string ByteArray.empty]⟩),(11,⟨.string,1,16,[.string ByteArray.empty]⟩),(12,⟨.int .u64,1,8,[.int .u64 0]⟩),(15,⟨.other,1,8,[.pointer none]⟩),(16,⟨.other,1,8,[.pointer none]⟩),(17,⟨.other,1,8,[.pointer none]⟩),(20,⟨.other,1,16,[.nilIface]⟩),(21,⟨.int .i32,1,4,[.int .i32 0]⟩),(22,⟨.slice 9,1,24,[.slice none 0 0]⟩),(23,⟨.slice 108,1,24,[.slice none 0 0]⟩),(24,⟨.slice 81,1,24,[.slice none 0 0]⟩),(25,⟨.struct [(0,3),(1,22),(2,23),(3,24)],4,80,[.int .i64 0,.slice none 0 0,.slice none 0 0,.slice none 0 0]⟩),(26,⟨.struct [(0,3),(1,22),(2,23),(3,24)],4,80,[.int .i64 0,.slice none 0 0,.slice none 0 0,.slice none 0 0]⟩),(27,⟨.other,1,8,[.nilFunc]⟩),(28,⟨.other,1,8,[.nilFunc]⟩),(29,⟨.slice 3,1,24,[.slice none 0 0]⟩),(30,⟨.int .i64,1,8,[.int .i64 0]⟩),(32,⟨.other,1,8,[.nilFunc]⟩),(33,⟨.slice 89,1,24,[.slice none 0 0]⟩),(34,⟨.slice 123,1,24,[.slice none 0 0]⟩),(35,⟨.struct [(0,3),(1,22),(2,33),(3,34)],4,80,[.int .i64 0,.slice none 0 0,.slice none 0 0,.slice none 0 0]⟩),(36,⟨.struct [(0,3),(1,22),(2,33),(3,34)],4,80,[.int .i64 0,.slice none 0 0,.slice none 0 0,.slice none 0 0]⟩),(37,⟨.other,1,8,[.nilFunc]⟩),(39,⟨.other,1,8,[.nilFunc]⟩),(40,⟨.other,1,8,[.nilFunc]⟩),(41,⟨.slice 95,1,24,[.slice none 0 0]⟩),(43,⟨.struct [(0,3),(1,41)],2,32,[.int .i64 0,.slice none 0 0]⟩),(46,⟨.other,1,8,[.nilFunc]⟩),(48,⟨.other,1,8,[.nilFunc]⟩),(49,⟨.other,1,8,[.nilFunc]⟩),(50,⟨.other,1,8,[.nilFunc]⟩),(52,⟨.other,1,8,[.nilFunc]⟩),(54,⟨.other,1,8,[.nilFunc]⟩),(56,⟨.other,1,8,[.nilFunc]⟩),(58,⟨.other,1,8,[.nilFunc]⟩),(59,⟨.other,1,8,[.nilFunc]⟩),(60,⟨.other,1,8,[.nilFunc]⟩),(61,⟨.other,1,8,[.nilFunc]⟩),(62,⟨.slice 72,1,24,[.slice none 0 0]⟩),(64,⟨.other,1,8,[.nilFunc]⟩),(66,⟨.other,1,8,[.nilFunc]⟩),(68,⟨.other,1,8,[.nilFunc]⟩),(70,⟨.other,1,8,[.nilFunc]⟩),(71,⟨.other,1,8,[.nilFunc]⟩),(72,⟨.slice 4,1,24,[.slice none 0 0]⟩),(75,⟨.other,1,8,[.nilFunc]⟩),(76,⟨.map 3 4,1,8,[.map none]⟩),(77,⟨.slice 79,1,24,[.slice none 0 0]⟩),(78,⟨.struct [(0,3),(1,3),(2,77)],3,40,[.int .i64 0,.int .i64 0,.slice none 0 0]⟩),(79,⟨.struct [(0,3),(1,3),(2,77)],3,40,[.int .i64 0,.int .i64 0,.slice none 0 0]⟩),(80,⟨.struct [(0,29),(1,29),(2,79)],5,88,[.slice none 0 0,.slice none 0 0,.int .i64 0,.int .i64 0,.slice none 0 0]⟩),(81,⟨.struct [(0,29),(1,29),(2,79)],5,88,[.slice none 0 0,.slice none 0 0,.int .i64 0,.int .i64 0,.slice none 0 0]⟩),(82,⟨.other,1,8,[.nilFunc]⟩),(83,⟨.other,1,8,[.nilFunc]⟩),(84,⟨.other,1,8,[.nilFunc]⟩),(85,⟨.other,1,8,[.nilFunc]⟩),(86,⟨.other,1,8,[.nilFunc]⟩),(87,⟨.slice 94,1,24,[.slice none 0 0]⟩),(88,⟨.struct [(0,87),(1,3)],2,32,[.slice none 0 0,.int .i64 0]⟩),(89,⟨.struct [(0,87),(1,3)],2,32,[.slice none 0 0,.int .i64 0]⟩),(91,⟨.other,1,8,[.nilFunc]⟩),(92,⟨.other,1,8,[.nilFunc]⟩),(93,⟨.struct [(0,3),(1,4)],2,16,[.int .i64 0,.bool false]⟩),(94,⟨.struct [(0,3),(1,4)],2,16,[.int .i64 0,.bool false]⟩),(95,⟨.struct [(0,87),(1,3)],2,32,[.slice none 0 0,.int .i64 0]⟩),(96,⟨.other,1,8,[.nilFunc]⟩),(97,⟨.other,1,8,[.nilFunc]⟩),(99,⟨.other,1,8,[.nilFunc]⟩),(100,⟨.map 3 3,1,8,[.map none]⟩),(102,⟨.other,1,8,[.nilFunc]⟩),(107,⟨.other,1,8,[.nilFunc]⟩),(108,⟨.struct [(0,87),(1,3)],2,32,[.slice none 0 0,.int .i64 0]⟩),(109,⟨.other,1,8,[.nilFunc]⟩),(110,⟨.other,1,8,[.nilFunc]⟩),(112,⟨.slice 117,1,24,[.slice none 0 0]⟩),(113,⟨.slice 29,1,24,[.slice none 0 0]⟩),(115,⟨.other,1,8,[.nilFunc]⟩),(116,⟨.array 24 4,24,24,[.bool false,.bool false,.bool false,.bool false,.bool false,.bool false,.bool false,.bool false,.bool false,.bool false,.bool false,.bool false,.bool false,.bool false,.bool false,.bool false,.bool false,.bool false,.bool false,.bool false,.bool false,.bool false,.bool false,.bool false]⟩),(117,⟨.array 24 4,24,24,[.bool false,.bool false,.bool false,.bool false,.bool false,.bool false,.bool false,.bool false,.bool false,.bool false,.bool false,.bool false,.bool false,.bool false,.bool false,.bool false,.bool false,.bool false,.bool false,.bool false,.bool false,.bool false,.bool false,.bool false]⟩),(120,⟨.other,1,8,[.nilFunc]⟩),(121,⟨.other,1,8,[.nilFunc]⟩),(122,⟨.other,1,8,[.nilFunc]⟩),(123,⟨.struct [(0,29),(1,29),(2,79)],5,88,[.slice none 0 0,.slice none 0 0,.int .i64 0,.int .i64 0,.slice none 0 0]⟩),(124,⟨.slice 129,1,24,[.slice none 0 0]⟩),(126,⟨.other,1,8,[.nilFunc]⟩),(127,⟨.other,1,8,[.nilFunc]⟩),(128,⟨.struct [(0,72),(1,29)],2,48,[.slice none 0 0,.slice none 0 0]⟩),(129,⟨.struct [(0,72),(1,29)],2,48,[.slice none 0 0,.slice none 0 0]⟩),(130,⟨.other,1,8,[.nilFunc]⟩),(131,⟨.other,1,8,[.nilFunc]⟩),(132,⟨.other,1,8,[.nilFunc]⟩),(133,⟨.other,1,8,[.nilFunc]⟩),(135,⟨.other,1,8,[.nilFunc]⟩),(136,⟨.other,1,8,[.nilFunc]⟩),(137,⟨.other,1,8,[.nilFunc]⟩),(138,⟨.other,1,8,[.nilFunc]⟩),(139,⟨.other,1,8,[.nilFunc]⟩),(140,⟨.other,1,8,[.pointer none]⟩),(141,⟨.slice 5,1,24,[.slice none 0 0]⟩),(142,⟨.struct [(0,140),(1,141)],2,32,[.pointer none,.slice none 0 0]⟩),(143,⟨.struct [(0,140),(1,141)],2,32,[.pointer none,.slice none 0 0]⟩),(144,⟨.other,1,16,[.nilIface]⟩),(145,⟨.other,1,16,[.nilIface]⟩),(147,⟨.other,1,8,[.nilFunc]⟩),(148,⟨.other,1,8,[.nilFunc]⟩),(149,⟨.other,1,8,[.nilFunc]⟩),(150,⟨.other,1,8,[.nilFunc]⟩),(151,⟨.other,1,8,[.nilFunc]⟩),(152,⟨.other,1,8,[.nilFunc]⟩),(153,⟨.other,1,8,[.nilFunc]⟩),(154,⟨.string,1,16,[.string ByteArray.empty]⟩),(156,⟨.other,1,8,[.nilFunc]⟩),(159,⟨.other,1,8,[.nilFunc]⟩),(160,⟨.other,1,8,[.nilFunc]⟩),(161,⟨.other,1,8,[.nilFunc]⟩),(163,⟨.other,1,8,[.nilFunc]⟩),(164,⟨.other,1,8,[.nilFunc]⟩),(165,⟨.other,1,8,[.nilFunc]⟩),(166,⟨.other,1,8,[.nilFunc]⟩),(167,⟨.other,1,8,[.nilFunc]⟩),(168,⟨.other,1,8,[.nilFunc]⟩),(169,⟨.other,1,8,[.nilFunc]⟩),(170,⟨.other,1,8,[.nilFunc]⟩),(171,⟨.other,1,8,[.nilFunc]⟩),(172,⟨.other,1,8,[.nilFunc]⟩),(173,⟨.other,1,8,[.nilFunc]⟩),(174,⟨.other,1,8,[.nilFunc]⟩),(177,⟨.other,1,8,[.nilFunc]⟩),(178,⟨.other,1,8,[.nilFunc]⟩),(179,⟨.other,1,8,[.nilFunc]⟩),(180,⟨.other,1,8,[.nilFunc]⟩),(181,⟨.other,1,8,[.nilFunc]⟩),(182,⟨.other,1,8,[.nilFunc]⟩),(183,⟨.other,1,8,[.nilFunc]⟩),(184,⟨.other,1,8,[.nilFunc]⟩),(185,⟨.other,1,8,[.nilFunc]⟩),(186,⟨.other,1,8,[.nilFunc]⟩),(187,⟨.other,1,8,[.nilFunc]⟩),(188,⟨.other,1,8,[.nilFunc]⟩),(189,⟨.other,1,8,[.nilFunc]⟩),(190,⟨.other,1,8,[.nilFunc]⟩),(191,⟨.other,1,8,[.nilFunc]⟩),(192,⟨.other,1,8,[.nilFunc]⟩),(193,⟨.array 6 4,6,6,[.bool false,.bool false,.bool false,.bool false,.bool false,.bool false]⟩),(194,⟨.array 6 4,6,6,[.bool false,.bool false,.bool false,.bool false,.bool false,.bool false]⟩),(197,⟨.other,1,8,[.nilFunc]⟩),(198,⟨.other,1,8,[.nilFunc]⟩),(199,⟨.other,1,8,[.nilFunc]⟩),(200,⟨.other,1,8,[.pointer none]⟩),(201,⟨.struct [(0,143),(2,22)],3,56,[.pointer none,.slice none 0 0,.slice none 0 0]⟩),(202,⟨.struct [(0,143),(2,22)],3,56,[.pointer none,.slice none 0 0,.slice none 0 0]⟩),(203,⟨.other,1,8,[.nilFunc]⟩),(204,⟨.other,1,8,[.nilFunc]⟩),(205,⟨.other,1,8,[.nilFunc]⟩),(206,⟨.other,1,8,[.pointer none]⟩),(208,⟨.other,1,8,[.nilFunc]⟩),(209,⟨.other,1,8,[.nilFunc]⟩),(210,⟨.other,1,8,[.nilFunc]⟩),(211,⟨.other,1,8,[.nilFunc]⟩),(212,⟨.other,1,8,[.nilFunc]⟩),(213,⟨.other,1,8,[.nilFunc]⟩),(214,⟨.int .u64,1,8,[.int .u64 0]⟩),(216,⟨.other,1,8,[.nilFunc]⟩),(217,⟨.other,1,8,[.nilFunc]⟩),(218,⟨.other,1,8,[.nilFunc]⟩),(219,⟨.other,1,8,[.nilFunc]⟩),(220,⟨.other,1,8,[.nilFunc]⟩),(222,⟨.other,1,8,[.nilFunc]⟩),(223,⟨.map 117 4,1,8,[.map none]⟩),(224,⟨.other,1,8,[.nilFunc]⟩),(225,⟨.other,1,8,[.nilFunc]⟩),(226,⟨.other,1,8,[.pointer none]⟩),(227,⟨.other,1,8,[.nilFunc]⟩),(228,⟨.other,1,8,[.nilFunc]⟩),(229,⟨.other,1,8,[.nilFunc]⟩),(232,⟨.other,1,8,[.nilFunc]⟩),(233,⟨.other,1,8,[.nilFunc]⟩),(234,⟨.other,1,8,[.nilFunc]⟩),(237,⟨.slice 3,1,24,[.slice none 0 0]⟩),(238,⟨.other,1,8,[.nilFunc]⟩),(239,⟨.other,1,8,[.nilFunc]⟩),(240,⟨.other,1,8,[.nilFunc]⟩),(241,⟨.other,1,8,[.nilFunc]⟩),(243,⟨.int .i64,1,8,[.int .i64 0]⟩),(245,⟨.other,1,8,[.nilFunc]⟩),(246,⟨.other,1,8,[.nilFunc]⟩),(250,⟨.int .u32,1,4,[.int .u32 0]⟩),(252,⟨.int .u64,1,8,[.int .u64 0]⟩),(253,⟨.array 24 5,24,24,[.int .u8 0,.int .u8 0,.int .u8 0,.int .u8 0,.int .u8 0,.int .u8 0,.int .u8 0,.int .u8 0,.int .u8 0,.int .u8 0,.int .u8 0,.int .u8 0,.int .u8 0,.int .u8 0,.int .u8 0,.int .u8 0,.int .u8 0,.int .u8 0,.int .u8 0,.int .u8 0,.int .u8 0,.int .u8 0,.int .u8 0,.int .u8 0]⟩),(256,⟨.other,1,8,[.nilFunc]⟩),(257,⟨.other,1,8,[.nilFunc]⟩),(258,⟨.other,1,8,[.nilFunc]⟩),(260,⟨.struct [(0,3),(1,3),(2,258)],3,24,[.int .i64 0,.int .i64 0,.nilFunc]⟩),(261,⟨.array 5 260,15,120,[.int .i64 0,.int .i64 0,.nilFunc,.int .i64 0,.int .i64 0,.nilFunc,.int .i64 0,.int .i64 0,.nilFunc,.int .i64 0,.int .i64 0,.nilFunc,.int .i64 0,.int .i64 0,.nilFunc]⟩),(265,⟨.int .u64,1,8,[.int .u64 0]⟩),(266,⟨.other,1,8,[.nilFunc]⟩),(267,⟨.other,1,8,[.nilFunc]⟩),(269,⟨.other,1,8,[.pointer none]⟩),(275,⟨.array 20 252,20,160,[.int .u64 0,.int .u64 0,.int .u64 0,.int .u64 0,.int .u64 0,.int .u64 0,.int .u64 0,.int .u64 0,.int .u64 0,.int .u64 0,.int .u64 0,.int .u64 0,.int .u64 0,.int .u64 0,.int .u64 0,.int .u64 0,.int .u64 0,.int .u64 0,.int .u64 0,.int .u64 0]⟩),(276,⟨.array 65 5,65,65,[.int .u8 0,.int .u8 0,.int .u8 0,.int .u8 0,.int .u8 0,.int .u8 0,.int .u8 0,.int .u8 0,.int .u8 0,.int .u8 0,.int .u8 0,.int .u8 0,.int .u8 0,.int .u8 0,.int .u8 0,.int .u8 0,.int .u8 0,.int .u8 0,.int .u8 0,.int .u8 0,.int .u8 0,.int .u8 0,.int .u8 0,.int .u8 0,.int .u8 0,.int .u8 0,.int .u8 0,.int .u8 0,.int .u8 0,.int .u8 0,.int .u8 0,.int .u8 0,.int .u8 0,.int .u8 0,.int .u8 0,.int .u8 0,.int .u8 0,.int .u8 0,.int .u8 0,.int .u8 0,.int .u8 0,.int .u8 0,.int .u8 0,.int .u8 0,.int .u8 0,.int .u8 0,.int .u8 0,.int .u8 0,.int .u8 0,.int .u8 0,.int .u8 0,.int .u8 0,.int .u8 0,.int .u8 0,.int .u8 0,.int .u8 0,.int .u8 0,.int .u8 0,.int .u8 0,.int .u8 0,.int .u8 0,.int .u8 0,.int .u8 0,.int .u8 0,.int .u8 0]⟩),(277,⟨.other,1,8,[.nilFunc]⟩),(282,⟨.other,1,8,[.pointer none]⟩),(284,⟨.other,1,8,[.nilFunc]⟩),(285,⟨.other,1,8,[.nilFunc]⟩),(286,⟨.array 256 4,256,256,(List.replicate 256 (.bool false))⟩),(287,⟨.array 256 4,256,256,(List.replicate 256 (.bool false))⟩),(291,⟨.other,1,8,[.pointer none]⟩),(292,⟨.array 32 5,32,32,[.int .u8 0,.int .u8 0,.int .u8 0,.int .u8 0,.int .u8 0,.int .u8 0,.int .u8 0,.int .u8 0,.int .u8 0,.int .u8 0,.int .u8 0,.int .u8 0,.int .u8 0,.int .u8 0,.int .u8 0,.int .u8 0,.int .u8 0,.int .u8 0,.int .u8 0,.int .u8 0,.int .u8 0,.int .u8 0,.int .u8 0,.int .u8 0,.int .u8 0,.int .u8 0,.int .u8 0,.int .u8 0,.int .u8 0,.int .u8 0,.int .u8 0,.int .u8 0]⟩),(293,⟨.array 64 5,64,64,[.int .u8 0,.int .u8 0,.int .u8 0,.int .u8 0,.int .u8 0,.int .u8 0,.int .u8 0,.int .u8 0,.int .u8 0,.int .u8 0,.int .u8 0,.int .u8 0,.int .u8 0,.int .u8 0,.int .u8 0,.int .u8 0,.int .u8 0,.int .u8 0,.int .u8 0,.int .u8 0,.int .u8 0,.int .u8 0,.int .u8 0,.int .u8 0,.int .u8 0,.int .u8 0,.int .u8 0,.int .u8 0,.int .u8 0,.int .u8 0,.int .u8 0,.int .u8 0,.int .u8 0,.int .u8 0,.int .u8 0,.int .u8 0,.int .u8 0,.int .u8 0,.int .u8 0,.int .u8 0,.int .u8 0,.int .u8 0,.int .u8 0,.int .u8 0,.int .u8 0,.int .u8 0,.int .u8 0,.int .u8 0,.int .u8 0,.int .u8 0,.int .u8 0,.int .u8 0,.int .u8 0,.int .u8 0,.int .u8 0,.int .u8 0,.int .u8 0,.int .u8 0,.int .u8 0,.int .u8 0,.int .u8 0,.int .u8 0,.int .u8 0,.int .u8 0]⟩),(314,⟨.int .i32,1,4,[.int .i32 0]⟩)]
theorem ay:tab.Ok Tryz.prog:=
  Tab.aj (TI.mk' (z:=(.nilFunc)) (TD.av (by kernel_rfl)) (by kernel_rfl) rfl rfl rfl)<|Tab.aj (TI.mk' (z:=(.int .i64 0)) (show Tryz.prog.underlying 2=some (.int .i64) by kernel_rfl) (by kernel_rfl) rfl rfl rfl)<|Tab.aj (TI.mk' (z:=(.int .i64 0)) (show Tryz.prog.underlying 3=some (.int .i64) by kernel_rfl) (by kernel_rfl) rfl rfl rfl)<|Tab.aj (TI.mk' (z:=(.bool false)) (show Tryz.prog.underlying 4=some (.bool) by kernel_rfl) (by kernel_rfl) rfl rfl rfl)<|Tab.aj (TI.mk' (z:=(.int .u8 0)) (show Tryz.prog.underlying 5=some (.int .u8) by kernel_rfl) (by kernel_rfl) rfl rfl rfl)<|Tab.aj (TI.mk' (z:=(.int .u8 0)) (show Tryz.prog.underlying 6=some (.int .u8) by kernel_rfl) (by kernel_rfl) rfl rfl rfl)<|Tab.aj (TI.mk' (z:=(.agg #[.int .i64 0,.int .i64 0,.bool false,.int .u8 0])) (TD.mkStruct (l:=[(0,2),(1,3),(2,4),(3,6)]) (by kernel_rfl) (by kernel_rfl) (by kernel_rfl)) (by kernel_rfl) rfl rfl rfl)<|Tab.aj (TI.mk' (z:=(.agg #[.int .i64 0,.int .i64 0,.bool false,.int .u8 0])) (TD.mkStruct (l:=[(0,2),(1,3),(2,4),(3,6)]) (by kernel_rfl) (by kernel_rfl) (by kernel_rfl)) (by kernel_rfl) rfl rfl rfl)<|Tab.aj (TI.mk' (z:=(.string ByteArray.empty)) (show Tryz.prog.underlying 9=some (.string) by kernel_rfl) (by kernel_rfl) rfl rfl rfl)<|Tab.aj (TI.mk' (z:=(.string ByteArray.empty)) (show Tryz.prog.underlying 10=some (.string) by kernel_rfl) (by kernel_rfl) rfl rfl rfl)<|Tab.aj (TI.mk' (z:=(.string ByteArray.empty)) (show Tryz.prog.underlying 11=some (.string) by kernel_rfl) (by kernel_rfl) rfl rfl rfl)<|Tab.aj (TI.mk' (z:=(.int .u64 0)) (show Tryz.prog.underlying 12=some (.int .u64) by kernel_rfl) (by kernel_rfl) rfl rfl rfl)<|Tab.aj (TI.mk' (z:=(.pointer none)) (TD.av (by kernel_rfl)) (by kernel_rfl) rfl rfl rfl)<|Tab.aj (TI.mk' (z:=(.pointer none)) (TD.av (by kernel_rfl)) (by kernel_rfl) rfl rfl rfl)<|Tab.aj (TI.mk' (z:=(.pointer none)) (TD.av (by kernel_rfl)) (by kernel_rfl) rfl rfl rfl)<|Tab.aj (TI.mk' (z:=(.nilIface)) (TD.av (by kernel_rfl)) (by kernel_rfl) rfl rfl rfl)<|Tab.aj (TI.mk' (z:=(.int .i32 0)) (show Tryz.prog.underlying 21=some (.int .i32) by kernel_rfl) (by kernel_rfl) rfl rfl rfl)<|Tab.aj (TI.mk' (z:=(.slice none 0 0)) (show Tryz.prog.underlying 22=some (.slice 9) by kernel_rfl) (by kernel_rfl) rfl rfl rfl)<|Tab.aj (TI.mk' (z:=(.slice none 0 0)) (show Tryz.prog.underlying 23=some (.slice 108) by kernel_rfl) (by kernel_rfl) rfl rfl rfl)<|Tab.aj (TI.mk' (z:=(.slice none 0 0)) (show Tryz.prog.underlying 24=some (.slice 81) by kernel_rfl) (by kernel_rfl) rfl rfl rfl)<|Tab.aj (TI.mk' (z:=(.agg #[.int .i64 0,.slice none 0 0,.slice none 0 0,.slice none 0 0])) (TD.mkStruct (l:=[(0,3),(1,22),(2,23),(3,24)]) (by kernel_rfl) (by kernel_rfl) (by kernel_rfl)) (by kernel_rfl) rfl rfl rfl)<|Tab.aj (TI.mk' (z:=(.agg #[.int .i64 0,.slice none 0 0,.slice none 0 0,.slice none 0 0])) (TD.mkStruct (l:=[(0,3),(1,22),(2,23),(3,24)]) (by kernel_rfl) (by kernel_rfl) (by kernel_rfl)) (by kernel_rfl) rfl rfl rfl)<|Tab.aj (TI.mk' (z:=(.nilFunc)) (TD.av (by kernel_rfl)) (by kernel_rfl) rfl rfl rfl)<|Tab.aj (TI.mk' (z:=(.nilFunc)) (TD.av (by kernel_rfl)) (by kernel_rfl) rfl rfl rfl)<|Tab.aj (TI.mk' (z:=(.slice none 0 0)) (show Tryz.prog.underlying 29=some (.slice 3) by kernel_rfl) (by kernel_rfl) rfl rfl rfl)<|Tab.aj (TI.mk' (z:=(.int .i64 0)) (show Tryz.prog.underlying 30=some (.int .i64) by kernel_rfl) (by kernel_rfl) rfl rfl rfl)<|Tab.aj (TI.mk' (z:=(.nilFunc)) (TD.av (by kernel_rfl)) (by kernel_rfl) rfl rfl rfl)<|Tab.aj (TI.mk' (z:=(.slice none 0 0)) (show Tryz.prog.underlying 33=some (.slice 89) by kernel_rfl) (by kernel_rfl) rfl rfl rfl)<|Tab.aj (TI.mk' (z:=(.slice none 0 0)) (show Tryz.prog.underlying 34=some (.slice 123) by kernel_rfl) (by kernel_rfl) rfl rfl rfl)<|Tab.aj (TI.mk' (z:=(.agg #[.int .i64 0,.slice none 0 0,.slice none 0 0,.slice none 0 0])) (TD.mkStruct (l:=[(0,3),(1,22),(2,33),(3,34)]) (by kernel_rfl) (by kernel_rfl) (by kernel_rfl)) (by kernel_rfl) rfl rfl rfl)<|Tab.aj (TI.mk' (z:=(.agg #[.int .i64 0,.slice none 0 0,.slice none 0 0,.slice none 0 0])) (TD.mkStruct (l:=[(0,3),(1,22),(2,33),(3,34)]) (by kernel_rfl) (by kernel_rfl) (by kernel_rfl)) (by kernel_rfl) rfl rfl rfl)<|Tab.aj (TI.mk' (z:=(.nilFunc)) (TD.av (by kernel_rfl)) (by kernel_rfl) rfl rfl rfl)<|Tab.aj (TI.mk' (z:=(.nilFunc)) (TD.av (by kernel_rfl)) (by kernel_rfl) rfl rfl rfl)<|Tab.aj (TI.mk' (z:=(.nilFunc)) (TD.av (by kernel_rfl)) (by kernel_rfl) rfl rfl rfl)<|Tab.aj (TI.mk' (z:=(.slice none 0 0)) (show Tryz.prog.underlying 41=some (.slice 95) by kernel_rfl) (by kernel_rfl) rfl rfl rfl)<|Tab.aj (TI.mk' (z:=(.agg #[.int .i64 0,.slice none 0 0])) (TD.mkStruct (l:=[(0,3),(1,41)]) (by kernel_rfl) (by kernel_rfl) (by kernel_rfl)) (by kernel_rfl) rfl rfl rfl)<|Tab.aj (TI.mk' (z:=(.nilFunc)) (TD.av (by kernel_rfl)) (by kernel_rfl) rfl rfl rfl)<|Tab.aj (TI.mk' (z:=(.nilFunc)) (TD.av (by kernel_rfl)) (by kernel_rfl) rfl rfl rfl)<|Tab.aj (TI.mk' (z:=(.nilFunc)) (TD.av (by kernel_rfl)) (by kernel_rfl) rfl rfl rfl)<|Tab.aj (TI.mk' (z:=(.nilFunc)) (TD.av (by kernel_rfl)) (by kernel_rfl) rfl rfl rfl)<|Tab.aj (TI.mk' (z:=(.nilFunc)) (TD.av (by kernel_rfl)) (by kernel_rfl) rfl rfl rfl)<|Tab.aj (TI.mk' (z:=(.nilFunc)) (TD.av (by kernel_rfl)) (by kernel_rfl) rfl rfl rfl)<|Tab.aj (TI.mk' (z:=(.nilFunc)) (TD.av (by kernel_rfl)) (by kernel_rfl) rfl rfl rfl)<|Tab.aj (TI.mk' (z:=(.nilFunc)) (TD.av (by kernel_rfl)) (by kernel_rfl) rfl rfl rfl)<|Tab.aj (TI.mk' (z:=(.nilFunc)) (TD.av (by kernel_rfl)) (by kernel_rfl) rfl rfl rfl)<|Tab.aj (TI.mk' (z:=(.nilFunc)) (TD.av (by kernel_rfl)) (by kernel_rfl) rfl rfl rfl)<|Tab.aj (TI.mk' (z:=(.nilFunc)) (TD.av (by kernel_rfl)) (by kernel_rfl) rfl rfl rfl)<|Tab.aj (TI.mk' (z:=(.slice none 0 0)) (show Tryz.prog.underlying 62=some (.slice 72) by kernel_rfl) (by kernel_rfl) rfl rfl rfl)<|Tab.aj (TI.mk' (z:=(.nilFunc)) (TD.av (by kernel_rfl)) (by kernel_rfl) rfl rfl rfl)<|Tab.aj (TI.mk' (z:=(.nilFunc)) (TD.av (by kernel_rfl)) (by kernel_rfl) rfl rfl rfl)<|Tab.aj (TI.mk' (z:=(.nilFunc)) (TD.av (by kernel_rfl)) (by kernel_rfl) rfl rfl rfl)<|Tab.aj (TI.mk' (z:=(.nilFunc)) (TD.av (by kernel_rfl)) (by kernel_rfl) rfl rfl rfl)<|Tab.aj (TI.mk' (z:=(.nilFunc)) (TD.av (by kernel_rfl)) (by kernel_rfl) rfl rfl rfl)<|Tab.aj (TI.mk' (z:=(.slice none 0 0)) (show Tryz.prog.underlying 72=some (.slice 4) by kernel_rfl) (by kernel_rfl) rfl rfl rfl)<|Tab.aj (TI.mk' (z:=(.nilFunc)) (TD.av (by kernel_rfl)) (by kernel_rfl) rfl rfl rfl)<|Tab.aj (TI.mk' (z:=(.map none)) (show Tryz.prog.underlying 76=some (.map 3 4) by kernel_rfl) (by kernel_rfl) rfl rfl rfl)<|Tab.aj (TI.mk' (z:=(.slice none 0 0)) (show Tryz.prog.underlying 77=some (.slice 79) by kernel_rfl) (by kernel_rfl) rfl rfl rfl)<|Tab.aj (TI.mk' (z:=(.agg #[.int .i64 0,.int .i64 0,.slice none 0 0])) (TD.mkStruct (l:=[(0,3),(1,3),(2,77)]) (by kernel_rfl) (by kernel_rfl) (by kernel_rfl)) (by kernel_rfl) rfl rfl rfl)<|Tab.aj (TI.mk' (z:=(.agg #[.int .i64 0,.int .i64 0,.slice none 0 0])) (TD.mkStruct (l:=[(0,3),(1,3),(2,77)]) (by kernel_rfl) (by kernel_rfl) (by kernel_rfl)) (by kernel_rfl) rfl rfl rfl)<|Tab.aj (TI.mk' (z:=(.agg #[.slice none 0 0,.slice none 0 0,.int .i64 0,.int .i64 0,.slice none 0 0])) (TD.mkStruct (l:=[(0,29),(1,29),(2,79)]) (by kernel_rfl) (by kernel_rfl) (by kernel_rfl)) (by kernel_rfl) rfl rfl rfl)<|Tab.aj (TI.mk' (z:=(.agg #[.slice none 0 0,.slice none 0 0,.int .i64 0,.int .i64 0,.slice none 0 0])) (TD.mkStruct (l:=[(0,29),(1,29),(2,79)]) (by kernel_rfl) (by kernel_rfl) (by kernel_rfl)) (by kernel_rfl) rfl rfl rfl)<|Tab.aj (TI.mk' (z:=(.nilFunc)) (TD.av (by kernel_rfl)) (by kernel_rfl) rfl rfl rfl)<|Tab.aj (TI.mk' (z:=(.nilFunc)) (TD.av (by kernel_rfl)) (by kernel_rfl) rfl rfl rfl)<|Tab.aj (TI.mk' (z:=(.nilFunc)) (TD.av (by kernel_rfl)) (by kernel_rfl) rfl rfl rfl)<|Tab.aj (TI.mk' (z:=(.nilFunc)) (TD.av (by kernel_rfl)) (by kernel_rfl) rfl rfl rfl)<|Tab.aj (TI.mk' (z:=(.nilFunc)) (TD.av (by kernel_rfl)) (by kernel_rfl) rfl rfl rfl)<|Tab.aj (TI.mk' (z:=(.slice none 0 0)) (show Tryz.prog.underlying 87=some (.slice 94) by kernel_rfl) (by kernel_rfl) rfl rfl rfl)<|Tab.aj (TI.mk' (z:=(.agg #[.slice none 0 0,.int .i64 0])) (TD.mkStruct (l:=[(0,87),(1,3)]) (by kernel_rfl) (by kernel_rfl) (by kernel_rfl)) (by kernel_rfl) rfl rfl rfl)<|Tab.aj (TI.mk' (z:=(.agg #[.slice none 0 0,.int .i64 0])) (TD.mkStruct (l:=[(0,87),(1,3)]) (by kernel_rfl) (by kernel_rfl) (by kernel_rfl)) (by kernel_rfl) rfl rfl rfl)<|Tab.aj (TI.mk' (z:=(.nilFunc)) (TD.av (by kernel_rfl)) (by kernel_rfl) rfl rfl rfl)<|Tab.aj (TI.mk' (z:=(.nilFunc)) (TD.av (by kernel_rfl)) (by kernel_rfl) rfl rfl rfl)<|Tab.aj (TI.mk' (z:=(.agg #[.int .i64 0,.bool false])) (TD.mkStruct (l:=[(0,3),(1,4)]) (by kernel_rfl) (by kernel_rfl) (by kernel_rfl)) (by kernel_rfl) rfl rfl rfl)<|Tab.aj (TI.mk' (z:=(.agg #[.int .i64 0,.bool false])) (TD.mkStruct (l:=[(0,3),(1,4)]) (by kernel_rfl) (by kernel_rfl) (by kernel_rfl)) (by kernel_rfl) rfl rfl rfl)<|Tab.aj (TI.mk' (z:=(.agg #[.slice none 0 0,.int .i64 0])) (TD.mkStruct (l:=[(0,87),(1,3)]) (by kernel_rfl) (by kernel_rfl) (by kernel_rfl)) (by kernel_rfl) rfl rfl rfl)<|Tab.aj (TI.mk' (z:=(.nilFunc)) (TD.av (by kernel_rfl)) (by kernel_rfl) rfl rfl rfl)<|Tab.aj (TI.mk' (z:=(.nilFunc)) (TD.av (by kernel_rfl)) (by kernel_rfl) rfl rfl rfl)<|Tab.aj (TI.mk' (z:=(.nilFunc)) (TD.av (by kernel_rfl)) (by kernel_rfl) rfl rfl rfl)<|Tab.aj (TI.mk' (z:=(.map none)) (show Tryz.prog.underlying 100=some (.map 3 3) by kernel_rfl) (by kernel_rfl) rfl rfl rfl)<|Tab.aj (TI.mk' (z:=(.nilFunc)) (TD.av (by kernel_rfl)) (by kernel_rfl) rfl rfl rfl)<|Tab.aj (TI.mk' (z:=(.nilFunc)) (TD.av (by kernel_rfl)) (by kernel_rfl) rfl rfl rfl)<|Tab.aj (TI.mk' (z:=(.agg #[.slice none 0 0,.int .i64 0])) (TD.mkStruct (l:=[(0,87),(1,3)]) (by kernel_rfl) (by kernel_rfl) (by kernel_rfl)) (by kernel_rfl) rfl rfl rfl)<|Tab.aj (TI.mk' (z:=(.nilFunc)) (TD.av (by kernel_rfl)) (by kernel_rfl) rfl rfl rfl)<|Tab.aj (TI.mk' (z:=(.nilFunc)) (TD.av (by kernel_rfl)) (by kernel_rfl) rfl rfl rfl)<|Tab.aj (TI.mk' (z:=(.slice none 0 0)) (show Tryz.prog.underlying 112=some (.slice 117) by kernel_rfl) (by kernel_rfl) rfl rfl rfl)<|Tab.aj (TI.mk' (z:=(.slice none 0 0)) (show Tryz.prog.underlying 113=some (.slice 29) by kernel_rfl) (by kernel_rfl) rfl rfl rfl)<|Tab.aj (TI.mk' (z:=(.nilFunc)) (TD.av (by kernel_rfl)) (by kernel_rfl) rfl rfl rfl)<|Tab.aj (TI.mk' (z:=(.agg #[.bool false,.bool false,.bool false,.bool false,.bool false,.bool false,.bool false,.bool false,.bool false,.bool false,.bool false,.bool false,.bool false,.bool false,.bool false,.bool false,.bool false,.bool false,.bool false,.bool false,.bool false,.bool false,.bool false,.bool false])) (show Tryz.prog.underlying 116=some (.array 24 4) by kernel_rfl) (by kernel_rfl) rfl rfl rfl)<|Tab.aj (TI.mk' (z:=(.agg #[.bool false,.bool false,.bool false,.bool false,.bool false,.bool false,.bool false,.bool false,.bool false,.bool false,.bool false,.bool false,.bool false,.bool false,.bool false,.bool false,.bool false,.bool false,.bool false,.bool false,.bool false,.bool false,.bool false,.bool false])) (show Tryz.prog.underlying 117=some (.array 24 4) by kernel_rfl) (by kernel_rfl) rfl rfl rfl)<|Tab.aj (TI.mk' (z:=(.nilFunc)) (TD.av (by kernel_rfl)) (by kernel_rfl) rfl rfl rfl)<|Tab.aj (TI.mk' (z:=(.nilFunc)) (TD.av (by kernel_rfl)) (by kernel_rfl) rfl rfl rfl)<|Tab.aj (TI.mk' (z:=(.nilFunc)) (TD.av (by kernel_rfl)) (by kernel_rfl) rfl rfl rfl)<|Tab.aj (TI.mk' (z:=(.agg #[.slice none 0 0,.slice none 0 0,.int .i64 0,.int .i64 0,.slice none 0 0])) (TD.mkStruct (l:=[(0,29),(1,29),(2,79)]) (by kernel_rfl) (by kernel_rfl) (by kernel_rfl)) (by kernel_rfl) rfl rfl rfl)<|Tab.aj (TI.mk' (z:=(.slice none 0 0)) (show Tryz.prog.underlying 124=some (.slice 129) by kernel_rfl) (by kernel_rfl) rfl rfl rfl)<|Tab.aj (TI.mk' (z:=(.nilFunc)) (TD.av (by kernel_rfl)) (by kernel_rfl) rfl rfl rfl)<|Tab.aj (TI.mk' (z:=(.nilFunc)) (TD.av (by kernel_rfl)) (by kernel_rfl) rfl rfl rfl)<|Tab.aj (TI.mk' (z:=(.agg #[.slice none 0 0,.slice none 0 0])) (TD.mkStruct (l:=[(0,72),(1,29)]) (by kernel_rfl) (by kernel_rfl) (by kernel_rfl)) (by kernel_rfl) rfl rfl rfl)<|Tab.aj (TI.mk' (z:=(.agg #[.slice none 0 0,.slice none 0 0])) (TD.mkStruct (l:=[(0,72),(1,29)]) (by kernel_rfl) (by kernel_rfl) (by kernel_rfl)) (by kernel_rfl) rfl rfl rfl)<|Tab.aj (TI.mk' (z:=(.nilFunc)) (TD.av (by kernel_rfl)) (by kernel_rfl) rfl rfl rfl)<|Tab.aj (TI.mk' (z:=(.nilFunc)) (TD.av (by kernel_rfl)) (by kernel_rfl) rfl rfl rfl)<|Tab.aj (TI.mk' (z:=(.nilFunc)) (TD.av (by kernel_rfl)) (by kernel_rfl) rfl rfl rfl)<|Tab.aj (TI.mk' (z:=(.nilFunc)) (TD.av (by kernel_rfl)) (by kernel_rfl) rfl rfl rfl)<|Tab.aj (TI.mk' (z:=(.nilFunc)) (TD.av (by kernel_rfl)) (by kernel_rfl) rfl rfl rfl)<|Tab.aj (TI.mk' (z:=(.nilFunc)) (TD.av (by kernel_rfl)) (by kernel_rfl) rfl rfl rfl)<|Tab.aj (TI.mk' (z:=(.nilFunc)) (TD.av (by kernel_rfl)) (by kernel_rfl) rfl rfl rfl)<|Tab.aj (TI.mk' (z:=(.nilFunc)) (TD.av (by kernel_rfl)) (by kernel_rfl) rfl rfl rfl)<|Tab.aj (TI.mk' (z:=(.nilFunc)) (TD.av (by kernel_rfl)) (by kernel_rfl) rfl rfl rfl)<|Tab.aj (TI.mk' (z:=(.pointer none)) (TD.av (by kernel_rfl)) (by kernel_rfl) rfl rfl rfl)<|Tab.aj (TI.mk' (z:=(.slice none 0 0)) (show Tryz.prog.underlying 141=some (.slice 5) by kernel_rfl) (by kernel_rfl) rfl rfl rfl)<|Tab.aj (TI.mk' (z:=(.agg #[.pointer none,.slice none 0 0])) (TD.mkStruct (l:=[(0,140),(1,141)]) (by kernel_rfl) (by kernel_rfl) (by kernel_rfl)) (by kernel_rfl) rfl rfl rfl)<|Tab.aj (TI.mk' (z:=(.agg #[.pointer none,.slice none 0 0])) (TD.mkStruct (l:=[(0,140),(1,141)]) (by kernel_rfl) (by kernel_rfl) (by kernel_rfl)) (by kernel_rfl) rfl rfl rfl)<|Tab.aj (TI.mk' (z:=(.nilIface)) (TD.av (by kernel_rfl)) (by kernel_rfl) rfl rfl rfl)<|Tab.aj (TI.mk' (z:=(.nilIface)) (TD.av (by kernel_rfl)) (by kernel_rfl) rfl rfl rfl)<|Tab.aj (TI.mk' (z:=(.nilFunc)) (TD.av (by kernel_rfl)) (by kernel_rfl) rfl rfl rfl)<|Tab.aj (TI.mk' (z:=(.nilFunc)) (TD.av (by kernel_rfl)) (by kernel_rfl) rfl rfl rfl)<|Tab.aj (TI.mk' (z:=(.nilFunc)) (TD.av (by kernel_rfl)) (by kernel_rfl) rfl rfl rfl)<|Tab.aj (TI.mk' (z:=(.nilFunc)) (TD.av (by kernel_rfl)) (by kernel_rfl) rfl rfl rfl)<|Tab.aj (TI.mk' (z:=(.nilFunc)) (TD.av (by kernel_rfl)) (by kernel_rfl) rfl rfl rfl)<|Tab.aj (TI.mk' (z:=(.nilFunc)) (TD.av (by kernel_rfl)) (by kernel_rfl) rfl rfl rfl)<|Tab.aj (TI.mk' (z:=(.nilFunc)) (TD.av (by kernel_rfl)) (by kernel_rfl) rfl rfl rfl)<|Tab.aj (TI.mk' (z:=(.string ByteArray.empty)) (show Tryz.prog.underlying 154=some (.string) by kernel_rfl) (by kernel_rfl) rfl rfl rfl)<|Tab.aj (TI.mk' (z:=(.nilFunc)) (TD.av (by kernel_rfl)) (by kernel_rfl) rfl rfl rfl)<|Tab.aj (TI.mk' (z:=(.nilFunc)) (TD.av (by kernel_rfl)) (by kernel_rfl) rfl rfl rfl)<|Tab.aj (TI.mk' (z:=(.nilFunc)) (TD.av (by kernel_rfl)) (by kernel_rfl) rfl rfl rfl)<|Tab.aj (TI.mk' (z:=(.nilFunc)) (TD.av (by kernel_rfl)) (by kernel_rfl) rfl rfl rfl)<|Tab.aj (TI.mk' (z:=(.nilFunc)) (TD.av (by kernel_rfl)) (by kernel_rfl) rfl rfl rfl)<|Tab.aj (TI.mk' (z:=(.nilFunc)) (TD.av (by kernel_rfl)) (by kernel_rfl) rfl rfl rfl)<|Tab.aj (TI.mk' (z:=(.nilFunc)) (TD.av (by kernel_rfl)) (by kernel_rfl) rfl rfl rfl)<|Tab.aj (TI.mk' (z:=(.nilFunc)) (TD.av (by kernel_rfl)) (by kernel_rfl) rfl rfl rfl)<|Tab.aj (TI.mk' (z:=(.nilFunc)) (TD.av (by kernel_rfl)) (by kernel_rfl) rfl rfl rfl)<|Tab.aj (TI.mk' (z:=(.nilFunc)) (TD.av (by kernel_rfl)) (by kernel_rfl) rfl rfl rfl)<|Tab.aj (TI.mk' (z:=(.nilFunc)) (TD.av (by kernel_rfl)) (by kernel_rfl) rfl rfl rfl)<|Tab.aj (TI.mk' (z:=(.nilFunc)) (TD.av (by kernel_rfl)) (by kernel_rfl) rfl rfl rfl)<|Tab.aj (TI.mk' (z:=(.nilFunc)) (TD.av (by kernel_rfl)) (by kernel_rfl) rfl rfl rfl)<|Tab.aj (TI.mk' (z:=(.nilFunc)) (TD.av (by kernel_rfl)) (by kernel_rfl) rfl rfl rfl)<|Tab.aj (TI.mk' (z:=(.nilFunc)) (TD.av (by kernel_rfl)) (by kernel_rfl) rfl rfl rfl)<|Tab.aj (TI.mk' (z:=(.nilFunc)) (TD.av (by kernel_rfl)) (by kernel_rfl) rfl rfl rfl)<|Tab.aj (TI.mk' (z:=(.nilFunc)) (TD.av (by kernel_rfl)) (by kernel_rfl) rfl rfl rfl)<|Tab.aj (TI.mk' (z:=(.nilFunc)) (TD.av (by kernel_rfl)) (by kernel_rfl) rfl rfl rfl)<|Tab.aj (TI.mk' (z:=(.nilFunc)) (TD.av (by kernel_rfl)) (by kernel_rfl) rfl rfl rfl)<|Tab.aj (TI.mk' (z:=(.nilFunc)) (TD.av (by kernel_rfl)) (by kernel_rfl) rfl rfl rfl)<|Tab.aj (TI.mk' (z:=(.nilFunc)) (TD.av (by kernel_rfl)) (by kernel_rfl) rfl rfl rfl)<|Tab.aj (TI.mk' (z:=(.nilFunc)) (TD.av (by kernel_rfl)) (by kernel_rfl) rfl rfl rfl)<|Tab.aj (TI.mk' (z:=(.nilFunc)) (TD.av (by kernel_rfl)) (by kernel_rfl) rfl rfl rfl)<|Tab.aj (TI.mk' (z:=(.nilFunc)) (TD.av (by kernel_rfl)) (by kernel_rfl) rfl rfl rfl)<|Tab.aj (TI.mk' (z:=(.nilFunc)) (TD.av (by kernel_rfl)) (by kernel_rfl) rfl rfl rfl)<|Tab.aj (TI.mk' (z:=(.nilFunc)) (TD.av (by kernel_rfl)) (by kernel_rfl) rfl rfl rfl)<|Tab.aj (TI.mk' (z:=(.nilFunc)) (TD.av (by kernel_rfl)) (by kernel_rfl) rfl rfl rfl)<|Tab.aj (TI.mk' (z:=(.nilFunc)) (TD.av (by kernel_rfl)) (by kernel_rfl) rfl rfl rfl)<|Tab.aj (TI.mk' (z:=(.nilFunc)) (TD.av (by kernel_rfl)) (by kernel_rfl) rfl rfl rfl)<|Tab.aj (TI.mk' (z:=(.nilFunc)) (TD.av (by kernel_rfl)) (by kernel_rfl) rfl rfl rfl)<|Tab.aj (TI.mk' (z:=(.nilFunc)) (TD.av (by kernel_rfl)) (by kernel_rfl) rfl rfl rfl)<|Tab.aj (TI.mk' (z:=(.nilFunc)) (TD.av (by kernel_rfl)) (by kernel_rfl) rfl rfl rfl)<|Tab.aj (TI.mk' (z:=(.agg #[.bool false,.bool false,.bool false,.bool false,.bool false,.bool false])) (show Tryz.prog.underlying 193=some (.array 6 4) by kernel_rfl) (by kernel_rfl) rfl rfl rfl)<|Tab.aj (TI.mk' (z:=(.agg #[.bool false,.bool false,.bool false,.bool false,.bool false,.bool false])) (show Tryz.prog.underlying 194=some (.array 6 4) by kernel_rfl) (by kernel_rfl) rfl rfl rfl)<|Tab.aj (TI.mk' (z:=(.nilFunc)) (TD.av (by kernel_rfl)) (by kernel_rfl) rfl rfl rfl)<|Tab.aj (TI.mk' (z:=(.nilFunc)) (TD.av (by kernel_rfl)) (by kernel_rfl) rfl rfl rfl)<|Tab.aj (TI.mk' (z:=(.nilFunc)) (TD.av (by kernel_rfl)) (by kernel_rfl) rfl rfl rfl)<|Tab.aj (TI.mk' (z:=(.pointer none)) (TD.av (by kernel_rfl)) (by kernel_rfl) rfl rfl rfl)<|Tab.aj (TI.mk' (z:=(.agg #[.pointer none,.slice none 0 0,.slice none 0 0])) (TD.mkStruct (l:=[(0,143),(2,22)]) (by kernel_rfl) (by kernel_rfl) (by kernel_rfl)) (by kernel_rfl) rfl rfl rfl)<|Tab.aj (TI.mk' (z:=(.agg #[.pointer none,.slice none 0 0,.slice none 0 0])) (TD.mkStruct (l:=[(0,143),(2,22)]) (by kernel_rfl) (by kernel_rfl) (by kernel_rfl)) (by kernel_rfl) rfl rfl rfl)<|Tab.aj (TI.mk' (z:=(.nilFunc)) (TD.av (by kernel_rfl)) (by kernel_rfl) rfl rfl rfl)<|Tab.aj (TI.mk' (z:=(.nilFunc)) (TD.av (by kernel_rfl)) (by kernel_rfl) rfl rfl rfl)<|Tab.aj (TI.mk' (z:=(.nilFunc)) (TD.av (by kernel_rfl)) (by kernel_rfl) rfl rfl rfl)<|Tab.aj (TI.mk' (z:=(.pointer none)) (TD.av (by kernel_rfl)) (by kernel_rfl) rfl rfl rfl)<|Tab.aj (TI.mk' (z:=(.nilFunc)) (TD.av (by kernel_rfl)) (by kernel_rfl) rfl rfl rfl)<|Tab.aj (TI.mk' (z:=(.nilFunc)) (TD.av (by kernel_rfl)) (by kernel_rfl) rfl rfl rfl)<|Tab.aj (TI.mk' (z:=(.nilFunc)) (TD.av (by kernel_rfl)) (by kernel_rfl) rfl rfl rfl)<|Tab.aj (TI.mk' (z:=(.nilFunc)) (TD.av (by kernel_rfl)) (by kernel_rfl) rfl rfl rfl)<|Tab.aj (TI.mk' (z:=(.nilFunc)) (TD.av (by kernel_rfl)) (by kernel_rfl) rfl rfl rfl)<|Tab.aj (TI.mk' (z:=(.nilFunc)) (TD.av (by kernel_rfl)) (by kernel_rfl) rfl rfl rfl)<|Tab.aj (TI.mk' (z:=(.int .u64 0)) (show Tryz.prog.underlying 214=some (.int .u64) by kernel_rfl) (by kernel_rfl) rfl rfl rfl)<|Tab.aj (TI.mk' (z:=(.nilFunc)) (TD.av (by kernel_rfl)) (by kernel_rfl) rfl rfl rfl)<|Tab.aj (TI.mk' (z:=(.nilFunc)) (TD.av (by kernel_rfl)) (by kernel_rfl) rfl rfl rfl)<|Tab.aj (TI.mk' (z:=(.nilFunc)) (TD.av (by kernel_rfl)) (by kernel_rfl) rfl rfl rfl)<|Tab.aj (TI.mk' (z:=(.nilFunc)) (TD.av (by kernel_rfl)) (by kernel_rfl) rfl rfl rfl)<|Tab.aj (TI.mk' (z:=(.nilFunc)) (TD.av (by kernel_rfl)) (by kernel_rfl) rfl rfl rfl)<|Tab.aj (TI.mk' (z:=(.nilFunc)) (TD.av (by kernel_rfl)) (by kernel_rfl) rfl rfl rfl)<|Tab.aj (TI.mk' (z:=(.map none)) (show Tryz.prog.underlying 223=some (.map 117 4) by kernel_rfl) (by kernel_rfl) rfl rfl rfl)<|Tab.aj (TI.mk' (z:=(.nilFunc)) (TD.av (by kernel_rfl)) (by kernel_rfl) rfl rfl rfl)<|Tab.aj (TI.mk' (z:=(.nilFunc)) (TD.av (by kernel_rfl)) (by kernel_rfl) rfl rfl rfl)<|Tab.aj (TI.mk' (z:=(.pointer none)) (TD.av (by kernel_rfl)) (by kernel_rfl) rfl rfl rfl)<|Tab.aj (TI.mk' (z:=(.nilFunc)) (TD.av (by kernel_rfl)) (by kernel_rfl) rfl rfl rfl)<|Tab.aj (TI.mk' (z:=(.nilFunc)) (TD.av (by kernel_rfl)) (by kernel_rfl) rfl rfl rfl)<|Tab.aj (TI.mk' (z:=(.nilFunc)) (TD.av (by kernel_rfl)) (by kernel_rfl) rfl rfl rfl)<|Tab.aj (TI.mk' (z:=(.nilFunc)) (TD.av (by kernel_rfl)) (by kernel_rfl) rfl rfl rfl)<|Tab.aj (TI.mk' (z:=(.nilFunc)) (TD.av (by kernel_rfl)) (by kernel_rfl) rfl rfl rfl)<|Tab.aj (TI.mk' (z:=(.nilFunc)) (TD.av (by kernel_rfl)) (by kernel_rfl) rfl rfl rfl)<|Tab.aj (TI.mk' (z:=(.slice none 0 0)) (show Tryz.prog.underlying 237=some (.slice 3) by kernel_rfl) (by kernel_rfl) rfl rfl rfl)<|Tab.aj (TI.mk' (z:=(.nilFunc)) (TD.av (by kernel_rfl)) (by kernel_rfl) rfl rfl rfl)<|Tab.aj (TI.mk' (z:=(.nilFunc)) (TD.av (by kernel_rfl)) (by kernel_rfl) rfl rfl rfl)<|Tab.aj (TI.mk' (z:=(.nilFunc)) (TD.av (by kernel_rfl)) (by kernel_rfl) rfl rfl rfl)<|Tab.aj (TI.mk' (z:=(.nilFunc)) (TD.av (by kernel_rfl)) (by kernel_rfl) rfl rfl rfl)<|Tab.aj (TI.mk' (z:=(.int .i64 0)) (show Tryz.prog.underlying 243=some (.int .i64) by kernel_rfl) (by kernel_rfl) rfl rfl rfl)<|Tab.aj (TI.mk' (z:=(.nilFunc)) (TD.av (by kernel_rfl)) (by kernel_rfl) rfl rfl rfl)<|Tab.aj (TI.mk' (z:=(.nilFunc)) (TD.av (by kernel_rfl)) (by kernel_rfl) rfl rfl rfl)<|Tab.aj (TI.mk' (z:=(.int .u32 0)) (show Tryz.prog.underlying 250=some (.int .u32) by kernel_rfl) (by kernel_rfl) rfl rfl rfl)<|Tab.aj (TI.mk' (z:=(.int .u64 0)) (show Tryz.prog.underlying 252=some (.int .u64) by kernel_rfl) (by kernel_rfl) rfl rfl rfl)<|Tab.aj (TI.mk' (z:=(.agg #[.int .u8 0,.int .u8 0,.int .u8 0,.int .u8 0,.int .u8 0,.int .u8 0,.int .u8 0,.int .u8 0,.int .u8 0,.int .u8 0,.int .u8 0,.int .u8 0,.int .u8 0,.int .u8 0,.int .u8 0,.int .u8 0,.int .u8 0,.int .u8 0,.int .u8 0,.int .u8 0,.int .u8 0,.int .u8 0,.int .u8 0,.int .u8 0])) (show Tryz.prog.underlying 253=some (.array 24 5) by kernel_rfl) (by kernel_rfl) rfl rfl rfl)<|Tab.aj (TI.mk' (z:=(.nilFunc)) (TD.av (by kernel_rfl)) (by kernel_rfl) rfl rfl rfl)<|Tab.aj (TI.mk' (z:=(.nilFunc)) (TD.av (by kernel_rfl)) (by kernel_rfl) rfl rfl rfl)<|Tab.aj (TI.mk' (z:=(.nilFunc)) (TD.av (by kernel_rfl)) (by kernel_rfl) rfl rfl rfl)<|Tab.aj (TI.mk' (z:=(.agg #[.int .i64 0,.int .i64 0,.nilFunc])) (TD.mkStruct (l:=[(0,3),(1,3),(2,258)]) (by kernel_rfl) (by kernel_rfl) (by kernel_rfl)) (by kernel_rfl) rfl rfl rfl)<|Tab.aj (TI.mk' (z:=(.agg #[.int .i64 0,.int .i64 0,.nilFunc,.int .i64 0,.int .i64 0,.nilFunc,.int .i64 0,.int .i64 0,.nilFunc,.int .i64 0,.int .i64 0,.nilFunc,.int .i64 0,.int .i64 0,.nilFunc])) (show Tryz.prog.underlying 261=some (.array 5 260) by kernel_rfl) (by kernel_rfl) rfl rfl rfl)<|Tab.aj (TI.mk' (z:=(.int .u64 0)) (show Tryz.prog.underlying 265=some (.int .u64) by kernel_rfl) (by kernel_rfl) rfl rfl rfl)<|Tab.aj (TI.mk' (z:=(.nilFunc)) (TD.av (by kernel_rfl)) (by kernel_rfl) rfl rfl rfl)<|Tab.aj (TI.mk' (z:=(.nilFunc)) (TD.av (by kernel_rfl)) (by kernel_rfl) rfl rfl rfl)<|Tab.aj (TI.mk' (z:=(.pointer none)) (TD.av (by kernel_rfl)) (by kernel_rfl) rfl rfl rfl)<|Tab.aj (TI.mk' (z:=(.agg #[.int .u64 0,.int .u64 0,.int .u64 0,.int .u64 0,.int .u64 0,.int .u64 0,.int .u64 0,.int .u64 0,.int .u64 0,.int .u64 0,.int .u64 0,.int .u64 0,.int .u64 0,.int .u64 0,.int .u64 0,.int .u64 0,.int .u64 0,.int .u64 0,.int .u64 0,.int .u64 0])) (show Tryz.prog.underlying 275=some (.array 20 252) by kernel_rfl) (by kernel_rfl) rfl rfl rfl)<|Tab.aj (TI.mk' (z:=(.agg #[.int .u8 0,.int .u8 0,.int .u8 0,.int .u8 0,.int .u8 0,.int .u8 0,.int .u8 0,.int .u8 0,.int .u8 0,.int .u8 0,.int .u8 0,.int .u8 0,.int .u8 0,.int .u8 0,.int .u8 0,.int .u8 0,.int .u8 0,.int .u8 0,.int .u8 0,.int .u8 0,.int .u8 0,.int .u8 0,.int .u8 0,.int .u8 0,.int .u8 0,.int .u8 0,.int .u8 0,.int .u8 0,.int .u8 0,.int .u8 0,.int .u8 0,.int .u8 0,.int .u8 0,.int .u8 0,.int .u8 0,.int .u8 0,.int .u8 0,.int .u8 0,.int .u8 0,.int .u8 0,.int .u8 0,.int .u8 0,.int .u8 0,.int .u8 0,.int .u8 0,.int .u8 0,.int .u8 0,.int .u8 0,.int .u8 0,.int .u8 0,.int .u8 0,.int .u8 0,.int .u8 0,.int .u8 0,.int .u8 0,.int .u8 0,.int .u8 0,.int .u8 0,.int .u8 0,.int .u8 0,.int .u8 0,.int .u8 0,.int .u8 0,.int .u8 0,.int .u8 0])) (show Tryz.prog.underlying 276=some (.array 65 5) by kernel_rfl) (by kernel_rfl) rfl rfl rfl)<|Tab.aj (TI.mk' (z:=(.nilFunc)) (TD.av (by kernel_rfl)) (by kernel_rfl) rfl rfl rfl)<|Tab.aj (TI.mk' (z:=(.pointer none)) (TD.av (by kernel_rfl)) (by kernel_rfl) rfl rfl rfl)<|Tab.aj (TI.mk' (z:=(.nilFunc)) (TD.av (by kernel_rfl)) (by kernel_rfl) rfl rfl rfl)<|Tab.aj (TI.mk' (z:=(.nilFunc)) (TD.av (by kernel_rfl)) (by kernel_rfl) rfl rfl rfl)<|Tab.aj (TI.mk' (z:=(.agg (List.replicate 256 (.bool false)).toArray)) (show Tryz.prog.underlying 286=some (.array 256 4) by kernel_rfl) (by kernel_rfl) rfl rfl rfl)<|Tab.aj (TI.mk' (z:=(.agg (List.replicate 256 (.bool false)).toArray)) (show Tryz.prog.underlying 287=some (.array 256 4) by kernel_rfl) (by kernel_rfl) rfl rfl rfl)<|Tab.aj (TI.mk' (z:=(.pointer none)) (TD.av (by kernel_rfl)) (by kernel_rfl) rfl rfl rfl)<|Tab.aj (TI.mk' (z:=(.agg #[.int .u8 0,.int .u8 0,.int .u8 0,.int .u8 0,.int .u8 0,.int .u8 0,.int .u8 0,.int .u8 0,.int .u8 0,.int .u8 0,.int .u8 0,.int .u8 0,.int .u8 0,.int .u8 0,.int .u8 0,.int .u8 0,.int .u8 0,.int .u8 0,.int .u8 0,.int .u8 0,.int .u8 0,.int .u8 0,.int .u8 0,.int .u8 0,.int .u8 0,.int .u8 0,.int .u8 0,.int .u8 0,.int .u8 0,.int .u8 0,.int .u8 0,.int .u8 0])) (show Tryz.prog.underlying 292=some (.array 32 5) by kernel_rfl) (by kernel_rfl) rfl rfl rfl)<|Tab.aj (TI.mk' (z:=(.agg #[.int .u8 0,.int .u8 0,.int .u8 0,.int .u8 0,.int .u8 0,.int .u8 0,.int .u8 0,.int .u8 0,.int .u8 0,.int .u8 0,.int .u8 0,.int .u8 0,.int .u8 0,.int .u8 0,.int .u8 0,.int .u8 0,.int .u8 0,.int .u8 0,.int .u8 0,.int .u8 0,.int .u8 0,.int .u8 0,.int .u8 0,.int .u8 0,.int .u8 0,.int .u8 0,.int .u8 0,.int .u8 0,.int .u8 0,.int .u8 0,.int .u8 0,.int .u8 0,.int .u8 0,.int .u8 0,.int .u8 0,.int .u8 0,.int .u8 0,.int .u8 0,.int .u8 0,.int .u8 0,.int .u8 0,.int .u8 0,.int .u8 0,.int .u8 0,.int .u8 0,.int .u8 0,.int .u8 0,.int .u8 0,.int .u8 0,.int .u8 0,.int .u8 0,.int .u8 0,.int .u8 0,.int .u8 0,.int .u8 0,.int .u8 0,.int .u8 0,.int .u8 0,.int .u8 0,.int .u8 0,.int .u8 0,.int .u8 0,.int .u8 0,.int .u8 0])) (show Tryz.prog.underlying 293=some (.array 64 5) by kernel_rfl) (by kernel_rfl) rfl rfl rfl)<|Tab.aj (TI.mk' (z:=(.int .i32 0)) (show Tryz.prog.underlying 314=some (.int .i32) by kernel_rfl) (by kernel_rfl) rfl rfl rfl)<|Tab.ap3
theorem mixed:Tryz.prog.follows .mixedOrders=true:=by kernel_rfl
end Go.Sx.Pn
namespace Go.Sx.Pe
open Go Go.Proofs Go.Sx.Pn
theorem iE {a b:Int} (h:a=b):a=b:=h
theorem iL {a b:Nat} (h:a≤b):a≤b:=h
theorem iM {n k:Nat} (h:k<n):n-(k+1)<n-k:=by omega
theorem iN {k n:Nat} (h:k<n):(k:Int)<(n:Int):=by omega
theorem a4 {α β γ δ:Type} {a:α} {b:β} {c:γ} {d:δ} {p:Prop} (h:p):a=a∧b=b∧c=c∧d=d∧p:=⟨rfl,rfl,rfl,rfl,h⟩
theorem mxL {n s:Nat} (h:n≤10000000) (hs:s≤10000):n≤maxLen∧n*s≤140737488355328:=⟨by unfold maxLen;omega,ald (Nat.mul_le_mul h hs) (by decide)⟩
theorem lt1 {p:Nat→Prop} (h:p 0) (k:Nat) (hk:k<1):p k:=by
 obtain rfl:k=0:=by omega
 exact h
def iP (n:Int):PV:=.val (.int .i64 n)
def bP (b:Bool):PV:=.val (.bool b)
def sP (s:List UInt8):PV:=.val (.string (strOf s))
def cP (c:UInt8):PV:=.val (.int .u8 (c.toNat:Int))
def iA (n:Int):SV:=.p false (.val (.int .i64 n))
def bA (b:Bool):SV:=.p false (.val (.bool b))
def sA (s:List UInt8):SV:=.p false (.val (.string (strOf s)))
def cA (c:UInt8):SV:=.p false (.val (.int .u8 (c.toNat:Int)))
def mW (l:List Int):PV:=.seq l.length (fun k=>[iP (l.getD k 0)])
def pI (l:List Bool):PV:=.seq l.length (fun k=>[bP (l.getD k false)])
def vZ (l:List (List UInt8)):PV:=.seq l.length (fun k=>[sP (l.getD k [])])
def isA (l:List Int):SV:=.p false (mW l)
def bsA (l:List Bool):SV:=.p false (pI l)
def nH (l:List (List UInt8)):SV:=.p false (vZ l)
def cu {α:Type} (args:α→List SV) (pre:α→Prop) (res:α→PV):Spec:={ A:=α,args:=args,objs:=fun _=>[],pre:=pre,res:=res,objs':=fun _=>[],fresh:=true,ro:=0 }
def jF {α:Type} (args:α→List SV) (pre:α→Prop) (res:α→PV):Spec:={ A:=α,args:=args,objs:=fun _=>[],pre:=pre,res:=res,objs':=fun _=>[],fresh:=false,ro:=0 }
theorem uS {P:Program} {f:Nat} {α:Type} {args:α→List SV} {pre:α→Prop} {res:α→PV} (h:aL P f (cu args pre res)) (a:α) (hp:pre a) {r:PV} (e:res a=r) :
  aL P f (cu (fun _:Unit=>args a) (fun _=>True) (fun _=>r)):=by
 subst e
 exact ⟨h.1,fun _ _ E vs w hg hh hA=>h.2 a hp E vs w hg hh hA⟩
theorem kM {P:Program} {f:Nat} {α:Type} {args:α→List SV} {pre:α→Prop} {res:α→PV} (h:aL P f (jF args pre res)) (a:α) (hp:pre a) {r:PV} (e:res a=r) :
  aL P f (jF (fun _:Unit=>args a) (fun _=>True) (fun _=>r)):=by
 subst e
 exact ⟨h.1,fun _ _ E vs w hg hh hA=>h.2 a hp E vs w hg hh hA⟩
theorem vw {P:Program} {f:Nat} {S:Spec} (m:S.A→Nat) (h:∀n,aL P f { S with pre:=fun a=>S.pre a∧m a≤n }):aL P f S:=
 ⟨(h 0).1,fun a hp E vs w hg hh hA=>(h (m a)).2 a ⟨hp,aic _⟩ E vs w hg hh hA⟩
theorem aX {α:Type} {l:List α} {k:Nat} (d:α) (hk:k<l.length):l.take (k+1)=l.take k++[l.getD k d]:=by
 rw[asT,abm hk,abo,abm hk];rfl
theorem bY {α:Type} {l:List α} {k:Nat} (d:α) (h:k<l.length):l[k]?=some (l.getD k d):=by rw[abo,abm h];rfl
structure Ex:Type where
 node ::
 op:Int
 idx:Int
 args:List Ex
mutual
def exC:Ex→List PV
 | .node o i l=>[iP o,iP i,.seq l.length (vQ l)]
def vQ:List Ex→Nat→List PV
 | [],_=>[]
 | x :: _,0=>exC x
 | _ :: l,k+1=>vQ l k
end
def aH:Ex:=.node 0 0 []
def exF (l:List Ex) (k:Nat):List PV:=[iP (l.getD k aH).op,iP (l.getD k aH).idx,.seq (l.getD k aH).args.length (vQ (l.getD k aH).args)]
def y7 (x:Ex):List PV:=[iP x.op,iP x.idx,.seq x.args.length (exF x.args)]
def exP (x:Ex):PV:=.agg (y7 x)
def qx (x:Ex):SV:=.p false (.agg (y7 x))
theorem ap4 (o i:Int) (l:List Ex):exC (.node o i l)=[iP o,iP i,.seq l.length (vQ l)]:=by rw[exC]
theorem agn:∀(l:List Ex) (k:Nat) (x:Ex),l[k]?=some x→vQ l k=exC x
 | [],k,x,h=>by simp at h
 | y :: l,0,x,h=>by simp at h;subst h;rw[vQ]
 | y :: l,k+1,x,h=>by rw[vQ];exact agn l k x (by simpa using h)
theorem aki (x:Ex):exC x=[iP x.op,iP x.idx,.seq x.args.length (vQ x.args)]:=by cases x;rw[ap4]
theorem jm (l:List Ex):∀k,k<l.length→vQ l k=exF l k:=fun k hk=>by
 rw[agn l k _ (abm hk),aki]
 have:l.getD k aH=l[k]:=by rw[abo,abm hk];rfl
 unfold exF;rw[this]
theorem ajb (l:List Ex):∀k,k<l.length→exF l k=vQ l k:=fun k hk=>(jm l k hk).symm
theorem fF {l:List Ex} {k:Nat} (hk:k<l.length):l[k]?=some (l.getD k aH):=bY aH hk
mutual
def Ex.size:Ex→Nat
 | .node _ _ l=>sizes l+1
def sizes:List Ex→Nat
 | []=>0
 | x :: l=>x.size+sizes l
end
mutual
def Ex.deep:Ex→Nat
 | .node _ _ l=>jD l+1
def jD:List Ex→Nat
 | []=>0
 | x :: l=>max x.deep (jD l)
end
theorem Ex.size_eq (x:Ex):x.size=sizes x.args+1:=by cases x;rw[Ex.size]
theorem Ex.vY (x:Ex):x.deep=jD x.args+1:=by cases x;rw[Ex.deep]
theorem size_pos (x:Ex):0<x.size:=by rw[x.size_eq];omega
theorem agI (x:Ex):0<x.deep:=by rw[x.vY];omega
theorem bT:∀{l:List Ex} {x:Ex},x∈l→x.size≤sizes l
 | [],x,h=>by simp at h
 | y :: l,x,h=>by
  rw[sizes]
  rcases akZ.1 h with rfl | h
  ·omega
  ·have:=bT h;omega
theorem ab4:∀{l:List Ex} {x:Ex},x∈l→x.deep≤jD l
 | [],x,h=>by simp at h
 | y :: l,x,h=>by
  rw[jD]
  rcases akZ.1 h with rfl | h
  ·omega
  ·have:=ab4 h;omega
theorem aaA:∀(l:List Ex),l.length≤sizes l
 | []=>by simp
 | x :: l=>by rw[sizes];have:=aaA l;have:=size_pos x;simp;omega
mutual
def dB (d:Nat):Ex→List (Nat×Ex)
 | .node o i l=>(d,.node o i l) :: (if d≤16 then gF (d+1) l else [])
def gF (d:Nat):List Ex→List (Nat×Ex)
 | []=>[]
 | x :: l=>dB d x++gF d l
end
def yP (y:Nat×Ex):List PV:=[iP y.1,exP y.2]
theorem qb (d:Nat):∀(a b:List Ex),gF d (a++b)=gF d a++gF d b
 | [],b=>by rw[gF];rfl
 | x :: a,b=>by rw[asX,gF,gF,qb d a b,anr]
def gW (d:Nat) (l:List Ex):List (Nat×Ex):=if d≤16 then gF (d+1) l else []
theorem qG (d:Nat) (o i:Int) (l:List Ex):dB d (.node o i l)=(d,.node o i l) :: gW d l:=by rw[dB];rfl
theorem aeN {d:Nat} (hd:d≤16) {l:List Ex} {k:Nat} {x:Ex} (h:l[k]?=some x):gW d (l.take (k+1))=gW d (l.take k)++dB (d+1) x:=by
 unfold gW
 rw[if_pos hd,if_pos hd,asT,h,qb]
 show _++gF (d+1) [x]=_
 rw[gF,gF,anp]
def ars (l:Nat):Ob:=.cells 257 [.p false (.val (.func (.yield l) #[] #[]))]
def arM:Ob:=.cells 187 [.fn 204 [.own 0 0,.own 1 0]]
def afS (n:Nat):acL:={ A:=Ex×Nat,args:=fun _ y=>[.p true (.agg (y7 y.1)),iA y.2,.own 0 0,.own 1 0],objs:=fun l y=>[ars l,arM],pre:=fun y=>y.1.size≤n∧y.2≤17∧y.1.size≤1000000,ys:=fun y=>(dB y.2 y.1).map yP }
theorem akv (d:Nat) (x:Ex):((dB d x).map yP)[0]?=some (yP (d,x)):=by cases x;rw[qG];rfl
theorem ace (d:Nat) (x:Ex):dB d x=(d,x) :: gW d x.args:=by cases x;rw[qG]
theorem aiU {d:Nat} (hd:d≤16) {l:List Ex} {k:Nat} (hk:k<l.length):gW d l=gW d (l.take k)++(dB (d+1) (l.getD k aH)++gW d (l.drop (k+1))):=by
 have e:l=l.take k++(l.getD k aH :: l.drop (k+1)):=by
  have h1:l.drop k=l[k] :: l.drop (k+1):=apx hk
  have h2:l.getD k aH=l[k]:=by rw[abo,abm hk];rfl
  rw[h2,←h1,ar8]
 unfold gW
 rw[if_pos hd,if_pos hd,if_pos hd]
 conv=>lhs;rw[e]
 rw[qb,gF]
theorem amj {d:Nat} (hd:d≤16) {x:Ex} {k:Nat} (hk:k<x.args.length) {i:Nat} {v:List PV} (h:((dB (d+1) (x.args.getD k aH)).map yP)[i]?=some v) :
  ((dB d x).map yP)[1+(gW d (x.args.take k)).length+i]?=some v:=by
 rw[ace,aiU hd hk,apI,show 1+(gW d (x.args.take k)).length+i=(gW d (x.args.take k)).length+i+1 by omega,anA,arZ,ah5 (by simp),apg,ar1,arZ,agF (abu.1 h).1]
 exact h
theorem af9:∀n,agD Tryz.prog 204 (afS n)
 | 0=>by
  refine akE [] (Tb:=tab) mixed ay Tryz.func204 rfl rfl ?_
  rintro ⟨x,d⟩ ⟨h1,_⟩ L
  have:=size_pos x
  exact absurd h1 (by show ¬x.size≤0;omega)
 | n+1=>by
  have ih:=af9 n
  refine akE [2000000+204] (Tb:=tab) mixed ay Tryz.func204 rfl rfl ?_
  rintro ⟨x,d⟩ ⟨h1,h2,h3⟩ L
  have hsz:sizes x.args+1≤n+1∧sizes x.args+1≤1000000:=by rw[←x.size_eq];exact ⟨h1,h3⟩
  have hd:d≤17:=h2
  refine ai rfl ?_
  refine ai rfl (ei (yP (d,x)) (ai (akv d x) (ai ?_ (ai ?_ ?_))))
  ·exact (ai (ai trivial rfl) (ai trivial (ai rfl (ai rfl (ai rfl (fun _ _=>rfl))))))
  ·have hlen:=aaA x.args
   refine ei (bG.inv { X:=Nat,up:=fun k=>[(17,.s (iA k))],uo:=fun _=>[],inv:=fun k=>k≤x.args.length,meas:=fun k=>x.args.length-k,x0:=0,cnt:=fun k=>some (1+(gW d (x.args.take k)).length) }) ?_
   refine ai (ai (ai (by exact (a4 (ai rfl rfl))) (ai ?_ ?_)) ?_) (ai ?_ ?_)
   ·exact (ai (ai (fun _=>rfl) rfl) rfl)
   ·exact trivial
   ·show some (0+1)=some (1+(gW d (x.args.take 0)).length)
    unfold gW;split<;>simp[gF]
   ·exact ac7 _
   intro (k:Nat) (hk:k≤x.args.length)
   refine ah (p:=k<x.args.length) (ak (by dsimp only;omega)) (fun hkl=>?_) (fun hkl=>?_)
   ·refine ai (ai (abr _) (by show (k:Int)<(x.args.length:Int);omega)) (ai rfl ?_)
    refine ah (p:=d≤16) (bX (by omega)) (fun hdd=>?_) (fun hdd=>?_)
    ·have hget:=fF hkl
     have hy:=bT (abv hget)
     refine ei (afS n) (ai ih (ei (x.args.getD k aH,d+1) (ei [0,1] (ai (ai rfl (ai rfl rfl)) (ai ?_ (ai ?_ (ai ?_ (ai ?_ (ai ?_ ?_)))))))))
     ·exact (ai (ai (iE (by simp only[zz,reduceCtorEq])) (ai (iE (by simp only[zz,reduceCtorEq])) (ai rfl (jm _)))) (ai (aM (by omega)) (ai (ai rfl rfl) (ai rfl rfl))))
     ·exact (ai (ai rfl rfl) (ai rfl (ai rfl (ai (ai rfl rfl) (ai rfl rfl)))))
     ·exact ⟨by show (x.args.getD k aH).size≤n;omega,by show d+1≤17;omega,by show (x.args.getD k aH).size≤1000000;omega⟩
     ·exact fun i vs hi=>amj hdd hkl hi
     ·refine ei ((k+1)) (ai (ai rfl rfl) (ai (ai ?_ ?_) (ai ?_ ?_)))
      ·exact (ai rfl (ai (ai rfl rfl) (ai (ai rfl rfl) (ai (ai (ai (fun _=>rfl) (aM (by omega))) rfl) trivial))))
      ·show some (1+(gW d (x.args.take k)).length+((dB (d+1) (x.args.getD k aH)).map yP).length)=some (1+(gW d (x.args.take (k+1))).length)
       rw[aeN hdd hget,apg,aaH,ash]
      ·show k+1≤x.args.length;omega
      ·show x.args.length-(k+1)<x.args.length-k;omega
     ·exact rfl
    ·refine ei ((k+1)) (ai (ai rfl rfl) (ai (ai ?_ ?_) (ai ?_ ?_)))
     ·exact (ai rfl (ai (ai rfl rfl) (ai (ai rfl rfl) (ai (ai (ai (fun _=>rfl) (aM (by omega))) rfl) trivial))))
     ·show some (1+(gW d (x.args.take k)).length)=some (1+(gW d (x.args.take (k+1))).length)
      unfold gW;rw[if_neg hdd,if_neg hdd]
     ·show k+1≤x.args.length;omega
     ·show x.args.length-(k+1)<x.args.length-k;omega
   ·obtain rfl:k=x.args.length:=by omega
    refine ai rfl ?_
    show 1+(gW d (x.args.take x.args.length)).length=((dB d x).map yP).length
    rw[aiy,ace,apI,aio,apg,Nat.add_comm]
  ·exact rfl
def preS:wE:={ A:=Ex,capt:=fun x=>[.pt (y7 x) 0],pre:=fun x=>x.size≤1000000,xs:=fun x=>(dB 1 x).map yP }
theorem afJ:ai2 Tryz.prog 203 preS:=by
 refine apj [2000000+204] (Tb:=tab) mixed ay Tryz.func203 rfl rfl ?_
 intro (x:Ex) hpre
 refine ai rfl ?_
 intro L
 refine ei (afS x.size) (ai (af9 x.size) (ei (x,1) (ei [0,1] (ai (ai rfl (ai rfl rfl)) (ai ?_ (ai ?_ (ai ?_ (ai ?_ (ai ?_ ?_)))))))))
 ·exact (ai (ai rfl (ai rfl (ai rfl (fun _ _=>rfl)))) (ai (iE (by simp only[zz,reduceCtorEq];rfl)) (ai (ai rfl rfl) (ai rfl rfl))))
 ·exact (ai (ai rfl rfl) (ai rfl (ai rfl (ai (ai rfl rfl) (ai rfl rfl)))))
 ·exact ⟨aic _,by show 1≤17;omega,hpre⟩
 ·intro i vs hi
  show ((dB 1 x).map yP)[0+i]?=some vs
  rw[aku];exact hi
 ·refine ai trivial ?_
  show 0+((dB 1 x).map yP).length=((dB 1 x).map yP).length
  rw[aku]
 ·exact ai trivial trivial
def aqP:Spec:=jF (fun x:Ex=>[qx x]) (fun _=>True) (fun x=>.fn 203 [.pt (y7 x) 0])
theorem alx:aL Tryz.prog 171 aqP:=by
 refine bg (Tb:=tab) mixed ay Tryz.func171 rfl rfl ?_
 rintro (x:Ex) hpre
 refine ai (ai rfl (ai rfl rfl)) ?_
 refine ai (ai nof ?_) trivial
 exact (ai rfl rfl)
def wW (x:Ex):Option (Nat×Nat):=if x.size≤256∧x.deep≤16 then some (x.size,x.deep) else none
def nL (x:Ex):PV:=match wW x with
 | some (n,d)=>.tup [iP n,iP d,bP true]
 | none=>.tup [iP 0,iP 0,bP false]
def maxD (l:List (Nat×Ex)):Nat:=l.foldl (fun m y=>max m y.1) 0
theorem aj0 (l:List (Nat×Ex)) (y:Nat×Ex):maxD (l++[y])=max (maxD l) y.1:=by unfold maxD;rw[asg];rfl
mutual
theorem adE:∀(x:Ex) (d:Nat),x.deep+d≤17→(dB d x).length=x.size
 | .node o i l,d,h=>by
  have h1:jD l+1+d≤17:=by rw[Ex.vY] at h;exact h
  rw[qG,aio,Ex.size]
  unfold gW
  rw[if_pos (by omega),agR l (d+1) (by omega)]
theorem agR:∀(l:List Ex) (d:Nat),jD l+d≤17→(gF d l).length=sizes l
 | [],d,h=>by rw[gF,sizes];rfl
 | x :: l,d,h=>by
  rw[jD] at h
  rw[gF,sizes,aaH,adE x d (by omega),agR l d (by omega)]
end
theorem foldl_max (l:List (Nat×Ex)):∀m,(∀y∈l,y.1≤l.foldl (fun m y=>max m y.1) m)∧m≤l.foldl (fun m y=>max m y.1) m∧(∀M,m≤M→(∀y∈l,y.1≤M)→l.foldl (fun m y=>max m y.1) m≤M):=by
 induction l with
 | nil=>intro m;simp
 | cons x l ih=>
  intro m
  obtain ⟨h1,h2,h3⟩:=ih (max m x.1)
  refine ⟨fun y hy=>?_,?_,fun M hm hM=>?_⟩
  ·rcases akZ.1 hy with rfl | hy
   ·show y.1≤l.foldl _ (max m y.1)
    exact ald (Nat.le_max_right _ _) h2
   ·exact h1 y hy
  ·exact ald (Nat.le_max_left _ _) h2
  ·exact h3 M (by have:=hM x (by simp);omega) fun y hy=>hM y (by simp[hy])
theorem maxD_eq {l:List (Nat×Ex)} {M:Nat} (h1:∀z∈l,z.1≤M) (h2:∃z∈l,z.1=M):maxD l=M:=by
 obtain ⟨g1,g2,g3⟩:=foldl_max l 0
 obtain ⟨z,hz,rfl⟩:=h2
 exact Nat.le_antisymm (g3 _ (ac7 _) h1) (g1 z hz)
mutual
theorem afP:∀(x:Ex) (d:Nat) (z:Nat×Ex),z∈dB d x→z.1+1≤x.deep+d
 | .node o i l,d,z,h=>by
  rw[qG] at h
  rw[Ex.deep]
  rcases akZ.1 h with rfl | h
  ·show d+1≤_;omega
  ·unfold gW at h
   split at h
   ·have:=aiO l (d+1) z h;omega
   ·simp at h
theorem aiO:∀(l:List Ex) (d:Nat) (z:Nat×Ex),z∈gF d l→z.1+1≤jD l+d
 | [],d,z,h=>by rw[gF] at h;simp at h
 | x :: l,d,z,h=>by
  rw[gF] at h
  rw[jD]
  rcases akI.1 h with h | h
  ·have:=afP x d z h;omega
  ·have:=aiO l d z h;omega
end
mutual
theorem afQ:∀(x:Ex) (d e:Nat),d≤e→e≤17→e+1≤x.deep+d→∃z∈dB d x,z.1=e
 | .node o i l,d,e,h1,h2,h3=>by
  rw[Ex.deep] at h3
  rw[qG]
  by_cases he:d=e
  ·exact ⟨_,apl,he⟩
  ·obtain ⟨z,hz,hz2⟩:=aiE l (d+1) e (by omega) h2 (by omega)
   refine ⟨z,aps _ ?_,hz2⟩
   unfold gW;rw[if_pos (by omega)];exact hz
theorem aiE:∀(l:List Ex) (d e:Nat),d≤e→e≤17→e+1≤jD l+d→∃z∈gF d l,z.1=e
 | [],d,e,h1,h2,h3=>by rw[jD] at h3;omega
 | x :: l,d,e,h1,h2,h3=>by
  rw[jD] at h3
  rw[gF]
  by_cases hx:e+1≤x.deep+d
  ·obtain ⟨z,hz,hz2⟩:=afQ x d e h1 h2 hx
   exact ⟨z,List.mem_append_left _ hz,hz2⟩
  ·obtain ⟨z,hz,hz2⟩:=aiE l d e h1 h2 (by omega)
   exact ⟨z,asY _ hz,hz2⟩
end
theorem afv (x:Ex):(∀z∈dB 1 x,z.1≤16)↔x.deep≤16:=by
 constructor
 ·intro h
  refine Classical.byContradiction fun hn=>?_
  obtain ⟨z,hz,he⟩:=afQ x 1 17 (by omega) (by omega) (by omega)
  have:=h z hz;omega
 ·intro h z hz
  have:=afP x 1 z hz;omega
theorem aef {x:Ex} (h1:(dB 1 x).length≤256) (h2:∀z∈dB 1 x,z.1≤16):wW x=some ((dB 1 x).length,maxD (dB 1 x)):=by
 have hd:=(afv x).1 h2
 have hl:=adE x 1 (by omega)
 have hm:maxD (dB 1 x)=x.deep:=maxD_eq (fun z hz=>by have:=afP x 1 z hz;omega) (afQ x 1 x.deep (agI x) (by omega) (by omega))
 unfold wW
 rw[if_pos ⟨by omega,hd⟩,hl,hm]
theorem aeE {x:Ex} (h:256<(dB 1 x).length∨∃z∈dB 1 x,16<z.1):wW x=none:=by
 unfold wW
 rw[if_neg]
 rintro ⟨h1,h2⟩
 rcases h with h | ⟨z,hz,h⟩
 ·have:=adE x 1 (by omega);omega
 ·have:=(afv x).2 h2 z hz;omega
theorem akH {l:List (Nat×Ex)} {k:Nat} {vs:List PV} (h:(l.map yP)[k]?=some vs):∃d x,l[k]?=some (d,x)∧vs=[iP d,exP x]:=by
 rw[ane] at h
 cases hc:l[k]? with
 | none=>rw[hc] at h;cases h
 | some y=>
  rw[hc] at h
  simp only[ao2,Option.some.injEq] at h
  exact ⟨y.1,y.2,rfl,h.symm⟩
theorem ak1 {l:List (Nat×Ex)}:∀v∈l.map yP,v.length=2:=fun v hv=>by
 obtain ⟨y,_,rfl⟩:=ar4.1 hv;rfl
def measS:Spec:=cu (fun x:Ex=>[qx x]) (fun x=>x.size≤1000000) nL
theorem aiC:aL Tryz.prog 170 measS:=by
 refine bg (Tb:=tab) mixed ay Tryz.func170 rfl rfl ?_
 rintro (x:Ex) hpre
 refine ai (ai rfl (ai rfl rfl)) ?_
 refine ei _ (ai (alx) (ei (x) (ei [] (ai (a4 (ai (fun _=>Or.inl rfl) (ai nof (Or.inl rfl)))) (ai (by exact (ai rfl (ai rfl (ai rfl (fun _ _=>rfl))))) (ai trivial (ai (trivial) ?_)))))))
 refine ai (ai rfl rfl) (ei preS (ai afJ (ei x (ai ?_ (ai hpre (ai ak1 (ei { X:=Nat,uo:=fun k=>[⟨4,3,[.s (iA k)]⟩,⟨5,3,[.s (iA (maxD ((dB 1 x).take k):Nat))]⟩],inv:=fun k y=>y=k∧k≤256∧∀z∈(dB 1 x).take k,z.1≤16,x0:=0 } (ai ?_ (ai ?_ (ai ?_ (ai ?_ ?_)))))))))))
 ·exact (ai rfl rfl)
 ·exact (ai rfl (ai rfl (ai rfl rfl)))
 ·exact (ai (ai (ai (fun _=>rfl) rfl) rfl) (ai (ai (ai (fun _=>rfl) rfl) rfl) trivial))
 ·exact ⟨rfl,ac7 _,by simp⟩
 ·rintro k (y:Nat) vs ⟨hy,hk,hall⟩ hvs
  subst hy
  obtain ⟨d,z,hg,rfl⟩:=akH hvs
  have hs:(dB 1 x).take (y+1)=(dB 1 x).take y++[(d,z)]:=by rw[asT,hg];rfl
  have hyl:y<(dB 1 x).length:=(abu.1 hg).1
  have hw:IntKind.i64.wrap ((y:Int)+1)=((y+1:Nat):Int):=aM (by omega)
  refine ah (p:=256<y+1) (by exact ak (by rw[hw];omega)) (fun h1=>?_) (fun h1=>?_)
  ·refine ai (ai (fun _=>(by exact (ai trivial (ai trivial trivial)))) ?_) trivial
   show au _ (nL x)
   rw[nL,aeE (.inl (by omega))]
   exact (ai rfl (ai rfl rfl))
  refine ah (p:=16<d) (ak (by omega)) (fun h2=>?_) (fun h2=>?_)
  ·refine ai (ai (fun _=>(by exact (ai trivial (ai trivial trivial)))) ?_) trivial
   show au _ (nL x)
   rw[nL,aeE (.inr ⟨_,abv hg,h2⟩)]
   exact (ai rfl (ai rfl rfl))
  refine ei (y+1) (ai rfl (ai (ai (ai rfl rfl) (ai (ai rfl rfl) ?_)) ?_))
  ·refine ai ?_ (ai ?_ trivial)
   ·exact (ai (ai (fun _=>rfl) (aM (by omega))) rfl)
   ·refine ai (ai nof ?_) rfl
    show (if (d:Int)>_ then (d:Int) else _)=((maxD ((dB 1 x).take (y+1)):Nat):Int)
    rw[hs,aj0]
    show (if (d:Int)>((maxD ((dB 1 x).take y):Nat):Int) then (d:Int) else _)=((max _ d:Nat):Int)
    split<;>omega
  ·refine ⟨rfl,by omega,fun w hw=>?_⟩
   rw[hs] at hw
   rcases akI.1 hw with hw | hw
   ·exact hall w hw
   ·simp at hw;subst hw;show d≤16;omega
 ·rintro (y:Nat) ⟨hy,hk,hall⟩
  have hl:(preS.xs x).length=(dB 1 x).length:=apg _
  rw[hl] at hy hk hall
  subst hy
  rw[aiy] at hall
  refine ei (.one 0 (.alt 1 (.one 2 (.one 3 (.one 4 .done))) (.alt 2 (.one 1 (.one 3 (.one 4 .done))) .stop))) (ai (by kernel_rfl) ?_)
  refine ai ?_ (ai ?_ trivial)
  ·refine ai (ai (fun _=>(by exact (ai trivial (ai trivial trivial)))) ?_) trivial
   show au _ (nL x)
   rw[nL,aef hk hall]
   refine (ai rfl (ai ?_ rfl))
   ·show ((maxD ((dB 1 x).take (dB 1 x).length):Nat):Int)=_
    rw[aiy]
  ·refine ai (ai (fun _=>(by exact (ai trivial (ai trivial trivial)))) ?_) trivial
   show au _ (nL x)
   rw[nL,aef hk hall]
   refine (ai rfl (ai ?_ rfl))
   ·show ((maxD ((dB 1 x).take (dB 1 x).length):Nat):Int)=_
    rw[aiy]
def dS (o:Int):Nat:=if o=2 then 1 else if o=3∨o=4 then 2 else 0
def wV (o:Int):Nat:=if o=2 then 1 else if o=3∨o=4 then 256 else 0
def oV (o n:Int):Int:=if o=0 then 1 else if o=1 then n-1 else 0
def aO (x:Ex) (n:Int):Int:=
 if x.op<0∨5≤x.op then 1 else if x.args.length<dS x.op∨wV x.op<x.args.length then 3 else if x.idx<0∨oV x.op n<x.idx then 2 else 0
def evC (v:Bool):PV:=.fn 228 [.pt [bP v] 0]
def shC:List PV:=[iP 0,iP 0,.val .nilFunc,iP 0,iP 0,.val .nilFunc,iP 1,iP 1,evC false,iP 2,iP 256,evC true,iP 2,iP 256,.fn 221 []]
def aph:Spec:=cu (fun v:Bool=>[bA v]) (fun _=>True) (fun v=>evC v)
theorem ag0:aL Tryz.prog 220 aph:=by
 refine bg (Tb:=tab) mixed ay Tryz.func220 rfl rfl ?_
 rintro (v:Bool) hpre
 refine ai (ai rfl (ai rfl rfl)) ?_
 refine ai (ai (fun _=>trivial) ?_) trivial
 exact (ai rfl rfl)
def anU:Spec:=cu (fun _:Unit=>[]) (fun _=>True) (fun _=>.agg shC)
theorem jX:aL Tryz.prog 205 anU:=by
 refine bg (Tb:=tab) mixed ay Tryz.func205 rfl rfl ?_
 rintro ⟨⟩ hpre
 refine ai (ai rfl (ai rfl rfl)) ?_
 refine ei _ (ai (ag0) (ei (false) (ei [] (ai (a4 (ai (fun _=>Or.inl rfl) (ai nof (Or.inl rfl)))) (ai (by exact rfl) (ai trivial (ai (trivial) ?_)))))))
 refine ei _ (ai (ag0) (ei (true) (ei [] (ai (a4 (ai (fun _=>Or.inl rfl) (ai nof (Or.inl rfl)))) (ai (by exact rfl) (ai trivial (ai (trivial) ?_)))))))
 refine ai (ai (fun _=>(by exact (ai trivial (ai trivial (ai trivial (ai trivial (ai trivial (ai trivial (ai trivial (ai trivial (ai trivial (ai trivial (ai trivial (ai trivial (ai trivial (ai trivial trivial)))))))))))))))) ?_) trivial
 exact (ai rfl (ai rfl (ai rfl (ai rfl (ai rfl (ai rfl (ai rfl (ai rfl (ai (ai rfl rfl) (ai rfl (ai rfl (ai (ai rfl rfl) (ai rfl (ai rfl (ai rfl rfl)))))))))))))))
def aqC:Spec:=cu (fun y:Ex×Int=>[qx y.1,iA y.2]) (fun y=>y.1.args.length≤1000000∧0≤y.2∧y.2≤256) (fun y=>iP (aO y.1 y.2))
theorem anF:aL Tryz.prog 172 aqC:=by
 refine bg (Tb:=tab) mixed ay Tryz.func172 rfl rfl ?_
 rintro ⟨⟨o,i,l⟩,n⟩ hpre
 refine ai (ai rfl (ai rfl rfl)) ?_
 obtain ⟨hl,hn1,hn2⟩:=hpre
 have hl:l.length≤1000000:=hl
 have hn1:0≤n:=hn1
 have hn2:n≤256:=hn2
 refine ah (p:=o<0) (ak Iff.rfl) (fun h1=>?_) (fun h1=>?_)
 ·refine ai (ai (fun _=>trivial) ?_) trivial
  show au _ (iP (aO (.node o i l) n))
  rw[aO,if_pos (.inl h1)]
  exact rfl
 refine ah (p:=5≤o) (bX Iff.rfl) (fun h2=>?_) (fun h2=>?_)
 ·refine ai (ai (fun _=>trivial) ?_) trivial
  show au _ (iP (aO (.node o i l) n))
  rw[aO,if_pos (.inr h2)]
  exact rfl
 have hA:aO (.node o i l) n=if l.length<dS o∨wV o<l.length then 3 else if i<0∨oV o n<i then 2 else 0:=by
  unfold aO
  rw[if_neg (by show ¬(o<0∨5≤o);omega)]
 have ho:o=0∨o=1∨o=2∨o=3∨o=4:=by omega
 rcases ho with rfl | rfl | rfl | rfl | rfl
 ·refine ei (.one 1 (.one 2 (.alt 0 (.one 3 (.one 4 (.one 5 .done))) (.alt 4 (.one 0 (.one 3 (.one 5 .done))) .stop)))) (ai (by kernel_rfl) ?_)
  refine ai ?_ (ai ?_ trivial)
  ·refine ei _ (ai (jX) (ei (()) (ei [] (ai (a4 (ai (fun _=>Or.inl rfl) (ai nof (Or.inl rfl)))) (ai (by exact trivial) (ai trivial (ai (trivial) ?_)))))))
   refine ai (ai (by show (0:Int)≤0;decide) (by show (0:Int)<5;decide)) ?_
   have hA:aO (.node 0 i l) n=if l.length<0∨0<l.length then 3 else if i<0∨1<i then 2 else 0:=hA
   refine ah (p:=0<l.length) (ak (by dsimp only;omega)) (fun h4=>?_) (fun h4=>?_)
   ·refine ai (ai (fun _=>trivial) ?_) trivial
    show au _ (iP (aO (.node 0 i l) n))
    rw[hA,if_pos (.inr h4)]
    exact rfl
   rw[if_neg (fun h=>h.elim (ani _) h4)] at hA
   refine ah (p:=i<0) (ak Iff.rfl) (fun h5=>?_) (fun h5=>?_)
   ·refine ai (ai (fun _=>trivial) ?_) trivial
    show au _ (iP (aO (.node 0 i l) n))
    rw[hA,if_pos (.inl h5)]
    exact rfl
   refine ah (p:=1<i) (by first | exact ak Iff.rfl | exact ak (by rw[iQ (n:=n-1) (by omega) (by omega)])) (fun h6=>?_) (fun h6=>?_)
   ·refine ai (ai (fun _=>trivial) ?_) trivial
    show au _ (iP (aO (.node 0 i l) n))
    rw[hA,if_pos (.inr h6)]
    exact rfl
   ·refine ai (ai (fun _=>trivial) ?_) trivial
    show au _ (iP (aO (.node 0 i l) n))
    rw[hA,if_neg (fun h=>h.elim h5 h6)]
    exact rfl
  ·refine ei _ (ai (jX) (ei (()) (ei [] (ai (a4 (ai (fun _=>Or.inl rfl) (ai nof (Or.inl rfl)))) (ai (by exact trivial) (ai trivial (ai (trivial) ?_)))))))
   refine ai (ai (by show (0:Int)≤0;decide) (by show (0:Int)<5;decide)) ?_
   have hA:aO (.node 0 i l) n=if l.length<0∨0<l.length then 3 else if i<0∨1<i then 2 else 0:=hA
   refine ah (p:=0<l.length) (ak (by dsimp only;omega)) (fun h4=>?_) (fun h4=>?_)
   ·refine ai (ai (fun _=>trivial) ?_) trivial
    show au _ (iP (aO (.node 0 i l) n))
    rw[hA,if_pos (.inr h4)]
    exact rfl
   rw[if_neg (fun h=>h.elim (ani _) h4)] at hA
   refine ah (p:=i<0) (ak Iff.rfl) (fun h5=>?_) (fun h5=>?_)
   ·refine ai (ai (fun _=>trivial) ?_) trivial
    show au _ (iP (aO (.node 0 i l) n))
    rw[hA,if_pos (.inl h5)]
    exact rfl
   refine ah (p:=1<i) (by first | exact ak Iff.rfl | exact ak (by rw[iQ (n:=n-1) (by omega) (by omega)])) (fun h6=>?_) (fun h6=>?_)
   ·refine ai (ai (fun _=>trivial) ?_) trivial
    show au _ (iP (aO (.node 0 i l) n))
    rw[hA,if_pos (.inr h6)]
    exact rfl
   ·refine ai (ai (fun _=>trivial) ?_) trivial
    show au _ (iP (aO (.node 0 i l) n))
    rw[hA,if_neg (fun h=>h.elim h5 h6)]
    exact rfl
 ·refine ei (.one 1 (.one 2 (.alt 0 (.one 3 (.one 4 (.one 5 .done))) (.alt 4 (.one 0 (.one 3 (.one 5 .done))) .stop)))) (ai (by kernel_rfl) ?_)
  refine ai ?_ (ai ?_ trivial)
  ·refine ei _ (ai (jX) (ei (()) (ei [] (ai (a4 (ai (fun _=>Or.inl rfl) (ai nof (Or.inl rfl)))) (ai (by exact trivial) (ai trivial (ai (trivial) ?_)))))))
   refine ai (ai (by show (0:Int)≤1;decide) (by show (1:Int)<5;decide)) ?_
   have hA:aO (.node 1 i l) n=if l.length<0∨0<l.length then 3 else if i<0∨(n-1)<i then 2 else 0:=hA
   refine ah (p:=0<l.length) (ak (by dsimp only;omega)) (fun h4=>?_) (fun h4=>?_)
   ·refine ai (ai (fun _=>trivial) ?_) trivial
    show au _ (iP (aO (.node 1 i l) n))
    rw[hA,if_pos (.inr h4)]
    exact rfl
   rw[if_neg (fun h=>h.elim (ani _) h4)] at hA
   refine ah (p:=i<0) (ak Iff.rfl) (fun h5=>?_) (fun h5=>?_)
   ·refine ai (ai (fun _=>trivial) ?_) trivial
    show au _ (iP (aO (.node 1 i l) n))
    rw[hA,if_pos (.inl h5)]
    exact rfl
   refine ah (p:=(n-1)<i) (by first | exact ak Iff.rfl | exact ak (by rw[iQ (n:=n-1) (by omega) (by omega)])) (fun h6=>?_) (fun h6=>?_)
   ·refine ai (ai (fun _=>trivial) ?_) trivial
    show au _ (iP (aO (.node 1 i l) n))
    rw[hA,if_pos (.inr h6)]
    exact rfl
   ·refine ai (ai (fun _=>trivial) ?_) trivial
    show au _ (iP (aO (.node 1 i l) n))
    rw[hA,if_neg (fun h=>h.elim h5 h6)]
    exact rfl
  ·refine ei _ (ai (jX) (ei (()) (ei [] (ai (a4 (ai (fun _=>Or.inl rfl) (ai nof (Or.inl rfl)))) (ai (by exact trivial) (ai trivial (ai (trivial) ?_)))))))
   refine ai (ai (by show (0:Int)≤1;decide) (by show (1:Int)<5;decide)) ?_
   have hA:aO (.node 1 i l) n=if l.length<0∨0<l.length then 3 else if i<0∨(n-1)<i then 2 else 0:=hA
   refine ah (p:=0<l.length) (ak (by dsimp only;omega)) (fun h4=>?_) (fun h4=>?_)
   ·refine ai (ai (fun _=>trivial) ?_) trivial
    show au _ (iP (aO (.node 1 i l) n))
    rw[hA,if_pos (.inr h4)]
    exact rfl
   rw[if_neg (fun h=>h.elim (ani _) h4)] at hA
   refine ah (p:=i<0) (ak Iff.rfl) (fun h5=>?_) (fun h5=>?_)
   ·refine ai (ai (fun _=>trivial) ?_) trivial
    show au _ (iP (aO (.node 1 i l) n))
    rw[hA,if_pos (.inl h5)]
    exact rfl
   refine ah (p:=(n-1)<i) (by first | exact ak Iff.rfl | exact ak (by rw[iQ (n:=n-1) (by omega) (by omega)])) (fun h6=>?_) (fun h6=>?_)
   ·refine ai (ai (fun _=>trivial) ?_) trivial
    show au _ (iP (aO (.node 1 i l) n))
    rw[hA,if_pos (.inr h6)]
    exact rfl
   ·refine ai (ai (fun _=>trivial) ?_) trivial
    show au _ (iP (aO (.node 1 i l) n))
    rw[hA,if_neg (fun h=>h.elim h5 h6)]
    exact rfl
 ·refine ei (.one 1 (.one 2 (.alt 0 (.one 3 (.one 4 (.one 5 .done))) (.alt 4 (.one 0 (.one 3 (.one 5 .done))) .stop)))) (ai (by kernel_rfl) ?_)
  refine ai ?_ (ai ?_ trivial)
  ·refine ei _ (ai (jX) (ei (()) (ei [] (ai (a4 (ai (fun _=>Or.inl rfl) (ai nof (Or.inl rfl)))) (ai (by exact trivial) (ai trivial (ai (trivial) ?_)))))))
   refine ai (ai (by show (0:Int)≤2;decide) (by show (2:Int)<5;decide)) ?_
   have hA:aO (.node 2 i l) n=if l.length<1∨1<l.length then 3 else if i<0∨0<i then 2 else 0:=hA
   refine ah (p:=l.length<1) (ak (by dsimp only;omega)) (fun h3=>?_) (fun h3=>?_)
   ·refine ai (ai (fun _=>trivial) ?_) trivial
    show au _ (iP (aO (.node 2 i l) n))
    rw[hA,if_pos (.inl h3)]
    exact rfl
   refine ah (p:=1<l.length) (ak (by dsimp only;omega)) (fun h4=>?_) (fun h4=>?_)
   ·refine ai (ai (fun _=>trivial) ?_) trivial
    show au _ (iP (aO (.node 2 i l) n))
    rw[hA,if_pos (.inr h4)]
    exact rfl
   rw[if_neg (fun h=>h.elim h3 h4)] at hA
   refine ah (p:=i<0) (ak Iff.rfl) (fun h5=>?_) (fun h5=>?_)
   ·refine ai (ai (fun _=>trivial) ?_) trivial
    show au _ (iP (aO (.node 2 i l) n))
    rw[hA,if_pos (.inl h5)]
    exact rfl
   skip
   refine ah (p:=0<i) (ak Iff.rfl) (fun h6=>?_) (fun h6=>?_)
   ·refine ai (ai (fun _=>trivial) ?_) trivial
    show au _ (iP (aO (.node 2 i l) n))
    rw[hA,if_pos (.inr h6)]
    exact rfl
   ·refine ai (ai (fun _=>trivial) ?_) trivial
    show au _ (iP (aO (.node 2 i l) n))
    rw[hA,if_neg (fun h=>h.elim h5 h6)]
    exact rfl
  ·refine ei _ (ai (jX) (ei (()) (ei [] (ai (a4 (ai (fun _=>Or.inl rfl) (ai nof (Or.inl rfl)))) (ai (by exact trivial) (ai trivial (ai (trivial) ?_)))))))
   refine ai (ai (by show (0:Int)≤2;decide) (by show (2:Int)<5;decide)) ?_
   have hA:aO (.node 2 i l) n=if l.length<1∨1<l.length then 3 else if i<0∨0<i then 2 else 0:=hA
   refine ah (p:=l.length<1) (ak (by dsimp only;omega)) (fun h3=>?_) (fun h3=>?_)
   ·refine ai (ai (fun _=>trivial) ?_) trivial
    show au _ (iP (aO (.node 2 i l) n))
    rw[hA,if_pos (.inl h3)]
    exact rfl
   refine ah (p:=1<l.length) (ak (by dsimp only;omega)) (fun h4=>?_) (fun h4=>?_)
   ·refine ai (ai (fun _=>trivial) ?_) trivial
    show au _ (iP (aO (.node 2 i l) n))
    rw[hA,if_pos (.inr h4)]
    exact rfl
   rw[if_neg (fun h=>h.elim h3 h4)] at hA
   refine ah (p:=i<0) (ak Iff.rfl) (fun h5=>?_) (fun h5=>?_)
   ·refine ai (ai (fun _=>trivial) ?_) trivial
    show au _ (iP (aO (.node 2 i l) n))
    rw[hA,if_pos (.inl h5)]
    exact rfl
   skip
   refine ah (p:=0<i) (ak Iff.rfl) (fun h6=>?_) (fun h6=>?_)
   ·refine ai (ai (fun _=>trivial) ?_) trivial
    show au _ (iP (aO (.node 2 i l) n))
    rw[hA,if_pos (.inr h6)]
    exact rfl
   ·refine ai (ai (fun _=>trivial) ?_) trivial
    show au _ (iP (aO (.node 2 i l) n))
    rw[hA,if_neg (fun h=>h.elim h5 h6)]
    exact rfl
 ·refine ei (.one 1 (.one 2 (.alt 0 (.one 3 (.one 4 (.one 5 .done))) (.alt 4 (.one 0 (.one 3 (.one 5 .done))) .stop)))) (ai (by kernel_rfl) ?_)
  refine ai ?_ (ai ?_ trivial)
  ·refine ei _ (ai (jX) (ei (()) (ei [] (ai (a4 (ai (fun _=>Or.inl rfl) (ai nof (Or.inl rfl)))) (ai (by exact trivial) (ai trivial (ai (trivial) ?_)))))))
   refine ai (ai (by show (0:Int)≤3;decide) (by show (3:Int)<5;decide)) ?_
   have hA:aO (.node 3 i l) n=if l.length<2∨256<l.length then 3 else if i<0∨0<i then 2 else 0:=hA
   refine ah (p:=l.length<2) (ak (by dsimp only;omega)) (fun h3=>?_) (fun h3=>?_)
   ·refine ai (ai (fun _=>trivial) ?_) trivial
    show au _ (iP (aO (.node 3 i l) n))
    rw[hA,if_pos (.inl h3)]
    exact rfl
   refine ah (p:=256<l.length) (ak (by dsimp only;omega)) (fun h4=>?_) (fun h4=>?_)
   ·refine ai (ai (fun _=>trivial) ?_) trivial
    show au _ (iP (aO (.node 3 i l) n))
    rw[hA,if_pos (.inr h4)]
    exact rfl
   rw[if_neg (fun h=>h.elim h3 h4)] at hA
   refine ah (p:=i<0) (ak Iff.rfl) (fun h5=>?_) (fun h5=>?_)
   ·refine ai (ai (fun _=>trivial) ?_) trivial
    show au _ (iP (aO (.node 3 i l) n))
    rw[hA,if_pos (.inl h5)]
    exact rfl
   skip
   refine ah (p:=0<i) (ak Iff.rfl) (fun h6=>?_) (fun h6=>?_)
   ·refine ai (ai (fun _=>trivial) ?_) trivial
    show au _ (iP (aO (.node 3 i l) n))
    rw[hA,if_pos (.inr h6)]
    exact rfl
   ·refine ai (ai (fun _=>trivial) ?_) trivial
    show au _ (iP (aO (.node 3 i l) n))
    rw[hA,if_neg (fun h=>h.elim h5 h6)]
    exact rfl
  ·refine ei _ (ai (jX) (ei (()) (ei [] (ai (a4 (ai (fun _=>Or.inl rfl) (ai nof (Or.inl rfl)))) (ai (by exact trivial) (ai trivial (ai (trivial) ?_)))))))
   refine ai (ai (by show (0:Int)≤3;decide) (by show (3:Int)<5;decide)) ?_
   have hA:aO (.node 3 i l) n=if l.length<2∨256<l.length then 3 else if i<0∨0<i then 2 else 0:=hA
   refine ah (p:=l.length<2) (ak (by dsimp only;omega)) (fun h3=>?_) (fun h3=>?_)
   ·refine ai (ai (fun _=>trivial) ?_) trivial
    show au _ (iP (aO (.node 3 i l) n))
    rw[hA,if_pos (.inl h3)]
    exact rfl
   refine ah (p:=256<l.length) (ak (by dsimp only;omega)) (fun h4=>?_) (fun h4=>?_)
   ·refine ai (ai (fun _=>trivial) ?_) trivial
    show au _ (iP (aO (.node 3 i l) n))
    rw[hA,if_pos (.inr h4)]
    exact rfl
   rw[if_neg (fun h=>h.elim h3 h4)] at hA
   refine ah (p:=i<0) (ak Iff.rfl) (fun h5=>?_) (fun h5=>?_)
   ·refine ai (ai (fun _=>trivial) ?_) trivial
    show au _ (iP (aO (.node 3 i l) n))
    rw[hA,if_pos (.inl h5)]
    exact rfl
   skip
   refine ah (p:=0<i) (ak Iff.rfl) (fun h6=>?_) (fun h6=>?_)
   ·refine ai (ai (fun _=>trivial) ?_) trivial
    show au _ (iP (aO (.node 3 i l) n))
    rw[hA,if_pos (.inr h6)]
    exact rfl
   ·refine ai (ai (fun _=>trivial) ?_) trivial
    show au _ (iP (aO (.node 3 i l) n))
    rw[hA,if_neg (fun h=>h.elim h5 h6)]
    exact rfl
 ·refine ei (.one 1 (.one 2 (.alt 0 (.one 3 (.one 4 (.one 5 .done))) (.alt 4 (.one 0 (.one 3 (.one 5 .done))) .stop)))) (ai (by kernel_rfl) ?_)
  refine ai ?_ (ai ?_ trivial)
  ·refine ei _ (ai (jX) (ei (()) (ei [] (ai (a4 (ai (fun _=>Or.inl rfl) (ai nof (Or.inl rfl)))) (ai (by exact trivial) (ai trivial (ai (trivial) ?_)))))))
   refine ai (ai (by show (0:Int)≤4;decide) (by show (4:Int)<5;decide)) ?_
   have hA:aO (.node 4 i l) n=if l.length<2∨256<l.length then 3 else if i<0∨0<i then 2 else 0:=hA
   refine ah (p:=l.length<2) (ak (by dsimp only;omega)) (fun h3=>?_) (fun h3=>?_)
   ·refine ai (ai (fun _=>trivial) ?_) trivial
    show au _ (iP (aO (.node 4 i l) n))
    rw[hA,if_pos (.inl h3)]
    exact rfl
   refine ah (p:=256<l.length) (ak (by dsimp only;omega)) (fun h4=>?_) (fun h4=>?_)
   ·refine ai (ai (fun _=>trivial) ?_) trivial
    show au _ (iP (aO (.node 4 i l) n))
    rw[hA,if_pos (.inr h4)]
    exact rfl
   rw[if_neg (fun h=>h.elim h3 h4)] at hA
   refine ah (p:=i<0) (ak Iff.rfl) (fun h5=>?_) (fun h5=>?_)
   ·refine ai (ai (fun _=>trivial) ?_) trivial
    show au _ (iP (aO (.node 4 i l) n))
    rw[hA,if_pos (.inl h5)]
    exact rfl
   skip
   refine ah (p:=0<i) (ak Iff.rfl) (fun h6=>?_) (fun h6=>?_)
   ·refine ai (ai (fun _=>trivial) ?_) trivial
    show au _ (iP (aO (.node 4 i l) n))
    rw[hA,if_pos (.inr h6)]
    exact rfl
   ·refine ai (ai (fun _=>trivial) ?_) trivial
    show au _ (iP (aO (.node 4 i l) n))
    rw[hA,if_neg (fun h=>h.elim h5 h6)]
    exact rfl
  ·refine ei _ (ai (jX) (ei (()) (ei [] (ai (a4 (ai (fun _=>Or.inl rfl) (ai nof (Or.inl rfl)))) (ai (by exact trivial) (ai trivial (ai (trivial) ?_)))))))
   refine ai (ai (by show (0:Int)≤4;decide) (by show (4:Int)<5;decide)) ?_
   have hA:aO (.node 4 i l) n=if l.length<2∨256<l.length then 3 else if i<0∨0<i then 2 else 0:=hA
   refine ah (p:=l.length<2) (ak (by dsimp only;omega)) (fun h3=>?_) (fun h3=>?_)
   ·refine ai (ai (fun _=>trivial) ?_) trivial
    show au _ (iP (aO (.node 4 i l) n))
    rw[hA,if_pos (.inl h3)]
    exact rfl
   refine ah (p:=256<l.length) (ak (by dsimp only;omega)) (fun h4=>?_) (fun h4=>?_)
   ·refine ai (ai (fun _=>trivial) ?_) trivial
    show au _ (iP (aO (.node 4 i l) n))
    rw[hA,if_pos (.inr h4)]
    exact rfl
   rw[if_neg (fun h=>h.elim h3 h4)] at hA
   refine ah (p:=i<0) (ak Iff.rfl) (fun h5=>?_) (fun h5=>?_)
   ·refine ai (ai (fun _=>trivial) ?_) trivial
    show au _ (iP (aO (.node 4 i l) n))
    rw[hA,if_pos (.inl h5)]
    exact rfl
   skip
   refine ah (p:=0<i) (ak Iff.rfl) (fun h6=>?_) (fun h6=>?_)
   ·refine ai (ai (fun _=>trivial) ?_) trivial
    show au _ (iP (aO (.node 4 i l) n))
    rw[hA,if_pos (.inr h6)]
    exact rfl
   ·refine ai (ai (fun _=>trivial) ?_) trivial
    show au _ (iP (aO (.node 4 i l) n))
    rw[hA,if_neg (fun h=>h.elim h5 h6)]
    exact rfl
def eG (l:List (Nat×Ex)) (n:Int):Int:=((l.map fun y=>aO y.2 n).find? (fun e=>e != 0)).getD 0
def dL (x:Ex) (n:Int):Int:=if n<0∨256<n then 2 else if x.size≤256∧x.deep≤16 then eG (dB 1 x) n else 5
theorem aep {α:Type} {p:α→Bool}:∀{l:List α} {k:Nat},(∀j,j<k→∀y,l[j]?=some y→p y=false)→∀{y:α},l[k]?=some y→p y=true→l.find? p=some y
 | [],k,_,y,h,_=>by simp at h
 | z :: l,0,_,y,h,hp=>by simp at h;subst h;simp[hp]
 | z :: l,k+1,hs,y,h,hp=>by
  have h0:=hs 0 (by omega) z rfl
  rw[List.find?_cons,h0]
  exact aep (k:=k) (fun j hj y hy=>hs (j+1) (by omega) y (by simpa using hy)) (by simpa using h) hp
theorem aeT {l:List (Nat×Ex)} {n:Int} {k d:Nat} {x:Ex} (h0:∀z∈l.take k,aO z.2 n=0) (h:l[k]?=some (d,x)) (hn:aO x n≠0):eG l n=aO x n:=by
 unfold eG
 rw[aep (k:=k) (y:=aO x n)]
 ·rfl
 ·intro j hj y hy
  rw[ane] at hy
  cases hc:l[j]? with
  | none=>rw[hc] at hy;simp at hy
  | some z=>
   rw[hc] at hy;simp at hy;subst hy
   have:z∈l.take k:=by
    have:(l.take k)[j]?=some z:=by rw[anh];simp[hj,hc]
    exact abv this
   simp[h0 z this]
 ·rw[ane,h];rfl
 ·simpa using hn
theorem vK {l:List (Nat×Ex)} {n:Int} (h0:∀z∈l,aO z.2 n=0):eG l n=0:=by
 unfold eG
 rw[as7.2]
 ·rfl
 ·intro y hy
  obtain ⟨z,hz,rfl⟩:=ar4.1 hy
  simp[h0 z hz]
theorem ado {l:List (Nat×Ex)} {n:Int}:eG l n=0↔∀z∈l,aO z.2 n=0:=by
 constructor
 ·intro h z hz
  refine Classical.byContradiction fun hne=>?_
  unfold eG at h
  cases hf:(l.map fun y=>aO y.2 n).find? (fun e=>e != 0) with
  | none=>
   have:=as7.1 hf (aO z.2 n) (List.mem_map_of_mem hz)
   simp at this;exact hne this
  | some e=>
   rw[hf] at h
   have:=List.find?_some hf
   simp at h;simp[h] at this
 ·exact vK
mutual
theorem af7:∀(x:Ex) (d:Nat) (z:Nat×Ex),z∈dB d x→z.2.size≤x.size
 | .node o i l,d,z,h=>by
  rw[qG] at h
  rcases akZ.1 h with rfl | h
  ·exact aic _
  ·unfold gW at h
   rw[Ex.size]
   split at h
   ·have:=aeP l (d+1) z h;omega
   ·simp at h
theorem aeP:∀(l:List Ex) (d:Nat) (z:Nat×Ex),z∈gF d l→z.2.size≤sizes l
 | [],d,z,h=>by rw[gF] at h;simp at h
 | x :: l,d,z,h=>by
  rw[gF] at h
  rw[sizes]
  rcases akI.1 h with h | h
  ·have:=af7 x d z h;omega
  ·have:=aeP l d z h;omega
end
theorem gN (x:Ex):x.args.length<x.size:=by rw[x.size_eq];have:=aaA x.args;omega
def aqi:Spec:=cu (fun y:Ex×Int=>[qx y.1,iA y.2]) (fun y=>y.1.size≤1000000) (fun y=>iP (dL y.1 y.2))
theorem ab3:aL Tryz.prog 140 aqi:=by
 refine bg (Tb:=tab) mixed ay Tryz.func140 rfl rfl ?_
 rintro ⟨x,n⟩ hpre
 refine ai (ai rfl (ai rfl rfl)) ?_
 have hpre:x.size≤1000000:=hpre
 refine ah (p:=n<0) (ak (by omega)) (fun h1=>?_) (fun h1=>?_)
 ·refine ai (ai (fun _=>trivial) ?_) trivial
  show au _ (iP (dL x n))
  rw[dL,if_pos (.inl h1)]
  exact rfl
 refine ah (p:=256<n) (ak (by omega)) (fun h2=>?_) (fun h2=>?_)
 ·refine ai (ai (fun _=>trivial) ?_) trivial
  show au _ (iP (dL x n))
  rw[dL,if_pos (.inr h2)]
  exact rfl
 have hA:dL x n=if x.size≤256∧x.deep≤16 then eG (dB 1 x) n else 5:=by
  unfold dL;rw[if_neg (fun h=>h.elim h1 h2)]
 by_cases hm:x.size≤256∧x.deep≤16
 ·have e1:nL x=.tup [iP x.size,iP x.deep,bP true]:=by unfold nL wW;rw[if_pos hm]
  rw[if_pos hm] at hA
  refine ei _ (ai ((uS aiC x hpre e1)) (ei (()) (ei [] (ai (a4 (ai (fun _=>Or.inl rfl) (ai nof (Or.inl rfl)))) (ai (by exact (ai rfl (ai rfl (ai rfl (fun _ _=>rfl))))) (ai trivial (ai (trivial) ?_)))))))
  refine ei _ (ai (alx) (ei (x) (ei [] (ai (a4 (ai (fun _=>Or.inl rfl) (ai nof (Or.inl rfl)))) (ai (by exact (ai rfl (ai rfl (ai rfl (fun _ _=>rfl))))) (ai trivial (ai (trivial) ?_)))))))
  refine ai (ai rfl rfl) (ei preS (ai afJ (ei x (ai ?_ (ai hpre (ai ak1 (ei { X:=Nat,uo:=fun k=>[],inv:=fun k y=>y=k∧∀z∈(dB 1 x).take k,aO z.2 n=0,x0:=0 } (ai ?_ (ai ?_ (ai ?_ (ai ?_ ?_)))))))))))
  ·exact (ai rfl rfl)
  ·exact (ai rfl (ai rfl (ai rfl rfl)))
  ·exact trivial
  ·exact ⟨rfl,by simp⟩
  ·rintro k (y:Nat) vs ⟨hy,hall⟩ hvs
   subst hy
   obtain ⟨d,z,hg,rfl⟩:=akH hvs
   have hz:=abv hg
   have hzs:z.size≤x.size:=af7 x 1 _ hz
   have hza:=gN z
   refine ei _ (ai (anF) (ei ((z,n)) (ei [] (ai (a4 (ai (fun _=>Or.inl rfl) (ai nof (Or.inl rfl)))) (ai (by exact (ai (ai rfl (ai rfl (ai rfl (fun _ _=>rfl)))) rfl)) (ai trivial (ai (⟨by show z.args.length≤1000000;omega,by show 0≤n;omega,by show n≤256;omega⟩) ?_)))))))
   refine bH (p:=aO z n=0) (bU (by dsimp only;omega)) (fun h3=>?_) (fun h3=>?_)
   ·refine ai (ai (fun _=>trivial) ?_) trivial
    show au _ (iP (dL x n))
    rw[hA,aeT hall hg h3]
    exact rfl
   refine ei (y+1) (ai rfl (ai (ai (ai rfl rfl) (ai (ai rfl rfl) ?_)) ⟨rfl,?_⟩))
   ·exact trivial
   ·intro w hw
    have hs:(dB 1 x).take (y+1)=(dB 1 x).take y++[(d,z)]:=by rw[asT,hg];rfl
    rw[hs] at hw
    rcases akI.1 hw with hw | hw
    ·exact hall w hw
    ·simp at hw;subst hw;exact h3
  ·rintro (y:Nat) ⟨hy,hall⟩
   have hl:(preS.xs x).length=(dB 1 x).length:=apg _
   rw[hl] at hy hall
   subst hy
   rw[aiy] at hall
   refine ai (ai (fun _=>trivial) ?_) trivial
   show au _ (iP (dL x n))
   rw[hA,vK hall]
   exact rfl
 ·have e1:nL x=.tup [iP 0,iP 0,bP false]:=by unfold nL wW;rw[if_neg hm]
  rw[if_neg hm] at hA
  refine ei _ (ai ((uS aiC x hpre e1)) (ei (()) (ei [] (ai (a4 (ai (fun _=>Or.inl rfl) (ai nof (Or.inl rfl)))) (ai (by exact (ai rfl (ai rfl (ai rfl (fun _ _=>rfl))))) (ai trivial (ai (trivial) ?_)))))))
  refine ai (ai (fun _=>trivial) ?_) trivial
  show au _ (iP (dL x n))
  rw[hA]
  exact rfl
mutual
def gU (n:Int):Ex→Prop
 | .node o i l=>aO (.node o i l) n=0∧rP n l
def rP (n:Int):List Ex→Prop
 | []=>True
 | x :: l=>gU n x∧rP n l
end
theorem ac8 (n:Int):∀l:List Ex,rP n l↔∀x∈l,gU n x
 | []=>by rw[rP];simp
 | x :: l=>by rw[rP,ac8 n l];simp
theorem fV (n:Int) (x:Ex):gU n x↔aO x n=0∧∀y∈x.args,gU n y:=by
 cases x;rw[gU,ac8]
mutual
theorem agC (n:Int):∀(x:Ex) (d:Nat),x.deep+d≤17→((∀z∈dB d x,aO z.2 n=0)↔gU n x)
 | .node o i l,d,h=>by
  rw[Ex.deep] at h
  rw[qG,gU]
  unfold gW
  rw[if_pos (by omega),←aeA n l (d+1) (by omega)]
  constructor
  ·exact fun h=>⟨h _ apl,fun z hz=>h z (aps _ hz)⟩
  ·rintro ⟨h1,h2⟩ z hz
   rcases akZ.1 hz with rfl | hz
   ·exact h1
   ·exact h2 z hz
theorem aeA (n:Int):∀(l:List Ex) (d:Nat),jD l+d≤17→((∀z∈gF d l,aO z.2 n=0)↔rP n l)
 | [],d,h=>by rw[gF,rP];simp
 | x :: l,d,h=>by
  rw[jD] at h
  rw[gF,rP,←agC n x d (by omega),←aeA n l d (by omega)]
  constructor
  ·exact fun h=>⟨fun z hz=>h z (List.mem_append_left _ hz),fun z hz=>h z (asY _ hz)⟩
  ·rintro ⟨h1,h2⟩ z hz
   rcases akI.1 hz with hz | hz
   ·exact h1 z hz
   ·exact h2 z hz
end
theorem vS {x:Ex} {n:Int}:dL x n=0↔(0≤n∧n≤256)∧(x.size≤256∧x.deep≤16)∧gU n x:=by
 unfold dL
 by_cases h1:n<0∨256<n
 ·rw[if_pos h1]
  constructor
  ·intro h;exact absurd h (by decide)
  ·rintro ⟨h,_⟩;omega
 ·rw[if_neg h1]
  by_cases h2:x.size≤256∧x.deep≤16
  ·rw[if_pos h2,ado,agC n x 1 (by omega)]
   exact ⟨fun h=>⟨by omega,h2,h⟩,fun h=>h.2.2⟩
  ·rw[if_neg h2]
   constructor
   ·intro h;exact absurd h (by decide)
   ·rintro ⟨_,h,_⟩;exact absurd h h2
theorem dW {x:Ex} {n:Int} (h:aO x n=0):(0≤x.op∧x.op<5)∧(dS x.op≤x.args.length∧x.args.length≤wV x.op)∧(0≤x.idx∧x.idx≤oV x.op n):=by
 unfold aO at h
 split at h
 ·exact absurd h (by decide)
 ·split at h
  ·exact absurd h (by decide)
  ·split at h
   ·exact absurd h (by decide)
   ·omega
theorem uQ:∀(a b:List Ex),sizes (a++b)=sizes a+sizes b
 | [],b=>by rw[sizes,List.nil_append];omega
 | x :: a,b=>by rw[asX,sizes,sizes,uQ a b];omega
theorem gV {l:List Ex} {k:Nat} (h:k<l.length):sizes (l.take (k+1))=sizes (l.take k)+(l.getD k aH).size:=by
 rw[aX aH h,uQ];show _+(_+sizes [])=_;rw[sizes];rfl
theorem dX (l:List Ex) (k:Nat):sizes (l.take k)≤sizes l:=by
 conv=>rhs;rw[←ar8 k l,uQ]
 omega
def afG:Spec:=cu (fun a:Ex×Nat=>[qx a.1,iA a.2]) (fun a=>a.2≤1000000) (fun a=>iP (min a.1.size (a.2+1):Nat))
def ao1 (n:Nat):Spec:={ afG with pre:=fun a=>afG.pre a∧a.1.size≤n }
theorem aiL:∀n,aL Tryz.prog 121 (ao1 n)
 | 0=>by
  refine bg (Tb:=tab) mixed ay Tryz.func121 rfl rfl ?_
  rintro (a:Ex×Nat) hpre
  refine ai (ai rfl (ai rfl rfl)) ?_
  have:=size_pos a.1
  exact absurd hpre.2 (by show ¬a.1.size≤0;omega)
 | n+1=>by
  have ih:=aiL n
  refine bg (Tb:=tab) mixed ay Tryz.func121 rfl rfl ?_
  rintro (a:Ex×Nat) hpre
  refine ai (ai rfl (ai rfl rfl)) ?_
  obtain ⟨hm,hn⟩:=hpre
  have hm:a.2≤1000000:=hm
  have hn:a.1.size≤n+1:=hn
  have hsz:=a.1.size_eq
  refine ei (bG.inv { X:=Nat,up:=fun k=>[(6,.s (iA k)),(5,.s (iA (min (1+sizes (a.1.args.take k)) (a.2+1):Nat)))],uo:=fun _=>[],inv:=fun k=>k≤a.1.args.length∧k≤sizes (a.1.args.take k)∧k≤a.2,meas:=fun k=>a.2-k,x0:=0 }) ?_
  refine ai (ai (ai (by exact (a4 (ai rfl rfl))) (ai ?_ ?_)) ?_) (ai ?_ ?_)
  ·exact (ai (ai (ai (fun _=>rfl) (iE (by simp only[zz,reduceCtorEq];rfl))) rfl) (ai (ai (fun _=>rfl) (iE (by simp only[zz,reduceCtorEq];rfl))) rfl))
  ·exact trivial
  ·exact rfl
  ·exact ⟨ac7 _,ac7 _,ac7 _⟩
  rintro (k:Nat) ⟨hk1,hk2,hk3⟩
  refine ah (p:=k<a.1.args.length) (ak (by omega)) (fun h1=>?_) (fun h1=>?_)
  ·refine ah (p:=1+sizes (a.1.args.take k)≤a.2) (by exact bX (by show ((min (1+sizes (a.1.args.take k)) (a.2+1):Nat):Int)≤(a.2:Int)↔_;omega)) (fun h2=>?_) (fun h2=>?_)
   ·refine ai (ai (abr _) (by show (k:Int)<(a.1.args.length:Int);omega)) ?_
    refine ai rfl ?_
    have e1:min (1+sizes (a.1.args.take k)) (a.2+1)=1+sizes (a.1.args.take k):=by omega
    have hw:IntKind.i64.wrap ((a.2:Int)-((min (1+sizes (a.1.args.take k)) (a.2+1):Nat):Int))=((a.2-(1+sizes (a.1.args.take k)):Nat):Int):=by
     rw[e1,iQ (by omega) (by omega)];omega
    have hy:a.1.args.getD k aH∈a.1.args:=abv (fF h1)
    have hys:(a.1.args.getD k aH).size≤n:=by have:=bT hy;omega
    refine ei _ (ai (ih) (ei ((a.1.args.getD k aH,a.2-(1+sizes (a.1.args.take k)))) (ei [] (ai (a4 (ai (fun _=>Or.inl rfl) (ai nof (Or.inl rfl)))) (ai (by exact (ai (ai (iE (by simp only[zz,reduceCtorEq])) (ai (iE (by simp only[zz,reduceCtorEq])) (ai rfl (jm _)))) (iE (by simp only[zz,reduceCtorEq];omega)))) (ai trivial (ai (ai (by show a.2-(1+sizes (a.1.args.take k))≤1000000;omega) hys) ?_)))))))
    refine ei ((k+1)) (ai (ai rfl rfl) (ai (ai ?_ ?_) (ai ?_ ?_)))
    ·refine (ai rfl (ai (ai rfl rfl) (ai (ai rfl rfl) (ai (ai (ai (ai (fun _=>rfl) (aM (by omega))) rfl) (ai (ai (fun _=>rfl) ?_) rfl)) trivial))))
     show IntKind.i64.wrap (((min (1+sizes (a.1.args.take k)) (a.2+1):Nat):Int)+((min (a.1.args.getD k aH).size (a.2-(1+sizes (a.1.args.take k))+1):Nat):Int))=_
     rw[iQ (by omega) (by omega),gV h1];omega
    ·exact rfl
    ·have:=size_pos (a.1.args.getD k aH)
     exact ⟨h1,by rw[gV h1];omega,by omega⟩
    ·show a.2-(k+1)<a.2-k;omega
   ·have:=dX a.1.args k
    refine ai (ai (fun _=>trivial) ?_) trivial
    show au _ (iP (min a.1.size (a.2+1):Nat))
    rw[show min a.1.size (a.2+1)=min (1+sizes (a.1.args.take k)) (a.2+1) by omega]
    exact rfl
  ·obtain rfl:k=a.1.args.length:=by omega
   rw[aiy] at hk2
   refine ai (ai (fun _=>trivial) ?_) trivial
   show au _ (iP (min a.1.size (a.2+1):Nat))
   rw[show min a.1.size (a.2+1)=min (1+sizes (a.1.args.take a.1.args.length)) (a.2+1) by rw[aiy];omega]
   exact rfl
theorem afE:aL Tryz.prog 121 afG:=vw (fun a=>a.1.size) aiL
def ajj:Spec:=cu (fun a:Ex×Int=>[qx a.1,iA a.2]) (fun a=>a.2≤1000000∧a.1.size≤1000000) (fun a=>bP (decide ((a.1.deep:Int)≤a.2)))
def aqQ (n:Nat):Spec:={ ajj with pre:=fun a=>ajj.pre a∧a.1.size≤n }
theorem al5 {l:List Ex} {m:Nat} (h:∀x∈l,x.deep≤m):jD l≤m:=by
 induction l with
 | nil=>rw[jD];omega
 | cons x l ih=>
  rw[jD]
  have:=h x (by simp)
  have:=ih fun y hy=>h y (by simp[hy])
  omega
theorem am3 (x:Ex):decide ((x.deep:Int)≤1)=((x.args.length:Int)==0):=by
 have hde:=x.vY
 cases hl:x.args with
 | nil=>rw[hl,jD] at hde;rw[hde];rfl
 | cons y l=>
  rw[hl,jD] at hde
  have:=agI y
  rw[decide_eq_false (by omega)]
  symm;rw[beq_eq_false_iff_ne];simp;omega
theorem akG:∀n,aL Tryz.prog 122 (aqQ n)
 | 0=>by
  refine bg (Tb:=tab) mixed ay Tryz.func122 rfl rfl ?_
  rintro (a:Ex×Int) hpre
  refine ai (ai rfl (ai rfl rfl)) ?_
  have:=size_pos a.1
  exact absurd hpre.2 (by show ¬a.1.size≤0;omega)
 | n+1=>by
  have ih:=akG n
  refine bg (Tb:=tab) mixed ay Tryz.func122 rfl rfl ?_
  rintro (a:Ex×Int) hpre
  refine ai (ai rfl (ai rfl rfl)) ?_
  obtain ⟨hm,hn⟩:=hpre
  have hm1:a.2≤1000000:=hm.1
  have hm2:a.1.size≤1000000:=hm.2
  have hn:a.1.size≤n+1:=hn
  have hsz:=a.1.size_eq
  have hde:=a.1.vY
  refine ah (p:=a.2<1) (ak (by omega)) (fun h1=>?_) (fun h1=>?_)
  ·refine ai (ai (fun _=>trivial) ?_) trivial
   show au _ (bP (decide ((a.1.deep:Int)≤a.2)))
   rw[show decide ((a.1.deep:Int)≤a.2)=false from decide_eq_false (by omega)]
   exact rfl
  refine ah (p:=a.2=1) (bC (by omega)) (fun h2=>?_) (fun h2=>?_)
  ·refine ai (ai (fun _=>trivial) ?_) trivial
   show au _ (bP (decide ((a.1.deep:Int)≤a.2)))
   rw[show decide ((a.1.deep:Int)≤a.2)=((a.1.args.length:Int)==0) by rw[h2];exact am3 a.1]
   exact rfl
  have hal:=gN a.1
  refine ei (bG.inv { X:=Nat,up:=fun k=>[(5,.s (iA k))],uo:=fun k=>[],inv:=fun k=>k≤a.1.args.length∧(∀y∈a.1.args.take k,(y.deep:Int)≤a.2-1),meas:=fun k=>a.1.args.length-k,x0:=0 }) ?_
  refine ai (ai (ai (by exact (a4 (ai rfl rfl))) (ai (by exact (ai (ai (fun _=>rfl) (iE (by simp only[zz,reduceCtorEq];rfl))) rfl)) (by exact trivial))) rfl) (ai (ai (ac7 _) ?_) ?_)
  ·exact fun y hy=>absurd hy (by simp)
  intro (k:Nat) ⟨hk,hall⟩
  refine ah (p:=k<a.1.args.length) (ak (by omega)) (fun h3=>?_) (fun h3=>?_)
  ·refine ai (ai (abr _) (iN (n:=a.1.args.length) (by omega))) (ai rfl ?_)
   have hy:a.1.args.getD k aH∈a.1.args:=abv (fF h3)
   have hms:=bT hy
   have hys:(a.1.args.getD k aH).size≤n:=by omega
   have hw:IntKind.i64.wrap (a.2-1)=a.2-1:=iQ (by omega) (by omega)
   refine ei _ (ai (ih) (ei ((a.1.args.getD k aH,a.2-1)) (ei [] (ai (a4 (ai (fun _=>Or.inl rfl) (ai nof (Or.inl rfl)))) (ai (by exact (ai (ai (iE (by simp only[zz,reduceCtorEq])) (ai (iE (by simp only[zz,reduceCtorEq])) (ai rfl (jm _)))) (iE (by simp only[zz,reduceCtorEq];omega)))) (ai trivial (ai (ai ⟨by show a.2-1≤1000000;omega,by show (a.1.args.getD k aH).size≤1000000;omega⟩ hys) ?_)))))))
   refine bH (p:=((a.1.args.getD k aH).deep:Int)≤a.2-1) (by exact Iff.trans (by show (!decide ((a.1.args.getD k aH).deep≤a.2-1))=true↔_;simp) Iff.rfl) (fun h4=>?_) (fun h4=>?_)
   ·have:=ab4 hy
    refine ai (ai (fun _=>trivial) ?_) trivial
    show au _ (bP (decide ((a.1.deep:Int)≤a.2)))
    rw[show decide ((a.1.deep:Int)≤a.2)=false from decide_eq_false (by omega)]
    exact rfl
   refine ei (k+1) (ai (ai rfl rfl) (ai (ai (ai rfl (ai (ai rfl rfl) (ai (ai rfl rfl) (ai (ai (ai (fun _=>rfl) (aM (by omega))) rfl) trivial)))) rfl) (ai (ai (iL (by omega)) ?_) (iM (by omega)))))
   intro y hy
   rw[aX aH h3] at hy
   rcases akI.1 hy with hy | hy
   ·exact hall y hy
   ·simp only[akz] at hy;subst hy;exact h4
  ·obtain rfl:k=a.1.args.length:=by omega
   rw[aiy] at hall
   have:jD a.1.args≤(a.2-1).toNat:=al5 fun y hy=>by have:=hall y hy;omega
   refine ai (ai (fun _=>trivial) ?_) trivial
   show au _ (bP (decide ((a.1.deep:Int)≤a.2)))
   rw[show decide ((a.1.deep:Int)≤a.2)=true from decide_eq_true (by omega)]
   exact rfl
theorem ahP:aL Tryz.prog 122 ajj:=vw (fun a=>a.1.size) akG
def oC (x:Ex):Bool:=decide (x.size≤256)&&decide (x.deep≤16)
theorem acw {x:Ex}:oC x=true↔x.size≤256∧x.deep≤16:=by unfold oC;simp
def ap5:Spec:=cu (fun x:Ex=>[qx x]) (fun x=>True) (fun x=>bP (oC x))
theorem amU:aL Tryz.prog 133 ap5:=by
 refine bg (Tb:=tab) mixed ay Tryz.func133 rfl rfl ?_
 rintro (x:Ex) hpre
 refine ai (ai rfl (ai rfl rfl)) ?_
 refine ei _ (ai (afE) (ei ((x,256)) (ei [] (ai (a4 (ai (fun _=>Or.inl rfl) (ai nof (Or.inl rfl)))) (ai (by exact (ai (ai rfl (ai rfl (ai rfl (fun _ _=>rfl)))) (iE (by simp only[zz,reduceCtorEq];rfl)))) (ai trivial (ai ((by show 256≤1000000;omega)) ?_)))))))
 refine ah (p:=x.size≤256) (by exact bX (by show ((min x.size (256+1):Nat):Int)≤256↔_;omega)) (fun h1=>?_) (fun h1=>?_)
 ·refine ei _ (ai (ahP) (ei ((x,16)) (ei [] (ai (a4 (ai (fun _=>Or.inl rfl) (ai nof (Or.inl rfl)))) (ai (by exact (ai (ai rfl (ai rfl (ai rfl (fun _ _=>rfl)))) rfl)) (ai trivial (ai (⟨by show (16:Int)≤1000000;omega,by show x.size≤1000000;omega⟩) ?_)))))))
  refine ai (ai (fun _=>trivial) ?_) trivial
  show au _ (bP (oC x))
  rw[show oC x=decide ((x.deep:Int)≤16) by unfold oC;rw[decide_eq_true h1,aj4];exact decide_eq_decide.2 (by omega)]
  exact rfl
 ·refine ai (ai (fun _=>trivial) ?_) trivial
  show au _ (bP (oC x))
  rw[show oC x=false by unfold oC;rw[decide_eq_false h1];rfl]
  exact rfl
def apC:Spec:=cu (fun y:Ex×Int=>[qx y.1,iA y.2]) (fun y=>y.1.args.length≤256) (fun y=>iP (aO y.1 y.2))
theorem amo {x:Ex} {n:Int} (h0:¬x.op<0) (h1:¬5≤x.op):aO x n=if x.args.length<dS x.op∨wV x.op<x.args.length then 3 else if x.idx<0∨oV x.op n<x.idx then 2 else 0:=by
 unfold aO;rw[if_neg (by omega)]
theorem alP:aL Tryz.prog 183 apC:=by
 refine bg (Tb:=tab) mixed ay Tryz.func183 rfl rfl ?_
 rintro ⟨⟨o,i,l⟩,n⟩ hpre
 refine ai (ai rfl (ai rfl rfl)) ?_
 have hl:l.length≤256:=hpre
 refine ah (p:=o<0) (ak Iff.rfl) (fun h1=>?_) (fun h1=>?_)
 ·refine ai (ai (fun _=>trivial) ?_) trivial
  show au _ (iP (aO (.node o i l) n))
  rw[aO,if_pos (.inl h1)]
  exact rfl
 refine ah (p:=5≤o) (bX Iff.rfl) (fun h2=>?_) (fun h2=>?_)
 ·refine ai (ai (fun _=>trivial) ?_) trivial
  show au _ (iP (aO (.node o i l) n))
  rw[aO,if_pos (.inr h2)]
  exact rfl
 have hA:aO (.node o i l) n=if l.length<dS o∨wV o<l.length then 3 else if i<0∨oV o n<i then 2 else 0:=amo h1 h2
 have ho:o=0∨o=1∨o=2∨o=3∨o=4:=by omega
 rcases ho with rfl | rfl | rfl | rfl | rfl
 ·have hA:aO (.node 0 i l) n=if l.length<0∨0<l.length then 3 else if i<0∨1<i then 2 else 0:=hA
  refine bH (p:=l.length=0) (bU (by dsimp only;omega)) (fun h3=>?_) (fun h3=>?_)
  ·refine ai (ai (fun _=>trivial) ?_) trivial
   show au _ (iP (aO (.node 0 i l) n))
   rw[hA,if_pos (show l.length<0∨0<l.length by omega)]
   exact rfl
  rw[if_neg (show ¬(l.length<0∨0<l.length) by omega)] at hA
  refine ah (p:=i<0) (ak Iff.rfl) (fun h5=>?_) (fun h5=>?_)
  ·refine ai (ai (fun _=>trivial) ?_) trivial
   show au _ (iP (aO (.node 0 i l) n))
   rw[hA,if_pos (.inl h5)]
   exact rfl
  refine ah (p:=2≤i) (bX Iff.rfl) (fun h6=>?_) (fun h6=>?_)
  ·refine ai (ai (fun _=>trivial) ?_) trivial
   show au _ (iP (aO (.node 0 i l) n))
   rw[hA,if_pos (.inr (by omega))]
   exact rfl
  ·refine ai (ai (fun _=>trivial) ?_) trivial
   show au _ (iP (aO (.node 0 i l) n))
   rw[hA,if_neg (show ¬(i<0∨1<i) by omega)]
   exact rfl
 ·have hA:aO (.node 1 i l) n=if l.length<0∨0<l.length then 3 else if i<0∨(n-1)<i then 2 else 0:=hA
  refine bH (p:=l.length=0) (bU (by dsimp only;omega)) (fun h3=>?_) (fun h3=>?_)
  ·refine ai (ai (fun _=>trivial) ?_) trivial
   show au _ (iP (aO (.node 1 i l) n))
   rw[hA,if_pos (show l.length<0∨0<l.length by omega)]
   exact rfl
  rw[if_neg (show ¬(l.length<0∨0<l.length) by omega)] at hA
  refine ah (p:=i<0) (ak Iff.rfl) (fun h5=>?_) (fun h5=>?_)
  ·refine ai (ai (fun _=>trivial) ?_) trivial
   show au _ (iP (aO (.node 1 i l) n))
   rw[hA,if_pos (.inl h5)]
   exact rfl
  refine ah (p:=n≤i) (bX Iff.rfl) (fun h6=>?_) (fun h6=>?_)
  ·refine ai (ai (fun _=>trivial) ?_) trivial
   show au _ (iP (aO (.node 1 i l) n))
   rw[hA,if_pos (.inr (by omega))]
   exact rfl
  ·refine ai (ai (fun _=>trivial) ?_) trivial
   show au _ (iP (aO (.node 1 i l) n))
   rw[hA,if_neg (show ¬(i<0∨(n-1)<i) by omega)]
   exact rfl
 ·have hA:aO (.node 2 i l) n=if l.length<1∨1<l.length then 3 else if i<0∨0<i then 2 else 0:=hA
  refine bH (p:=l.length=1) (bU (by dsimp only;omega)) (fun h3=>?_) (fun h3=>?_)
  ·refine ai (ai (fun _=>trivial) ?_) trivial
   show au _ (iP (aO (.node 2 i l) n))
   rw[hA,if_pos (show l.length<1∨1<l.length by omega)]
   exact rfl
  rw[if_neg (show ¬(l.length<1∨1<l.length) by omega)] at hA
  refine ah (p:=i<0) (ak Iff.rfl) (fun h5=>?_) (fun h5=>?_)
  ·refine ai (ai (fun _=>trivial) ?_) trivial
   show au _ (iP (aO (.node 2 i l) n))
   rw[hA,if_pos (.inl h5)]
   exact rfl
  refine ah (p:=1≤i) (bX Iff.rfl) (fun h6=>?_) (fun h6=>?_)
  ·refine ai (ai (fun _=>trivial) ?_) trivial
   show au _ (iP (aO (.node 2 i l) n))
   rw[hA,if_pos (.inr (by omega))]
   exact rfl
  ·refine ai (ai (fun _=>trivial) ?_) trivial
   show au _ (iP (aO (.node 2 i l) n))
   rw[hA,if_neg (show ¬(i<0∨0<i) by omega)]
   exact rfl
 ·have hA:aO (.node 3 i l) n=if l.length<2∨256<l.length then 3 else if i<0∨0<i then 2 else 0:=hA
  refine ah (p:=l.length<2) (ak (by dsimp only;omega)) (fun h3=>?_) (fun h3=>?_)
  ·refine ai (ai (fun _=>trivial) ?_) trivial
   show au _ (iP (aO (.node 3 i l) n))
   rw[hA,if_pos (show l.length<2∨256<l.length by omega)]
   exact rfl
  rw[if_neg (show ¬(l.length<2∨256<l.length) by omega)] at hA
  refine ah (p:=i<0) (ak Iff.rfl) (fun h5=>?_) (fun h5=>?_)
  ·refine ai (ai (fun _=>trivial) ?_) trivial
   show au _ (iP (aO (.node 3 i l) n))
   rw[hA,if_pos (.inl h5)]
   exact rfl
  refine ah (p:=1≤i) (bX Iff.rfl) (fun h6=>?_) (fun h6=>?_)
  ·refine ai (ai (fun _=>trivial) ?_) trivial
   show au _ (iP (aO (.node 3 i l) n))
   rw[hA,if_pos (.inr (by omega))]
   exact rfl
  ·refine ai (ai (fun _=>trivial) ?_) trivial
   show au _ (iP (aO (.node 3 i l) n))
   rw[hA,if_neg (show ¬(i<0∨0<i) by omega)]
   exact rfl
 ·have hA:aO (.node 4 i l) n=if l.length<2∨256<l.length then 3 else if i<0∨0<i then 2 else 0:=hA
  refine ah (p:=l.length<2) (ak (by dsimp only;omega)) (fun h3=>?_) (fun h3=>?_)
  ·refine ai (ai (fun _=>trivial) ?_) trivial
   show au _ (iP (aO (.node 4 i l) n))
   rw[hA,if_pos (show l.length<2∨256<l.length by omega)]
   exact rfl
  rw[if_neg (show ¬(l.length<2∨256<l.length) by omega)] at hA
  refine ah (p:=i<0) (ak Iff.rfl) (fun h5=>?_) (fun h5=>?_)
  ·refine ai (ai (fun _=>trivial) ?_) trivial
   show au _ (iP (aO (.node 4 i l) n))
   rw[hA,if_pos (.inl h5)]
   exact rfl
  refine ah (p:=1≤i) (bX Iff.rfl) (fun h6=>?_) (fun h6=>?_)
  ·refine ai (ai (fun _=>trivial) ?_) trivial
   show au _ (iP (aO (.node 4 i l) n))
   rw[hA,if_pos (.inr (by omega))]
   exact rfl
  ·refine ai (ai (fun _=>trivial) ?_) trivial
   show au _ (iP (aO (.node 4 i l) n))
   rw[hA,if_neg (show ¬(i<0∨0<i) by omega)]
   exact rfl
theorem rU (a b:List (Nat×Ex)) (n:Int):eG (a++b) n=if eG a n=0 then eG b n else eG a n:=by
 by_cases h:eG a n=0
 ·rw[if_pos h]
  have h0:=ado.1 h
  unfold eG
  rw[arZ,List.find?_append,as7.2]
  ·rfl
  ·intro y hy
   obtain ⟨z,hz,rfl⟩:=ar4.1 hy
   simp[h0 z hz]
 ·rw[if_neg h]
  unfold eG at h ⊢
  rw[arZ,List.find?_append]
  cases hc:(a.map fun y=>aO y.2 n).find? (fun e=>e != 0) with
  | none=>rw[hc] at h;exact absurd rfl h
  | some e=>rfl
theorem ahv (d:Nat) (x:Ex) (l:List (Nat×Ex)) (n:Int):eG ((d,x) :: l) n=if aO x n=0 then eG l n else aO x n:=by
 have:eG [(d,x)] n=aO x n:=by
  by_cases h:aO x n=0
  ·rw[h];exact vK (by simpa using h)
  ·exact aeT (k:=0) (by simp) rfl h
 rw[show (d,x) :: l=[(d,x)]++l from rfl,rU,this]
def afu:Spec:=cu (fun a:Ex×Int×Nat=>[qx a.1,iA a.2.1]) (fun a=>a.1.deep+a.2.2≤17∧a.1.size≤256) (fun a=>iP (eG (dB a.2.2 a.1) a.2.1))
def apE (n:Nat):Spec:={ afu with pre:=fun a=>afu.pre a∧a.1.size≤n }
theorem aiG:∀n,aL Tryz.prog 151 (apE n)
 | 0=>by
  refine bg (Tb:=tab) mixed ay Tryz.func151 rfl rfl ?_
  rintro (a:Ex×Int×Nat) hpre
  refine ai (ai rfl (ai rfl rfl)) ?_
  have:=size_pos a.1
  exact absurd hpre.2 (by show ¬a.1.size≤0;omega)
 | n+1=>by
  have ih:=aiG n
  refine bg (Tb:=tab) mixed ay Tryz.func151 rfl rfl ?_
  rintro (a:Ex×Int×Nat) hpre
  refine ai (ai rfl (ai rfl rfl)) ?_
  obtain ⟨hm,hn⟩:=hpre
  have hm1:a.1.deep+a.2.2≤17:=hm.1
  have hm2:a.1.size≤256:=hm.2
  have hn:a.1.size≤n+1:=hn
  have hsz:=a.1.size_eq
  have hde:=a.1.vY
  have hal:=gN a.1
  have hdd:a.2.2≤16:=by omega
  have hA:eG (dB a.2.2 a.1) a.2.1=if aO a.1 a.2.1=0 then eG (gW a.2.2 a.1.args) a.2.1 else aO a.1 a.2.1:=by rw[ace,ahv]
  refine ei _ (ai (alP) (ei ((a.1,a.2.1)) (ei [] (ai (a4 (ai (fun _=>Or.inl rfl) (ai nof (Or.inl rfl)))) (ai (by exact (ai (ai rfl (ai rfl (ai rfl (fun _ _=>rfl)))) rfl)) (ai trivial (ai ((by show a.1.args.length≤256;omega)) ?_)))))))
  refine bH (p:=aO a.1 a.2.1=0) (bU (by dsimp only;omega)) (fun h1=>?_) (fun h1=>?_)
  ·refine ai (ai (fun _=>trivial) ?_) trivial
   show au _ (iP (eG (dB a.2.2 a.1) a.2.1))
   rw[hA,if_neg h1]
   exact rfl
  rw[if_pos h1] at hA
  refine ei (bG.inv { X:=Nat,up:=fun k=>[(6,.s (iA k))],uo:=fun k=>[],inv:=fun k=>k≤a.1.args.length∧(eG (gW a.2.2 (a.1.args.take k)) a.2.1=0),meas:=fun k=>a.1.args.length-k,x0:=0 }) ?_
  refine ai (ai (ai (by exact (a4 (ai rfl rfl))) (ai (by exact (ai (ai (fun _=>rfl) (iE (by simp only[zz,reduceCtorEq];rfl))) rfl)) (by exact trivial))) rfl) (ai (ai (ac7 _) ?_) ?_)
  ·rw[List.take_zero];unfold gW;rw[if_pos hdd,gF];rfl
  intro (k:Nat) ⟨hk,hall⟩
  refine ah (p:=k<a.1.args.length) (ak (by omega)) (fun h3=>?_) (fun h3=>?_)
  ·refine ai (ai (abr _) (iN (n:=a.1.args.length) (by omega))) (ai rfl ?_)
   have hy:a.1.args.getD k aH∈a.1.args:=abv (fF h3)
   have hms:=bT hy
   have hmd:=ab4 hy
   have hys:(a.1.args.getD k aH).size≤n:=by omega
   have hsn:eG (gW a.2.2 (a.1.args.take (k+1))) a.2.1=eG (dB (a.2.2+1) (a.1.args.getD k aH)) a.2.1:=by
    rw[aeN hdd (fF h3),rU,if_pos hall]
   refine ei _ (ai (ih) (ei ((a.1.args.getD k aH,a.2.1,a.2.2+1)) (ei [] (ai (a4 (ai (fun _=>Or.inl rfl) (ai nof (Or.inl rfl)))) (ai (by exact (ai (ai (iE (by simp only[zz,reduceCtorEq])) (ai (iE (by simp only[zz,reduceCtorEq])) (ai rfl (jm _)))) rfl)) (ai trivial (ai (ai ⟨by show (a.1.args.getD k aH).deep+(a.2.2+1)≤17;omega,by show (a.1.args.getD k aH).size≤256;omega⟩ hys) ?_)))))))
   refine bH (p:=eG (dB (a.2.2+1) (a.1.args.getD k aH)) a.2.1=0) (bU (by dsimp only;omega)) (fun h4=>?_) (fun h4=>?_)
   ·have hs:gW a.2.2 a.1.args=gW a.2.2 (a.1.args.take (k+1))++gW a.2.2 (a.1.args.drop (k+1)):=by
     unfold gW;rw[if_pos hdd,if_pos hdd,if_pos hdd,←qb,ar8]
    refine ai (ai (fun _=>trivial) ?_) trivial
    show au _ (iP (eG (dB a.2.2 a.1) a.2.1))
    rw[hA,hs,rU,hsn,if_neg h4]
    exact rfl
   refine ei (k+1) (ai (ai rfl rfl) (ai (ai (ai rfl (ai (ai rfl rfl) (ai (ai rfl rfl) (ai (ai (ai (fun _=>rfl) (aM (by omega))) rfl) trivial)))) rfl) (ai (ai (iL (by omega)) (iE (by simp only[zz,reduceCtorEq];omega))) (iM (by omega)))))
  ·obtain rfl:k=a.1.args.length:=by omega
   rw[aiy] at hall
   refine ai (ai (fun _=>trivial) ?_) trivial
   show au _ (iP (eG (dB a.2.2 a.1) a.2.1))
   rw[hA,hall]
   exact rfl
theorem alY:aL Tryz.prog 151 afu:=vw (fun a=>a.1.size) aiG
def anI:Spec:=cu (fun y:Ex×Int=>[qx y.1,iA y.2]) (fun y=>True) (fun y=>iP (dL y.1 y.2))
theorem aj7:aL Tryz.prog 97 anI:=by
 refine bg (Tb:=tab) mixed ay Tryz.func97 rfl rfl ?_
 rintro (y:Ex×Int) hpre
 refine ai (ai rfl (ai rfl rfl)) ?_
 refine ah (p:=y.2<0) (ak (by omega)) (fun h1=>?_) (fun h1=>?_)
 ·refine ai (ai (fun _=>trivial) ?_) trivial
  show au _ (iP (dL y.1 y.2))
  rw[dL,if_pos (.inl h1)]
  exact rfl
 refine ah (p:=256<y.2) (ak (by omega)) (fun h2=>?_) (fun h2=>?_)
 ·refine ai (ai (fun _=>trivial) ?_) trivial
  show au _ (iP (dL y.1 y.2))
  rw[dL,if_pos (.inr h2)]
  exact rfl
 have hA:dL y.1 y.2=if y.1.size≤256∧y.1.deep≤16 then eG (dB 1 y.1) y.2 else 5:=by
  unfold dL;rw[if_neg (fun h=>h.elim h1 h2)]
 refine ei _ (ai (amU) (ei (y.1) (ei [] (ai (a4 (ai (fun _=>Or.inl rfl) (ai nof (Or.inl rfl)))) (ai (by exact (ai rfl (ai rfl (ai rfl (fun _ _=>rfl))))) (ai trivial (ai (trivial) ?_)))))))
 refine aZ (b:=!oC y.1) rfl (fun h3=>?_) (fun h3=>?_)
 ·have h3:¬(y.1.size≤256∧y.1.deep≤16):=fun h=>by rw[acw.2 h] at h3;exact absurd h3 (by decide)
  refine ai (ai (fun _=>trivial) ?_) trivial
  show au _ (iP (dL y.1 y.2))
  rw[hA,if_neg h3]
  exact rfl
 have h3:y.1.size≤256∧y.1.deep≤16:=acw.1 (by simpa using h3)
 refine ei _ (ai (alY) (ei ((y.1,y.2,1)) (ei [] (ai (a4 (ai (fun _=>Or.inl rfl) (ai nof (Or.inl rfl)))) (ai (by exact (ai (ai rfl (ai rfl (ai rfl (fun _ _=>rfl)))) rfl)) (ai trivial (ai (⟨by show y.1.deep+1≤17;omega,h3.1⟩) ?_)))))))
 refine ai (ai (fun _=>trivial) ?_) trivial
 show au _ (iP (dL y.1 y.2))
 rw[hA,if_pos h3]
 exact rfl
def kI (x:Ex):Bool:=decide (x.size≤40)||(decide (256<x.size)&&decide (x.size≤512)&&decide (x.deep≤40))
theorem akC {x:Ex} (h:kI x=true):x.size≤512:=by
 unfold kI at h;simp at h;omega
def arI:Spec:=cu (fun x:Ex=>[qx x]) (fun x=>True) (fun x=>bP (kI x))
theorem aoY:aL Tryz.prog 56 arI:=by
 refine bg (Tb:=tab) mixed ay Tryz.func56 rfl rfl ?_
 rintro (x:Ex) hpre
 refine ai (ai rfl (ai rfl rfl)) ?_
 refine ei _ (ai (afE) (ei ((x,512)) (ei [] (ai (a4 (ai (fun _=>Or.inl rfl) (ai nof (Or.inl rfl)))) (ai (by exact (ai (ai rfl (ai rfl (ai rfl (fun _ _=>rfl)))) (iE (by simp only[zz,reduceCtorEq];rfl)))) (ai trivial (ai ((by show 512≤1000000;omega)) ?_)))))))
 refine ah (p:=x.size≤40) (by exact bX (by show ((min x.size (512+1):Nat):Int)≤40↔_;omega)) (fun h1=>?_) (fun h1=>?_)
 ·refine ai (ai (fun _=>trivial) ?_) trivial
  show au _ (bP (kI x))
  rw[show kI x=true by unfold kI;rw[decide_eq_true h1];rfl]
  exact rfl
 refine ah (p:=256<x.size) (by exact ak (by show (256:Int)<((min x.size (512+1):Nat):Int)↔_;omega)) (fun h2=>?_) (fun h2=>?_)
 ·refine ah (p:=x.size≤512) (by exact bX (by show ((min x.size (512+1):Nat):Int)≤512↔_;omega)) (fun h3=>?_) (fun h3=>?_)
  ·refine ei _ (ai (ahP) (ei ((x,40)) (ei [] (ai (a4 (ai (fun _=>Or.inl rfl) (ai nof (Or.inl rfl)))) (ai (by exact (ai (ai rfl (ai rfl (ai rfl (fun _ _=>rfl)))) rfl)) (ai trivial (ai (⟨by show (40:Int)≤1000000;omega,by show x.size≤1000000;omega⟩) ?_)))))))
   refine ai (ai (fun _=>trivial) ?_) trivial
   show au _ (bP (kI x))
   rw[show kI x=decide ((x.deep:Int)≤40) by unfold kI;rw[decide_eq_false h1,decide_eq_true h2,decide_eq_true h3,ap0,aj4,aj4];exact decide_eq_decide.2 (by omega)]
   exact rfl
  ·refine ai (ai (fun _=>trivial) ?_) trivial
   show au _ (bP (kI x))
   rw[show kI x=false by unfold kI;rw[decide_eq_false h1,decide_eq_false h3];simp]
   exact rfl
 ·refine ai (ai (fun _=>trivial) ?_) trivial
  show au _ (bP (kI x))
  rw[show kI x=false by unfold kI;rw[decide_eq_false h1,decide_eq_false h2];simp]
  exact rfl
def qg (b:Bool):Ex:=.node 0 (if b then 1 else 0) []
def apq:Spec:=cu (fun b:Bool=>[bA b]) (fun _=>True) (fun b=>exP (qg b))
theorem amK:aL Tryz.prog 123 apq:=by
 refine bg (Tb:=tab) mixed ay Tryz.func123 rfl rfl ?_
 rintro (b:Bool) hpre
 refine ai (ai rfl (ai rfl rfl)) ?_
 refine aZ (b:=b) rfl (fun h1=>?_) (fun h1=>?_)
 ·subst h1
  refine ai (ai (fun _=>trivial) ?_) trivial
  exact (ai (iE rfl) (ai (iE rfl) rfl))
 ·subst h1
  refine ai (ai (fun _=>trivial) ?_) trivial
  exact (ai (iE rfl) (ai (iE rfl) rfl))
theorem adC {P:Program} {f:Nat} {S:Spec} (h:aL P f S) {res:S.A→PV} (e:∀a,S.pre a→iH (S.res a) (res a)):aL P f { S with res:=res }:=
 ⟨h.1,fun a hp E vs w hg hh hA=>(h.2 a hp E vs w hg hh hA).mono fun e' w' ⟨v,E',h1,h2,h3⟩=>⟨v,E',h1,rz (e a hp) h2,h3⟩⟩
def SLe:List SV→List SV→Prop
 | [],[]=>True
 | s :: l,t :: m=>(s=t∨∃d d',s=.p false d∧t=.p false d'∧iH d d')∧SLe l m
 | _,_=>False
theorem SLe.get:∀{l m:List SV},SLe l m→l.length=m.length∧∀(k:Nat) (s t:SV),l[k]?=some s→m[k]?=some t→s=t∨∃d d',s=.p false d∧t=.p false d'∧iH d d'
 | [],[],_=>⟨rfl,fun k s t h=>by simp at h⟩
 | [],_ :: _,h=>h.elim
 | _ :: _,[],h=>h.elim
 | s :: l,t :: m,⟨h1,h2⟩=>by
  obtain ⟨g1,g2⟩:=SLe.get h2
  refine ⟨by simp[g1],fun k x y hx hy=>?_⟩
  cases k with
  | zero=>simp at hx hy;subst hx;subst hy;exact h1
  | succ k=>exact g2 k x y (by simpa using hx) (by simpa using hy)
theorem alO {P:Program} {f:Nat} {S:Spec} (h:aL P f S) {args:S.A→List SV} (e:∀a,S.pre a→SLe (args a) (S.args a)):aL P f { S with args:=args }:=
 ⟨h.1,fun a hp E vs w hg hh hA=>by
  refine h.2 a hp E vs w hg hh ?_
  obtain ⟨g1,g2⟩:=(e a hp).get
  obtain ⟨h1,h2⟩:=hA
  refine ⟨h1.trans g1,fun k u t hu ht=>?_⟩
  obtain ⟨s,hs⟩:=lC g1 ht
  have hr:=h2 k u s hu hs
  rcases g2 k s t hs ht with e | ⟨d,d',e1,e2,hle⟩
  ·subst e;exact hr
  ·subst e1;subst e2
   cases hr with
   | p _ _ _ hx=>exact .p _ _ _ (rz hle hx)⟩
abbrev Sk := Int × Bool
structure Stp where
 st:List Sk
 wt:Int
structure kD where
 fr:List Int
 to:List Int
 wh:Ex
structure bD where
 act:Int
 ins:List (List UInt8)
 sts:List Stp
 trs:List kD
def skK (x:Sk):List PV:=[iP x.1,bP x.2]
def skA (x:Sk):SV:=.p false (.agg (skK x))
def bO:Sk:=(0,false)
def aaz (l:List Sk):PV:=.seq l.length (fun k=>skK (l.getD k bO))
def apJ (l:List Sk):SV:=.p false (aaz l)
def stK (x:Stp):List PV:=[aaz x.st,iP x.wt]
def stA (x:Stp):SV:=.p false (.agg (stK x))
def st0:Stp:=⟨[],0⟩
def ajU (l:List Stp):PV:=.seq l.length (fun k=>stK (l.getD k st0))
def trK (x:kD):List PV:=[mW x.fr,mW x.to,iP x.wh.op,iP x.wh.idx,.seq x.wh.args.length (exF x.wh.args)]
def trA (x:kD):SV:=.p false (.agg (trK x))
def aG:kD:=⟨[],[],aH⟩
def alH (l:List kD):PV:=.seq l.length (fun k=>trK (l.getD k aG))
def chK (c:bD):List PV:=[iP c.act,vZ c.ins,ajU c.sts,alH c.trs]
def vk (c:bD):PV:=.agg (chK c)
def kF (c:bD):SV:=.p false (vk c)
def kG {α:Type} (p:α→Bool) (l:List α):Int:=match l.findIdx? p with
 | some k=>k
 | none=>-1
theorem tJ {α:Type} {p:α→Bool}:∀{l:List α} {k:Nat} {d:α},k<l.length→p (l.getD k d)=true→(∀y∈l.take k,p y=false)→kG p l=k
 | [],k,d,h,_,_=>by simp at h
 | x :: l,0,d,_,h,_=>by
  have h:p x=true:=h
  unfold kG;simp[List.findIdx?_cons,h]
 | x :: l,k+1,d,hk,h,hn=>by
  have h1:p x=false:=hn x (by simp)
  have h2:=tJ (l:=l) (k:=k) (d:=d) (by simpa using hk) (by simpa using h) (fun y hy=>hn y (by simp[hy]))
  unfold kG at h2 ⊢
  rw[List.findIdx?_cons,h1]
  cases hc:l.findIdx? p with
  | none=>rw[hc] at h2;simp only at h2;omega
  | some q=>rw[hc] at h2;simp only at h2;simp;omega
theorem wL {α:Type} {p:α→Bool} {l:List α} (h:∀y∈l,p y=false):kG p l=-1:=by
 unfold kG
 rw[List.findIdx?_eq_none_iff.2 (by simpa using h)]
theorem uP {α:Type} (p:α→Bool) (l:List α):decide (0≤kG p l)=l.any p:=by
 unfold kG
 cases hc:l.findIdx? p with
 | none=>
  have:=List.findIdx?_eq_none_iff.1 hc
  symm;rw[show decide ((0:Int)≤-1)=false by decide,asE]
  intro x hx;simp[this x hx]
 | some k=>
  simp only
  rw[decide_eq_true (by omega)]
  symm;rw[asz]
  obtain ⟨h,h1,_⟩:=List.findIdx?_eq_some_iff_getElem.1 hc
  exact ⟨_,aso h,h1⟩
def aoy:Spec:=cu (fun a:List (Int)×(Int)=>[isA a.1,iA a.2]) (fun a=>a.1.length≤1000000) (fun a=>iP (kG (fun y=>a.2==y) a.1))
theorem akT:aL Tryz.prog 107 aoy:=by
 refine bg (Tb:=tab) mixed ay Tryz.func107 rfl rfl ?_
 rintro (a:List (Int)×(Int)) hpre
 refine ai (ai rfl (ai rfl rfl)) ?_
 have hl:a.1.length≤1000000:=hpre
 refine ei (bG.inv { X:=Nat,up:=fun k=>[(8,.s (iA k))],uo:=fun k=>[],inv:=fun k=>k≤a.1.length∧(∀y∈a.1.take k,(a.2==y)=false),meas:=fun k=>a.1.length-k,x0:=0 }) ?_
 refine ai (ai (ai (by exact (a4 (ai rfl rfl))) (ai (by exact (ai (ai (fun _=>rfl) (iE (by simp only[zz,reduceCtorEq];rfl))) rfl)) (by exact trivial))) rfl) (ai (ai (ac7 _) ?_) ?_)
 ·exact fun y hy=>absurd hy (by simp)
 intro (k:Nat) ⟨hk,hall⟩
 refine ah (p:=k<a.1.length) (ak (by omega)) (fun h1=>?_) (fun h1=>?_)
 ·refine ai (ai (abr _) (iN (n:=a.1.length) (by omega))) (ai rfl ?_)
  refine ah (p:=(a.2==a.1.getD k 0)=true) (by exact Iff.rfl) (fun h2=>?_) (fun h2=>?_)
  ·refine ai (ai (fun _=>trivial) ?_) trivial
   show au _ (iP (kG (fun y=>a.2==y) a.1))
   rw[tJ (d:=0) h1 h2 hall]
   exact rfl
  refine ei (k+1) (ai (ai rfl rfl) (ai (ai (ai rfl (ai (ai rfl rfl) (ai (ai rfl rfl) (ai (ai (ai (fun _=>rfl) (aM (by omega))) rfl) trivial)))) rfl) (ai (ai (iL (by omega)) ?_) (iM (by omega)))))
  intro y hy
  rw[aX 0 h1] at hy
  rcases akI.1 hy with hy | hy
  ·exact hall y hy
  ·simp only[akz] at hy;subst hy;simpa using h2
 ·obtain rfl:k=a.1.length:=by omega
  rw[aiy] at hall
  refine ai (ai (fun _=>trivial) ?_) trivial
  show au _ (iP (kG (fun y=>a.2==y) a.1))
  rw[wL hall]
  exact rfl
def aq2:Spec:=cu (fun a:List (Int)×(Int)=>[isA a.1,iA a.2]) (fun a=>a.1.length≤1000000) (fun a=>bP (a.1.any fun y=>a.2==y))
theorem an7:aL Tryz.prog 41 aq2:=by
 refine bg (Tb:=tab) mixed ay Tryz.func41 rfl rfl ?_
 rintro (a:List (Int)×(Int)) hpre
 refine ai (ai rfl (ai rfl rfl)) ?_
 refine ei _ (ai (akT) (ei (a) (ei [] (ai (a4 (ai (fun _=>Or.inl rfl) (ai nof (Or.inl rfl)))) (ai (by exact (ai (ai rfl (fun _ _=>rfl)) rfl)) (ai trivial (ai (hpre) ?_)))))))
 refine ai (ai (fun _=>trivial) ?_) trivial
 show au _ (bP (a.1.any fun y=>a.2==y))
 rw[(uP (fun y=>a.2==y) a.1).symm]
 exact rfl
def anX:Spec:=cu (fun a:List (List UInt8)×(List UInt8)=>[nH a.1,sA a.2]) (fun a=>a.1.length≤1000000) (fun a=>iP (kG (fun y=>a.2==y) a.1))
theorem akd:aL Tryz.prog 179 anX:=by
 refine bg (Tb:=tab) mixed ay Tryz.func179 rfl rfl ?_
 rintro (a:List (List UInt8)×(List UInt8)) hpre
 refine ai (ai rfl (ai rfl rfl)) ?_
 have hl:a.1.length≤1000000:=hpre
 refine ei (bG.inv { X:=Nat,up:=fun k=>[(8,.s (iA k))],uo:=fun k=>[],inv:=fun k=>k≤a.1.length∧(∀y∈a.1.take k,(a.2==y)=false),meas:=fun k=>a.1.length-k,x0:=0 }) ?_
 refine ai (ai (ai (by exact (a4 (ai rfl rfl))) (ai (by exact (ai (ai (fun _=>rfl) (iE (by simp only[zz,reduceCtorEq];rfl))) rfl)) (by exact trivial))) rfl) (ai (ai (ac7 _) ?_) ?_)
 ·exact fun y hy=>absurd hy (by simp)
 intro (k:Nat) ⟨hk,hall⟩
 refine ah (p:=k<a.1.length) (ak (by omega)) (fun h1=>?_) (fun h1=>?_)
 ·refine ai (ai (abr _) (iN (n:=a.1.length) (by omega))) (ai rfl ?_)
  refine ah (p:=(a.2==a.1.getD k [])=true) (by exact Iff.rfl) (fun h2=>?_) (fun h2=>?_)
  ·refine ai (ai (fun _=>trivial) ?_) trivial
   show au _ (iP (kG (fun y=>a.2==y) a.1))
   rw[tJ (d:=[]) h1 h2 hall]
   exact rfl
  refine ei (k+1) (ai (ai rfl rfl) (ai (ai (ai rfl (ai (ai rfl rfl) (ai (ai rfl rfl) (ai (ai (ai (fun _=>rfl) (aM (by omega))) rfl) trivial)))) rfl) (ai (ai (iL (by omega)) ?_) (iM (by omega)))))
  intro y hy
  rw[aX [] h1] at hy
  rcases akI.1 hy with hy | hy
  ·exact hall y hy
  ·simp only[akz] at hy;subst hy;simpa using h2
 ·obtain rfl:k=a.1.length:=by omega
  rw[aiy] at hall
  refine ai (ai (fun _=>trivial) ?_) trivial
  show au _ (iP (kG (fun y=>a.2==y) a.1))
  rw[wL hall]
  exact rfl
def aqM:Spec:=cu (fun a:List (List UInt8)×(List UInt8)=>[nH a.1,sA a.2]) (fun a=>a.1.length≤1000000) (fun a=>bP (a.1.any fun y=>a.2==y))
theorem ah7:aL Tryz.prog 147 aqM:=by
 refine bg (Tb:=tab) mixed ay Tryz.func147 rfl rfl ?_
 rintro (a:List (List UInt8)×(List UInt8)) hpre
 refine ai (ai rfl (ai rfl rfl)) ?_
 refine ei _ (ai (akd) (ei (a) (ei [] (ai (a4 (ai (fun _=>Or.inl rfl) (ai nof (Or.inl rfl)))) (ai (by exact (ai (ai rfl (fun _ _=>rfl)) rfl)) (ai trivial (ai (hpre) ?_)))))))
 refine ai (ai (fun _=>trivial) ?_) trivial
 show au _ (bP (a.1.any fun y=>a.2==y))
 rw[(uP (fun y=>a.2==y) a.1).symm]
 exact rfl
def an8:Spec:=cu (fun a:List (Bool)×(Bool)=>[bsA a.1,bA a.2]) (fun a=>a.1.length≤1000000) (fun a=>iP (kG (fun y=>a.2==y) a.1))
theorem alq:aL Tryz.prog 165 an8:=by
 refine bg (Tb:=tab) mixed ay Tryz.func165 rfl rfl ?_
 rintro (a:List (Bool)×(Bool)) hpre
 refine ai (ai rfl (ai rfl rfl)) ?_
 have hl:a.1.length≤1000000:=hpre
 refine ei (bG.inv { X:=Nat,up:=fun k=>[(8,.s (iA k))],uo:=fun k=>[],inv:=fun k=>k≤a.1.length∧(∀y∈a.1.take k,(a.2==y)=false),meas:=fun k=>a.1.length-k,x0:=0 }) ?_
 refine ai (ai (ai (by exact (a4 (ai rfl rfl))) (ai (by exact (ai (ai (fun _=>rfl) (iE (by simp only[zz,reduceCtorEq];rfl))) rfl)) (by exact trivial))) rfl) (ai (ai (ac7 _) ?_) ?_)
 ·exact fun y hy=>absurd hy (by simp)
 intro (k:Nat) ⟨hk,hall⟩
 refine ah (p:=k<a.1.length) (ak (by omega)) (fun h1=>?_) (fun h1=>?_)
 ·refine ai (ai (abr _) (iN (n:=a.1.length) (by omega))) (ai rfl ?_)
  refine ah (p:=(a.2==a.1.getD k false)=true) (by exact Iff.rfl) (fun h2=>?_) (fun h2=>?_)
  ·refine ai (ai (fun _=>trivial) ?_) trivial
   show au _ (iP (kG (fun y=>a.2==y) a.1))
   rw[tJ (d:=false) h1 h2 hall]
   exact rfl
  refine ei (k+1) (ai (ai rfl rfl) (ai (ai (ai rfl (ai (ai rfl rfl) (ai (ai rfl rfl) (ai (ai (ai (fun _=>rfl) (aM (by omega))) rfl) trivial)))) rfl) (ai (ai (iL (by omega)) ?_) (iM (by omega)))))
  intro y hy
  rw[aX false h1] at hy
  rcases akI.1 hy with hy | hy
  ·exact hall y hy
  ·simp only[akz] at hy;subst hy;simpa using h2
 ·obtain rfl:k=a.1.length:=by omega
  rw[aiy] at hall
  refine ai (ai (fun _=>trivial) ?_) trivial
  show au _ (iP (kG (fun y=>a.2==y) a.1))
  rw[wL hall]
  exact rfl
def aqE:Spec:=cu (fun a:List (Bool)×(Bool)=>[bsA a.1,bA a.2]) (fun a=>a.1.length≤1000000) (fun a=>bP (a.1.any fun y=>a.2==y))
theorem aoA:aL Tryz.prog 132 aqE:=by
 refine bg (Tb:=tab) mixed ay Tryz.func132 rfl rfl ?_
 rintro (a:List (Bool)×(Bool)) hpre
 refine ai (ai rfl (ai rfl rfl)) ?_
 refine ei _ (ai (alq) (ei (a) (ei [] (ai (a4 (ai (fun _=>Or.inl rfl) (ai nof (Or.inl rfl)))) (ai (by exact (ai (ai rfl (fun _ _=>rfl)) rfl)) (ai trivial (ai (hpre) ?_)))))))
 refine ai (ai (fun _=>trivial) ?_) trivial
 show au _ (bP (a.1.any fun y=>a.2==y))
 rw[(uP (fun y=>a.2==y) a.1).symm]
 exact rfl
def gY (c:UInt8):Bool:=(decide (97≤c.toNat)&&decide (c.toNat≤122))||(decide (65≤c.toNat)&&decide (c.toNat≤90))
def iU (c:UInt8):Bool:=gY c||(decide (48≤c.toNat)&&decide (c.toNat≤57))||decide (c.toNat=95)
def aon:Spec:=cu (fun c:UInt8=>[cA c]) (fun _=>True) (fun c=>bP (gY c))
theorem aeU:aL Tryz.prog 202 aon:=by
 refine bg (Tb:=tab) mixed ay Tryz.func202 rfl rfl ?_
 rintro (c:UInt8) hpre
 refine ai (ai rfl (ai rfl rfl)) ?_
 refine ah (p:=97≤c.toNat) (bX (by omega)) (fun h1=>?_) (fun h1=>?_)
 ·refine ah (p:=c.toNat≤122) (bX (by omega)) (fun h2=>?_) (fun h2=>?_)
  ·refine ai (ai (fun _=>trivial) ?_) trivial
   show au _ (bP (gY c))
   rw[show gY c=true by unfold gY;rw[decide_eq_true h1,decide_eq_true h2];rfl]
   exact rfl
  refine ah (p:=65≤c.toNat) (bX (by omega)) (fun h3=>?_) (fun h3=>?_)
  ·refine ai (ai (fun _=>trivial) ?_) trivial
   show au _ (bP (gY c))
   rw[show gY c=decide ((c.toNat:Int)≤90) by unfold gY;rw[decide_eq_false h2,decide_eq_true h3,ara,aj4,ap0];exact decide_eq_decide.2 (by omega)]
   exact rfl
  ·omega
 ·refine ah (p:=65≤c.toNat) (bX (by omega)) (fun h3=>?_) (fun h3=>?_)
  ·refine ai (ai (fun _=>trivial) ?_) trivial
   show au _ (bP (gY c))
   rw[show gY c=decide ((c.toNat:Int)≤90) by unfold gY;rw[decide_eq_false h1,decide_eq_true h3,aqd,aj4,ap0];exact decide_eq_decide.2 (by omega)]
   exact rfl
  ·refine ai (ai (fun _=>trivial) ?_) trivial
   show au _ (bP (gY c))
   rw[show gY c=false by unfold gY;rw[decide_eq_false h1,decide_eq_false h3,aqd,aqd];rfl]
   exact rfl
def apD:Spec:=cu (fun c:UInt8=>[cA c]) (fun _=>True) (fun c=>bP (iU c))
theorem amC:aL Tryz.prog 201 apD:=by
 refine bg (Tb:=tab) mixed ay Tryz.func201 rfl rfl ?_
 rintro (c:UInt8) hpre
 refine ai (ai rfl (ai rfl rfl)) ?_
 refine ei _ (ai (aeU) (ei (c) (ei [] (ai (a4 (ai (fun _=>Or.inl rfl) (ai nof (Or.inl rfl)))) (ai (by exact rfl) (ai trivial (ai (trivial) ?_)))))))
 refine aZ (b:=gY c) rfl (fun h0=>?_) (fun h0=>?_)
 ·refine ai (ai (fun _=>trivial) ?_) trivial
  show au _ (bP (iU c))
  rw[show iU c=true by unfold iU;rw[h0];rfl]
  exact rfl
 refine ah (p:=48≤c.toNat) (bX (by omega)) (fun h1=>?_) (fun h1=>?_)
 ·refine ah (p:=c.toNat≤57) (bX (by omega)) (fun h2=>?_) (fun h2=>?_)
  ·refine ai (ai (fun _=>trivial) ?_) trivial
   show au _ (bP (iU c))
   rw[show iU c=true by unfold iU;rw[decide_eq_true h1,decide_eq_true h2,Bool.and_self,Bool.or_true,anf]]
   exact rfl
  ·refine ai (ai (fun _=>trivial) ?_) trivial
   show au _ (bP (iU c))
   rw[show iU c=((c.toNat:Int)==95) by unfold iU;rw[h0,decide_eq_false h2,ara,ap0,ap0,arU,beq_iff_eq,decide_eq_true_iff];omega]
   exact rfl
 ·refine ai (ai (fun _=>trivial) ?_) trivial
  show au _ (bP (iU c))
  rw[show iU c=((c.toNat:Int)==95) by unfold iU;rw[h0,decide_eq_false h1,aqd,ap0,ap0,arU,beq_iff_eq,decide_eq_true_iff];omega]
  exact rfl
def jU (s:List UInt8):Bool:=s.all iU&&(!s.isEmpty&&gY (s.getD 0 0))
def aqG:Spec:=cu (fun s:List UInt8=>[sA s]) (fun s=>s.length≤1000000) (fun s=>bP (jU s))
theorem kS {s:List UInt8} {k:Nat} (h:k<s.length):(strOf s)[k]?=some (s.getD k 0):=by
 have h1:s[k]?=some (s.getD k 0):=bY 0 h
 show (if h:k<(strOf s).size then some ((strOf s).get k h) else none)=_
 have h2:k<(strOf s).size:=by rw[aV];exact h
 rw[dif_pos h2,←h1,abm h];rfl
theorem an5:aL Tryz.prog 169 aqG:=by
 refine bg (Tb:=tab) mixed ay Tryz.func169 rfl rfl ?_
 rintro (s:List UInt8) hpre
 refine ai (ai rfl (ai rfl rfl)) ?_
 have hl:s.length≤1000000:=hpre
 have hz:=aV s
 refine ei (bG.inv { X:=Nat,up:=fun k=>[(6,.s (iA k))],uo:=fun k=>[],inv:=fun k=>k≤s.length∧(∀c∈s.take k,iU c=true),meas:=fun k=>s.length-k,x0:=0 }) ?_
 refine ai (ai (ai (by exact (a4 (ai rfl rfl))) (ai (by exact (ai (ai (fun _=>rfl) (iE (by simp only[zz,reduceCtorEq];rfl))) rfl)) (by exact trivial))) rfl) (ai (ai (ac7 _) ?_) ?_)
 ·exact fun y hy=>absurd hy (by simp)
 intro (k:Nat) ⟨hk,hall⟩
 refine ah (p:=k<s.length) (by exact ak (by rw[hz];omega)) (fun h1=>?_) (fun h1=>?_)
 ·refine ei (s.getD k 0) (ai (ai (abr _) (kS h1)) ?_)
  refine ei _ (ai (amC) (ei (s.getD k 0) (ei [] (ai (a4 (ai (fun _=>Or.inl rfl) (ai nof (Or.inl rfl)))) (ai (by exact rfl) (ai trivial (ai (trivial) ?_)))))))
  refine aZ (b:=!iU (s.getD k 0)) rfl (fun h2=>?_) (fun h2=>?_)
  ·have h3:s.all iU=false:=by
    rw[arT]
    exact ⟨s.getD k 0,abv (bY 0 h1),by simpa using h2⟩
   refine ai (ai (fun _=>trivial) ?_) trivial
   show au _ (bP (jU s))
   rw[jU,h3,aqd]
   exact rfl
  refine ei (k+1) (ai (ai rfl rfl) (ai (ai (ai rfl (ai (ai rfl rfl) (ai (ai rfl rfl) (ai (ai (ai (fun _=>rfl) (aM (by omega))) rfl) trivial)))) rfl) (ai (ai (iL (by omega)) ?_) (iM (by omega)))))
  intro y hy
  rw[aX 0 h1] at hy
  rcases akI.1 hy with hy | hy
  ·exact hall y hy
  ·simp only[akz] at hy;subst hy;simpa using h2
 ·obtain rfl:k=s.length:=by omega
  rw[aiy] at hall
  have h3:s.all iU=true:=anu.2 hall
  refine bH (p:=s=[]) (by show (s != [])=true↔_;exact bne_iff_ne) (fun h4=>?_) (fun h4=>?_)
  ·have hp:0<s.length:=asK.2 h4
   refine ei (s.getD 0 0) (ai (ai (by decide) (kS hp)) ?_)
   refine ei _ (ai (aeU) (ei (s.getD 0 0) (ei [] (ai (a4 (ai (fun _=>Or.inl rfl) (ai nof (Or.inl rfl)))) (ai (by exact rfl) (ai trivial (ai (trivial) ?_)))))))
   have h5:s.isEmpty=false:=by cases s with | nil=>exact absurd rfl h4 | cons x l=>rfl
   refine ai (ai (fun _=>trivial) ?_) trivial
   show au _ (bP (jU s))
   rw[jU,h3,h5,aj4,Bool.not_false,aj4]
   exact rfl
  ·refine ai (ai (fun _=>trivial) ?_) trivial
   show au _ (bP (jU s))
   rw[show jU s=false by rw[h4];rfl]
   exact rfl
def dN (f:Nat→Int):Nat→Int
 | 0=>0
 | n+1=>if f 0=0 then dN (fun k=>f (k+1)) n else f 0
theorem dG:∀{n:Nat} {f:Nat→Int} {k:Nat},k<n→(∀j,j<k→f j=0)→f k≠0→dN f n=f k
 | 0,_,_,h,_,_=>by omega
 | n+1,f,0,_,_,h=>by rw[dN,if_neg h]
 | n+1,f,k+1,hk,h0,h=>by
  rw[dN,if_pos (h0 0 (by omega))]
  exact dG (f:=fun k=>f (k+1)) (k:=k) (by omega) (fun j hj=>h0 (j+1) (by omega)) h
theorem gK:∀{n:Nat} {f:Nat→Int},(∀j,j<n→f j=0)→dN f n=0
 | 0,_,_=>rfl
 | n+1,f,h=>by rw[dN,if_pos (h 0 (by omega))];exact gK fun j hj=>h (j+1) (by omega)
theorem pF {n:Nat} {f:Nat→Int} (h:dN f n=0):∀j,j<n→f j=0:=by
 induction n generalizing f with
 | zero=>intro j hj;omega
 | succ n ih=>
  intro j hj
  rw[dN] at h
  by_cases h0:f 0=0
  ·rw[if_pos h0] at h
   cases j with
   | zero=>exact h0
   | succ j=>exact ih h j (by omega)
  ·rw[if_neg h0] at h;exact absurd h h0
def qc (l:List (List UInt8)) (k:Nat):Int:=if jU (l.getD k [])=false then 3 else if 24<(l.getD k []).length then 17 else if (l.take k).any (fun y=>l.getD k []==y)=true then 7 else 0
def jH (l:List (List UInt8)):Int:=if 256<l.length then 5 else dN (qc l) l.length
def ape:Spec:=cu (fun l:List (List UInt8)=>[nH l]) (fun l=>∀s∈l,s.length≤1000000) (fun l=>iP (jH l))
theorem ahW {l:List (List UInt8)} {k:Nat} (hk:k≤l.length):∀j,j<k→[sP (l.getD j [])]=[sP ((l.take k).getD j [])]:=by
 intro j hj
 rw[abo,abo,anh,if_pos hj]
theorem agy:aL Tryz.prog 139 ape:=by
 refine bg (Tb:=tab) mixed ay Tryz.func139 rfl rfl ?_
 rintro (l:List (List UInt8)) hpre
 refine ai (ai rfl (ai rfl rfl)) ?_
 have hpre:∀s∈l,s.length≤1000000:=hpre
 refine ah (p:=256<l.length) (ak (by omega)) (fun h0=>?_) (fun h0=>?_)
 ·refine ai (ai (fun _=>trivial) ?_) trivial
  show au _ (iP (jH l))
  rw[jH,if_pos h0]
  exact rfl
 have hA:jH l=dN (qc l) l.length:=by unfold jH;rw[if_neg h0]
 refine ei (bG.inv { X:=Nat,up:=fun k=>[(10,.s (iA k))],uo:=fun k=>[],inv:=fun k=>k≤l.length∧(∀j,j<k→qc l j=0),meas:=fun k=>l.length-k,x0:=0 }) ?_
 refine ai (ai (ai (by exact (a4 (ai rfl rfl))) (ai (by exact (ai (ai (fun _=>rfl) (iE (by simp only[zz,reduceCtorEq];rfl))) rfl)) (by exact trivial))) rfl) (ai (ai (ac7 _) ?_) ?_)
 ·exact fun j hj=>absurd hj (ani _)
 intro (k:Nat) ⟨hk,hall⟩
 refine ah (p:=k<l.length) (ak (by omega)) (fun h1=>?_) (fun h1=>?_)
 ·refine ai (ai (abr _) (iN (n:=l.length) (by omega))) (ai rfl ?_)
  have hs:=hpre _ (abv (bY [] h1))
  have hz:=aV (l.getD k [])
  refine ei _ (ai (an5) (ei (l.getD k []) (ei [] (ai (a4 (ai (fun _=>Or.inl rfl) (ai nof (Or.inl rfl)))) (ai (by exact rfl) (ai trivial (ai (hs) ?_)))))))
  refine aZ (b:=!jU (l.getD k [])) rfl (fun h2=>?_) (fun h2=>?_)
  ·have h2:jU (l.getD k [])=false:=by simpa using h2
   have e:qc l k=3:=by unfold qc;rw[if_pos h2]
   refine ai (ai (fun _=>trivial) ?_) trivial
   show au _ (iP (jH l))
   rw[hA,dG h1 hall (by rw[e];decide),e]
   exact rfl
  have h2:¬jU (l.getD k [])=false:=by simpa using h2
  refine ah (p:=24<(l.getD k []).length) (by exact ak (by show (24:Int)<((strOf (l.getD k [])).size:Int)↔_;rw[hz];omega)) (fun h3=>?_) (fun h3=>?_)
  ·have e:qc l k=17:=by unfold qc;rw[if_neg h2,if_pos h3]
   refine ai (ai (fun _=>trivial) ?_) trivial
   show au _ (iP (jH l))
   rw[hA,dG h1 hall (by rw[e];decide),e]
   exact rfl
  refine ai (ai (by decide) (ai (abr _) (by show (k:Int)≤(l.length:Int);omega))) (ai (fun _ _=>rfl) ?_)
  have htk:(l.take k).length=k:=by rw[ala];omega
  refine ei _ (ai (ah7) (ei ((l.take k,l.getD k [])) (ei [] (ai (a4 (ai (fun _=>Or.inl rfl) (ai nof (Or.inl rfl)))) (ai ?_ (ai (by exact trivial) (ai ((by show (l.take k).length≤1000000;omega)) ?_)))))))
  ·refine (ai (ai ?_ ?_) rfl)
   ·show ((k:Int).toNat-(0:Int).toNat)=(l.take k).length
    rw[htk];simp
   ·intro j hj
    have hj:j<(k:Int).toNat-(0:Int).toNat:=hj
    show [sP (l.getD ((0:Int).toNat+j) [])]=_
    rw[show (0:Int).toNat+j=j by simp]
    exact ahW hk j (by simpa using hj)
  refine aZ (b:=(l.take k).any (fun y=>l.getD k []==y)) rfl (fun h4=>?_) (fun h4=>?_)
  ·have e:qc l k=7:=by unfold qc;rw[if_neg h2,if_neg h3,if_pos h4]
   refine ai (ai (fun _=>trivial) ?_) trivial
   show au _ (iP (jH l))
   rw[hA,dG h1 hall (by rw[e];decide),e]
   exact rfl
  refine ei (k+1) (ai (ai rfl rfl) (ai (ai (ai rfl (ai (ai rfl rfl) (ai (ai rfl rfl) (ai (ai (ai (fun _=>rfl) (aM (by omega))) rfl) trivial)))) rfl) (ai (ai (iL (by omega)) ?_) (iM (by omega)))))
  intro j hj
  by_cases hjk:j=k
  ·subst hjk;unfold qc;rw[if_neg h2,if_neg h3,if_neg (by rw[h4];decide)]
  ·exact hall j (by omega)
 ·obtain rfl:k=l.length:=by omega
  refine ai (ai (fun _=>trivial) ?_) trivial
  show au _ (iP (jH l))
  rw[hA,gK hall]
  exact rfl
end Go.Sx.Pe
namespace Go.Proofs
open Go.Shelf
def Tryz.aby:Go.Shelf.Ren:=⟨fun | 156=>143 | 165=>173 | 166=>78 | 169=>84 | 240=>135 | 241=>206 | 276=>166 | 277=>222 | n=>n,fun | 31=>22 | 9=>9 | 3=>3 | 4=>4 | 0=>0 | 20=>20 | 72=>143 | 76=>146 | 70=>140 | 37=>141 | 75=>145 | 127=>206 | 164=>226 | 5=>5 | 80=>153 | n=>n,fun | n=>n⟩
theorem Tryz.aix : Go.Proofs.Lays.n156 Tryz.prog Tryz.aby := {
  mixed := by kernel_rfl
  f156 := Tryz.func143.trans (congrArg some (by kernel_rfl))
  f165 := Tryz.func173.trans (congrArg some (by kernel_rfl))
  f166 := Tryz.func78.trans (congrArg some (by kernel_rfl))
  f169 := Tryz.func84.trans (congrArg some (by kernel_rfl))
  f240 := Tryz.func135.trans (congrArg some (by kernel_rfl))
  f241 := Tryz.func206.trans (congrArg some (by kernel_rfl))
  f276 := Tryz.func166.trans (congrArg some (by kernel_rfl))
  f277 := Tryz.func222.trans (congrArg some (by kernel_rfl))
  t0 := Tryz.underlying0
  a0 := Tryz.isAgg0
  z0 := Tryz.sizeOf0
  v0 := Tryz.zeroValue0
  t3 := Tryz.underlying3
  a3 := Tryz.isAgg3
  z3 := Tryz.sizeOf3
  v3 := Tryz.zeroValue3
  t4 := Tryz.underlying4
  a4 := Tryz.isAgg4
  z4 := Tryz.sizeOf4
  v4 := Tryz.zeroValue4
  t9 := Tryz.underlying9
  a9 := Tryz.isAgg9
  z9 := Tryz.sizeOf9
  v9 := Tryz.zeroValue9
  t20 := Tryz.underlying20
  a20 := Tryz.isAgg20
  z20 := Tryz.sizeOf20
  v20 := Tryz.zeroValue20
  t31 := Tryz.underlying22
  a31 := Tryz.isAgg22
  z31 := Tryz.sizeOf22
  v31 := Tryz.zeroValue22
  t37 := Tryz.underlying141
  a37 := Tryz.isAgg141
  z37 := Tryz.sizeOf141
  v37 := Tryz.zeroValue141
  t70 := Tryz.underlying140
  a70 := Tryz.isAgg140
  z70 := Tryz.sizeOf140
  v70 := Tryz.zeroValue140
  t72 := Tryz.underlying143
  a72 := Tryz.isAgg143
  z72 := Tryz.sizeOf143
  v72 := Tryz.zeroValue143
  t75 := Tryz.underlying145
  a75 := Tryz.isAgg145
  z75 := Tryz.sizeOf145
  v75 := Tryz.zeroValue145
  t76 := Tryz.underlying146
  a76 := Tryz.isAgg146
  z76 := Tryz.sizeOf146
  v76 := Tryz.zeroValue146
  t127 := Tryz.underlying206
  a127 := Tryz.isAgg206
  z127 := Tryz.sizeOf206
  v127 := Tryz.zeroValue206
  t164 := Tryz.underlying226
  a164 := Tryz.isAgg226
  z164 := Tryz.sizeOf226
  v164 := Tryz.zeroValue226 }
theorem Tryz.sD : Builder.Extra Tryz.prog Tryz.aby := {
  sizeBuilder := by kernel_rfl
  liesBuilder := by kernel_rfl
  t5 := Tryz.underlying5
  a5 := Tryz.isAgg5
  z5 := Tryz.sizeOf5
  v5 := Tryz.zeroValue5
  infoByte := by kernel_rfl
  cellsByte := by kernel_rfl
  sizeByte := by kernel_rfl
  neB5 := by decide }
open Go.RowKit in
theorem Tryz.strings_Join_none (a:Option Addr) (c:Nat) (sep:ByteArray) (w:World) :
  Calls Tryz.prog 143 #[.slice a 0 c,.string sep] w fun e w'=>e=.returned (.string ⟨#[]⟩)∧w'=w:=Any.strings_Join_none Tryz.aix Tryz.sD a c sep w
open Go.RowKit in
theorem Tryz.strings_Join (bk o c:Nat) (xs:List ByteArray) (sep:ByteArray) (w:World) (hcells:∀(j:Nat) x,xs[j]?=some x→w.cell? ⟨bk,o+j,none⟩=some (.string x)) (hbk:bk<w.heap.size) (hN:xs.length≤140737488355328) (hcap:xs.length≤c) (hlen:(Lib.join (xs.map (·.data.toList)) sep.data.toList).length≤140737488355328) :
  Calls Tryz.prog 143 #[.slice (some ⟨bk,o,none⟩) xs.length c,.string sep] w fun e w'=>e=.returned (.string ⟨(Lib.join (xs.map (·.data.toList)) sep.data.toList).toArray⟩)∧Below w.heap.size w w':=Any.strings_Join Tryz.aix Tryz.sD bk o c xs sep w hcells hbk hN hcap hlen
def Tryz.afF:Go.Shelf.Ren:=⟨fun | 171=>79 | 243=>136 | 246=>167 | 283=>197 | 284=>198 | 285=>199 | 286=>200 | 129=>193 | 317=>216 | 318=>217 | 319=>218 | 320=>219 | 337=>226 | 338=>227 | n=>n,fun | 3=>3 | 9=>9 | 2=>2 | 4=>4 | 171=>253 | 0=>0 | 53=>252 | 37=>141 | 5=>5 | 173=>255 | 212=>275 | 51=>250 | 20=>20 | 213=>276 | 46=>214 | 232=>292 | 233=>293 | n=>n,fun | 17=>0 | 18=>2 | 19=>3 | n=>n⟩
theorem Tryz.amB : Go.Proofs.LaysM.n171 Tryz.prog Tryz.afF := {
  mixed := by kernel_rfl
  f129 := Tryz.func193.trans (congrArg some (by kernel_rfl))
  f171 := Tryz.func79.trans (congrArg some (by kernel_rfl))
  f243 := Tryz.func136.trans (congrArg some (by kernel_rfl))
  f246 := Tryz.func167.trans (congrArg some (by kernel_rfl))
  f283 := Tryz.func197.trans (congrArg some (by kernel_rfl))
  f284 := Tryz.func198.trans (congrArg some (by kernel_rfl))
  f285 := Tryz.func199.trans (congrArg some (by kernel_rfl))
  f286 := Tryz.func200.trans (congrArg some (by kernel_rfl))
  f317 := Tryz.func216.trans (congrArg some (by kernel_rfl))
  f318 := Tryz.func217.trans (congrArg some (by kernel_rfl))
  f319 := Tryz.func218.trans (congrArg some (by kernel_rfl))
  f320 := Tryz.func219.trans (congrArg some (by kernel_rfl))
  f337 := Tryz.func226.trans (congrArg some (by kernel_rfl))
  f338 := Tryz.func227.trans (congrArg some (by kernel_rfl))
  t0 := Tryz.underlying0
  a0 := Tryz.isAgg0
  z0 := Tryz.sizeOf0
  v0 := Tryz.zeroValue0
  t2 := Tryz.underlying2
  a2 := Tryz.isAgg2
  z2 := Tryz.sizeOf2
  v2 := Tryz.zeroValue2
  t3 := Tryz.underlying3
  a3 := Tryz.isAgg3
  z3 := Tryz.sizeOf3
  v3 := Tryz.zeroValue3
  t4 := Tryz.underlying4
  a4 := Tryz.isAgg4
  z4 := Tryz.sizeOf4
  v4 := Tryz.zeroValue4
  t5 := Tryz.underlying5
  a5 := Tryz.isAgg5
  z5 := Tryz.sizeOf5
  v5 := Tryz.zeroValue5
  t9 := Tryz.underlying9
  a9 := Tryz.isAgg9
  z9 := Tryz.sizeOf9
  v9 := Tryz.zeroValue9
  t20 := Tryz.underlying20
  a20 := Tryz.isAgg20
  z20 := Tryz.sizeOf20
  v20 := Tryz.zeroValue20
  t37 := Tryz.underlying141
  a37 := Tryz.isAgg141
  z37 := Tryz.sizeOf141
  v37 := Tryz.zeroValue141
  t46 := Tryz.underlying214
  a46 := Tryz.isAgg214
  z46 := Tryz.sizeOf214
  v46 := Tryz.zeroValue214
  t51 := Tryz.underlying250
  a51 := Tryz.isAgg250
  z51 := Tryz.sizeOf250
  v51 := Tryz.zeroValue250
  t53 := Tryz.underlying252
  a53 := Tryz.isAgg252
  z53 := Tryz.sizeOf252
  v53 := Tryz.zeroValue252
  t171 := Tryz.underlying253
  a171 := Tryz.isAgg253
  z171 := Tryz.sizeOf253
  v171 := Tryz.zeroValue253
  t173 := Tryz.underlying255
  a173 := Tryz.isAgg255
  z173 := Tryz.sizeOf255
  v173 := Tryz.zeroValue255
  t212 := Tryz.underlying275
  a212 := Tryz.isAgg275
  z212 := Tryz.sizeOf275
  v212 := Tryz.zeroValue275
  t213 := Tryz.underlying276
  a213 := Tryz.isAgg276
  z213 := Tryz.sizeOf276
  t232 := Tryz.underlying292
  a232 := Tryz.isAgg292
  z232 := Tryz.sizeOf292
  v232 := Tryz.zeroValue292
  t233 := Tryz.underlying293
  a233 := Tryz.isAgg293
  z233 := Tryz.sizeOf293
  v233 := Tryz.zeroValue293
  g17 := by kernel_rfl
  g18 := by kernel_rfl
  g19 := by kernel_rfl
  i0 := by kernel_rfl
  i2 := by kernel_rfl
  i3 := by kernel_rfl
  i4 := by kernel_rfl
  i5 := by kernel_rfl
  i9 := by kernel_rfl
  i20 := by kernel_rfl
  i37 := by kernel_rfl
  i46 := by kernel_rfl
  i51 := by kernel_rfl
  i53 := by kernel_rfl
  i171 := by kernel_rfl
  i173 := by kernel_rfl
  i212 := by kernel_rfl
  i232 := by kernel_rfl
  i233 := by kernel_rfl
  m17 := by kernel_rfl
  m18 := by kernel_rfl
  m19 := by kernel_rfl }
open Go.RowKit Go.Sort Go.Lib in
theorem Tryz.strconv_Itoa (n:Int) (h0:-9223372036854775808≤n) (h1:n≤9223372036854775807) (w:World) (htab:Lib.TabIs Tryz.prog w "internal/strconv.uint64pow10" .u64 Lib.pow10Tab) :
  Calls Tryz.prog 79 #[.int .i64 n] w fun e w'=>e=.returned (.string ⟨(Lib.itoa n).toArray⟩)∧∃k os,w'=grow (w.drewN k) os:=Any.strconv_Itoa Tryz.amB n h0 h1 w htab
def Tryz.ahJ:Go.Shelf.Ren:=⟨fun | 171=>79 | 243=>136 | 246=>167 | 283=>197 | 284=>198 | 285=>199 | 286=>200 | 129=>193 | 317=>216 | 318=>217 | 319=>218 | 320=>219 | 337=>226 | 338=>227 | n=>n,fun | 3=>3 | 9=>9 | 2=>2 | 4=>4 | 171=>253 | 0=>0 | 53=>252 | 37=>141 | 5=>5 | 173=>255 | 212=>275 | 51=>250 | 20=>20 | 213=>276 | 46=>214 | 232=>292 | 233=>293 | n=>n,fun | 17=>0 | 18=>2 | 19=>3 | n=>n⟩
theorem Tryz.aos : Go.Proofs.Lays.n171 Tryz.prog Tryz.ahJ := {
  mixed := by kernel_rfl
  f129 := Tryz.func193.trans (congrArg some (by kernel_rfl))
  f171 := Tryz.func79.trans (congrArg some (by kernel_rfl))
  f243 := Tryz.func136.trans (congrArg some (by kernel_rfl))
  f246 := Tryz.func167.trans (congrArg some (by kernel_rfl))
  f283 := Tryz.func197.trans (congrArg some (by kernel_rfl))
  f284 := Tryz.func198.trans (congrArg some (by kernel_rfl))
  f285 := Tryz.func199.trans (congrArg some (by kernel_rfl))
  f286 := Tryz.func200.trans (congrArg some (by kernel_rfl))
  f317 := Tryz.func216.trans (congrArg some (by kernel_rfl))
  f318 := Tryz.func217.trans (congrArg some (by kernel_rfl))
  f319 := Tryz.func218.trans (congrArg some (by kernel_rfl))
  f320 := Tryz.func219.trans (congrArg some (by kernel_rfl))
  f337 := Tryz.func226.trans (congrArg some (by kernel_rfl))
  f338 := Tryz.func227.trans (congrArg some (by kernel_rfl))
  t0 := Tryz.underlying0
  a0 := Tryz.isAgg0
  z0 := Tryz.sizeOf0
  v0 := Tryz.zeroValue0
  t2 := Tryz.underlying2
  a2 := Tryz.isAgg2
  z2 := Tryz.sizeOf2
  v2 := Tryz.zeroValue2
  t3 := Tryz.underlying3
  a3 := Tryz.isAgg3
  z3 := Tryz.sizeOf3
  v3 := Tryz.zeroValue3
  t4 := Tryz.underlying4
  a4 := Tryz.isAgg4
  z4 := Tryz.sizeOf4
  v4 := Tryz.zeroValue4
  t5 := Tryz.underlying5
  a5 := Tryz.isAgg5
  z5 := Tryz.sizeOf5
  v5 := Tryz.zeroValue5
  t9 := Tryz.underlying9
  a9 := Tryz.isAgg9
  z9 := Tryz.sizeOf9
  v9 := Tryz.zeroValue9
  t20 := Tryz.underlying20
  a20 := Tryz.isAgg20
  z20 := Tryz.sizeOf20
  v20 := Tryz.zeroValue20
  t37 := Tryz.underlying141
  a37 := Tryz.isAgg141
  z37 := Tryz.sizeOf141
  v37 := Tryz.zeroValue141
  t46 := Tryz.underlying214
  a46 := Tryz.isAgg214
  z46 := Tryz.sizeOf214
  v46 := Tryz.zeroValue214
  t51 := Tryz.underlying250
  a51 := Tryz.isAgg250
  z51 := Tryz.sizeOf250
  v51 := Tryz.zeroValue250
  t53 := Tryz.underlying252
  a53 := Tryz.isAgg252
  z53 := Tryz.sizeOf252
  v53 := Tryz.zeroValue252
  t171 := Tryz.underlying253
  a171 := Tryz.isAgg253
  z171 := Tryz.sizeOf253
  v171 := Tryz.zeroValue253
  t173 := Tryz.underlying255
  a173 := Tryz.isAgg255
  z173 := Tryz.sizeOf255
  v173 := Tryz.zeroValue255
  t212 := Tryz.underlying275
  a212 := Tryz.isAgg275
  z212 := Tryz.sizeOf275
  v212 := Tryz.zeroValue275
  t213 := Tryz.underlying276
  a213 := Tryz.isAgg276
  z213 := Tryz.sizeOf276
  t232 := Tryz.underlying292
  a232 := Tryz.isAgg292
  z232 := Tryz.sizeOf292
  v232 := Tryz.zeroValue292
  t233 := Tryz.underlying293
  a233 := Tryz.isAgg293
  z233 := Tryz.sizeOf293
  v233 := Tryz.zeroValue293
  g17 := by kernel_rfl
  g18 := by kernel_rfl
  g19 := by kernel_rfl }
open Go.RowKit Go.Sort Go.Lib in
theorem Tryz.strconv_Itoa_small (i:Nat) (hi:i<100) (w:World) :
  Calls Tryz.prog 79 #[.int .i64 i] w fun e w'=>e=.returned (.string ⟨(Lib.decDigits i).toArray⟩)∧w'=w:=Any.strconv_Itoa_small Tryz.aos i hi w
def Tryz.ahr:Go.Shelf.Ren:=⟨fun | 144=>208 | 143=>223 | 219=>229 | 217=>237 | 225=>238 | 224=>239 | 267=>240 | 266=>245 | 314=>246 | n=>n,fun | 9=>9 | 4=>4 | 3=>3 | 5=>5 | 46=>214 | 146=>298 | 51=>250 | n=>n,fun | 1=>1 | n=>n⟩
theorem Tryz.aoc : Go.Proofs.Lays.n144 Tryz.prog Tryz.ahr := {
  mixed := by kernel_rfl
  f143 := Tryz.func223.trans (congrArg some (by kernel_rfl))
  f144 := Tryz.func208.trans (congrArg some (by kernel_rfl))
  f217 := Tryz.func237.trans (congrArg some (by kernel_rfl))
  f219 := Tryz.func229.trans (congrArg some (by kernel_rfl))
  f224 := Tryz.func239.trans (congrArg some (by kernel_rfl))
  f225 := Tryz.func238.trans (congrArg some (by kernel_rfl))
  f266 := Tryz.func245.trans (congrArg some (by kernel_rfl))
  f267 := Tryz.func240.trans (congrArg some (by kernel_rfl))
  f314 := Tryz.func246.trans (congrArg some (by kernel_rfl))
  t3 := Tryz.underlying3
  a3 := Tryz.isAgg3
  z3 := Tryz.sizeOf3
  v3 := Tryz.zeroValue3
  t4 := Tryz.underlying4
  a4 := Tryz.isAgg4
  z4 := Tryz.sizeOf4
  v4 := Tryz.zeroValue4
  t5 := Tryz.underlying5
  a5 := Tryz.isAgg5
  z5 := Tryz.sizeOf5
  v5 := Tryz.zeroValue5
  t9 := Tryz.underlying9
  a9 := Tryz.isAgg9
  z9 := Tryz.sizeOf9
  v9 := Tryz.zeroValue9
  t46 := Tryz.underlying214
  a46 := Tryz.isAgg214
  z46 := Tryz.sizeOf214
  v46 := Tryz.zeroValue214
  t51 := Tryz.underlying250
  a51 := Tryz.isAgg250
  z51 := Tryz.sizeOf250
  v51 := Tryz.zeroValue250
  t146 := Tryz.underlying298
  a146 := Tryz.isAgg298
  z146 := Tryz.sizeOf298
  v146 := Tryz.zeroValue298
  g1 := by kernel_rfl }
open Go.RowKit Go.Lib in
theorem Tryz.strings_Contains_one (s:ByteArray) (c:UInt8) (w:World) :
  Calls Tryz.prog 208 #[.string s,.string ⟨#[c]⟩] w fun e w'=>e=.returned (.bool (decide (0≤Lib.indexByte s.data.toList c)))∧w'=w:=Any.strings_Contains_one Tryz.aoc s c w
end Go.Proofs
namespace Go.Sx.Pe
open Go Go.Proofs Go.Sx.Pn
def eH (c:UInt8):Bool:=decide (48≤c.toNat)&&decide (c.toNat≤57)
def jO (c:UInt8):Bool:=decide (97≤c.toNat)&&decide (c.toNat≤122)
def uI (c:UInt8):Bool:=decide (65≤c.toNat)&&decide (c.toNat≤90)
def jl (c:UInt8):Bool:=eH c||jO c||uI c||decide (c.toNat=95)
def dJ (c:UInt8):Bool:=[97,98,99,100,101,102,116,120,121,122].any (fun y:UInt8=>c==y)
def l8 (c:UInt8):Bool:=decide (97≤c.toNat)&&decide (c.toNat≤102)
theorem tV:aL Tryz.prog 182 (cu (fun c:UInt8=>[cA c]) (fun _=>True) (fun c=>bP (eH c))):=by
 refine bg (Tb:=tab) mixed ay Tryz.func182 rfl rfl ?_
 rintro (c:UInt8) hpre
 refine ai (ai rfl (ai rfl rfl)) ?_
 repeat' (refine bF (fun h=>?_) (fun h=>?_))
 all_goals
  refine ai (ai (fun _=>(by (repeat' (first | exact rfl | exact trivial | exact jm _ | exact ajb _ | exact (fun _=>rfl) | exact (fun _ _=>rfl) | exact nof | refine ai ?_ ?_)))) ?_) trivial
  show (_:Bool)=eH c
  rw[arU]
  simp only[ahX,aqo,decide_eq_true_eq,decide_eq_false_iff_not,beq_iff_eq,beq_eq_false_iff_ne,ne_eq,eH,jO,uI,jl,l8,true_iff,iff_true,reduceCtorEq,false_iff] at *
  omega
theorem ahc:aL Tryz.prog 180 (cu (fun c:UInt8=>[cA c]) (fun _=>True) (fun c=>bP (jO c))):=by
 refine bg (Tb:=tab) mixed ay Tryz.func180 rfl rfl ?_
 rintro (c:UInt8) hpre
 refine ai (ai rfl (ai rfl rfl)) ?_
 repeat' (refine bF (fun h=>?_) (fun h=>?_))
 all_goals
  refine ai (ai (fun _=>(by (repeat' (first | exact rfl | exact trivial | exact jm _ | exact ajb _ | exact (fun _=>rfl) | exact (fun _ _=>rfl) | exact nof | refine ai ?_ ?_)))) ?_) trivial
  show (_:Bool)=jO c
  rw[arU]
  simp only[ahX,aqo,decide_eq_true_eq,decide_eq_false_iff_not,beq_iff_eq,beq_eq_false_iff_ne,ne_eq,eH,jO,uI,jl,l8,true_iff,iff_true,reduceCtorEq,false_iff] at *
  omega
theorem ajP:aL Tryz.prog 178 (cu (fun c:UInt8=>[cA c]) (fun _=>True) (fun c=>bP (jl c))):=by
 refine bg (Tb:=tab) mixed ay Tryz.func178 rfl rfl ?_
 rintro (c:UInt8) hpre
 refine ai (ai rfl (ai rfl rfl)) ?_
 repeat' (refine bF (fun h=>?_) (fun h=>?_))
 all_goals
  refine ai (ai (fun _=>(by (repeat' (first | exact rfl | exact trivial | exact jm _ | exact ajb _ | exact (fun _=>rfl) | exact (fun _ _=>rfl) | exact nof | refine ai ?_ ?_)))) ?_) trivial
  show (_:Bool)=jl c
  rw[arU]
  simp only[ahX,aqo,decide_eq_true_eq,decide_eq_false_iff_not,beq_iff_eq,beq_eq_false_iff_ne,ne_eq,eH,jO,uI,jl,l8,true_iff,iff_true,reduceCtorEq,false_iff] at *
  omega
def resE:List UInt8→Bool
 | []=>false
 | c :: t=>!t.isEmpty&&((dJ c&&t.all eH)||(l8 c&&(t==[112]||t==[109])))
theorem aeO:∀(l:List UInt8) (c:UInt8),decide (0≤Lib.indexByte l c)=l.any fun y=>c==y
 | [],c=>by simp[Lib.indexByte]
 | x :: l,c=>by
  have ih:=aeO l c
  have hge:=Lib.indexByte_ge l c
  unfold Lib.indexByte
  rw[ata]
  by_cases h:x=c
  ·subst h;simp
  ·rw[show (c==x)=false by simpa using fun e=>h e.symm,ap0,←ih]
   simp only[beq_iff_eq,h,if_false]
   split
   ·rename_i h2;rw[h2]
   ·exact decide_eq_decide.2 (by omega)
theorem adZ:aL Tryz.prog 208 (cu (fun a:List UInt8×UInt8=>[sA a.1,sA [a.2]]) (fun _=>True) (fun a=>bP (a.1.any fun y=>a.2==y))):=
 af3 (aen (α:=List UInt8×UInt8) Tryz.func208 rfl rfl (vals:=fun a=>[.string (strOf a.1),.string (strOf [a.2])]) (pre:=fun _=>True) (ret:=fun a=>.bool (decide (0≤Lib.indexByte a.1 a.2))) (fun _ _=>rfl)
  fun a _ w=>(Tryz.strings_Contains_one (strOf a.1) a.2 w).mono fun e w' h=>by
   obtain ⟨h1,h2⟩:=h
   subst h2
   exact ⟨h1,RowKit.Below.refl _ _⟩) id
  (fun _ _=>rfl) (fun _ _=>rfl) (fun _ _=>rfl) (fun a _=>by show PV.val (.bool (decide (0≤Lib.indexByte a.1 a.2)))=_;rw[aeO];rfl) (fun _ _=>trivial)
theorem amN:aL Tryz.prog 181 (cu (fun s:List UInt8=>[sA s]) (fun s=>s.length≤1000000) (fun s=>bP (resE s))):=by
 refine bg (Tb:=tab) mixed ay Tryz.func181 rfl rfl ?_
 rintro (s:List UInt8) hpre
 refine ai (ai rfl (ai rfl rfl)) ?_
 have hl:s.length≤1000000:=hpre
 have hz:=aV s
 refine ah (p:=s.length<2) (by exact ak (by rw[hz];omega)) (fun h1=>?_) (fun h1=>?_)
 ·have e:resE s=false:=by
   cases s with
   | nil=>rfl
   | cons c t=>cases t with
    | nil=>rfl
    | cons d t=>simp at h1;omega
  refine ai (ai (fun _=>trivial) ?_) trivial
  show au _ (bP (resE s))
  rw[e]
  exact rfl
 obtain ⟨c,d,t,rfl⟩:∃c d t,s=c :: d :: t:=by
  cases s with
  | nil=>simp at h1
  | cons c t=>cases t with
   | nil=>simp at h1
   | cons d t=>exact ⟨c,d,t,rfl⟩
 have i0:(strOf (c :: d :: t))[(0:Int).toNat]?=some c:=kS (s:=c :: d :: t) (k:=0) (by simp)
 have i1:(strOf (c :: d :: t))[(1:Int).toNat]?=some d:=kS (s:=c :: d :: t) (k:=1) (by simp)
 have hl2:(d :: t).length≤1000000:=by simp only[aio] at hl ⊢;omega
 have hR:resE (c :: d :: t)=((dJ c&&(d :: t).all eH)||(l8 c&&((d :: t)==[112]||(d :: t)==[109]))):=rfl
 refine ah (p:=t=[]) (by exact bC (by show (((strOf (c :: d :: t)).size:Nat):Int)=2↔_;rw[hz];cases t with | nil=>simp | cons y t=>simp;omega)) (fun h2=>?_) (fun h2=>?_)
 ·refine ei c (ai (ai (by decide) i0) ?_)
  refine ah (p:=97≤c.toNat) (bX (by omega)) (fun h3=>?_) (fun h3=>?_)
  ·refine ei c (ai (ai (by decide) i0) ?_)
   refine ah (p:=c.toNat≤102) (bX (by omega)) (fun h4=>?_) (fun h4=>?_)
   ·refine ei d (ai (ai (by decide) i1) ?_)
    have hac:l8 c=true:=by unfold l8;rw[decide_eq_true h3,decide_eq_true h4];rfl
    refine ah (p:=d=112) (by exact dH rfl) (fun h5=>?_) (fun h5=>?_)
    ·refine ai (ai (fun _=>trivial) ?_) trivial
     show au _ (bP (resE (c :: d :: t)))
     rw[show resE (c :: d :: t)=true by rw[hR,hac,h5,h2];simp]
     exact rfl
    ·refine ei d (ai (ai (by decide) i1) ?_)
     refine ah (p:=d=109) (by exact dH rfl) (fun h6=>?_) (fun h6=>?_)
     ·refine ai (ai (fun _=>trivial) ?_) trivial
      show au _ (bP (resE (c :: d :: t)))
      rw[show resE (c :: d :: t)=true by rw[hR,hac,h6,h2];simp]
      exact rfl
     ·have hN:(l8 c&&((d :: t)==[112]||(d :: t)==[109]))=false:=by rw[hac,h2];simp[h5,h6]
      refine ei (bG.inv { X:=Nat,up:=fun k=>[(3,.s (iA (k+1:Nat)))],uo:=fun k=>[],inv:=fun k=>k≤(d :: t).length∧(∀x∈(d :: t).take k,eH x=true),meas:=fun k=>(d :: t).length-k,x0:=0 }) ?_
      refine ai (ai (ai (by exact (a4 (ai rfl rfl))) (ai (by exact (ai (ai (fun _=>rfl) (iE (by simp only[zz,reduceCtorEq];rfl))) rfl)) (by exact trivial))) rfl) (ai (ai (ac7 _) ?_) ?_)
      ·exact fun y hy=>absurd hy (by simp)
      intro (k:Nat) ⟨hk,hall⟩
      refine ah (p:=k<(d :: t).length) (by exact ak (by rw[hz];simp only[aio];omega)) (fun h8=>?_) (fun h8=>?_)
      ·refine ei ((d :: t).getD k 0) (ai (ai (abr _) (kS (s:=c :: d :: t) (k:=k+1) (by simp at h8 ⊢;omega))) ?_)
       refine ei _ (ai (tV) (ei ((d :: t).getD k 0) (ei [] (ai (a4 (ai (fun _=>Or.inl rfl) (ai nof (Or.inl rfl)))) (ai (by exact rfl) (ai trivial (ai (trivial) ?_)))))))
       refine aZ (b:=!eH ((d :: t).getD k 0)) rfl (fun h9=>?_) (fun h9=>?_)
       ·have e:(d :: t).all eH=false:=by
         rw[arT]
         exact ⟨_,abv (bY 0 h8),by simpa using h9⟩
        refine ai (ai (fun _=>trivial) ?_) trivial
        show au _ (bP (resE (c :: d :: t)))
        rw[hR,e,ara,ap0,hN]
        exact rfl
       refine ei (k+1) (ai (ai rfl rfl) (ai (ai (ai rfl (ai (ai rfl rfl) (ai (ai rfl rfl) (ai (ai (ai (fun _=>rfl) (aM (by omega))) rfl) trivial)))) rfl) (ai (ai (iL (by omega)) ?_) (iM (by omega)))))
       intro y hy
       rw[aX 0 h8] at hy
       rcases akI.1 hy with hy | hy
       ·exact hall y hy
       ·simp only[akz] at hy;subst hy;simpa using h9
      ·obtain rfl:k=(d :: t).length:=by omega
       rw[aiy] at hall
       have e:(d :: t).all eH=true:=anu.2 hall
       refine ai (by decide) ?_
       refine ei (bG.unroll 11) ?_
       refine ai (ai (by decide) (by decide)) ?_
       refine ai rfl ?_
       refine ei c (ai (ai (by decide) i0) ?_)
       refine ah (p:=c=97) (by exact dH rfl) (fun m97=>?_) (fun m97=>?_)
       ·have e2:dJ c=true:=by rw[m97];rfl
        refine ai (ai (fun _=>trivial) ?_) trivial
        show au _ (bP (resE (c :: d :: t)))
        rw[hR,e,e2,aj4,anf]
        exact rfl
       refine ai (ai (by decide) (by decide)) ?_
       refine ai rfl ?_
       refine ei c (ai (ai (by decide) i0) ?_)
       refine ah (p:=c=98) (by exact dH rfl) (fun m98=>?_) (fun m98=>?_)
       ·have e2:dJ c=true:=by rw[m98];rfl
        refine ai (ai (fun _=>trivial) ?_) trivial
        show au _ (bP (resE (c :: d :: t)))
        rw[hR,e,e2,aj4,anf]
        exact rfl
       refine ai (ai (by decide) (by decide)) ?_
       refine ai rfl ?_
       refine ei c (ai (ai (by decide) i0) ?_)
       refine ah (p:=c=99) (by exact dH rfl) (fun m99=>?_) (fun m99=>?_)
       ·have e2:dJ c=true:=by rw[m99];rfl
        refine ai (ai (fun _=>trivial) ?_) trivial
        show au _ (bP (resE (c :: d :: t)))
        rw[hR,e,e2,aj4,anf]
        exact rfl
       refine ai (ai (by decide) (by decide)) ?_
       refine ai rfl ?_
       refine ei c (ai (ai (by decide) i0) ?_)
       refine ah (p:=c=100) (by exact dH rfl) (fun m100=>?_) (fun m100=>?_)
       ·have e2:dJ c=true:=by rw[m100];rfl
        refine ai (ai (fun _=>trivial) ?_) trivial
        show au _ (bP (resE (c :: d :: t)))
        rw[hR,e,e2,aj4,anf]
        exact rfl
       refine ai (ai (by decide) (by decide)) ?_
       refine ai rfl ?_
       refine ei c (ai (ai (by decide) i0) ?_)
       refine ah (p:=c=101) (by exact dH rfl) (fun m101=>?_) (fun m101=>?_)
       ·have e2:dJ c=true:=by rw[m101];rfl
        refine ai (ai (fun _=>trivial) ?_) trivial
        show au _ (bP (resE (c :: d :: t)))
        rw[hR,e,e2,aj4,anf]
        exact rfl
       refine ai (ai (by decide) (by decide)) ?_
       refine ai rfl ?_
       refine ei c (ai (ai (by decide) i0) ?_)
       refine ah (p:=c=102) (by exact dH rfl) (fun m102=>?_) (fun m102=>?_)
       ·have e2:dJ c=true:=by rw[m102];rfl
        refine ai (ai (fun _=>trivial) ?_) trivial
        show au _ (bP (resE (c :: d :: t)))
        rw[hR,e,e2,aj4,anf]
        exact rfl
       refine ai (ai (by decide) (by decide)) ?_
       refine ai rfl ?_
       refine ei c (ai (ai (by decide) i0) ?_)
       refine ah (p:=c=116) (by exact dH rfl) (fun m116=>?_) (fun m116=>?_)
       ·have e2:dJ c=true:=by rw[m116];rfl
        refine ai (ai (fun _=>trivial) ?_) trivial
        show au _ (bP (resE (c :: d :: t)))
        rw[hR,e,e2,aj4,anf]
        exact rfl
       refine ai (ai (by decide) (by decide)) ?_
       refine ai rfl ?_
       refine ei c (ai (ai (by decide) i0) ?_)
       refine ah (p:=c=120) (by exact dH rfl) (fun m120=>?_) (fun m120=>?_)
       ·have e2:dJ c=true:=by rw[m120];rfl
        refine ai (ai (fun _=>trivial) ?_) trivial
        show au _ (bP (resE (c :: d :: t)))
        rw[hR,e,e2,aj4,anf]
        exact rfl
       refine ai (ai (by decide) (by decide)) ?_
       refine ai rfl ?_
       refine ei c (ai (ai (by decide) i0) ?_)
       refine ah (p:=c=121) (by exact dH rfl) (fun m121=>?_) (fun m121=>?_)
       ·have e2:dJ c=true:=by rw[m121];rfl
        refine ai (ai (fun _=>trivial) ?_) trivial
        show au _ (bP (resE (c :: d :: t)))
        rw[hR,e,e2,aj4,anf]
        exact rfl
       refine ai (ai (by decide) (by decide)) ?_
       refine ai rfl ?_
       refine ei c (ai (ai (by decide) i0) ?_)
       refine ah (p:=c=122) (by exact dH rfl) (fun m122=>?_) (fun m122=>?_)
       ·have e2:dJ c=true:=by rw[m122];rfl
        refine ai (ai (fun _=>trivial) ?_) trivial
        show au _ (bP (resE (c :: d :: t)))
        rw[hR,e,e2,aj4,anf]
        exact rfl
       have e2:dJ c=false:=by unfold dJ;simp[m97,m98,m99,m100,m101,m102,m116,m120,m121,m122]
       refine ai (ai (fun _=>trivial) ?_) trivial
       show au _ (bP (resE (c :: d :: t)))
       rw[hR,e2,aqd,ap0,hN]
       exact rfl
   ·have hN:(l8 c&&((d :: t)==[112]||(d :: t)==[109]))=false:=by unfold l8;rw[decide_eq_false h4];simp
    refine ei (bG.inv { X:=Nat,up:=fun k=>[(3,.s (iA (k+1:Nat)))],uo:=fun k=>[],inv:=fun k=>k≤(d :: t).length∧(∀x∈(d :: t).take k,eH x=true),meas:=fun k=>(d :: t).length-k,x0:=0 }) ?_
    refine ai (ai (ai (by exact (a4 (ai rfl rfl))) (ai (by exact (ai (ai (fun _=>rfl) (iE (by simp only[zz,reduceCtorEq];rfl))) rfl)) (by exact trivial))) rfl) (ai (ai (ac7 _) ?_) ?_)
    ·exact fun y hy=>absurd hy (by simp)
    intro (k:Nat) ⟨hk,hall⟩
    refine ah (p:=k<(d :: t).length) (by exact ak (by rw[hz];simp only[aio];omega)) (fun h8=>?_) (fun h8=>?_)
    ·refine ei ((d :: t).getD k 0) (ai (ai (abr _) (kS (s:=c :: d :: t) (k:=k+1) (by simp at h8 ⊢;omega))) ?_)
     refine ei _ (ai (tV) (ei ((d :: t).getD k 0) (ei [] (ai (a4 (ai (fun _=>Or.inl rfl) (ai nof (Or.inl rfl)))) (ai (by exact rfl) (ai trivial (ai (trivial) ?_)))))))
     refine aZ (b:=!eH ((d :: t).getD k 0)) rfl (fun h9=>?_) (fun h9=>?_)
     ·have e:(d :: t).all eH=false:=by
       rw[arT]
       exact ⟨_,abv (bY 0 h8),by simpa using h9⟩
      refine ai (ai (fun _=>trivial) ?_) trivial
      show au _ (bP (resE (c :: d :: t)))
      rw[hR,e,ara,ap0,hN]
      exact rfl
     refine ei (k+1) (ai (ai rfl rfl) (ai (ai (ai rfl (ai (ai rfl rfl) (ai (ai rfl rfl) (ai (ai (ai (fun _=>rfl) (aM (by omega))) rfl) trivial)))) rfl) (ai (ai (iL (by omega)) ?_) (iM (by omega)))))
     intro y hy
     rw[aX 0 h8] at hy
     rcases akI.1 hy with hy | hy
     ·exact hall y hy
     ·simp only[akz] at hy;subst hy;simpa using h9
    ·obtain rfl:k=(d :: t).length:=by omega
     rw[aiy] at hall
     have e:(d :: t).all eH=true:=anu.2 hall
     refine ai (by decide) ?_
     refine ei (bG.unroll 11) ?_
     refine ai (ai (by decide) (by decide)) ?_
     refine ai rfl ?_
     refine ei c (ai (ai (by decide) i0) ?_)
     refine ah (p:=c=97) (by exact dH rfl) (fun m97=>?_) (fun m97=>?_)
     ·have e2:dJ c=true:=by rw[m97];rfl
      refine ai (ai (fun _=>trivial) ?_) trivial
      show au _ (bP (resE (c :: d :: t)))
      rw[hR,e,e2,aj4,anf]
      exact rfl
     refine ai (ai (by decide) (by decide)) ?_
     refine ai rfl ?_
     refine ei c (ai (ai (by decide) i0) ?_)
     refine ah (p:=c=98) (by exact dH rfl) (fun m98=>?_) (fun m98=>?_)
     ·have e2:dJ c=true:=by rw[m98];rfl
      refine ai (ai (fun _=>trivial) ?_) trivial
      show au _ (bP (resE (c :: d :: t)))
      rw[hR,e,e2,aj4,anf]
      exact rfl
     refine ai (ai (by decide) (by decide)) ?_
     refine ai rfl ?_
     refine ei c (ai (ai (by decide) i0) ?_)
     refine ah (p:=c=99) (by exact dH rfl) (fun m99=>?_) (fun m99=>?_)
     ·have e2:dJ c=true:=by rw[m99];rfl
      refine ai (ai (fun _=>trivial) ?_) trivial
      show au _ (bP (resE (c :: d :: t)))
      rw[hR,e,e2,aj4,anf]
      exact rfl
     refine ai (ai (by decide) (by decide)) ?_
     refine ai rfl ?_
     refine ei c (ai (ai (by decide) i0) ?_)
     refine ah (p:=c=100) (by exact dH rfl) (fun m100=>?_) (fun m100=>?_)
     ·have e2:dJ c=true:=by rw[m100];rfl
      refine ai (ai (fun _=>trivial) ?_) trivial
      show au _ (bP (resE (c :: d :: t)))
      rw[hR,e,e2,aj4,anf]
      exact rfl
     refine ai (ai (by decide) (by decide)) ?_
     refine ai rfl ?_
     refine ei c (ai (ai (by decide) i0) ?_)
     refine ah (p:=c=101) (by exact dH rfl) (fun m101=>?_) (fun m101=>?_)
     ·have e2:dJ c=true:=by rw[m101];rfl
      refine ai (ai (fun _=>trivial) ?_) trivial
      show au _ (bP (resE (c :: d :: t)))
      rw[hR,e,e2,aj4,anf]
      exact rfl
     refine ai (ai (by decide) (by decide)) ?_
     refine ai rfl ?_
     refine ei c (ai (ai (by decide) i0) ?_)
     refine ah (p:=c=102) (by exact dH rfl) (fun m102=>?_) (fun m102=>?_)
     ·have e2:dJ c=true:=by rw[m102];rfl
      refine ai (ai (fun _=>trivial) ?_) trivial
      show au _ (bP (resE (c :: d :: t)))
      rw[hR,e,e2,aj4,anf]
      exact rfl
     refine ai (ai (by decide) (by decide)) ?_
     refine ai rfl ?_
     refine ei c (ai (ai (by decide) i0) ?_)
     refine ah (p:=c=116) (by exact dH rfl) (fun m116=>?_) (fun m116=>?_)
     ·have e2:dJ c=true:=by rw[m116];rfl
      refine ai (ai (fun _=>trivial) ?_) trivial
      show au _ (bP (resE (c :: d :: t)))
      rw[hR,e,e2,aj4,anf]
      exact rfl
     refine ai (ai (by decide) (by decide)) ?_
     refine ai rfl ?_
     refine ei c (ai (ai (by decide) i0) ?_)
     refine ah (p:=c=120) (by exact dH rfl) (fun m120=>?_) (fun m120=>?_)
     ·have e2:dJ c=true:=by rw[m120];rfl
      refine ai (ai (fun _=>trivial) ?_) trivial
      show au _ (bP (resE (c :: d :: t)))
      rw[hR,e,e2,aj4,anf]
      exact rfl
     refine ai (ai (by decide) (by decide)) ?_
     refine ai rfl ?_
     refine ei c (ai (ai (by decide) i0) ?_)
     refine ah (p:=c=121) (by exact dH rfl) (fun m121=>?_) (fun m121=>?_)
     ·have e2:dJ c=true:=by rw[m121];rfl
      refine ai (ai (fun _=>trivial) ?_) trivial
      show au _ (bP (resE (c :: d :: t)))
      rw[hR,e,e2,aj4,anf]
      exact rfl
     refine ai (ai (by decide) (by decide)) ?_
     refine ai rfl ?_
     refine ei c (ai (ai (by decide) i0) ?_)
     refine ah (p:=c=122) (by exact dH rfl) (fun m122=>?_) (fun m122=>?_)
     ·have e2:dJ c=true:=by rw[m122];rfl
      refine ai (ai (fun _=>trivial) ?_) trivial
      show au _ (bP (resE (c :: d :: t)))
      rw[hR,e,e2,aj4,anf]
      exact rfl
     have e2:dJ c=false:=by unfold dJ;simp[m97,m98,m99,m100,m101,m102,m116,m120,m121,m122]
     refine ai (ai (fun _=>trivial) ?_) trivial
     show au _ (bP (resE (c :: d :: t)))
     rw[hR,e2,aqd,ap0,hN]
     exact rfl
  ·have hN:(l8 c&&((d :: t)==[112]||(d :: t)==[109]))=false:=by unfold l8;rw[decide_eq_false h3];simp
   refine ei (bG.inv { X:=Nat,up:=fun k=>[(3,.s (iA (k+1:Nat)))],uo:=fun k=>[],inv:=fun k=>k≤(d :: t).length∧(∀x∈(d :: t).take k,eH x=true),meas:=fun k=>(d :: t).length-k,x0:=0 }) ?_
   refine ai (ai (ai (by exact (a4 (ai rfl rfl))) (ai (by exact (ai (ai (fun _=>rfl) (iE (by simp only[zz,reduceCtorEq];rfl))) rfl)) (by exact trivial))) rfl) (ai (ai (ac7 _) ?_) ?_)
   ·exact fun y hy=>absurd hy (by simp)
   intro (k:Nat) ⟨hk,hall⟩
   refine ah (p:=k<(d :: t).length) (by exact ak (by rw[hz];simp only[aio];omega)) (fun h8=>?_) (fun h8=>?_)
   ·refine ei ((d :: t).getD k 0) (ai (ai (abr _) (kS (s:=c :: d :: t) (k:=k+1) (by simp at h8 ⊢;omega))) ?_)
    refine ei _ (ai (tV) (ei ((d :: t).getD k 0) (ei [] (ai (a4 (ai (fun _=>Or.inl rfl) (ai nof (Or.inl rfl)))) (ai (by exact rfl) (ai trivial (ai (trivial) ?_)))))))
    refine aZ (b:=!eH ((d :: t).getD k 0)) rfl (fun h9=>?_) (fun h9=>?_)
    ·have e:(d :: t).all eH=false:=by
      rw[arT]
      exact ⟨_,abv (bY 0 h8),by simpa using h9⟩
     refine ai (ai (fun _=>trivial) ?_) trivial
     show au _ (bP (resE (c :: d :: t)))
     rw[hR,e,ara,ap0,hN]
     exact rfl
    refine ei (k+1) (ai (ai rfl rfl) (ai (ai (ai rfl (ai (ai rfl rfl) (ai (ai rfl rfl) (ai (ai (ai (fun _=>rfl) (aM (by omega))) rfl) trivial)))) rfl) (ai (ai (iL (by omega)) ?_) (iM (by omega)))))
    intro y hy
    rw[aX 0 h8] at hy
    rcases akI.1 hy with hy | hy
    ·exact hall y hy
    ·simp only[akz] at hy;subst hy;simpa using h9
   ·obtain rfl:k=(d :: t).length:=by omega
    rw[aiy] at hall
    have e:(d :: t).all eH=true:=anu.2 hall
    refine ai (by decide) ?_
    refine ei (bG.unroll 11) ?_
    refine ai (ai (by decide) (by decide)) ?_
    refine ai rfl ?_
    refine ei c (ai (ai (by decide) i0) ?_)
    refine ah (p:=c=97) (by exact dH rfl) (fun m97=>?_) (fun m97=>?_)
    ·have e2:dJ c=true:=by rw[m97];rfl
     refine ai (ai (fun _=>trivial) ?_) trivial
     show au _ (bP (resE (c :: d :: t)))
     rw[hR,e,e2,aj4,anf]
     exact rfl
    refine ai (ai (by decide) (by decide)) ?_
    refine ai rfl ?_
    refine ei c (ai (ai (by decide) i0) ?_)
    refine ah (p:=c=98) (by exact dH rfl) (fun m98=>?_) (fun m98=>?_)
    ·have e2:dJ c=true:=by rw[m98];rfl
     refine ai (ai (fun _=>trivial) ?_) trivial
     show au _ (bP (resE (c :: d :: t)))
     rw[hR,e,e2,aj4,anf]
     exact rfl
    refine ai (ai (by decide) (by decide)) ?_
    refine ai rfl ?_
    refine ei c (ai (ai (by decide) i0) ?_)
    refine ah (p:=c=99) (by exact dH rfl) (fun m99=>?_) (fun m99=>?_)
    ·have e2:dJ c=true:=by rw[m99];rfl
     refine ai (ai (fun _=>trivial) ?_) trivial
     show au _ (bP (resE (c :: d :: t)))
     rw[hR,e,e2,aj4,anf]
     exact rfl
    refine ai (ai (by decide) (by decide)) ?_
    refine ai rfl ?_
    refine ei c (ai (ai (by decide) i0) ?_)
    refine ah (p:=c=100) (by exact dH rfl) (fun m100=>?_) (fun m100=>?_)
    ·have e2:dJ c=true:=by rw[m100];rfl
     refine ai (ai (fun _=>trivial) ?_) trivial
     show au _ (bP (resE (c :: d :: t)))
     rw[hR,e,e2,aj4,anf]
     exact rfl
    refine ai (ai (by decide) (by decide)) ?_
    refine ai rfl ?_
    refine ei c (ai (ai (by decide) i0) ?_)
    refine ah (p:=c=101) (by exact dH rfl) (fun m101=>?_) (fun m101=>?_)
    ·have e2:dJ c=true:=by rw[m101];rfl
     refine ai (ai (fun _=>trivial) ?_) trivial
     show au _ (bP (resE (c :: d :: t)))
     rw[hR,e,e2,aj4,anf]
     exact rfl
    refine ai (ai (by decide) (by decide)) ?_
    refine ai rfl ?_
    refine ei c (ai (ai (by decide) i0) ?_)
    refine ah (p:=c=102) (by exact dH rfl) (fun m102=>?_) (fun m102=>?_)
    ·have e2:dJ c=true:=by rw[m102];rfl
     refine ai (ai (fun _=>trivial) ?_) trivial
     show au _ (bP (resE (c :: d :: t)))
     rw[hR,e,e2,aj4,anf]
     exact rfl
    refine ai (ai (by decide) (by decide)) ?_
    refine ai rfl ?_
    refine ei c (ai (ai (by decide) i0) ?_)
    refine ah (p:=c=116) (by exact dH rfl) (fun m116=>?_) (fun m116=>?_)
    ·have e2:dJ c=true:=by rw[m116];rfl
     refine ai (ai (fun _=>trivial) ?_) trivial
     show au _ (bP (resE (c :: d :: t)))
     rw[hR,e,e2,aj4,anf]
     exact rfl
    refine ai (ai (by decide) (by decide)) ?_
    refine ai rfl ?_
    refine ei c (ai (ai (by decide) i0) ?_)
    refine ah (p:=c=120) (by exact dH rfl) (fun m120=>?_) (fun m120=>?_)
    ·have e2:dJ c=true:=by rw[m120];rfl
     refine ai (ai (fun _=>trivial) ?_) trivial
     show au _ (bP (resE (c :: d :: t)))
     rw[hR,e,e2,aj4,anf]
     exact rfl
    refine ai (ai (by decide) (by decide)) ?_
    refine ai rfl ?_
    refine ei c (ai (ai (by decide) i0) ?_)
    refine ah (p:=c=121) (by exact dH rfl) (fun m121=>?_) (fun m121=>?_)
    ·have e2:dJ c=true:=by rw[m121];rfl
     refine ai (ai (fun _=>trivial) ?_) trivial
     show au _ (bP (resE (c :: d :: t)))
     rw[hR,e,e2,aj4,anf]
     exact rfl
    refine ai (ai (by decide) (by decide)) ?_
    refine ai rfl ?_
    refine ei c (ai (ai (by decide) i0) ?_)
    refine ah (p:=c=122) (by exact dH rfl) (fun m122=>?_) (fun m122=>?_)
    ·have e2:dJ c=true:=by rw[m122];rfl
     refine ai (ai (fun _=>trivial) ?_) trivial
     show au _ (bP (resE (c :: d :: t)))
     rw[hR,e,e2,aj4,anf]
     exact rfl
    have e2:dJ c=false:=by unfold dJ;simp[m97,m98,m99,m100,m101,m102,m116,m120,m121,m122]
    refine ai (ai (fun _=>trivial) ?_) trivial
    show au _ (bP (resE (c :: d :: t)))
    rw[hR,e2,aqd,ap0,hN]
    exact rfl
 ·have hN:(l8 c&&((d :: t)==[112]||(d :: t)==[109]))=false:=by
   cases t with
   | nil=>exact absurd rfl h2
   | cons y t=>simp
  refine ei (bG.inv { X:=Nat,up:=fun k=>[(3,.s (iA (k+1:Nat)))],uo:=fun k=>[],inv:=fun k=>k≤(d :: t).length∧(∀x∈(d :: t).take k,eH x=true),meas:=fun k=>(d :: t).length-k,x0:=0 }) ?_
  refine ai (ai (ai (by exact (a4 (ai rfl rfl))) (ai (by exact (ai (ai (fun _=>rfl) (iE (by simp only[zz,reduceCtorEq];rfl))) rfl)) (by exact trivial))) rfl) (ai (ai (ac7 _) ?_) ?_)
  ·exact fun y hy=>absurd hy (by simp)
  intro (k:Nat) ⟨hk,hall⟩
  refine ah (p:=k<(d :: t).length) (by exact ak (by rw[hz];simp only[aio];omega)) (fun h8=>?_) (fun h8=>?_)
  ·refine ei ((d :: t).getD k 0) (ai (ai (abr _) (kS (s:=c :: d :: t) (k:=k+1) (by simp at h8 ⊢;omega))) ?_)
   refine ei _ (ai (tV) (ei ((d :: t).getD k 0) (ei [] (ai (a4 (ai (fun _=>Or.inl rfl) (ai nof (Or.inl rfl)))) (ai (by exact rfl) (ai trivial (ai (trivial) ?_)))))))
   refine aZ (b:=!eH ((d :: t).getD k 0)) rfl (fun h9=>?_) (fun h9=>?_)
   ·have e:(d :: t).all eH=false:=by
     rw[arT]
     exact ⟨_,abv (bY 0 h8),by simpa using h9⟩
    refine ai (ai (fun _=>trivial) ?_) trivial
    show au _ (bP (resE (c :: d :: t)))
    rw[hR,e,ara,ap0,hN]
    exact rfl
   refine ei (k+1) (ai (ai rfl rfl) (ai (ai (ai rfl (ai (ai rfl rfl) (ai (ai rfl rfl) (ai (ai (ai (fun _=>rfl) (aM (by omega))) rfl) trivial)))) rfl) (ai (ai (iL (by omega)) ?_) (iM (by omega)))))
   intro y hy
   rw[aX 0 h8] at hy
   rcases akI.1 hy with hy | hy
   ·exact hall y hy
   ·simp only[akz] at hy;subst hy;simpa using h9
  ·obtain rfl:k=(d :: t).length:=by omega
   rw[aiy] at hall
   have e:(d :: t).all eH=true:=anu.2 hall
   refine ai (by decide) ?_
   refine ei (bG.unroll 11) ?_
   refine ai (ai (by decide) (by decide)) ?_
   refine ai rfl ?_
   refine ei c (ai (ai (by decide) i0) ?_)
   refine ah (p:=c=97) (by exact dH rfl) (fun m97=>?_) (fun m97=>?_)
   ·have e2:dJ c=true:=by rw[m97];rfl
    refine ai (ai (fun _=>trivial) ?_) trivial
    show au _ (bP (resE (c :: d :: t)))
    rw[hR,e,e2,aj4,anf]
    exact rfl
   refine ai (ai (by decide) (by decide)) ?_
   refine ai rfl ?_
   refine ei c (ai (ai (by decide) i0) ?_)
   refine ah (p:=c=98) (by exact dH rfl) (fun m98=>?_) (fun m98=>?_)
   ·have e2:dJ c=true:=by rw[m98];rfl
    refine ai (ai (fun _=>trivial) ?_) trivial
    show au _ (bP (resE (c :: d :: t)))
    rw[hR,e,e2,aj4,anf]
    exact rfl
   refine ai (ai (by decide) (by decide)) ?_
   refine ai rfl ?_
   refine ei c (ai (ai (by decide) i0) ?_)
   refine ah (p:=c=99) (by exact dH rfl) (fun m99=>?_) (fun m99=>?_)
   ·have e2:dJ c=true:=by rw[m99];rfl
    refine ai (ai (fun _=>trivial) ?_) trivial
    show au _ (bP (resE (c :: d :: t)))
    rw[hR,e,e2,aj4,anf]
    exact rfl
   refine ai (ai (by decide) (by decide)) ?_
   refine ai rfl ?_
   refine ei c (ai (ai (by decide) i0) ?_)
   refine ah (p:=c=100) (by exact dH rfl) (fun m100=>?_) (fun m100=>?_)
   ·have e2:dJ c=true:=by rw[m100];rfl
    refine ai (ai (fun _=>trivial) ?_) trivial
    show au _ (bP (resE (c :: d :: t)))
    rw[hR,e,e2,aj4,anf]
    exact rfl
   refine ai (ai (by decide) (by decide)) ?_
   refine ai rfl ?_
   refine ei c (ai (ai (by decide) i0) ?_)
   refine ah (p:=c=101) (by exact dH rfl) (fun m101=>?_) (fun m101=>?_)
   ·have e2:dJ c=true:=by rw[m101];rfl
    refine ai (ai (fun _=>trivial) ?_) trivial
    show au _ (bP (resE (c :: d :: t)))
    rw[hR,e,e2,aj4,anf]
    exact rfl
   refine ai (ai (by decide) (by decide)) ?_
   refine ai rfl ?_
   refine ei c (ai (ai (by decide) i0) ?_)
   refine ah (p:=c=102) (by exact dH rfl) (fun m102=>?_) (fun m102=>?_)
   ·have e2:dJ c=true:=by rw[m102];rfl
    refine ai (ai (fun _=>trivial) ?_) trivial
    show au _ (bP (resE (c :: d :: t)))
    rw[hR,e,e2,aj4,anf]
    exact rfl
   refine ai (ai (by decide) (by decide)) ?_
   refine ai rfl ?_
   refine ei c (ai (ai (by decide) i0) ?_)
   refine ah (p:=c=116) (by exact dH rfl) (fun m116=>?_) (fun m116=>?_)
   ·have e2:dJ c=true:=by rw[m116];rfl
    refine ai (ai (fun _=>trivial) ?_) trivial
    show au _ (bP (resE (c :: d :: t)))
    rw[hR,e,e2,aj4,anf]
    exact rfl
   refine ai (ai (by decide) (by decide)) ?_
   refine ai rfl ?_
   refine ei c (ai (ai (by decide) i0) ?_)
   refine ah (p:=c=120) (by exact dH rfl) (fun m120=>?_) (fun m120=>?_)
   ·have e2:dJ c=true:=by rw[m120];rfl
    refine ai (ai (fun _=>trivial) ?_) trivial
    show au _ (bP (resE (c :: d :: t)))
    rw[hR,e,e2,aj4,anf]
    exact rfl
   refine ai (ai (by decide) (by decide)) ?_
   refine ai rfl ?_
   refine ei c (ai (ai (by decide) i0) ?_)
   refine ah (p:=c=121) (by exact dH rfl) (fun m121=>?_) (fun m121=>?_)
   ·have e2:dJ c=true:=by rw[m121];rfl
    refine ai (ai (fun _=>trivial) ?_) trivial
    show au _ (bP (resE (c :: d :: t)))
    rw[hR,e,e2,aj4,anf]
    exact rfl
   refine ai (ai (by decide) (by decide)) ?_
   refine ai rfl ?_
   refine ei c (ai (ai (by decide) i0) ?_)
   refine ah (p:=c=122) (by exact dH rfl) (fun m122=>?_) (fun m122=>?_)
   ·have e2:dJ c=true:=by rw[m122];rfl
    refine ai (ai (fun _=>trivial) ?_) trivial
    show au _ (bP (resE (c :: d :: t)))
    rw[hR,e,e2,aj4,anf]
    exact rfl
   have e2:dJ c=false:=by unfold dJ;simp[m97,m98,m99,m100,m101,m102,m116,m120,m121,m122]
   refine ai (ai (fun _=>trivial) ?_) trivial
   show au _ (bP (resE (c :: d :: t)))
   rw[hR,e2,aqd,ap0,hN]
   exact rfl
def vE (l:List UInt8) (k:Nat):PV:=bP (l.any fun y=>y.toNat==k)
theorem adn:∀(l:List Value) (k:Nat),mq (vals l) k=.val (l.getD k undef)
 | [],k=>rfl
 | v :: l,0=>rfl
 | v :: l,k+1=>by
  show mq (vals l) k=_
  rw[adn l k];rfl
theorem anS (n:Nat) (v:Value) {k:Nat} (h:k<n):(List.replicate n v).getD k undef=v:=by
 rw[abo,asA,if_pos h];rfl
theorem ak5 {l:List UInt8} {c:UInt8} (k:Nat):qE (vE l) c.toNat (bP true) k=vE (l++[c]) k:=by
 unfold qE vE
 rw[List.any_append]
 by_cases h:k=c.toNat
 ·rw[if_pos h];subst h;simp
 ·rw[if_neg h]
  have:(c.toNat==k)=false:=by simpa using fun e=>h e.symm
  simp[this]
def aoT:Spec:=cu (fun l:List UInt8=>[sA l]) (fun l=>l.length≤1000∧∀y∈l,y.toNat<128) (fun l=>.tup [.arr 256 (vE l),bP true])
theorem ams:aL Tryz.prog 232 aoT:=by
 refine bg (Tb:=tab) mixed ay Tryz.func232 rfl rfl ?_
 rintro (l:List UInt8) hpre
 refine ai (ai rfl (ai rfl rfl)) ?_
 obtain ⟨hl,ha⟩:=hpre
 have hl:l.length≤1000:=hl
 have hz:=aV l
 refine ei (bG.inv { X:=Nat,up:=fun k=>[(4,.s (iA k))],uo:=fun k=>[⟨0,287,[.ob (.arr 287 256 (vE (l.take k)))]⟩],inv:=fun k=>k≤l.length∧(True),meas:=fun k=>l.length-k,x0:=0 }) ?_
 refine ai (ai (ai (by exact (a4 (ai rfl rfl))) (ai ?_ ?_)) rfl) (ai (ai (ac7 _) ?_) ?_)
 ·exact (ai (ai (fun _=>rfl) (iE (by simp only[zz,reduceCtorEq];rfl))) rfl)
 ·refine (ai (ai rfl (ai rfl ?_)) trivial)
  intro k hk
  show mq (vals (List.replicate 256 (.bool false))) k=_
  rw[adn,anS 256 _ hk];rfl
 ·trivial
 intro (k:Nat) ⟨hk,_⟩
 refine ah (p:=k<l.length) (by exact ak (by rw[hz];omega)) (fun h1=>?_) (fun h1=>?_)
 ·refine ei (l.getD k 0) (ai (ai (abr _) (kS h1)) ?_)
  have hc:=ha _ (abv (bY 0 h1))
  refine ah (p:=128≤(l.getD k 0).toNat) (by exact bX (by omega)) (fun h2=>?_) (fun h2=>?_)
  ·omega
  refine ai (ai (abr _) (by show (((l.getD k 0).toNat:Nat):Int)<256;omega)) ?_
  refine ai (by show 0+(((l.getD k 0).toNat:Nat):Int).toNat*1<256;rw[aq7];omega) ?_
  refine ei (k+1) (ai (ai rfl rfl) (ai (ai (ai rfl (ai (ai rfl rfl) (ai (ai rfl rfl) (ai (ai (ai (fun _=>rfl) (aM (by omega))) rfl) (ai (ai rfl (ai rfl ?_)) trivial))))) rfl) (ai (ai (iL (by omega)) trivial) (iM (by omega)))))
  intro j hj
  show qE (vE (l.take k)) (0+(((l.getD k 0).toNat:Nat):Int).toNat*1) (bP true) j=_
  rw[aq7,apT,aku,ak5,aX 0 h1]
 ·obtain rfl:k=l.length:=by omega
  rw[aiy]
  refine ai (ai (fun _=>(by exact (ai (fun _ _=>rfl) trivial))) ?_) trivial
  exact (ai (ai rfl (fun _ _=>rfl)) rfl)
def fK (l:List UInt8) (c:UInt8):Bool:=l.any fun y=>y.toNat==c.toNat
def aqS:Spec:={ A:=List UInt8×UInt8,args:=fun a=>[.own 0 0,cA a.2],objs:=fun a=>[.arr 287 256 (vE a.1)],pre:=fun _=>True,res:=fun a=>bP (fK a.1 a.2),objs':=fun _=>[],fresh:=true,ro:=1 }
theorem aik:aL Tryz.prog 241 aqS:=by
 refine bg (Tb:=tab) mixed ay Tryz.func241 rfl rfl ?_
 rintro (a:List UInt8×UInt8) hpre
 refine ai (ai rfl (ai rfl rfl)) ?_
 have hc:a.2.toNat<256:=a.2.toNat_lt
 have e0:0+((a.2.toNat:Nat):Int).toNat*1=a.2.toNat:=by simp
 refine ai (ai (abr _) (by show ((a.2.toNat:Nat):Int)<256;omega)) ?_
 refine ai (by show 0+((a.2.toNat:Nat):Int).toNat*1<256;rw[e0];exact hc) ?_
 refine ai (ai (fun _=>trivial) ?_) trivial
 show (a.1.any fun y=>y.toNat==0+((a.2.toNat:Nat):Int).toNat*1)=_
 rw[e0];rfl
def su (p:UInt8→Bool) (s:List UInt8):Nat→Nat
 | 0=>0
 | k+1=>if p (s.getD k 0) then su p s k else k+1
def u7 (p:UInt8→Bool) (s:List UInt8):List UInt8:=s.take (su p s s.length)
theorem ag7 (s:List UInt8) (k:Nat):(strOf s).extract 0 k=strOf (s.take k):=by
 apply ByteArray.ext
 simp[strOf]
theorem agm (s:List UInt8) (k:Nat):(strOf s).extract k (strOf s).size=strOf (s.drop k):=by
 apply ByteArray.ext
 have:(strOf s).size=s.length:=aV s
 rw[this]
 simp[strOf]
 rw[asq (by simp)]
def apZ (g:List UInt8→List UInt8→List UInt8):Spec:={ A:=List UInt8×List UInt8,args:=fun a=>[sA a.2,.own 0 0],objs:=fun a=>[.arr 287 256 (vE a.1)],pre:=fun a=>a.2.length≤1000000,res:=fun a=>sP (g a.1 a.2),objs':=fun _=>[],fresh:=true,ro:=1 }
theorem alF:aL Tryz.prog 234 (apZ fun l s=>u7 (fK l) s):=by
 refine bg (Tb:=tab) mixed ay Tryz.func234 rfl rfl ?_
 rintro (a:List UInt8×List UInt8) hpre
 refine ai (ai rfl (ai rfl rfl)) ?_
 have hl:a.2.length≤1000000:=hpre
 refine ei (bG.inv { X:=Nat,up:=fun k=>[(0,.s (sA (a.2.take k)))],uo:=fun _=>[],inv:=fun k=>k≤a.2.length∧su (fK a.1) a.2 a.2.length=su (fK a.1) a.2 k,meas:=fun k=>k,x0:=a.2.length }) ?_
 refine ai (ai (ai (by exact (a4 (ai rfl rfl))) (ai ?_ ?_)) ?_) (ai ?_ ?_)
 ·refine (ai (ai nof ?_) rfl)
  show strOf a.2=strOf (a.2.take a.2.length)
  rw[aiy]
 ·exact trivial
 ·rfl
 ·exact ⟨aic _,rfl⟩
 intro (k:Nat) ⟨hk,hinv⟩
 have htl:(a.2.take k).length=k:=by rw[ala];omega
 have hz:(strOf (a.2.take k)).size=k:=by rw[aV,htl]
 refine ah (p:=0<k) (by exact ak (by show (0:Int)<(((strOf (a.2.take k)).size:Nat):Int)↔_;rw[hz];omega)) (fun h1=>?_) (fun h1=>?_)
 ·obtain ⟨k,rfl⟩:∃j,k=j+1:=⟨k-1,by omega⟩
  have hw:IntKind.i64.wrap ((((strOf (a.2.take (k+1))).size:Nat):Int)-1)=(k:Int):=by rw[hz,iQ (by omega) (by omega)];omega
  have hg:(a.2.take (k+1)).getD k 0=a.2.getD k 0:=by rw[abo,abo,anh,if_pos (by omega)]
  refine ei (a.2.getD k 0) (ai (ai (by rw[hw];exact abr _) (by rw[hw,←hg];exact kS (by omega))) ?_)
  refine ei _ (ai (aik) (ei ((a.1,a.2.getD k 0)) (ei [0] (ai (a4 (ai (fun _=>Or.inl rfl) (ai nof (Or.inl rfl)))) (ai (by exact (ai (ai rfl rfl) rfl)) (ai (by exact (ai rfl (ai rfl (fun _ _=>rfl)))) (ai (trivial) ?_)))))))
  have hT:su (fK a.1) a.2 (k+1)=if fK a.1 (a.2.getD k 0) then su (fK a.1) a.2 k else k+1:=rfl
  refine aZ (b:=!fK a.1 (a.2.getD k 0)) rfl (fun h2=>?_) (fun h2=>?_)
  ·have h2:fK a.1 (a.2.getD k 0)=false:=by simpa using h2
   have e:u7 (fK a.1) a.2=a.2.take (k+1):=by
    unfold u7;rw[hinv,hT,h2];rfl
   refine ai (ai (fun _=>trivial) ?_) trivial
   show au _ (sP (u7 (fK a.1) a.2))
   rw[e]
   exact rfl
  ·have h2:fK a.1 (a.2.getD k 0)=true:=by simpa using h2
   refine ai (ai (by decide) (ai (by rw[hw];exact abr _) (by rw[hw,hz];omega))) ?_
   refine ei (k) (ai (ai rfl rfl) (ai (ai ?_ ?_) (ai ?_ ?_)))
   ·refine (ai rfl (ai (ai rfl rfl) (ai (ai rfl rfl) (ai (ai (ai (fun _=>rfl) ?_) rfl) trivial))))
    show (strOf (a.2.take (k+1))).extract 0 (IntKind.i64.wrap ((((strOf (a.2.take (k+1))).size:Nat):Int)-1)).toNat=strOf (a.2.take k)
    rw[hw,aq7,ag7,asO,asC (by omega)]
   ·rfl
   ·exact ⟨by omega,by rw[hinv,hT,h2];rfl⟩
   ·show k<k+1;omega
 ·obtain rfl:k=0:=by omega
  have e:u7 (fK a.1) a.2=a.2.take 0:=by
   unfold u7;rw[hinv];rfl
  refine ai (ai (fun _=>trivial) ?_) trivial
  show au _ (sP (u7 (fK a.1) a.2))
  rw[e]
  exact rfl
theorem al1:aL Tryz.prog 233 (apZ fun l s=>s.dropWhile (fK l)):=by
 refine bg (Tb:=tab) mixed ay Tryz.func233 rfl rfl ?_
 rintro (a:List UInt8×List UInt8) hpre
 refine ai (ai rfl (ai rfl rfl)) ?_
 have hl:a.2.length≤1000000:=hpre
 refine ei (bG.inv { X:=Nat,up:=fun k=>[(0,.s (sA (a.2.drop k)))],uo:=fun _=>[],inv:=fun k=>k≤a.2.length∧a.2.dropWhile (fK a.1)=(a.2.drop k).dropWhile (fK a.1),meas:=fun k=>a.2.length-k,x0:=0 }) ?_
 refine ai (ai (ai (by exact (a4 (ai rfl rfl))) (ai ?_ ?_)) ?_) (ai ?_ ?_)
 ·exact (ai (ai nof rfl) rfl)
 ·exact trivial
 ·rfl
 ·exact ⟨ac7 _,rfl⟩
 intro (k:Nat) ⟨hk,hinv⟩
 have htl:(a.2.drop k).length=a.2.length-k:=arb
 have hz:(strOf (a.2.drop k)).size=a.2.length-k:=by rw[aV,htl]
 refine ah (p:=k<a.2.length) (by exact ak (by show (0:Int)<(((strOf (a.2.drop k)).size:Nat):Int)↔_;rw[hz];omega)) (fun h1=>?_) (fun h1=>?_)
 ·have hcons:a.2.drop k=a.2.getD k 0 :: a.2.drop (k+1):=by
   rw[apx h1,abo,abm h1];rfl
  refine ei (a.2.getD k 0) (ai (ai (by decide) (by rw[hcons];rfl)) ?_)
  refine ei _ (ai (aik) (ei ((a.1,a.2.getD k 0)) (ei [0] (ai (a4 (ai (fun _=>Or.inl rfl) (ai nof (Or.inl rfl)))) (ai (by exact (ai (ai rfl rfl) rfl)) (ai (by exact (ai rfl (ai rfl (fun _ _=>rfl)))) (ai (trivial) ?_)))))))
  refine aZ (b:=!fK a.1 (a.2.getD k 0)) rfl (fun h2=>?_) (fun h2=>?_)
  ·have h2:fK a.1 (a.2.getD k 0)=false:=by simpa using h2
   have e:a.2.dropWhile (fK a.1)=a.2.drop k:=by
    rw[hinv,hcons,as4,if_neg (by rw[h2];decide)]
   refine ai (ai (fun _=>trivial) ?_) trivial
   show au _ (sP (a.2.dropWhile (fK a.1)))
   rw[e]
   exact rfl
  ·have h2:fK a.1 (a.2.getD k 0)=true:=by simpa using h2
   refine ai (ai (by decide) (ai (by rw[hz];omega) (Int.le_refl _))) ?_
   refine ei ((k+1)) (ai (ai rfl rfl) (ai (ai ?_ ?_) (ai ?_ ?_)))
   ·refine (ai rfl (ai (ai rfl rfl) (ai (ai rfl rfl) (ai (ai (ai (fun _=>rfl) ?_) rfl) trivial))))
    show (strOf (a.2.drop k)).extract 1 ((((strOf (a.2.drop k)).size:Nat):Int)).toNat=strOf (a.2.drop (k+1))
    rw[aq7,agm,List.drop_drop]
   ·rfl
   ·exact ⟨h1,by rw[hinv,hcons,as4,if_pos h2]⟩
   ·show a.2.length-(k+1)<a.2.length-k;omega
 ·have e:a.2.dropWhile (fK a.1)=a.2.drop k:=by
   rw[hinv,asr (by omega)];rfl
  refine ai (ai (fun _=>trivial) ?_) trivial
  show au _ (sP (a.2.dropWhile (fK a.1)))
  rw[e]
  exact rfl
def lM:List UInt8:=[48,49,50,51,52,53,54,55,56,57]
def afi (s:List UInt8):List UInt8:=(u7 (fK lM) s).dropWhile (fK lM)
theorem aoj:aL Tryz.prog 224 (cu (fun s:List UInt8=>[sA s,sA lM]) (fun s=>s.length≤1000000) (fun s=>sP (afi s))):=by
 refine bg (Tb:=tab) mixed ay Tryz.func224 rfl rfl ?_
 rintro (s:List UInt8) hpre
 refine ai (ai rfl (ai rfl rfl)) ?_
 have hl:s.length≤1000000:=hpre
 refine ah (p:=s=[]) (by show (s==[])=true↔_;exact beq_iff_eq) (fun h1=>?_) (fun h1=>?_)
 ·subst h1
  refine ai (ai (fun _=>trivial) ?_) trivial
  exact rfl
 refine ei _ (ai (ams) (ei (lM) (ei [] (ai (a4 (ai (fun _=>Or.inl rfl) (ai nof (Or.inl rfl)))) (ai (by exact rfl) (ai trivial (ai (⟨by show lM.length≤1000;decide,by decide⟩) ?_)))))))
 refine ei _ (ai (alF) (ei ((lM,s)) (ei [0] (ai (a4 (ai (fun _=>Or.inl rfl) (ai nof (Or.inl rfl)))) (ai (by exact (ai rfl (ai rfl rfl))) (ai (by exact (ai rfl (ai rfl (fun _ _=>rfl)))) (ai (hl) ?_)))))))
 refine ei _ (ai (al1) (ei ((lM,u7 (fK lM) s)) (ei [0] (ai (a4 (ai (fun _=>Or.inl rfl) (ai nof (Or.inl rfl)))) (ai (by exact (ai rfl (ai rfl rfl))) (ai (by exact (ai rfl (ai rfl (fun _ _=>rfl)))) (ai ((by show (u7 (fK lM) s).length≤1000000;unfold u7;rw[ala];omega)) ?_)))))))
 refine ai (ai (fun _=>trivial) ?_) trivial
 exact rfl
theorem am5 (c:UInt8):fK lM c=eH c:=by
 rw[arU]
 unfold fK lM eH
 simp only[ata,List.any_nil,as9,aqo,ahX,beq_iff_eq,decide_eq_true_eq]
 have h48:(48:UInt8).toNat=48:=rfl
 have h49:(49:UInt8).toNat=49:=rfl
 have h50:(50:UInt8).toNat=50:=rfl
 have h51:(51:UInt8).toNat=51:=rfl
 have h52:(52:UInt8).toNat=52:=rfl
 have h53:(53:UInt8).toNat=53:=rfl
 have h54:(54:UInt8).toNat=54:=rfl
 have h55:(55:UInt8).toNat=55:=rfl
 have h56:(56:UInt8).toNat=56:=rfl
 have h57:(57:UInt8).toNat=57:=rfl
 omega
theorem aij {p:UInt8→Bool} {s:List UInt8}:∀{k:Nat},(∀j,j<k→p (s.getD j 0)=true)→su p s k=0
 | 0,_=>rfl
 | k+1,h=>by rw[su,if_pos (h k (by omega))];exact aij fun j hj=>h j (by omega)
theorem ahR {p:UInt8→Bool} {s:List UInt8}:∀{k:Nat},su p s k≠0→∃j,su p s k=j+1∧p (s.getD j 0)=false∧j<k
 | 0,h=>absurd rfl h
 | k+1,h=>by
  by_cases hp:p (s.getD k 0)=true
  ·rw[su,if_pos hp] at h ⊢
   obtain ⟨j,h1,h2,h3⟩:=ahR h
   exact ⟨j,h1,h2,by omega⟩
  ·rw[su,if_neg hp]
   exact ⟨k,rfl,by simpa using hp,by omega⟩
theorem aeY {p:UInt8→Bool}:∀{l:List UInt8},l.dropWhile p=[]↔∀x∈l,p x=true
 | []=>by simp
 | y :: l=>by
  rw[as4]
  by_cases h:p y=true
  ·rw[if_pos h,aeY];simp[h]
  ·rw[if_neg h];simp[h]
theorem ak7 (s:List UInt8):(afi s==[])=s.all eH:=by
 have hset:fK lM=eH:=funext am5
 unfold afi
 rw[hset,arU,beq_iff_eq,aeY,anu]
 constructor
 ·intro h
  by_cases h0:su eH s s.length=0
  ·intro x hx
   refine Classical.byContradiction fun hn=>?_
   obtain ⟨k,hk,rfl⟩:=aqc hx
   have:∀m,k<m→su eH s m≠0:=by
    intro m hm
    induction m with
    | zero=>omega
    | succ m ih=>
     rw[su]
     by_cases e:k=m
     ·subst e
      rw[if_neg (by rw[abo,abm hk];exact hn)]
      omega
     ·split
      ·exact ih (by omega)
      ·omega
   exact this _ hk h0
  ·obtain ⟨j,h1,h2,h3⟩:=ahR h0
   have:s.getD j 0∈u7 eH s:=by
    unfold u7
    rw[h1,aX 0 h3];simp
   have:=h _ this
   rw[h2] at this;cases this
 ·intro h x hx
  have:su eH s s.length=0:=aij fun j hj=>h _ (abv (bY 0 hj))
  unfold u7 at hx
  rw[this] at hx;simp at hx
theorem akF:aL Tryz.prog 209 (cu (fun s:List UInt8=>[sA s]) (fun s=>s.length≤1000000) (fun s=>bP (!s.isEmpty&&s.all eH))):=by
 refine bg (Tb:=tab) mixed ay Tryz.func209 rfl rfl ?_
 rintro (s:List UInt8) hpre
 refine ai (ai rfl (ai rfl rfl)) ?_
 have hl:s.length≤1000000:=hpre
 refine bH (p:=s=[]) (by show (s != [])=true↔_;exact bne_iff_ne) (fun h1=>?_) (fun h1=>?_)
 ·refine ei _ (ai (aoj) (ei (s) (ei [] (ai (a4 (ai (fun _=>Or.inl rfl) (ai nof (Or.inl rfl)))) (ai (by exact (ai rfl rfl)) (ai trivial (ai (hl) ?_)))))))
  have h2:s.isEmpty=false:=by cases s with | nil=>exact absurd rfl h1 | cons x l=>rfl
  refine ai (ai (fun _=>trivial) ?_) trivial
  show au _ (bP (!s.isEmpty&&s.all eH))
  rw[show (!s.isEmpty&&s.all eH)=(afi s==[]) by rw[h2,ak7];rfl]
  exact rfl
 ·refine ai (ai (fun _=>trivial) ?_) trivial
  show au _ (bP (!s.isEmpty&&s.all eH))
  rw[show (!s.isEmpty&&s.all eH)=false by rw[h1];rfl]
  exact rfl
theorem ah9 (c:UInt8):(([97,98,99,100,101,102]:List UInt8).any fun y=>c==y)=l8 c:=by
 rw[arU]
 unfold l8
 have h97:(97:UInt8).toNat=97:=rfl
 have h98:(98:UInt8).toNat=98:=rfl
 have h99:(99:UInt8).toNat=99:=rfl
 have h100:(100:UInt8).toNat=100:=rfl
 have h101:(101:UInt8).toNat=101:=rfl
 have h102:(102:UInt8).toNat=102:=rfl
 simp only[ata,List.any_nil,as9,aqo,ahX,beq_iff_eq,decide_eq_true_eq,←UInt8.toNat_inj]
 omega
theorem aog:aL Tryz.prog 177 (cu (fun s:List UInt8=>[sA s]) (fun s=>s.length≤1000000) (fun s=>bP (resE s))):=by
 refine bg (Tb:=tab) mixed ay Tryz.func177 rfl rfl ?_
 rintro (s:List UInt8) hpre
 refine ai (ai rfl (ai rfl rfl)) ?_
 have hl:s.length≤1000000:=hpre
 refine ah (p:=s=[]) (by show (s==[])=true↔_;exact beq_iff_eq) (fun h1=>?_) (fun h1=>?_)
 ·subst h1
  refine ai (ai (fun _=>trivial) ?_) trivial
  exact rfl
 obtain ⟨c,t,rfl⟩:∃c t,s=c :: t:=by
  cases s with
  | nil=>exact absurd rfl h1
  | cons c t=>exact ⟨c,t,rfl⟩
 have hz:(strOf (c :: t)).size=t.length+1:=by rw[aV];rfl
 have e1:(strOf (c :: t)).extract (0:Int).toNat (1:Int).toNat=strOf [c]:=ag7 (c :: t) 1
 have e2:(strOf (c :: t)).extract (1:Int).toNat ((((strOf (c :: t)).size:Nat):Int)).toNat=strOf t:=by rw[aq7];exact agm (c :: t) 1
 have hR:resE (c :: t)=(!t.isEmpty&&((dJ c&&t.all eH)||(l8 c&&(t==[112]||t==[109])))):=rfl
 have b1:(0:Int)≤0∧(0:Int)≤1∧(1:Int)≤(((strOf (c :: t)).size:Nat):Int):=⟨by decide,by decide,by rw[hz];omega⟩
 have b2:(0:Int)≤1∧(1:Int)≤(((strOf (c :: t)).size:Nat):Int)∧(((strOf (c :: t)).size:Nat):Int)≤(((strOf (c :: t)).size:Nat):Int):=⟨by decide,by rw[hz];omega,Int.le_refl _⟩
 have ht:t.length≤1000000:=by simp at hl;omega
 have e3:∀y:UInt8,(((strOf (c :: t)).extract (1:Int).toNat ((((strOf (c :: t)).size:Nat):Int)).toNat).data.toList==[y])=true↔t=[y]:=fun y=>by rw[e2];exact beq_iff_eq
 refine ai b1 ?_
 refine ei _ (ai (adZ) (ei (([97,98,99,100,101,102,116,120,121,122],c)) (ei [] (ai (a4 (ai (fun _=>Or.inl rfl) (ai nof (Or.inl rfl)))) (ai ?_ (ai (by exact trivial) (ai (trivial) ?_)))))))
 ·refine (ai rfl ?_)
  exact e1
 refine ah (p:=dJ c=true) (by exact Iff.rfl) (fun h2=>?_) (fun h2=>?_)
 ·refine ai b2 ?_
  refine ei _ (ai (akF) (ei (t) (ei [] (ai (a4 (ai (fun _=>Or.inl rfl) (ai nof (Or.inl rfl)))) (ai ?_ (ai (by exact trivial) (ai (ht) ?_)))))))
  ·skip
   exact e2
  refine ah (p:=(!t.isEmpty&&t.all eH)=true) (by exact Iff.rfl) (fun h3=>?_) (fun h3=>?_)
  ·refine ai (ai (fun _=>trivial) ?_) trivial
   show au _ (bP (resE (c :: t)))
   rw[show resE (c :: t)=true by rw[hR,h2];simp at h3 ⊢;exact ⟨h3.1,.inl h3.2⟩]
   exact rfl
  ·have hN:resE (c :: t)=(l8 c&&(t==[112]||t==[109])):=by
    rw[hR]
    cases t with
    | nil=>simp
    | cons y t=>
     have h3:¬((y :: t).all eH)=true:=fun e=>h3 (by rw[e];rfl)
     rw[ar2.2 h3];simp
   refine ai b1 ?_
   refine ei _ (ai (adZ) (ei (([97,98,99,100,101,102],c)) (ei [] (ai (a4 (ai (fun _=>Or.inl rfl) (ai nof (Or.inl rfl)))) (ai ?_ (ai (by exact trivial) (ai (trivial) ?_)))))))
   ·refine (ai rfl ?_)
    exact e1
   refine ah (p:=l8 c=true) (by rw[ah9]) (fun h4=>?_) (fun h4=>?_)
   ·refine ai b2 ?_
    refine ah (p:=t=[112]) (by exact e3 112) (fun h5=>?_) (fun h5=>?_)
    ·refine ai (ai (fun _=>trivial) ?_) trivial
     show au _ (bP (resE (c :: t)))
     rw[hN,h4,h5]
     exact rfl
    ·refine ai b2 ?_
     refine ai (ai (fun _=>trivial) ?_) trivial
     show au _ (bP (resE (c :: t)))
     rw[hN,h4,e2]
     skip
     show (t==[109])=(true&&(t==[112]||t==[109]))
     rw[show (t==[112])=false by simpa using h5];rfl
   ·refine ai (ai (fun _=>trivial) ?_) trivial
    show au _ (bP (resE (c :: t)))
    rw[hN,ar2.2 h4,aqd]
    exact rfl
 ·have hN:resE (c :: t)=(l8 c&&(t==[112]||t==[109])):=by
   rw[hR,ar2.2 h2]
   cases t with
   | nil=>simp
   | cons y t=>simp
  refine ai b1 ?_
  refine ei _ (ai (adZ) (ei (([97,98,99,100,101,102],c)) (ei [] (ai (a4 (ai (fun _=>Or.inl rfl) (ai nof (Or.inl rfl)))) (ai ?_ (ai (by exact trivial) (ai (trivial) ?_)))))))
  ·refine (ai rfl ?_)
   exact e1
  refine ah (p:=l8 c=true) (by rw[ah9]) (fun h4=>?_) (fun h4=>?_)
  ·refine ai b2 ?_
   refine ah (p:=t=[112]) (by exact e3 112) (fun h5=>?_) (fun h5=>?_)
   ·refine ai (ai (fun _=>trivial) ?_) trivial
    show au _ (bP (resE (c :: t)))
    rw[hN,h4,h5]
    exact rfl
   ·refine ai b2 ?_
    refine ai (ai (fun _=>trivial) ?_) trivial
    show au _ (bP (resE (c :: t)))
    rw[hN,h4,e2]
    skip
    show (t==[109])=(true&&(t==[112]||t==[109]))
    rw[show (t==[112])=false by simpa using h5];rfl
  ·refine ai (ai (fun _=>trivial) ?_) trivial
   show au _ (bP (resE (c :: t)))
   rw[hN,ar2.2 h4,aqd]
   exact rfl
def eu (s:List UInt8):Int:=if 24<s.length then 17 else if s.isEmpty||!jO (s.getD 0 0)||resE s then 3 else if s.all jl then 0 else 3
theorem anG:aL Tryz.prog 146 (cu (fun s:List UInt8=>[sA s]) (fun s=>True) (fun s=>iP (eu s))):=by
 refine bg (Tb:=tab) mixed ay Tryz.func146 rfl rfl ?_
 rintro (s:List UInt8) hpre
 refine ai (ai rfl (ai rfl rfl)) ?_
 have hz:=aV s
 refine ah (p:=24<s.length) (by exact ak (by rw[hz];omega)) (fun h1=>?_) (fun h1=>?_)
 ·refine ai (ai (fun _=>trivial) ?_) trivial
  show au _ (iP (eu s))
  rw[eu,if_pos h1]
  exact rfl
 have hN:eu s=if s.isEmpty||!jO (s.getD 0 0)||resE s then 3 else if s.all jl then 0 else 3:=by unfold eu;rw[if_neg h1]
 refine ah (p:=s=[]) (by show (s==[])=true↔_;exact beq_iff_eq) (fun h2=>?_) (fun h2=>?_)
 ·refine ai (ai (fun _=>trivial) ?_) trivial
  show au _ (iP (eu s))
  rw[show eu s=3 by rw[hN,h2];rfl]
  exact rfl
 have hp:0<s.length:=asK.2 h2
 have he:s.isEmpty=false:=by cases s with | nil=>exact absurd rfl h2 | cons x l=>rfl
 have i0:(strOf s)[(0:Int).toNat]?=some (s.getD 0 0):=kS hp
 refine ei (s.getD 0 0) (ai (ai (by decide) i0) ?_)
 refine ah (p:=(s.getD 0 0).toNat<97) (ak (by omega)) (fun h3=>?_) (fun h3=>?_)
 ·have hsF:jO (s.getD 0 0)=false:=by unfold jO;rw[decide_eq_false (by omega)];rfl
  refine ai (ai (fun _=>trivial) ?_) trivial
  show au _ (iP (eu s))
  rw[show eu s=3 by rw[hN,he,hsF];simp]
  exact rfl
 refine ei (s.getD 0 0) (ai (ai (by decide) i0) ?_)
 refine ah (p:=122<(s.getD 0 0).toNat) (ak (by omega)) (fun h4=>?_) (fun h4=>?_)
 ·have hsF:jO (s.getD 0 0)=false:=by unfold jO;rw[decide_eq_false (show ¬(s.getD 0 0).toNat≤122 by omega)];simp
  refine ai (ai (fun _=>trivial) ?_) trivial
  show au _ (iP (eu s))
  rw[show eu s=3 by rw[hN,he,hsF];simp]
  exact rfl
 have hs:jO (s.getD 0 0)=true:=by unfold jO;rw[decide_eq_true (by omega),decide_eq_true (by omega)];rfl
 rw[he,hs,Bool.not_true,ap0,ap0] at hN
 refine ei _ (ai (aog) (ei (s) (ei [] (ai (a4 (ai (fun _=>Or.inl rfl) (ai nof (Or.inl rfl)))) (ai (by exact rfl) (ai trivial (ai ((by show s.length≤1000000;omega)) ?_)))))))
 refine aZ (b:=resE s) rfl (fun h5=>?_) (fun h5=>?_)
 ·refine ai (ai (fun _=>trivial) ?_) trivial
  show au _ (iP (eu s))
  rw[hN,if_pos h5]
  exact rfl
 rw[if_neg (by rw[h5];decide)] at hN
 refine ei (bG.inv { X:=Nat,up:=fun k=>[(25,.s (iA k))],uo:=fun k=>[],inv:=fun k=>k≤s.length∧(∀c∈s.take k,jl c=true),meas:=fun k=>s.length-k,x0:=0 }) ?_
 refine ai (ai (ai (by exact (a4 (ai rfl rfl))) (ai (by exact (ai (ai (fun _=>rfl) (iE (by simp only[zz,reduceCtorEq];rfl))) rfl)) (by exact trivial))) rfl) (ai (ai (ac7 _) ?_) ?_)
 ·exact fun y hy=>absurd hy (by simp)
 intro (k:Nat) ⟨hk,hall⟩
 refine ah (p:=k<s.length) (by exact ak (by rw[hz];omega)) (fun h6=>?_) (fun h6=>?_)
 ·refine ei (s.getD k 0) (ai (ai (abr _) (kS h6)) ?_)
  refine ei _ (ai (ajP) (ei (s.getD k 0) (ei [] (ai (a4 (ai (fun _=>Or.inl rfl) (ai nof (Or.inl rfl)))) (ai (by exact rfl) (ai trivial (ai (trivial) ?_)))))))
  refine aZ (b:=!jl (s.getD k 0)) rfl (fun h7=>?_) (fun h7=>?_)
  ·have h8:s.all jl=false:=by
    rw[arT]
    exact ⟨s.getD k 0,abv (bY 0 h6),by simpa using h7⟩
   refine ai (ai (fun _=>trivial) ?_) trivial
   show au _ (iP (eu s))
   rw[hN,if_neg (show ¬s.all jl=true by rw[h8];decide)]
   exact rfl
  refine ei (k+1) (ai (ai rfl rfl) (ai (ai (ai rfl (ai (ai rfl rfl) (ai (ai rfl rfl) (ai (ai (ai (fun _=>rfl) (aM (by omega))) rfl) trivial)))) rfl) (ai (ai (iL (by omega)) ?_) (iM (by omega)))))
  intro y hy
  rw[aX 0 h6] at hy
  rcases akI.1 hy with hy | hy
  ·exact hall y hy
  ·simp only[akz] at hy;subst hy;simpa using h7
 ·obtain rfl:k=s.length:=by omega
  rw[aiy] at hall
  refine ai (ai (fun _=>trivial) ?_) trivial
  show au _ (iP (eu s))
  rw[hN,if_pos (anu.2 hall)]
  exact rfl
theorem alW:aL Tryz.prog 150 (cu (fun s:List UInt8=>[sA s]) (fun s=>True) (fun s=>iP (eu s))):=by
 refine bg (Tb:=tab) mixed ay Tryz.func150 rfl rfl ?_
 rintro (s:List UInt8) hpre
 refine ai (ai rfl (ai rfl rfl)) ?_
 have hz:=aV s
 refine ah (p:=24<s.length) (by exact ak (by rw[hz];omega)) (fun h1=>?_) (fun h1=>?_)
 ·refine ai (ai (fun _=>trivial) ?_) trivial
  show au _ (iP (eu s))
  rw[eu,if_pos h1]
  exact rfl
 have hN:eu s=if s.isEmpty||!jO (s.getD 0 0)||resE s then 3 else if s.all jl then 0 else 3:=by unfold eu;rw[if_neg h1]
 refine ah (p:=s=[]) (by exact bC (by rw[hz];cases s with | nil=>simp | cons x l=>simp;omega)) (fun h2=>?_) (fun h2=>?_)
 ·refine ai (ai (fun _=>trivial) ?_) trivial
  show au _ (iP (eu s))
  rw[show eu s=3 by rw[hN,h2];rfl]
  exact rfl
 have hp:0<s.length:=asK.2 h2
 have he:s.isEmpty=false:=by cases s with | nil=>exact absurd rfl h2 | cons x l=>rfl
 have i0:(strOf s)[(0:Int).toNat]?=some (s.getD 0 0):=kS hp
 refine ei (s.getD 0 0) (ai (ai (by decide) i0) ?_)
 refine ei _ (ai (ahc) (ei (s.getD 0 0) (ei [] (ai (a4 (ai (fun _=>Or.inl rfl) (ai nof (Or.inl rfl)))) (ai (by exact rfl) (ai trivial (ai (trivial) ?_)))))))
 refine aZ (b:=!jO (s.getD 0 0)) rfl (fun h3=>?_) (fun h3=>?_)
 ·have hsF:jO (s.getD 0 0)=false:=by simpa using h3
  refine ai (ai (fun _=>trivial) ?_) trivial
  show au _ (iP (eu s))
  rw[show eu s=3 by rw[hN,he,hsF];simp]
  exact rfl
 have hs:jO (s.getD 0 0)=true:=by simpa using h3
 rw[he,hs,Bool.not_true,ap0,ap0] at hN
 refine ei _ (ai (amN) (ei (s) (ei [] (ai (a4 (ai (fun _=>Or.inl rfl) (ai nof (Or.inl rfl)))) (ai (by exact rfl) (ai trivial (ai ((by show s.length≤1000000;omega)) ?_)))))))
 refine aZ (b:=resE s) rfl (fun h5=>?_) (fun h5=>?_)
 ·refine ai (ai (fun _=>trivial) ?_) trivial
  show au _ (iP (eu s))
  rw[hN,if_pos h5]
  exact rfl
 rw[if_neg (by rw[h5];decide)] at hN
 obtain ⟨c,t,rfl⟩:∃c t,s=c :: t:=by
  cases s with
  | nil=>exact absurd rfl h2
  | cons c t=>exact ⟨c,t,rfl⟩
 have hl2:t.length≤1000000:=by simp at h1;omega
 have hc0:jl c=true:=by
  have hs:jO c=true:=hs
  unfold jl;rw[hs];simp
 refine ei (bG.inv { X:=Nat,up:=fun k=>[(3,.s (iA (k+1:Nat)))],uo:=fun k=>[],inv:=fun k=>k≤t.length∧(∀c∈t.take k,jl c=true),meas:=fun k=>t.length-k,x0:=0 }) ?_
 refine ai (ai (ai (by exact (a4 (ai rfl rfl))) (ai (by exact (ai (ai (fun _=>rfl) (iE (by simp only[zz,reduceCtorEq];rfl))) rfl)) (by exact trivial))) rfl) (ai (ai (ac7 _) ?_) ?_)
 ·exact fun y hy=>absurd hy (by simp)
 intro (k:Nat) ⟨hk,hall⟩
 refine ah (p:=k<t.length) (by exact ak (by rw[hz];simp only[aio];omega)) (fun h6=>?_) (fun h6=>?_)
 ·have i1:(strOf (c :: t))[((k+1:Nat):Int).toNat]?=some (t.getD k 0):=kS (s:=c :: t) (k:=k+1) (by simp;omega)
  refine ei (t.getD k 0) (ai (ai (abr _) i1) ?_)
  refine ei _ (ai (tV) (ei (t.getD k 0) (ei [] (ai (a4 (ai (fun _=>Or.inl rfl) (ai nof (Or.inl rfl)))) (ai (by exact rfl) (ai trivial (ai (trivial) ?_)))))))
  refine aZ (b:=!eH (t.getD k 0)) rfl (fun h7=>?_) (fun h7=>?_)
  ·have hd:eH (t.getD k 0)=false:=by simpa using h7
   refine ei (t.getD k 0) (ai (ai (abr _) i1) ?_)
   refine ei _ (ai (ahc) (ei (t.getD k 0) (ei [] (ai (a4 (ai (fun _=>Or.inl rfl) (ai nof (Or.inl rfl)))) (ai (by exact rfl) (ai trivial (ai (trivial) ?_)))))))
   refine aZ (b:=!jO (t.getD k 0)) rfl (fun h9=>?_) (fun h9=>?_)
   ·have hm:jO (t.getD k 0)=false:=by simpa using h9
    refine ei (t.getD k 0) (ai (ai (abr _) i1) ?_)
    refine ah (p:=65≤(t.getD k 0).toNat) (bX (by omega)) (fun h10=>?_) (fun h10=>?_)
    ·refine ei (t.getD k 0) (ai (ai (abr _) i1) ?_)
     refine bH (p:=(t.getD k 0).toNat≤90) (by (rw[aq6,decide_eq_false_iff_not];omega)) (fun h11=>?_) (fun h11=>?_)
     ·have hcap:uI (t.getD k 0)=false:=by unfold uI;rw[decide_eq_false h11];simp
      refine ei (t.getD k 0) (ai (ai (abr _) i1) ?_)
      refine bH (p:=(t.getD k 0).toNat=95) (by exact bU (by omega)) (fun hu=>?_) (fun hu=>?_)
      ·have h8:(c :: t).all jl=false:=by
        rw[arT]
        exact ⟨t.getD k 0,aps _ (abv (bY 0 h6)),by unfold jl;rw[hd,hm,hcap,decide_eq_false hu];decide⟩
       refine ai (ai (fun _=>trivial) ?_) trivial
       show au _ (iP (eu (c :: t)))
       rw[hN,if_neg (show ¬(c :: t).all jl=true by rw[h8];decide)]
       exact rfl
      ·refine ei (k+1) (ai (ai rfl rfl) (ai (ai (ai rfl (ai (ai rfl rfl) (ai (ai rfl rfl) (ai (ai (ai (fun _=>rfl) (aM (by omega))) rfl) trivial)))) rfl) (ai (ai (iL (by omega)) ?_) (iM (by omega)))))
       intro y hy
       rw[aX 0 h6] at hy
       rcases akI.1 hy with hy | hy
       ·exact hall y hy
       ·simp only[akz] at hy;subst hy;unfold jl;rw[decide_eq_true hu];simp
     ·have hcap:uI (t.getD k 0)=true:=by unfold uI;rw[decide_eq_true h10,decide_eq_true h11];rfl
      refine ei (k+1) (ai (ai rfl rfl) (ai (ai (ai rfl (ai (ai rfl rfl) (ai (ai rfl rfl) (ai (ai (ai (fun _=>rfl) (aM (by omega))) rfl) trivial)))) rfl) (ai (ai (iL (by omega)) ?_) (iM (by omega)))))
      intro y hy
      rw[aX 0 h6] at hy
      rcases akI.1 hy with hy | hy
      ·exact hall y hy
      ·simp only[akz] at hy;subst hy;unfold jl;rw[hcap];simp
    ·have hcap:uI (t.getD k 0)=false:=by unfold uI;rw[decide_eq_false h10];simp
     refine ei (t.getD k 0) (ai (ai (abr _) i1) ?_)
     refine bH (p:=(t.getD k 0).toNat=95) (by exact bU (by omega)) (fun hu=>?_) (fun hu=>?_)
     ·have h8:(c :: t).all jl=false:=by
       rw[arT]
       exact ⟨t.getD k 0,aps _ (abv (bY 0 h6)),by unfold jl;rw[hd,hm,hcap,decide_eq_false hu];decide⟩
      refine ai (ai (fun _=>trivial) ?_) trivial
      show au _ (iP (eu (c :: t)))
      rw[hN,if_neg (show ¬(c :: t).all jl=true by rw[h8];decide)]
      exact rfl
     ·refine ei (k+1) (ai (ai rfl rfl) (ai (ai (ai rfl (ai (ai rfl rfl) (ai (ai rfl rfl) (ai (ai (ai (fun _=>rfl) (aM (by omega))) rfl) trivial)))) rfl) (ai (ai (iL (by omega)) ?_) (iM (by omega)))))
      intro y hy
      rw[aX 0 h6] at hy
      rcases akI.1 hy with hy | hy
      ·exact hall y hy
      ·simp only[akz] at hy;subst hy;unfold jl;rw[decide_eq_true hu];simp
   ·have hm:jO (t.getD k 0)=true:=by simpa using h9
    refine ei (k+1) (ai (ai rfl rfl) (ai (ai (ai rfl (ai (ai rfl rfl) (ai (ai rfl rfl) (ai (ai (ai (fun _=>rfl) (aM (by omega))) rfl) trivial)))) rfl) (ai (ai (iL (by omega)) ?_) (iM (by omega)))))
    intro y hy
    rw[aX 0 h6] at hy
    rcases akI.1 hy with hy | hy
    ·exact hall y hy
    ·simp only[akz] at hy;subst hy;unfold jl;rw[hm];simp
  ·have hd:eH (t.getD k 0)=true:=by simpa using h7
   refine ei (k+1) (ai (ai rfl rfl) (ai (ai (ai rfl (ai (ai rfl rfl) (ai (ai rfl rfl) (ai (ai (ai (fun _=>rfl) (aM (by omega))) rfl) trivial)))) rfl) (ai (ai (iL (by omega)) ?_) (iM (by omega)))))
   intro y hy
   rw[aX 0 h6] at hy
   rcases akI.1 hy with hy | hy
   ·exact hall y hy
   ·simp only[akz] at hy;subst hy;unfold jl;rw[hd];simp
 ·obtain rfl:k=t.length:=by omega
  rw[aiy] at hall
  refine ai (ai (fun _=>trivial) ?_) trivial
  show au _ (iP (eu (c :: t)))
  rw[hN,if_pos (anu.2 (fun x hx=>by rcases akZ.1 hx with rfl | hx;exact hc0;exact hall x hx))]
  exact rfl
def sF (l:List (List UInt8)) (k:Nat):Int:=if ¬eu (l.getD k [])=0 then eu (l.getD k []) else if (l.take k).any (fun y=>l.getD k []==y)=true then 7 else 0
def dZ (l:List (List UInt8)):Int:=if 16<l.length then 5 else dN (sF l) l.length
def aiT:Spec:=cu (fun l:List (List UInt8)=>[nH l]) (fun _=>True) (fun l=>iP (dZ l))
theorem akr:aL Tryz.prog 89 aiT:=by
 refine bg (Tb:=tab) mixed ay Tryz.func89 rfl rfl ?_
 rintro (l:List (List UInt8)) hpre
 refine ai (ai rfl (ai rfl rfl)) ?_
 refine ah (p:=16<l.length) (ak (by omega)) (fun h0=>?_) (fun h0=>?_)
 ·refine ai (ai (fun _=>trivial) ?_) trivial
  show au _ (iP (dZ l))
  rw[dZ,if_pos h0]
  exact rfl
 have hA:dZ l=dN (sF l) l.length:=by unfold dZ;rw[if_neg h0]
 refine ei (bG.inv { X:=Nat,up:=fun k=>[(11,.s (iA k))],uo:=fun k=>[],inv:=fun k=>k≤l.length∧(∀j,j<k→sF l j=0),meas:=fun k=>l.length-k,x0:=0 }) ?_
 refine ai (ai (ai (by exact (a4 (ai rfl rfl))) (ai (by exact (ai (ai (fun _=>rfl) (iE (by simp only[zz,reduceCtorEq];rfl))) rfl)) (by exact trivial))) rfl) (ai (ai (ac7 _) ?_) ?_)
 ·exact fun j hj=>absurd hj (ani _)
 intro (k:Nat) ⟨hk,hall⟩
 refine ah (p:=k<l.length) (ak (by omega)) (fun h1=>?_) (fun h1=>?_)
 ·refine ai (ai (abr _) (iN (n:=l.length) (by omega))) (ai rfl ?_)
  refine ei _ (ai (anG) (ei (l.getD k []) (ei [] (ai (a4 (ai (fun _=>Or.inl rfl) (ai nof (Or.inl rfl)))) (ai (by exact rfl) (ai trivial (ai (trivial) ?_)))))))
  refine bH (p:=eu (l.getD k [])=0) (bU (by omega)) (fun h2=>?_) (fun h2=>?_)
  ·have e:sF l k=eu (l.getD k []):=by unfold sF;rw[if_pos h2]
   refine ai (ai (fun _=>trivial) ?_) trivial
   show au _ (iP (dZ l))
   rw[hA,dG h1 hall (by rw[e];exact h2),e]
   exact rfl
  refine ai (ai (by decide) (ai (abr _) (by show (k:Int)≤(l.length:Int);omega))) (ai (fun _ _=>rfl) ?_)
  have htk:(l.take k).length=k:=by rw[ala];omega
  refine ei _ (ai (ah7) (ei ((l.take k,l.getD k [])) (ei [] (ai (a4 (ai (fun _=>Or.inl rfl) (ai nof (Or.inl rfl)))) (ai ?_ (ai (by exact trivial) (ai ((by show (l.take k).length≤1000000;omega)) ?_)))))))
  ·refine (ai (ai ?_ ?_) rfl)
   ·show ((k:Int).toNat-(0:Int).toNat)=(l.take k).length
    rw[htk];simp
   ·intro j hj
    have hj:j<(k:Int).toNat-(0:Int).toNat:=hj
    show [sP (l.getD ((0:Int).toNat+j) [])]=_
    rw[show (0:Int).toNat+j=j by simp]
    exact ahW hk j (by simpa using hj)
  refine aZ (b:=(l.take k).any (fun y=>l.getD k []==y)) rfl (fun h4=>?_) (fun h4=>?_)
  ·have e:sF l k=7:=by unfold sF;rw[if_neg (fun h=>h h2),if_pos h4]
   refine ai (ai (fun _=>trivial) ?_) trivial
   show au _ (iP (dZ l))
   rw[hA,dG h1 hall (by rw[e];decide),e]
   exact rfl
  refine ei (k+1) (ai (ai rfl rfl) (ai (ai (ai rfl (ai (ai rfl rfl) (ai (ai rfl rfl) (ai (ai (ai (fun _=>rfl) (aM (by omega))) rfl) trivial)))) rfl) (ai (ai (iL (by omega)) ?_) (iM (by omega)))))
  intro j hj
  by_cases hjk:j=k
  ·subst hjk;unfold sF;rw[if_neg (fun h=>h h2),if_neg (by rw[h4];decide)]
  ·exact hall j (by omega)
 ·obtain rfl:k=l.length:=by omega
  refine ai (ai (fun _=>trivial) ?_) trivial
  show au _ (iP (dZ l))
  rw[hA,gK hall]
  exact rfl
theorem agd {α:Type} {p:α→Bool} {l:List α} {k:Nat} {d:α} (h:k<l.length) (hp:p (l.getD k d)=true):l.any p=true:=
 asz.2 ⟨_,abv (bY d h),hp⟩
theorem aiV:aL Tryz.prog 94 aiT:=by
 refine bg (Tb:=tab) mixed ay Tryz.func94 rfl rfl ?_
 rintro (l:List (List UInt8)) hpre
 refine ai (ai rfl (ai rfl rfl)) ?_
 refine ah (p:=16<l.length) (ak (by omega)) (fun h0=>?_) (fun h0=>?_)
 ·refine ai (ai (fun _=>trivial) ?_) trivial
  show au _ (iP (dZ l))
  rw[dZ,if_pos h0]
  exact rfl
 have hA:dZ l=dN (sF l) l.length:=by unfold dZ;rw[if_neg h0]
 refine ei (bG.inv { X:=Nat,up:=fun k=>[(3,.s (iA k))],uo:=fun k=>[],inv:=fun k=>k≤l.length∧(∀j,j<k→sF l j=0),meas:=fun k=>l.length-k,x0:=0 }) ?_
 refine ai (ai (ai (by exact (a4 (ai rfl rfl))) (ai (by exact (ai (ai (fun _=>rfl) (iE (by simp only[zz,reduceCtorEq];rfl))) rfl)) (by exact trivial))) rfl) (ai (ai (ac7 _) ?_) ?_)
 ·exact fun j hj=>absurd hj (ani _)
 intro (k:Nat) ⟨hk,hall⟩
 refine ah (p:=k<l.length) (ak (by omega)) (fun h1=>?_) (fun h1=>?_)
 ·refine ai (ai (abr _) (iN (n:=l.length) (by omega))) (ai rfl ?_)
  refine ei _ (ai (alW) (ei (l.getD k []) (ei [] (ai (a4 (ai (fun _=>Or.inl rfl) (ai nof (Or.inl rfl)))) (ai (by exact rfl) (ai trivial (ai (trivial) ?_)))))))
  refine bH (p:=eu (l.getD k [])=0) (bU (by omega)) (fun h2=>?_) (fun h2=>?_)
  ·have e:sF l k=eu (l.getD k []):=by unfold sF;rw[if_pos h2]
   refine ai (ai (fun _=>trivial) ?_) trivial
   show au _ (iP (dZ l))
   rw[hA,dG h1 hall (by rw[e];exact h2),e]
   exact rfl
  have htk:(l.take k).length=k:=by rw[ala];omega
  refine ei (bG.inv { X:=Nat,up:=fun j=>[(5,.s (iA j))],uo:=fun j=>[],inv:=fun j=>j≤k∧(∀y∈(l.take k).take j,(l.getD k []==y)=false),meas:=fun j=>k-j,x0:=0 }) ?_
  refine ai (ai (ai (by exact (a4 (ai rfl rfl))) (ai (by exact (ai (ai (fun _=>rfl) (iE (by simp only[zz,reduceCtorEq];rfl))) rfl)) (by exact trivial))) rfl) (ai (ai (ac7 _) ?_) ?_)
  ·exact fun y hy=>absurd hy (by simp)
  intro (j:Nat) ⟨hj,hno⟩
  refine ah (p:=j<k) (ak (by omega)) (fun h3=>?_) (fun h3=>?_)
  ·have hjl:j<(l.take k).length:=by omega
   have hg:(l.take k).getD j []=l.getD j []:=by rw[abo,abo,anh,if_pos h3]
   refine ei (.seq [0,1,2,3,4,5,6,7,8]) (ai (by kernel_rfl) ?_)
   refine ai (ai (abr _) (iN (n:=l.length) (by omega))) (ai rfl ?_)
   refine ai (ai (abr _) (iN (n:=l.length) (by omega))) (ai rfl ?_)
   refine ah (p:=l.getD j []=l.getD k []) (by exact beq_iff_eq) (fun h4=>?_) (fun h4=>?_)
   ·have e:sF l k=7:=by unfold sF;rw[if_neg (fun h=>h h2),if_pos (agd hjl (by rw[hg,h4];exact beq_self_eq_true _))]
    refine ai (ai (fun _=>trivial) ?_) trivial
    show au _ (iP (dZ l))
    rw[hA,dG h1 hall (by rw[e];decide),e]
    exact rfl
   refine ei (j+1) (ai (ai rfl rfl) (ai (ai (ai rfl (ai (ai rfl rfl) (ai (ai rfl rfl) (ai (ai (ai (fun _=>rfl) (aM (by omega))) rfl) trivial)))) rfl) (ai (ai (iL (by omega)) ?_) (iM (by omega)))))
   intro y hy
   rw[aX [] hjl] at hy
   rcases akI.1 hy with hy | hy
   ·exact hno y hy
   ·simp only[akz] at hy;subst hy;rw[hg];exact beq_eq_false_iff_ne.2 fun e=>h4 e.symm
  ·obtain rfl:j=k:=by omega
   have hno:∀y∈l.take j,(l.getD j []==y)=false:=fun y hy=>hno y (by rw[asq (by omega)];exact hy)
   refine ei (j+1) (ai (ai rfl rfl) (ai (ai (ai rfl (ai (ai rfl rfl) (ai (ai rfl rfl) (ai (ai (ai (fun _=>rfl) (aM (by omega))) rfl) trivial)))) rfl) (ai (ai (iL (by omega)) ?_) (iM (by omega)))))
   intro i hi
   by_cases hjk:i=j
   ·subst hjk;unfold sF
    rw[if_neg (fun h=>h h2),if_neg]
    rw[asz]
    rintro ⟨y,hy,e⟩
    rw[hno y hy] at e;cases e
   ·exact hall i (by omega)
 ·obtain rfl:k=l.length:=by omega
  refine ai (ai (fun _=>trivial) ?_) trivial
  show au _ (iP (dZ l))
  rw[hA,gK hall]
  exact rfl
def jG (act:Int) (l:List Sk) (k:Nat):Int:=if (l.getD k bO).1<0∨act≤(l.getD k bO).1 then 2 else if 0<k∧(l.getD k bO).1≤(l.getD (k-1) bO).1 then 9 else 0
def fG (act:Int) (s:Stp):Int:=if ¬dN (jG act s.st) s.st.length=0 then dN (jG act s.st) s.st.length else if s.wt<0∨1000000<s.wt then 2 else 0
def anv:Spec:=cu (fun a:bD×Stp=>[kF a.1,stA a.2]) (fun a=>a.2.st.length≤1000000) (fun a=>iP (fG a.1.act a.2))
theorem step_ok:aL Tryz.prog 90 anv:=by
 refine bg (Tb:=tab) mixed ay Tryz.func90 rfl rfl ?_
 rintro (a:bD×Stp) hpre
 refine ai (ai rfl (ai rfl rfl)) ?_
 have hl:a.2.st.length≤1000000:=hpre
 refine ei (bG.inv { X:=Nat,up:=fun k=>[(10,.s (iA k))],uo:=fun k=>[],inv:=fun k=>k≤a.2.st.length∧(∀j,j<k→jG a.1.act a.2.st j=0),meas:=fun k=>a.2.st.length-k,x0:=0 }) ?_
 refine ai (ai (ai (by exact (a4 (ai rfl rfl))) (ai (by exact (ai (ai (fun _=>rfl) (iE (by simp only[zz,reduceCtorEq];rfl))) rfl)) (by exact trivial))) rfl) (ai (ai (ac7 _) ?_) ?_)
 ·exact fun j hj=>absurd hj (ani _)
 intro (k:Nat) ⟨hk,hall⟩
 refine ah (p:=k<a.2.st.length) (ak (by omega)) (fun h1=>?_) (fun h1=>?_)
 ·refine ai (ai (abr _) (iN (n:=a.2.st.length) (by omega))) (ai rfl ?_)
  refine ah (p:=(a.2.st.getD k bO).1<0) (ak Iff.rfl) (fun h2=>?_) (fun h2=>?_)
  ·have e:jG a.1.act a.2.st k=2:=by unfold jG;rw[if_pos (by omega)]
   have e2:dN (jG a.1.act a.2.st) a.2.st.length=2:=(dG h1 hall (by rw[e];decide)).trans e
   refine ai (ai (fun _=>trivial) ?_) trivial
   show au _ (iP (fG a.1.act a.2))
   rw[fG,if_pos (show ¬dN (jG a.1.act a.2.st) a.2.st.length=0 by rw[e2];decide),e2]
   exact rfl
  refine ah (p:=a.1.act≤(a.2.st.getD k bO).1) (bX Iff.rfl) (fun h3=>?_) (fun h3=>?_)
  ·have e:jG a.1.act a.2.st k=2:=by unfold jG;rw[if_pos (by omega)]
   have e2:dN (jG a.1.act a.2.st) a.2.st.length=2:=(dG h1 hall (by rw[e];decide)).trans e
   refine ai (ai (fun _=>trivial) ?_) trivial
   show au _ (iP (fG a.1.act a.2))
   rw[fG,if_pos (show ¬dN (jG a.1.act a.2.st) a.2.st.length=0 by rw[e2];decide),e2]
   exact rfl
  refine ei (.seq [0,1,2,3,4,5,6,7,8,9,10,11,12,13,14]) (ai (by kernel_rfl) ?_)
  refine ah (p:=0<k) (ak (by omega)) (fun h4=>?_) (fun h4=>?_)
  ·have hw:IntKind.i64.wrap ((k:Int)-1)=((k-1:Nat):Int):=ajX h4 (by omega)
   refine ai (ai (by rw[hw];exact abr _) (by rw[hw];show ((k-1:Nat):Int)<(a.2.st.length:Int);omega)) ?_
   refine ai rfl ?_
   refine ah (p:=(a.2.st.getD k bO).1≤(a.2.st.getD (k-1) bO).1) (by exact bX (by rw[hw];exact Iff.rfl)) (fun h5=>?_) (fun h5=>?_)
   ·have e:jG a.1.act a.2.st k=9:=by unfold jG;rw[if_neg (by omega),if_pos ⟨h4,h5⟩]
    have e2:dN (jG a.1.act a.2.st) a.2.st.length=9:=(dG h1 hall (by rw[e];decide)).trans e
    refine ai (ai (fun _=>trivial) ?_) trivial
    show au _ (iP (fG a.1.act a.2))
    rw[fG,if_pos (show ¬dN (jG a.1.act a.2.st) a.2.st.length=0 by rw[e2];decide),e2]
    exact rfl
   ·refine ei (k+1) (ai (ai rfl rfl) (ai (ai (ai rfl (ai (ai rfl rfl) (ai (ai rfl rfl) (ai (ai (ai (fun _=>rfl) (aM (by omega))) rfl) trivial)))) rfl) (ai (ai (iL (by omega)) ?_) (iM (by omega)))))
    intro j hj
    by_cases hjk:j=k
    ·subst hjk;unfold jG;rw[if_neg (by omega),if_neg (fun h=>h5 h.2)]
    ·exact hall j (by omega)
  ·refine ei (k+1) (ai (ai rfl rfl) (ai (ai (ai rfl (ai (ai rfl rfl) (ai (ai rfl rfl) (ai (ai (ai (fun _=>rfl) (aM (by omega))) rfl) trivial)))) rfl) (ai (ai (iL (by omega)) ?_) (iM (by omega)))))
   intro j hj
   by_cases hjk:j=k
   ·subst hjk;unfold jG;rw[if_neg (by omega),if_neg (fun h=>h4 h.1)]
   ·exact hall j (by omega)
 ·obtain rfl:k=a.2.st.length:=by omega
  have e2:dN (jG a.1.act a.2.st) a.2.st.length=0:=gK hall
  have hA:fG a.1.act a.2=if a.2.wt<0∨1000000<a.2.wt then 2 else 0:=by unfold fG;rw[if_neg (fun h=>h e2)]
  refine ah (p:=a.2.wt<0) (ak (by omega)) (fun h6=>?_) (fun h6=>?_)
  ·refine ai (ai (fun _=>trivial) ?_) trivial
   show au _ (iP (fG a.1.act a.2))
   rw[hA,if_pos (.inl h6)]
   exact rfl
  refine ah (p:=1000000<a.2.wt) (ak (by omega)) (fun h7=>?_) (fun h7=>?_)
  ·refine ai (ai (fun _=>trivial) ?_) trivial
   show au _ (iP (fG a.1.act a.2))
   rw[hA,if_pos (.inr h7)]
   exact rfl
  ·refine ai (ai (fun _=>trivial) ?_) trivial
   show au _ (iP (fG a.1.act a.2))
   rw[hA,if_neg (fun h=>h.elim h6 h7)]
   exact rfl
theorem amO:aL Tryz.prog 95 anv:=by
 refine bg (Tb:=tab) mixed ay Tryz.func95 rfl rfl ?_
 rintro (a:bD×Stp) hpre
 refine ai (ai rfl (ai rfl rfl)) ?_
 have hl:a.2.st.length≤1000000:=hpre
 refine ei (bG.inv { X:=Nat,up:=fun k=>[(5,.s (iA k))],uo:=fun k=>[],inv:=fun k=>k≤a.2.st.length∧(∀j,j<k→jG a.1.act a.2.st j=0),meas:=fun k=>a.2.st.length-k,x0:=0 }) ?_
 refine ai (ai (ai (by exact (a4 (ai rfl rfl))) (ai (by exact (ai (ai (fun _=>rfl) (iE (by simp only[zz,reduceCtorEq];rfl))) rfl)) (by exact trivial))) rfl) (ai (ai (ac7 _) ?_) ?_)
 ·exact fun j hj=>absurd hj (ani _)
 intro (k:Nat) ⟨hk,hall⟩
 refine ah (p:=k<a.2.st.length) (ak (by omega)) (fun h1=>?_) (fun h1=>?_)
 ·refine ai (ai (abr _) (iN (n:=a.2.st.length) (by omega))) (ai rfl ?_)
  refine ah (p:=(a.2.st.getD k bO).1<0) (ak Iff.rfl) (fun h2=>?_) (fun h2=>?_)
  ·have e:jG a.1.act a.2.st k=2:=by unfold jG;rw[if_pos (by omega)]
   have e2:dN (jG a.1.act a.2.st) a.2.st.length=2:=(dG h1 hall (by rw[e];decide)).trans e
   refine ai (ai (fun _=>trivial) ?_) trivial
   show au _ (iP (fG a.1.act a.2))
   rw[fG,if_pos (show ¬dN (jG a.1.act a.2.st) a.2.st.length=0 by rw[e2];decide),e2]
   exact rfl
  refine ah (p:=a.1.act≤(a.2.st.getD k bO).1) (bX Iff.rfl) (fun h3=>?_) (fun h3=>?_)
  ·have e:jG a.1.act a.2.st k=2:=by unfold jG;rw[if_pos (by omega)]
   have e2:dN (jG a.1.act a.2.st) a.2.st.length=2:=(dG h1 hall (by rw[e];decide)).trans e
   refine ai (ai (fun _=>trivial) ?_) trivial
   show au _ (iP (fG a.1.act a.2))
   rw[fG,if_pos (show ¬dN (jG a.1.act a.2.st) a.2.st.length=0 by rw[e2];decide),e2]
   exact rfl
  refine ah (p:=0<k) (ak (by omega)) (fun h4=>?_) (fun h4=>?_)
  ·have hw:IntKind.i64.wrap ((k:Int)-1)=((k-1:Nat):Int):=ajX h4 (by omega)
   refine ai (ai (by rw[hw];exact abr _) (by rw[hw];show ((k-1:Nat):Int)<(a.2.st.length:Int);omega)) ?_
   refine ai rfl ?_
   refine ah (p:=(a.2.st.getD k bO).1≤(a.2.st.getD (k-1) bO).1) (by exact bX (by rw[hw];exact Iff.rfl)) (fun h5=>?_) (fun h5=>?_)
   ·have e:jG a.1.act a.2.st k=9:=by unfold jG;rw[if_neg (by omega),if_pos ⟨h4,h5⟩]
    have e2:dN (jG a.1.act a.2.st) a.2.st.length=9:=(dG h1 hall (by rw[e];decide)).trans e
    refine ai (ai (fun _=>trivial) ?_) trivial
    show au _ (iP (fG a.1.act a.2))
    rw[fG,if_pos (show ¬dN (jG a.1.act a.2.st) a.2.st.length=0 by rw[e2];decide),e2]
    exact rfl
   ·refine ei (k+1) (ai (ai rfl rfl) (ai (ai (ai rfl (ai (ai rfl rfl) (ai (ai rfl rfl) (ai (ai (ai (fun _=>rfl) (aM (by omega))) rfl) trivial)))) rfl) (ai (ai (iL (by omega)) ?_) (iM (by omega)))))
    intro j hj
    by_cases hjk:j=k
    ·subst hjk;unfold jG;rw[if_neg (by omega),if_neg (fun h=>h5 h.2)]
    ·exact hall j (by omega)
  ·refine ei (k+1) (ai (ai rfl rfl) (ai (ai (ai rfl (ai (ai rfl rfl) (ai (ai rfl rfl) (ai (ai (ai (fun _=>rfl) (aM (by omega))) rfl) trivial)))) rfl) (ai (ai (iL (by omega)) ?_) (iM (by omega)))))
   intro j hj
   by_cases hjk:j=k
   ·subst hjk;unfold jG;rw[if_neg (by omega),if_neg (fun h=>h4 h.1)]
   ·exact hall j (by omega)
 ·obtain rfl:k=a.2.st.length:=by omega
  have e2:dN (jG a.1.act a.2.st) a.2.st.length=0:=gK hall
  have hA:fG a.1.act a.2=if a.2.wt<0∨1000000<a.2.wt then 2 else 0:=by unfold fG;rw[if_neg (fun h=>h e2)]
  refine ah (p:=a.2.wt<0) (ak (by omega)) (fun h6=>?_) (fun h6=>?_)
  ·refine ai (ai (fun _=>trivial) ?_) trivial
   show au _ (iP (fG a.1.act a.2))
   rw[hA,if_pos (.inl h6)]
   exact rfl
  refine ah (p:=1000000<a.2.wt) (ak (by omega)) (fun h7=>?_) (fun h7=>?_)
  ·refine ai (ai (fun _=>trivial) ?_) trivial
   show au _ (iP (fG a.1.act a.2))
   rw[hA,if_pos (.inr h7)]
   exact rfl
  ·refine ai (ai (fun _=>trivial) ?_) trivial
   show au _ (iP (fG a.1.act a.2))
   rw[hA,if_neg (fun h=>h.elim h6 h7)]
   exact rfl
def nG (n:Nat) (l:List Int) (k:Nat):Int:=if l.getD k 0<0∨(n:Int)≤l.getD k 0 then 2 else if 0<k∧l.getD k 0≤l.getD (k-1) 0 then 9 else 0
def iB (n:Nat) (l:List Int):Int:=if l.length=0 then 13 else dN (nG n l) l.length
def ao6:Spec:=cu (fun a:bD×List Int=>[kF a.1,isA a.2]) (fun a=>a.2.length≤1000000) (fun a=>iP (iB a.1.sts.length a.2))
theorem aeD:aL Tryz.prog 148 ao6:=by
 refine bg (Tb:=tab) mixed ay Tryz.func148 rfl rfl ?_
 rintro (a:bD×List Int) hpre
 refine ai (ai rfl (ai rfl rfl)) ?_
 have hl:a.2.length≤1000000:=hpre
 refine ah (p:=a.2.length=0) (bC (by omega)) (fun h0=>?_) (fun h0=>?_)
 ·refine ai (ai (fun _=>trivial) ?_) trivial
  show au _ (iP (iB a.1.sts.length a.2))
  rw[iB,if_pos h0]
  exact rfl
 have hA:iB a.1.sts.length a.2=dN (nG a.1.sts.length a.2) a.2.length:=by unfold iB;rw[if_neg h0]
 refine ei (bG.inv { X:=Nat,up:=fun k=>[(12,.s (iA k))],uo:=fun k=>[],inv:=fun k=>k≤a.2.length∧(∀j,j<k→nG a.1.sts.length a.2 j=0),meas:=fun k=>a.2.length-k,x0:=0 }) ?_
 refine ai (ai (ai (by exact (a4 (ai rfl rfl))) (ai (by exact (ai (ai (fun _=>rfl) (iE (by simp only[zz,reduceCtorEq];rfl))) rfl)) (by exact trivial))) rfl) (ai (ai (ac7 _) ?_) ?_)
 ·exact fun j hj=>absurd hj (ani _)
 intro (k:Nat) ⟨hk,hall⟩
 refine ah (p:=k<a.2.length) (ak (by omega)) (fun h1=>?_) (fun h1=>?_)
 ·skip
  refine ai (ai (abr _) (iN (n:=a.2.length) (by omega))) (ai rfl ?_)
  refine ah (p:=a.2.getD k 0<0) (ak Iff.rfl) (fun h2=>?_) (fun h2=>?_)
  ·have e:nG a.1.sts.length a.2 k=2:=by unfold nG;rw[if_pos (by omega)]
   refine ai (ai (fun _=>trivial) ?_) trivial
   show au _ (iP (iB a.1.sts.length a.2))
   rw[hA,dG h1 hall (by rw[e];decide),e]
   exact rfl
  skip
  refine ah (p:=(a.1.sts.length:Int)≤a.2.getD k 0) (bX Iff.rfl) (fun h3=>?_) (fun h3=>?_)
  ·have e:nG a.1.sts.length a.2 k=2:=by unfold nG;rw[if_pos (by omega)]
   refine ai (ai (fun _=>trivial) ?_) trivial
   show au _ (iP (iB a.1.sts.length a.2))
   rw[hA,dG h1 hall (by rw[e];decide),e]
   exact rfl
  skip
  refine ah (p:=0<k) (ak (by omega)) (fun h4=>?_) (fun h4=>?_)
  ·have hw:IntKind.i64.wrap ((k:Int)-1)=((k-1:Nat):Int):=ajX h4 (by omega)
   skip
   refine ai (ai (by rw[hw];exact abr _) (by rw[hw];show ((k-1:Nat):Int)<(a.2.length:Int);omega)) ?_
   refine ai rfl ?_
   refine ah (p:=a.2.getD k 0≤a.2.getD (k-1) 0) (by exact bX (by rw[hw];exact Iff.rfl)) (fun h5=>?_) (fun h5=>?_)
   ·have e:nG a.1.sts.length a.2 k=9:=by unfold nG;rw[if_neg (by omega),if_pos ⟨h4,h5⟩]
    refine ai (ai (fun _=>trivial) ?_) trivial
    show au _ (iP (iB a.1.sts.length a.2))
    rw[hA,dG h1 hall (by rw[e];decide),e]
    exact rfl
   ·refine ei (k+1) (ai (ai rfl rfl) (ai (ai (ai rfl (ai (ai rfl rfl) (ai (ai rfl rfl) (ai (ai (ai (fun _=>rfl) (aM (by omega))) rfl) trivial)))) rfl) (ai (ai (iL (by omega)) ?_) (iM (by omega)))))
    intro j hj
    by_cases hjk:j=k
    ·subst hjk;unfold nG;rw[if_neg (by omega),if_neg (fun h=>h5 h.2)]
    ·exact hall j (by omega)
  ·refine ei (k+1) (ai (ai rfl rfl) (ai (ai (ai rfl (ai (ai rfl rfl) (ai (ai rfl rfl) (ai (ai (ai (fun _=>rfl) (aM (by omega))) rfl) trivial)))) rfl) (ai (ai (iL (by omega)) ?_) (iM (by omega)))))
   intro j hj
   by_cases hjk:j=k
   ·subst hjk;unfold nG;rw[if_neg (by omega),if_neg (fun h=>h4 h.1)]
   ·exact hall j (by omega)
 ·obtain rfl:k=a.2.length:=by omega
  refine ai (ai (fun _=>trivial) ?_) trivial
  show au _ (iP (iB a.1.sts.length a.2))
  rw[hA,gK hall]
  exact rfl
theorem agk:aL Tryz.prog 96 ao6:=by
 refine bg (Tb:=tab) mixed ay Tryz.func96 rfl rfl ?_
 rintro (a:bD×List Int) hpre
 refine ai (ai rfl (ai rfl rfl)) ?_
 have hl:a.2.length≤1000000:=hpre
 refine ah (p:=a.2.length=0) (bC (by omega)) (fun h0=>?_) (fun h0=>?_)
 ·refine ai (ai (fun _=>trivial) ?_) trivial
  show au _ (iP (iB a.1.sts.length a.2))
  rw[iB,if_pos h0]
  exact rfl
 have hA:iB a.1.sts.length a.2=dN (nG a.1.sts.length a.2) a.2.length:=by unfold iB;rw[if_neg h0]
 refine ei (bG.inv { X:=Nat,up:=fun k=>[(5,.s (iA k))],uo:=fun k=>[],inv:=fun k=>k≤a.2.length∧(∀j,j<k→nG a.1.sts.length a.2 j=0),meas:=fun k=>a.2.length-k,x0:=0 }) ?_
 refine ai (ai (ai (by exact (a4 (ai rfl rfl))) (ai (by exact (ai (ai (fun _=>rfl) (iE (by simp only[zz,reduceCtorEq];rfl))) rfl)) (by exact trivial))) rfl) (ai (ai (ac7 _) ?_) ?_)
 ·exact fun j hj=>absurd hj (ani _)
 intro (k:Nat) ⟨hk,hall⟩
 refine ah (p:=k<a.2.length) (ak (by omega)) (fun h1=>?_) (fun h1=>?_)
 ·refine ei (.seq [0,1,2,3,4,5,6,7,8,9,10,11,12,13,14]) (ai (by kernel_rfl) ?_)
  refine ai (ai (abr _) (iN (n:=a.2.length) (by omega))) (ai rfl ?_)
  refine ah (p:=a.2.getD k 0<0) (ak Iff.rfl) (fun h2=>?_) (fun h2=>?_)
  ·have e:nG a.1.sts.length a.2 k=2:=by unfold nG;rw[if_pos (by omega)]
   refine ai (ai (fun _=>trivial) ?_) trivial
   show au _ (iP (iB a.1.sts.length a.2))
   rw[hA,dG h1 hall (by rw[e];decide),e]
   exact rfl
  refine ai (ai (abr _) (iN (n:=a.2.length) (by omega))) (ai rfl ?_)
  refine ah (p:=(a.1.sts.length:Int)≤a.2.getD k 0) (bX Iff.rfl) (fun h3=>?_) (fun h3=>?_)
  ·have e:nG a.1.sts.length a.2 k=2:=by unfold nG;rw[if_pos (by omega)]
   refine ai (ai (fun _=>trivial) ?_) trivial
   show au _ (iP (iB a.1.sts.length a.2))
   rw[hA,dG h1 hall (by rw[e];decide),e]
   exact rfl
  refine ei (.seq [0,1,2,3,4,5,6,7,8,9,10,11,12,13]) (ai (by kernel_rfl) ?_)
  refine ah (p:=0<k) (ak (by omega)) (fun h4=>?_) (fun h4=>?_)
  ·have hw:IntKind.i64.wrap ((k:Int)-1)=((k-1:Nat):Int):=ajX h4 (by omega)
   refine ai (ai (abr _) (iN (n:=a.2.length) (by omega))) (ai rfl ?_)
   refine ai (ai (by rw[hw];exact abr _) (by rw[hw];show ((k-1:Nat):Int)<(a.2.length:Int);omega)) ?_
   refine ai rfl ?_
   refine ah (p:=a.2.getD k 0≤a.2.getD (k-1) 0) (by exact bX (by rw[hw];exact Iff.rfl)) (fun h5=>?_) (fun h5=>?_)
   ·have e:nG a.1.sts.length a.2 k=9:=by unfold nG;rw[if_neg (by omega),if_pos ⟨h4,h5⟩]
    refine ai (ai (fun _=>trivial) ?_) trivial
    show au _ (iP (iB a.1.sts.length a.2))
    rw[hA,dG h1 hall (by rw[e];decide),e]
    exact rfl
   ·refine ei (k+1) (ai (ai rfl rfl) (ai (ai (ai rfl (ai (ai rfl rfl) (ai (ai rfl rfl) (ai (ai (ai (fun _=>rfl) (aM (by omega))) rfl) trivial)))) rfl) (ai (ai (iL (by omega)) ?_) (iM (by omega)))))
    intro j hj
    by_cases hjk:j=k
    ·subst hjk;unfold nG;rw[if_neg (by omega),if_neg (fun h=>h5 h.2)]
    ·exact hall j (by omega)
  ·refine ei (k+1) (ai (ai rfl rfl) (ai (ai (ai rfl (ai (ai rfl rfl) (ai (ai rfl rfl) (ai (ai (ai (fun _=>rfl) (aM (by omega))) rfl) trivial)))) rfl) (ai (ai (iL (by omega)) ?_) (iM (by omega)))))
   intro j hj
   by_cases hjk:j=k
   ·subst hjk;unfold nG;rw[if_neg (by omega),if_neg (fun h=>h4 h.1)]
   ·exact hall j (by omega)
 ·obtain rfl:k=a.2.length:=by omega
  refine ai (ai (fun _=>trivial) ?_) trivial
  show au _ (iP (iB a.1.sts.length a.2))
  rw[hA,gK hall]
  exact rfl
def oJ (c:bD):Int:=2*c.act+c.ins.length+c.sts.length
def aah (c:bD):Prop:=0≤c.act∧c.act≤1000∧c.ins.length≤1000000∧c.sts.length≤1000000
def ank:Spec:=cu (fun c:bD=>[kF c]) aah (fun c=>iP (oJ c))
theorem aoN:aL Tryz.prog 149 ank:=by
 refine bg (Tb:=tab) mixed ay Tryz.func149 rfl rfl ?_
 rintro (c:bD) hpre
 refine ai (ai rfl (ai rfl rfl)) ?_
 obtain ⟨h1,h2,h3,h4⟩:=hpre
 have h1:0≤c.act:=h1
 have h2:c.act≤1000:=h2
 have h3:c.ins.length≤1000000:=h3
 have h4:c.sts.length≤1000000:=h4
 refine ai (ai (fun _=>trivial) ?_) trivial
 show IntKind.i64.wrap (IntKind.i64.wrap (IntKind.i64.wrap (2*c.act)+(c.ins.length:Int))+(c.sts.length:Int))=oJ c
 rw[iQ (n:=2*c.act) (by omega) (by omega),iQ (n:=2*c.act+(c.ins.length:Int)) (by omega) (by omega),iQ (by omega) (by omega)];rfl
theorem alX:aL Tryz.prog 47 ank:=by
 refine bg (Tb:=tab) mixed ay Tryz.func47 rfl rfl ?_
 rintro (c:bD) hpre
 refine ai (ai rfl (ai rfl rfl)) ?_
 obtain ⟨h1,h2,h3,h4⟩:=hpre
 have h1:0≤c.act:=h1
 have h2:c.act≤1000:=h2
 have h3:c.ins.length≤1000000:=h3
 have h4:c.sts.length≤1000000:=h4
 refine ai (ai (fun _=>trivial) ?_) trivial
 show IntKind.i64.wrap (IntKind.i64.wrap (IntKind.i64.wrap (2*c.act)+(c.ins.length:Int))+(c.sts.length:Int))=oJ c
 rw[iQ (n:=2*c.act) (by omega) (by omega),iQ (n:=2*c.act+(c.ins.length:Int)) (by omega) (by omega),iQ (by omega) (by omega)];rfl
def jd (c:bD) (t:kD):Int:=if ¬iB c.sts.length t.fr=0 then iB c.sts.length t.fr else if ¬iB c.sts.length t.to=0 then iB c.sts.length t.to else dL t.wh (oJ c)
def ajx (t:kD):Prop:=t.fr.length≤1000000∧t.to.length≤1000000∧t.wh.size≤1000000
def arJ:Spec:=cu (fun a:bD×kD=>[kF a.1,trA a.2]) (fun a=>aah a.1∧ajx a.2) (fun a=>iP (jd a.1 a.2))
theorem apQ:aL Tryz.prog 91 arJ:=by
 refine bg (Tb:=tab) mixed ay Tryz.func91 rfl rfl ?_
 rintro (a:bD×kD) hpre
 refine ai (ai rfl (ai rfl rfl)) ?_
 obtain ⟨hs,h1,h2,h3⟩:=hpre
 refine ei (bG.unroll 3) ?_
 refine ai (by decide) ?_
 refine ai (by decide) ?_
 refine ei _ (ai (aeD) (ei ((a.1,a.2.fr)) (ei [] (ai (a4 (ai (fun _=>Or.inl rfl) (ai nof (Or.inl rfl)))) (ai (by exact (ai (ai rfl (ai (ai rfl (fun _ _=>rfl)) (ai (ai rfl (fun _ _=>rfl)) (ai rfl (fun _ _=>rfl))))) (ai rfl (fun _ _=>rfl)))) (ai trivial (ai (h1) ?_)))))))
 refine bH (p:=iB a.1.sts.length a.2.fr=0) (bU (by dsimp only;omega)) (fun g1=>?_) (fun g1=>?_)
 ·refine ai (ai (fun _=>trivial) ?_) trivial
  show au _ (iP (jd a.1 a.2))
  rw[jd,if_pos g1]
  exact rfl
 refine ai (by decide) ?_
 refine ai (by decide) ?_
 refine ei _ (ai (aeD) (ei ((a.1,a.2.to)) (ei [] (ai (a4 (ai (fun _=>Or.inl rfl) (ai nof (Or.inl rfl)))) (ai (by exact (ai (ai rfl (ai (ai rfl (fun _ _=>rfl)) (ai (ai rfl (fun _ _=>rfl)) (ai rfl (fun _ _=>rfl))))) (ai rfl (fun _ _=>rfl)))) (ai trivial (ai (h2) ?_)))))))
 refine bH (p:=iB a.1.sts.length a.2.to=0) (bU (by dsimp only;omega)) (fun g2=>?_) (fun g2=>?_)
 ·refine ai (ai (fun _=>trivial) ?_) trivial
  show au _ (iP (jd a.1 a.2))
  rw[jd,if_neg (fun h=>h g1),if_pos g2]
  exact rfl
 refine ei (.seq [0,1,2,3,4,5]) (ai (by kernel_rfl) ?_)
 refine ei _ (ai (aoN) (ei (a.1) (ei [] (ai (a4 (ai (fun _=>Or.inl rfl) (ai nof (Or.inl rfl)))) (ai (by exact (ai rfl (ai (ai rfl (fun _ _=>rfl)) (ai (ai rfl (fun _ _=>rfl)) (ai rfl (fun _ _=>rfl)))))) (ai trivial (ai (hs) ?_)))))))
 refine ei _ (ai (ab3) (ei ((a.2.wh,oJ a.1)) (ei [] (ai (a4 (ai (fun _=>Or.inl rfl) (ai nof (Or.inl rfl)))) (ai (by exact (ai (ai rfl (ai rfl (ai rfl (fun _ _=>rfl)))) rfl)) (ai trivial (ai (h3) ?_)))))))
 refine ai (ai (fun _=>trivial) ?_) trivial
 show au _ (iP (jd a.1 a.2))
 rw[jd,if_neg (fun h=>h g1),if_neg (fun h=>h g2)]
 exact rfl
def amd:Spec:=cu (fun a:bD×List Stp=>[.p false (ajU a.2),.p false (.bnd 90 [vk a.1])]) (fun a=>a.2.length≤1000000∧∀s∈a.2,s.st.length≤1000000) (fun a=>iP (dN (fun k=>fG a.1.act (a.2.getD k st0)) a.2.length))
theorem ajk:aL Tryz.prog 92 amd:=by
 refine bg (Tb:=tab) mixed ay Tryz.func92 rfl rfl ?_
 rintro (a:bD×List Stp) hpre
 refine ai (ai rfl (ai rfl rfl)) ?_
 obtain ⟨hl,hs⟩:=hpre
 have hl:a.2.length≤1000000:=hl
 refine ei (bG.inv { X:=Nat,up:=fun k=>[(10,.s (iA k))],uo:=fun k=>[],inv:=fun k=>k≤a.2.length∧(∀j,j<k→fG a.1.act (a.2.getD j st0)=0),meas:=fun k=>a.2.length-k,x0:=0 }) ?_
 refine ai (ai (ai (by exact (a4 (ai rfl rfl))) (ai (by exact (ai (ai (fun _=>rfl) (iE (by simp only[zz,reduceCtorEq];rfl))) rfl)) (by exact trivial))) rfl) (ai (ai (ac7 _) ?_) ?_)
 ·exact fun j hj=>absurd hj (ani _)
 intro (k:Nat) ⟨hk,hall⟩
 refine ah (p:=k<a.2.length) (ak (by omega)) (fun h1=>?_) (fun h1=>?_)
 ·refine ai (ai (abr _) (iN (n:=a.2.length) (by omega))) (ai rfl ?_)
  refine ei _ (ai (step_ok) (ei ((a.1,a.2.getD k st0)) (ei [] (ai (a4 (ai (fun _=>Or.inl rfl) (ai nof (Or.inl rfl)))) (ai (by exact (ai (ai rfl (ai (ai rfl (fun _ _=>rfl)) (ai (ai rfl (fun _ _=>rfl)) (ai rfl (fun _ _=>rfl))))) (ai (ai rfl (fun _ _=>rfl)) (iE (by simp only[zz,reduceCtorEq]))))) (ai trivial (ai (hs _ (abv (bY st0 h1))) ?_)))))))
  refine bH (p:=fG a.1.act (a.2.getD k st0)=0) (bU (by dsimp only;omega)) (fun h2=>?_) (fun h2=>?_)
  ·refine ai (ai (fun _=>trivial) ?_) trivial
   show au _ (iP (dN (fun k=>fG a.1.act (a.2.getD k st0)) a.2.length))
   rw[dG h1 hall h2]
   exact rfl
  refine ei (k+1) (ai (ai rfl rfl) (ai (ai (ai rfl (ai (ai rfl rfl) (ai (ai rfl rfl) (ai (ai (ai (fun _=>rfl) (aM (by omega))) rfl) trivial)))) rfl) (ai (ai (iL (by omega)) ?_) (iM (by omega)))))
  intro j hj
  by_cases hjk:j=k
  ·subst hjk;exact h2
  ·exact hall j (by omega)
 ·obtain rfl:k=a.2.length:=by omega
  refine ai (ai (fun _=>trivial) ?_) trivial
  show au _ (iP (dN (fun k=>fG a.1.act (a.2.getD k st0)) a.2.length))
  rw[gK hall]
  exact rfl
def amk:Spec:=cu (fun a:bD×List kD=>[.p false (alH a.2),.p false (.bnd 91 [vk a.1])]) (fun a=>a.2.length≤1000000∧aah a.1∧∀s∈a.2,ajx s) (fun a=>iP (dN (fun k=>jd a.1 (a.2.getD k aG)) a.2.length))
theorem ajf:aL Tryz.prog 93 amk:=by
 refine bg (Tb:=tab) mixed ay Tryz.func93 rfl rfl ?_
 rintro (a:bD×List kD) hpre
 refine ai (ai rfl (ai rfl rfl)) ?_
 obtain ⟨hl,hc,hs⟩:=hpre
 have hl:a.2.length≤1000000:=hl
 refine ei (bG.inv { X:=Nat,up:=fun k=>[(10,.s (iA k))],uo:=fun k=>[],inv:=fun k=>k≤a.2.length∧(∀j,j<k→jd a.1 (a.2.getD j aG)=0),meas:=fun k=>a.2.length-k,x0:=0 }) ?_
 refine ai (ai (ai (by exact (a4 (ai rfl rfl))) (ai (by exact (ai (ai (fun _=>rfl) (iE (by simp only[zz,reduceCtorEq];rfl))) rfl)) (by exact trivial))) rfl) (ai (ai (ac7 _) ?_) ?_)
 ·exact fun j hj=>absurd hj (ani _)
 intro (k:Nat) ⟨hk,hall⟩
 refine ah (p:=k<a.2.length) (ak (by omega)) (fun h1=>?_) (fun h1=>?_)
 ·refine ai (ai (abr _) (iN (n:=a.2.length) (by omega))) (ai rfl ?_)
  refine ei _ (ai (apQ) (ei ((a.1,a.2.getD k aG)) (ei [] (ai (a4 (ai (fun _=>Or.inl rfl) (ai nof (Or.inl rfl)))) (ai (by exact (ai (ai rfl (ai (ai rfl (fun _ _=>rfl)) (ai (ai rfl (fun _ _=>rfl)) (ai rfl (fun _ _=>rfl))))) (ai (ai rfl (fun _ _=>rfl)) (ai (ai rfl (fun _ _=>rfl)) (ai (iE (by simp only[zz,reduceCtorEq])) (ai (iE (by simp only[zz,reduceCtorEq])) (ai rfl (fun _ _=>rfl)))))))) (ai trivial (ai (⟨hc,hs _ (abv (bY aG h1))⟩) ?_)))))))
  refine bH (p:=jd a.1 (a.2.getD k aG)=0) (bU (by dsimp only;omega)) (fun h2=>?_) (fun h2=>?_)
  ·refine ai (ai (fun _=>trivial) ?_) trivial
   show au _ (iP (dN (fun k=>jd a.1 (a.2.getD k aG)) a.2.length))
   rw[dG h1 hall h2]
   exact rfl
  refine ei (k+1) (ai (ai rfl rfl) (ai (ai (ai rfl (ai (ai rfl rfl) (ai (ai rfl rfl) (ai (ai (ai (fun _=>rfl) (aM (by omega))) rfl) trivial)))) rfl) (ai (ai (iL (by omega)) ?_) (iM (by omega)))))
  intro j hj
  by_cases hjk:j=k
  ·subst hjk;exact h2
  ·exact hall j (by omega)
 ·obtain rfl:k=a.2.length:=by omega
  refine ai (ai (fun _=>trivial) ?_) trivial
  show au _ (iP (dN (fun k=>jd a.1 (a.2.getD k aG)) a.2.length))
  rw[gK hall]
  exact rfl
def bJ (c:bD):Int:=
 if c.act<1∨6<c.act then 2 else if ¬dZ c.ins=0 then dZ c.ins else if c.sts.length=0 then 13 else if 24<c.sts.length∨32<c.trs.length then 5 else
 if ¬dN (fun k=>fG c.act (c.sts.getD k st0)) c.sts.length=0 then dN (fun k=>fG c.act (c.sts.getD k st0)) c.sts.length else dN (fun k=>jd c (c.trs.getD k aG)) c.trs.length
def jP (c:bD):Prop:=(∀s∈c.sts,s.st.length≤1000000)∧∀t∈c.trs,ajx t
theorem sG {l:List (List UInt8)} (h:dZ l=0):l.length≤16:=by
 unfold dZ at h
 split at h
 ·cases h
 ·omega
end Go.Sx.Pe
