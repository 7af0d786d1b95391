import Derived.Test.YtmbccebjkenofaaGreatDoorKb
import Derived.Test.YtmbccebjkenofaaGreatDoorArg
set_option linter.unusedVariables false
set_option linter.unusedSimpArgs false
set_option linter.unusedSectionVars false

namespace Go.Proofs.YtmbccebjkenofaaGreatDoor
open Go Sz
set_option maxRecDepth 100000
def kxa0 : AV := .agg [.str [58, 45], .str [120, 102, 120], .int .i64 1200]
def kxa1 : AV := .agg [.str [59], .str [120, 102, 121], .int .i64 1100]
def kxa2 : AV := .agg [.str [45, 62], .str [120, 102, 121], .int .i64 1050]
def kxa3 : AV := .agg [.str [44], .str [120, 102, 121], .int .i64 1000]
def kxa4 : AV := .agg [.str [92, 43], .str [102, 121], .int .i64 900]
def kxa5 : AV := .agg [.str [61], .str [120, 102, 120], .int .i64 700]
def kxa6 : AV := .agg [.str [92, 61], .str [120, 102, 120], .int .i64 700]
def kxa7 : AV := .agg [.str [61, 61], .str [120, 102, 120], .int .i64 700]
def kxa8 : AV := .agg [.str [92, 61, 61], .str [120, 102, 120], .int .i64 700]
def kxa9 : AV := .agg [.str [64, 60], .str [120, 102, 120], .int .i64 700]
def kxa10 : AV := .agg [.str [64, 62], .str [120, 102, 120], .int .i64 700]
def kxa11 : AV := .agg [.str [64, 61, 60], .str [120, 102, 120], .int .i64 700]
def kxa12 : AV := .agg [.str [64, 62, 61], .str [120, 102, 120], .int .i64 700]
def kxa13 : AV := .agg [.str [61, 46, 46], .str [120, 102, 120], .int .i64 700]
def kxa14 : AV := .agg [.str [105, 115], .str [120, 102, 120], .int .i64 700]
def kxa15 : AV := .agg [.str [61, 58, 61], .str [120, 102, 120], .int .i64 700]
def kxa16 : AV := .agg [.str [61, 92, 61], .str [120, 102, 120], .int .i64 700]
def kxa17 : AV := .agg [.str [60], .str [120, 102, 120], .int .i64 700]
def kxa18 : AV := .agg [.str [62], .str [120, 102, 120], .int .i64 700]
def kxa19 : AV := .agg [.str [61, 60], .str [120, 102, 120], .int .i64 700]
def kxa20 : AV := .agg [.str [62, 61], .str [120, 102, 120], .int .i64 700]
def kxa21 : AV := .agg [.str [43], .str [121, 102, 120], .int .i64 500]
def kxa22 : AV := .agg [.str [45], .str [121, 102, 120], .int .i64 500]
def kxa23 : AV := .agg [.str [47, 92], .str [121, 102, 120], .int .i64 500]
def kxa24 : AV := .agg [.str [92, 47], .str [121, 102, 120], .int .i64 500]
def kxa25 : AV := .agg [.str [120, 111, 114], .str [121, 102, 120], .int .i64 500]
def kxa26 : AV := .agg [.str [42], .str [121, 102, 120], .int .i64 400]
def kxa27 : AV := .agg [.str [47, 47], .str [121, 102, 120], .int .i64 400]
def kxa28 : AV := .agg [.str [109, 111, 100], .str [121, 102, 120], .int .i64 400]
def kxa29 : AV := .agg [.str [114, 101, 109], .str [121, 102, 120], .int .i64 400]
def kxa30 : AV := .agg [.str [62, 62], .str [121, 102, 120], .int .i64 400]
def kxa31 : AV := .agg [.str [60, 60], .str [121, 102, 120], .int .i64 400]
def kxa32 : AV := .agg [.str [94], .str [120, 102, 121], .int .i64 200]
def kxa33 : AV := .sl [kxa0, kxa1, kxa2, kxa3, kxa4, kxa5, kxa6, kxa7, kxa8, kxa9, kxa10, kxa11, kxa12, kxa13, kxa14, kxa15, kxa16, kxa17, kxa18, kxa19, kxa20, kxa21, kxa22, kxa23, kxa24, kxa25, kxa26, kxa27, kxa28, kxa29, kxa30, kxa31, kxa32, .agg [.str [45], .str [102, 121], .int .i64 200], .agg [.str [92], .str [102, 121], .int .i64 200]]
def kxa34 : AV := .sl [kxa0, kxa1, kxa2, kxa3, kxa4, kxa5, kxa6, kxa7, kxa8, kxa9, kxa10, kxa11, kxa12]
def kxa35 : AObj := .row [.str [61, 46, 46], .str [120, 102, 120], .int .i64 700]
def kxa36 : MK := .call 88 c168 ⟨2, [kxa35, .row [kxa33]], 2, 2⟩ (some 7) (c133.code.at [1, 0, 3]).ops (FM 9 [(0, kxa34), (1, .fn 130 [.ptr 1 0]), (4, .bool false), (5, kxa34), (6, .fn 130 [.ptr 1 0])])
def kxa37 : AV := .ip [.str [61, 46, 46], .str [120, 102, 120], .int .i64 700]
def kxa38 : MK := .call 89 c133 ⟨2, [kxa35, .row [kxa33]], 1, 0⟩ (some 28) (c84.code.at [1, 1, 0, 1, 0, 0, 1, 1, 0, 0, 1, 1, 0, 10]).ops (FM 31 [(1, .ptr 0 0), (3, .int .i64 13), (4, .ptr 1 0), (5, .fn 130 [.ptr 1 0]), (11, kxa33), (12, .int .i64 35), (13, .int .i64 13), (14, .bool true), (15, .int .i64 13), (16, kxa37), (17, kxa13), (18, .fn 130 [.ptr 1 0]), (19, kxa13), (20, .bool true), (21, .bool false), (22, .bool false), (23, .ptr 0 0), (24, kxa33), (25, .int .i64 13), (26, kxa34), (27, .fn 130 [.ptr 1 0])])
def kxa39 : AObj := .row [.str [59], .str [120, 102, 121], .int .i64 1100]
def kxa40 : AObj := .row [.str [61, 60], .str [120, 102, 120], .int .i64 700]
def kxa41 : AV := .sl [kxa0, kxa1, kxa2, kxa3, kxa4, kxa5, kxa6, kxa7, kxa8, kxa9, kxa10, kxa11, kxa12, kxa13, kxa14, kxa15, kxa16, kxa17, kxa18]
def kxa42 : AV := .ip [.str [59], .str [120, 102, 121], .int .i64 1100]
def kxa43 : MK := .call 87 c130 ⟨2, [kxa40, .row [kxa33]], 2, 2⟩ (some 16) (c168.code.at [1, 0, 1, 0, 0, 1, 1, 0, 0, 1, 0, 6]).ops (FM 19 [(0, kxa41), (1, .fn 130 [.ptr 1 0]), (5, .int .i64 1), (7, .int .i64 19), (8, .int .i64 1), (9, .bool true), (10, .int .i64 1), (11, .fn 130 [.ptr 1 0]), (12, kxa41), (13, .int .i64 1), (14, kxa42), (15, kxa1)])
def kxa44 : MK := .call 88 c168 ⟨2, [kxa40, .row [kxa33]], 2, 2⟩ (some 7) (c133.code.at [1, 0, 3]).ops (FM 9 [(0, kxa41), (1, .fn 130 [.ptr 1 0]), (4, .bool false), (5, kxa41), (6, .fn 130 [.ptr 1 0])])
def kxa45 : AV := .ip [.str [61, 60], .str [120, 102, 120], .int .i64 700]
def kxa46 : MK := .call 89 c133 ⟨2, [kxa40, .row [kxa33]], 1, 0⟩ (some 28) (c84.code.at [1, 1, 0, 1, 0, 0, 1, 1, 0, 0, 1, 1, 0, 10]).ops (FM 31 [(1, .ptr 0 0), (3, .int .i64 19), (4, .ptr 1 0), (5, .fn 130 [.ptr 1 0]), (11, kxa33), (12, .int .i64 35), (13, .int .i64 19), (14, .bool true), (15, .int .i64 19), (16, kxa45), (17, kxa19), (18, .fn 130 [.ptr 1 0]), (19, kxa19), (20, .bool true), (21, .bool false), (22, .bool false), (23, .ptr 0 0), (24, kxa33), (25, .int .i64 19), (26, kxa41), (27, .fn 130 [.ptr 1 0])])
def kxa47 : AObj := .row [.str [64, 62, 61], .str [120, 102, 120], .int .i64 700]
def kxa48 : AObj := .row [.str [47, 92], .str [121, 102, 120], .int .i64 500]
def kxa49 : AV := .sl [kxa0, kxa1, kxa2, kxa3, kxa4, kxa5, kxa6, kxa7, kxa8, kxa9, kxa10, kxa11, kxa12, kxa13, kxa14, kxa15, kxa16, kxa17, kxa18, kxa19, kxa20, kxa21, kxa22]
def kxa50 : AV := .ip [.str [64, 62, 61], .str [120, 102, 120], .int .i64 700]
def kxa51 : MK := .call 87 c130 ⟨2, [kxa48, .row [kxa33]], 2, 2⟩ (some 16) (c168.code.at [1, 0, 1, 0, 0, 1, 1, 0, 0, 1, 0, 6]).ops (FM 19 [(0, kxa49), (1, .fn 130 [.ptr 1 0]), (5, .int .i64 12), (7, .int .i64 23), (8, .int .i64 12), (9, .bool true), (10, .int .i64 12), (11, .fn 130 [.ptr 1 0]), (12, kxa49), (13, .int .i64 12), (14, kxa50), (15, kxa12)])
def kxa52 : MK := .call 88 c168 ⟨2, [kxa48, .row [kxa33]], 2, 2⟩ (some 7) (c133.code.at [1, 0, 3]).ops (FM 9 [(0, kxa49), (1, .fn 130 [.ptr 1 0]), (4, .bool false), (5, kxa49), (6, .fn 130 [.ptr 1 0])])
def kxa53 : AV := .ip [.str [47, 92], .str [121, 102, 120], .int .i64 500]
def kxa54 : MK := .call 89 c133 ⟨2, [kxa48, .row [kxa33]], 1, 0⟩ (some 28) (c84.code.at [1, 1, 0, 1, 0, 0, 1, 1, 0, 0, 1, 1, 0, 10]).ops (FM 31 [(1, .ptr 0 0), (3, .int .i64 23), (4, .ptr 1 0), (5, .fn 130 [.ptr 1 0]), (11, kxa33), (12, .int .i64 35), (13, .int .i64 23), (14, .bool true), (15, .int .i64 23), (16, kxa53), (17, kxa23), (18, .fn 130 [.ptr 1 0]), (19, kxa23), (20, .bool true), (21, .bool false), (22, .bool false), (23, .ptr 0 0), (24, kxa33), (25, .int .i64 23), (26, kxa49), (27, .fn 130 [.ptr 1 0])])
def kxa55 : AObj := .row [.str [61, 61], .str [120, 102, 120], .int .i64 700]
def kxa56 : AObj := .row [.str [47, 47], .str [121, 102, 120], .int .i64 400]
def kxa57 : AV := .sl [kxa0, kxa1, kxa2, kxa3, kxa4, kxa5, kxa6, kxa7, kxa8, kxa9, kxa10, kxa11, kxa12, kxa13, kxa14, kxa15, kxa16, kxa17, kxa18, kxa19, kxa20, kxa21, kxa22, kxa23, kxa24, kxa25, kxa26]
def kxa58 : AV := .ip [.str [61, 61], .str [120, 102, 120], .int .i64 700]
def kxa59 : MK := .call 87 c130 ⟨2, [kxa56, .row [kxa33]], 2, 2⟩ (some 16) (c168.code.at [1, 0, 1, 0, 0, 1, 1, 0, 0, 1, 0, 6]).ops (FM 19 [(0, kxa57), (1, .fn 130 [.ptr 1 0]), (5, .int .i64 7), (7, .int .i64 27), (8, .int .i64 7), (9, .bool true), (10, .int .i64 7), (11, .fn 130 [.ptr 1 0]), (12, kxa57), (13, .int .i64 7), (14, kxa58), (15, kxa7)])
def kxa60 : MK := .call 88 c168 ⟨2, [kxa56, .row [kxa33]], 2, 2⟩ (some 7) (c133.code.at [1, 0, 3]).ops (FM 9 [(0, kxa57), (1, .fn 130 [.ptr 1 0]), (4, .bool false), (5, kxa57), (6, .fn 130 [.ptr 1 0])])
def kxa61 : AV := .ip [.str [47, 47], .str [121, 102, 120], .int .i64 400]
def kxa62 : MK := .call 89 c133 ⟨2, [kxa56, .row [kxa33]], 1, 0⟩ (some 28) (c84.code.at [1, 1, 0, 1, 0, 0, 1, 1, 0, 0, 1, 1, 0, 10]).ops (FM 31 [(1, .ptr 0 0), (3, .int .i64 27), (4, .ptr 1 0), (5, .fn 130 [.ptr 1 0]), (11, kxa33), (12, .int .i64 35), (13, .int .i64 27), (14, .bool true), (15, .int .i64 27), (16, kxa61), (17, kxa27), (18, .fn 130 [.ptr 1 0]), (19, kxa27), (20, .bool true), (21, .bool false), (22, .bool false), (23, .ptr 0 0), (24, kxa33), (25, .int .i64 27), (26, kxa57), (27, .fn 130 [.ptr 1 0])])
def kxa63 : AV := .sl [kxa0, kxa1, kxa2, kxa3, kxa4, kxa5, kxa6, kxa7, kxa8, kxa9, kxa10, kxa11, kxa12, kxa13, kxa14, kxa15, kxa16, kxa17, kxa18, kxa19, kxa20, kxa21, kxa22, kxa23, kxa24, kxa25, kxa26, kxa27, kxa28, kxa29]
def kxa64 : AV := .ip [.str [60], .str [120, 102, 120], .int .i64 700]
def kxa65 : AObj := .row [.str [62, 62], .str [121, 102, 120], .int .i64 400]
def kxa66 : MK := .call 88 c168 ⟨2, [kxa65, .row [kxa33]], 2, 2⟩ (some 7) (c133.code.at [1, 0, 3]).ops (FM 9 [(0, kxa63), (1, .fn 130 [.ptr 1 0]), (4, .bool false), (5, kxa63), (6, .fn 130 [.ptr 1 0])])
def kxa67 : AV := .ip [.str [62, 62], .str [121, 102, 120], .int .i64 400]
def kxa68 : MK := .call 89 c133 ⟨2, [kxa65, .row [kxa33]], 1, 0⟩ (some 28) (c84.code.at [1, 1, 0, 1, 0, 0, 1, 1, 0, 0, 1, 1, 0, 10]).ops (FM 31 [(1, .ptr 0 0), (3, .int .i64 30), (4, .ptr 1 0), (5, .fn 130 [.ptr 1 0]), (11, kxa33), (12, .int .i64 35), (13, .int .i64 30), (14, .bool true), (15, .int .i64 30), (16, kxa67), (17, kxa30), (18, .fn 130 [.ptr 1 0]), (19, kxa30), (20, .bool true), (21, .bool false), (22, .bool false), (23, .ptr 0 0), (24, kxa33), (25, .int .i64 30), (26, kxa63), (27, .fn 130 [.ptr 1 0])])
def kxa69 : AV := .sl [kxa0, kxa1, kxa2, kxa3, kxa4, kxa5, kxa6, kxa7, kxa8, kxa9, kxa10, kxa11, kxa12, kxa13, kxa14, kxa15, kxa16, kxa17, kxa18, kxa19, kxa20, kxa21, kxa22, kxa23, kxa24, kxa25, kxa26, kxa27, kxa28, kxa29, kxa30, kxa31, kxa32]
def kxa70 : AObj := .row [.str [45], .str [102, 121], .int .i64 200]
def kxa71 : MK := .call 88 c168 ⟨2, [kxa70, .row [kxa33]], 2, 2⟩ (some 7) (c133.code.at [1, 0, 3]).ops (FM 9 [(0, kxa69), (1, .fn 130 [.ptr 1 0]), (4, .bool false), (5, kxa69), (6, .fn 130 [.ptr 1 0])])
def kxa72 : MK := .call 89 c133 ⟨2, [kxa70, .row [kxa33]], 1, 0⟩ (some 28) (c84.code.at [1, 1, 0, 1, 0, 0, 1, 1, 0, 0, 1, 1, 0, 10]).ops (FM 31 [(1, .ptr 0 0), (3, .int .i64 33), (4, .ptr 1 0), (5, .fn 130 [.ptr 1 0]), (11, kxa33), (12, .int .i64 35), (13, .int .i64 33), (14, .bool true), (15, .int .i64 33), (16, .ip [.str [45], .str [102, 121], .int .i64 200]), (17, .agg [.str [45], .str [102, 121], .int .i64 200]), (18, .fn 130 [.ptr 1 0]), (19, .agg [.str [45], .str [102, 121], .int .i64 200]), (20, .bool true), (21, .bool false), (22, .bool false), (23, .ptr 0 0), (24, kxa33), (25, .int .i64 33), (26, kxa69), (27, .fn 130 [.ptr 1 0])])
def kxas0 : MS := .run 89 (.code (c84.code.at [])) (FM 31 [(0, .agg [kxa33])]) ⟨0, [], 0, 0⟩ []
def kxas1 : MS := .run 87 (.code (c168.code.at [1, 0, 1, 0, 0])) (FM 19 [(0, kxa34), (1, .fn 130 [.ptr 1 0]), (7, .int .i64 13), (8, .int .i64 4)]) ⟨2, [kxa35, .row [kxa33]], 2, 2⟩ [.loop 87 (c168.code.at [1, 0, 1, 0]).lv (c168.code.at [1, 0, 1, 0, 0]) 2 82 2, .block 0, .seq 87 (c168.code.at [1, 1]), kxa36, .seq 88 (c133.code.at [1, 1]), kxa38, .seq 89 (c84.code.at [1, 1, 0, 1, 0, 0, 1, 1, 0, 0, 1, 1, 1]), .block 1, .seq 89 (c84.code.at [1, 1, 0, 1, 0, 0, 1, 1, 1, 0]), .loop 89 (c84.code.at [1, 1, 0, 1, 0]).lv (c84.code.at [1, 1, 0, 1, 0, 0]) 1 75 0, .block 0, .seq 89 (c84.code.at [1, 1, 1])]
def kxas2 : MS := .run 86 (.code (c130.code.at [1, 0, 4])) (FM 7 [(0, kxa1), (1, .ptr 1 0), (2, .ptr 2 0), (3, .bool false), (4, kxa1), (5, kxa19), (6, .bool false)]) ⟨3, [kxa39, kxa40, .row [kxa33]], 2, 2⟩ [.seq 86 (c130.code.at [1, 1]), kxa43, .seq 87 (c168.code.at [1, 0, 1, 0, 0, 1, 1, 0, 0, 1, 1]), .block 1, .seq 87 (c168.code.at [1, 0, 1, 0, 0, 1, 1, 1, 0]), .loop 87 (c168.code.at [1, 0, 1, 0]).lv (c168.code.at [1, 0, 1, 0, 0]) 2 85 2, .block 0, .seq 87 (c168.code.at [1, 1]), kxa44, .seq 88 (c133.code.at [1, 1]), kxa46, .seq 89 (c84.code.at [1, 1, 0, 1, 0, 0, 1, 1, 0, 0, 1, 1, 1]), .block 1, .seq 89 (c84.code.at [1, 1, 0, 1, 0, 0, 1, 1, 1, 0]), .loop 89 (c84.code.at [1, 1, 0, 1, 0]).lv (c84.code.at [1, 1, 0, 1, 0, 0]) 1 69 0, .block 0, .seq 89 (c84.code.at [1, 1, 1])]
def kxas3 : MS := .run 86 (.code (c130.code.at [1, 0, 4])) (FM 7 [(0, kxa12), (1, .ptr 1 0), (2, .ptr 2 0), (3, .bool false), (4, kxa12), (5, kxa23), (6, .bool false)]) ⟨3, [kxa47, kxa48, .row [kxa33]], 2, 2⟩ [.seq 86 (c130.code.at [1, 1]), kxa51, .seq 87 (c168.code.at [1, 0, 1, 0, 0, 1, 1, 0, 0, 1, 1]), .block 1, .seq 87 (c168.code.at [1, 0, 1, 0, 0, 1, 1, 1, 0]), .loop 87 (c168.code.at [1, 0, 1, 0]).lv (c168.code.at [1, 0, 1, 0, 0]) 2 74 2, .block 0, .seq 87 (c168.code.at [1, 1]), kxa52, .seq 88 (c133.code.at [1, 1]), kxa54, .seq 89 (c84.code.at [1, 1, 0, 1, 0, 0, 1, 1, 0, 0, 1, 1, 1]), .block 1, .seq 89 (c84.code.at [1, 1, 0, 1, 0, 0, 1, 1, 1, 0]), .loop 89 (c84.code.at [1, 1, 0, 1, 0]).lv (c84.code.at [1, 1, 0, 1, 0, 0]) 1 65 0, .block 0, .seq 89 (c84.code.at [1, 1, 1])]
def kxas4 : MS := .run 86 (.code (c130.code.at [1, 0, 4])) (FM 7 [(0, kxa7), (1, .ptr 1 0), (2, .ptr 2 0), (3, .bool false), (4, kxa7), (5, kxa27), (6, .bool false)]) ⟨3, [kxa55, kxa56, .row [kxa33]], 2, 2⟩ [.seq 86 (c130.code.at [1, 1]), kxa59, .seq 87 (c168.code.at [1, 0, 1, 0, 0, 1, 1, 0, 0, 1, 1]), .block 1, .seq 87 (c168.code.at [1, 0, 1, 0, 0, 1, 1, 1, 0]), .loop 87 (c168.code.at [1, 0, 1, 0]).lv (c168.code.at [1, 0, 1, 0, 0]) 2 79 2, .block 0, .seq 87 (c168.code.at [1, 1]), kxa60, .seq 88 (c133.code.at [1, 1]), kxa62, .seq 89 (c84.code.at [1, 1, 0, 1, 0, 0, 1, 1, 0, 0, 1, 1, 1]), .block 1, .seq 89 (c84.code.at [1, 1, 0, 1, 0, 0, 1, 1, 1, 0]), .loop 89 (c84.code.at [1, 1, 0, 1, 0]).lv (c84.code.at [1, 1, 0, 1, 0, 0]) 1 61 0, .block 0, .seq 89 (c84.code.at [1, 1, 1])]
def kxas5 : MS := .run 87 (.code (c168.code.at [1, 0, 1, 0, 0, 1, 1, 1, 1])) (FM 19 [(0, kxa63), (1, .fn 130 [.ptr 1 0]), (5, .int .i64 17), (7, .int .i64 30), (8, .int .i64 17), (9, .bool true), (10, .int .i64 17), (11, .fn 130 [.ptr 1 0]), (12, kxa63), (13, .int .i64 17), (14, kxa64), (15, kxa17), (16, .bool false), (18, .int .i64 18)]) ⟨2, [kxa65, .row [kxa33]], 2, 2⟩ [.loop 87 (c168.code.at [1, 0, 1, 0]).lv (c168.code.at [1, 0, 1, 0, 0]) 2 69 2, .block 0, .seq 87 (c168.code.at [1, 1]), kxa66, .seq 88 (c133.code.at [1, 1]), kxa68, .seq 89 (c84.code.at [1, 1, 0, 1, 0, 0, 1, 1, 0, 0, 1, 1, 1]), .block 1, .seq 89 (c84.code.at [1, 1, 0, 1, 0, 0, 1, 1, 1, 0]), .loop 89 (c84.code.at [1, 1, 0, 1, 0]).lv (c84.code.at [1, 1, 0, 1, 0, 0]) 1 58 0, .block 0, .seq 89 (c84.code.at [1, 1, 1])]
def kxas6 : MS := .run 87 (.code (c168.code.at [1, 0, 1, 0, 0])) (FM 19 [(0, kxa69), (1, .fn 130 [.ptr 1 0]), (7, .int .i64 33), (8, .int .i64 19)]) ⟨2, [kxa70, .row [kxa33]], 2, 2⟩ [.loop 87 (c168.code.at [1, 0, 1, 0]).lv (c168.code.at [1, 0, 1, 0, 0]) 2 67 2, .block 0, .seq 87 (c168.code.at [1, 1]), kxa71, .seq 88 (c133.code.at [1, 1]), kxa72, .seq 89 (c84.code.at [1, 1, 0, 1, 0, 0, 1, 1, 0, 0, 1, 1, 1]), .block 1, .seq 89 (c84.code.at [1, 1, 0, 1, 0, 0, 1, 1, 1, 0]), .loop 89 (c84.code.at [1, 1, 0, 1, 0]).lv (c84.code.at [1, 1, 0, 1, 0, 0]) 1 55 0, .block 0, .seq 89 (c84.code.at [1, 1, 1])]
def kxas7 : MS := .res .ret (FM 31 [(2, .bool true)]) ⟨1, [.row [kxa33]], 0, 0⟩ []
end Go.Proofs.YtmbccebjkenofaaGreatDoor
