/-
  THE TABLE OF TYPES OF THIS TRANSLATION, WRITTEN BY A PROGRAM OF MINE (mkcfg.py) AND HELD AGAINST THE PROGRAM BY THE KERNEL. Conditions: none.
-/
import Derived.Test.YtfcbamfgejfleaaDoorProg
import Derived.Test.YtfcbamfgejfleaaDoorAbsSolo
import Derived.Test.YtfcbamfgejfleaaDoorAbsTree
namespace Go.Proofs.YtfcbamfgejfleaaDoor
open Go.Ab
set_option maxRecDepth 100000

def tE0 : TI := ⟨0, 0, [], .other⟩
def tE1 : TI := ⟨1, 8, [.nilf], .func⟩
def tE2 : TI := ⟨1, 8, [.int .i64 0], .int .i64⟩
def tE3 : TI := ⟨1, 8, [.int .i64 0], .int .i64⟩
def tE4 : TI := ⟨1, 1, [.bool false], .bool⟩
def tE5 : TI := ⟨1, 1, [.int .u8 0], .int .u8⟩
def tE6 : TI := ⟨0, 0, [], .other⟩
def tE7 : TI := ⟨0, 0, [], .other⟩
def tE8 : TI := ⟨0, 0, [], .other⟩
def tE9 : TI := ⟨1, 16, [.str .empty], .str⟩
def tE10 : TI := ⟨0, 0, [], .other⟩
def tE11 : TI := ⟨0, 0, [], .other⟩
def tE12 : TI := ⟨1, 8, [.int .u64 0], .int .u64⟩
def tE13 : TI := ⟨0, 0, [], .other⟩
def tE14 : TI := ⟨0, 0, [], .other⟩
def tE15 : TI := ⟨0, 0, [], .other⟩
def tE16 : TI := ⟨0, 0, [], .other⟩
def tE17 : TI := ⟨0, 0, [], .other⟩
def tE18 : TI := ⟨0, 0, [], .other⟩
def tE19 : TI := ⟨0, 0, [], .other⟩
def tE20 : TI := ⟨1, 16, [.nili], .iface⟩
def tE21 : TI := ⟨1, 4, [.int .i32 0], .int .i32⟩
def tE22 : TI := ⟨1, 8, [.nilf], .func⟩
def tE23 : TI := ⟨1, 24, [.nils], .slice 30⟩
def tE24 : TI := ⟨3, 40, [.int .i64 0, .bool false, .nils], .strct [(0, 3), (1, 4), (2, 23)] false⟩
def tE25 : TI := ⟨3, 40, [.int .i64 0, .bool false, .nils], .strct [(0, 3), (1, 4), (2, 23)] false⟩
def tE26 : TI := ⟨1, 24, [.nils], .slice 25⟩
def tE27 : TI := ⟨5, 56, [.int .i64 0, .int .i64 0, .int .i64 0, .int .i64 0, .nils], .strct [(0, 3), (1, 3), (2, 3), (3, 3), (4, 26)] false⟩
def tE28 : TI := ⟨5, 56, [.int .i64 0, .int .i64 0, .int .i64 0, .int .i64 0, .nils], .strct [(0, 3), (1, 3), (2, 3), (3, 3), (4, 26)] false⟩
def tE29 : TI := ⟨2, 16, [.int .i64 0, .int .i64 0], .strct [(0, 3), (1, 3)] true⟩
def tE30 : TI := ⟨2, 16, [.int .i64 0, .int .i64 0], .strct [(0, 3), (1, 3)] true⟩
def tE31 : TI := ⟨1, 8, [.nilf], .func⟩
def tE32 : TI := ⟨1, 8, [.nilf], .func⟩
def tE33 : TI := ⟨1, 8, [.nilf], .func⟩
def tE34 : TI := ⟨1, 24, [.nils], .slice 3⟩
def tE35 : TI := ⟨1, 24, [.nils], .slice 83⟩
def tE36 : TI := ⟨1, 24, [.nils], .slice 104⟩
def tE37 : TI := ⟨4, 80, [.nils, .nils, .nils, .int .i64 0], .strct [(0, 34), (1, 35), (2, 36), (3, 3)] false⟩
def tE38 : TI := ⟨4, 80, [.nils, .nils, .nils, .int .i64 0], .strct [(0, 34), (1, 35), (2, 36), (3, 3)] false⟩
def tE39 : TI := ⟨1, 24, [.nils], .slice 108⟩
def tE40 : TI := ⟨1, 24, [.nils], .slice 34⟩
def tE41 : TI := ⟨3, 72, [.nils, .nils, .nils], .strct [(0, 39), (1, 40), (2, 34)] false⟩
def tE42 : TI := ⟨3, 72, [.nils, .nils, .nils], .strct [(0, 39), (1, 40), (2, 34)] false⟩
def tE43 : TI := ⟨0, 0, [], .other⟩
def tE44 : TI := ⟨1, 8, [.nilf], .func⟩
def tE45 : TI := ⟨1, 8, [.int .u64 0], .int .u64⟩
def tE46 : TI := ⟨1, 24, [.nils], .slice 55⟩
def tE47 : TI := ⟨1, 8, [.int .i64 0], .int .i64⟩
def tE48 : TI := ⟨0, 0, [], .other⟩
def tE49 : TI := ⟨1, 8, [.nilf], .func⟩
def tE50 : TI := ⟨1, 8, [.nilf], .func⟩
def tE51 : TI := ⟨1, 8, [.nilf], .func⟩
def tE52 : TI := ⟨0, 0, [], .other⟩
def tE53 : TI := ⟨1, 8, [.nilf], .func⟩
def tE54 : TI := ⟨3, 24, [.int .i64 0, .int .i64 0, .int .i64 0], .strct [(0, 3), (1, 3), (2, 3)] true⟩
def tE55 : TI := ⟨3, 24, [.int .i64 0, .int .i64 0, .int .i64 0], .strct [(0, 3), (1, 3), (2, 3)] true⟩
def tE56 : TI := ⟨1, 24, [.nils], .slice 80⟩
def tE57 : TI := ⟨1, 24, [.nils], .slice 89⟩
def tE58 : TI := ⟨3, 72, [.nils, .nils, .nils], .strct [(0, 56), (1, 35), (2, 57)] false⟩
def tE59 : TI := ⟨3, 72, [.nils, .nils, .nils], .strct [(0, 56), (1, 35), (2, 57)] false⟩
def tE60 : TI := ⟨0, 0, [], .other⟩
def tE61 : TI := ⟨1, 8, [.nilf], .func⟩
def tE62 : TI := ⟨1, 24, [.nils], .slice 5⟩
def tE63 : TI := ⟨0, 0, [], .other⟩
def tE64 : TI := ⟨1, 8, [.nilf], .func⟩
def tE65 : TI := ⟨0, 0, [], .other⟩
def tE66 : TI := ⟨1, 8, [.nilf], .func⟩
def tE67 : TI := ⟨8, 176, [.nils, .nils, .nils, .int .i64 0, .nils, .nils, .nils, .nils], .strct [(0, 38), (4, 42), (7, 26)] false⟩
def tE68 : TI := ⟨8, 176, [.nils, .nils, .nils, .int .i64 0, .nils, .nils, .nils, .nils], .strct [(0, 38), (4, 42), (7, 26)] false⟩
def tE69 : TI := ⟨1, 8, [.nilf], .func⟩
def tE70 : TI := ⟨1, 8, [.nilf], .func⟩
def tE71 : TI := ⟨1, 24, [.nils], .slice 93⟩
def tE72 : TI := ⟨0, 0, [], .other⟩
def tE73 : TI := ⟨1, 8, [.nilf], .func⟩
def tE74 : TI := ⟨1, 8, [.nilp], .ptr 76⟩
def tE75 : TI := ⟨6, 64, [.nils, .int .i64 0, .int .i64 0, .int .i64 0, .int .i64 0, .int .i64 0], .strct [(0, 71), (1, 3), (2, 3), (3, 47), (4, 3), (5, 3)] false⟩
def tE76 : TI := ⟨6, 64, [.nils, .int .i64 0, .int .i64 0, .int .i64 0, .int .i64 0, .int .i64 0], .strct [(0, 71), (1, 3), (2, 3), (3, 47), (4, 3), (5, 3)] false⟩
def tE77 : TI := ⟨1, 8, [.nilf], .func⟩
def tE78 : TI := ⟨1, 8, [.nilf], .func⟩
def tE79 : TI := ⟨2, 24, [.str .empty, .int .i64 0], .strct [(0, 9), (1, 3)] true⟩
def tE80 : TI := ⟨2, 24, [.str .empty, .int .i64 0], .strct [(0, 9), (1, 3)] true⟩
def tE81 : TI := ⟨1, 8, [.nilf], .func⟩
def tE82 : TI := ⟨3, 32, [.str .empty, .bool false, .int .i64 0], .strct [(0, 9), (1, 4), (2, 3)] true⟩
def tE83 : TI := ⟨3, 32, [.str .empty, .bool false, .int .i64 0], .strct [(0, 9), (1, 4), (2, 3)] true⟩
def tE84 : TI := ⟨1, 8, [.nilf], .func⟩
def tE85 : TI := ⟨1, 8, [.nilf], .func⟩
def tE86 : TI := ⟨1, 24, [.nils], .slice 133⟩
def tE87 : TI := ⟨1, 24, [.nils], .slice 138⟩
def tE88 : TI := ⟨3, 64, [.str .empty, .nils, .nils], .strct [(0, 9), (1, 86), (2, 87)] false⟩
def tE89 : TI := ⟨3, 64, [.str .empty, .nils, .nils], .strct [(0, 9), (1, 86), (2, 87)] false⟩
def tE90 : TI := ⟨1, 8, [.nilf], .func⟩
def tE91 : TI := ⟨1, 8, [.nilf], .func⟩
def tE92 : TI := ⟨4, 40, [.int .i64 0, .str .empty, .int .i64 0, .int .i64 0], .strct [(0, 3), (1, 9), (2, 3), (3, 3)] true⟩
def tE93 : TI := ⟨4, 40, [.int .i64 0, .str .empty, .int .i64 0, .int .i64 0], .strct [(0, 3), (1, 9), (2, 3), (3, 3)] true⟩
def tE94 : TI := ⟨1, 8, [.nilf], .func⟩
def tE95 : TI := ⟨1, 24, [.nils], .slice 99⟩
def tE96 : TI := ⟨0, 0, [], .other⟩
def tE97 : TI := ⟨1, 8, [.nilf], .func⟩
def tE98 : TI := ⟨3, 32, [.str .empty, .int .i64 0, .int .i64 0], .strct [(0, 9), (1, 3), (2, 3)] true⟩
def tE99 : TI := ⟨3, 32, [.str .empty, .int .i64 0, .int .i64 0], .strct [(0, 9), (1, 3), (2, 3)] true⟩
def tE100 : TI := ⟨0, 0, [], .other⟩
def tE101 : TI := ⟨1, 8, [.nilf], .func⟩
def tE102 : TI := ⟨1, 24, [.nils], .slice 119⟩
def tE103 : TI := ⟨5, 64, [.str .empty, .int .i64 0, .int .i64 0, .int .i64 0, .nils], .strct [(0, 9), (1, 3), (2, 3), (3, 3), (4, 102)] false⟩
def tE104 : TI := ⟨5, 64, [.str .empty, .int .i64 0, .int .i64 0, .int .i64 0, .nils], .strct [(0, 9), (1, 3), (2, 3), (3, 3), (4, 102)] false⟩
def tE105 : TI := ⟨0, 0, [], .other⟩
def tE106 : TI := ⟨1, 8, [.nilf], .func⟩
def tE107 : TI := ⟨2, 32, [.int .i64 0, .nils], .strct [(0, 3), (1, 34)] false⟩
def tE108 : TI := ⟨2, 32, [.int .i64 0, .nils], .strct [(0, 3), (1, 34)] false⟩
def tE109 : TI := ⟨0, 0, [], .other⟩
def tE110 : TI := ⟨1, 8, [.nilf], .func⟩
def tE111 : TI := ⟨1, 8, [.nilf], .func⟩
def tE112 : TI := ⟨1, 24, [.nils], .slice 114⟩
def tE113 : TI := ⟨4, 56, [.int .i64 0, .int .i64 0, .str .empty, .nils], .strct [(0, 3), (1, 3), (2, 9), (3, 112)] false⟩
def tE114 : TI := ⟨4, 56, [.int .i64 0, .int .i64 0, .str .empty, .nils], .strct [(0, 3), (1, 3), (2, 9), (3, 112)] false⟩
def tE115 : TI := ⟨3, 40, [.bool false, .int .i64 0, .nils], .strct [(0, 4), (1, 3), (2, 112)] false⟩
def tE116 : TI := ⟨3, 40, [.bool false, .int .i64 0, .nils], .strct [(0, 4), (1, 3), (2, 112)] false⟩
def tE117 : TI := ⟨1, 24, [.nils], .slice 116⟩
def tE118 : TI := ⟨12, 168, [.int .i64 0, .int .i64 0, .bool false, .int .i64 0, .int .i64 0, .str .empty, .nils, .bool false, .int .i64 0, .nils, .nils, .nils], .strct [(0, 3), (1, 3), (2, 4), (3, 114), (7, 116), (10, 112), (11, 117)] false⟩
def tE119 : TI := ⟨12, 168, [.int .i64 0, .int .i64 0, .bool false, .int .i64 0, .int .i64 0, .str .empty, .nils, .bool false, .int .i64 0, .nils, .nils, .nils], .strct [(0, 3), (1, 3), (2, 4), (3, 114), (7, 116), (10, 112), (11, 117)] false⟩
def tE120 : TI := ⟨1, 8, [.nilf], .func⟩
def tE121 : TI := ⟨1, 8, [.nilf], .func⟩
def tE122 : TI := ⟨1, 8, [.nilf], .func⟩
def tE123 : TI := ⟨1, 8, [.nilf], .func⟩
def tE124 : TI := ⟨1, 8, [.nilf], .func⟩
def tE125 : TI := ⟨1, 8, [.nilf], .func⟩
def tE126 : TI := ⟨1, 8, [.nilf], .func⟩
def tE127 : TI := ⟨1, 8, [.nilf], .func⟩
def tE128 : TI := ⟨1, 8, [.nilf], .func⟩
def tE129 : TI := ⟨1, 8, [.nilf], .func⟩
def tE130 : TI := ⟨1, 8, [.nilf], .func⟩
def tE131 : TI := ⟨1, 8, [.nilf], .func⟩
def tE132 : TI := ⟨2, 24, [.str .empty, .bool false], .strct [(0, 9), (1, 4)] true⟩
def tE133 : TI := ⟨2, 24, [.str .empty, .bool false], .strct [(0, 9), (1, 4)] true⟩
def tE134 : TI := ⟨2, 40, [.str .empty, .nils], .strct [(0, 9), (1, 112)] false⟩
def tE135 : TI := ⟨2, 40, [.str .empty, .nils], .strct [(0, 9), (1, 112)] false⟩
def tE136 : TI := ⟨1, 24, [.nils], .slice 168⟩
def tE137 : TI := ⟨11, 192, [.int .i64 0, .str .empty, .int .i64 0, .int .i64 0, .str .empty, .nils, .str .empty, .nils, .nils, .nils, .nils], .strct [(0, 3), (1, 9), (2, 114), (6, 135), (8, 136), (9, 87), (10, 87)] false⟩
def tE138 : TI := ⟨11, 192, [.int .i64 0, .str .empty, .int .i64 0, .int .i64 0, .str .empty, .nils, .str .empty, .nils, .nils, .nils, .nils], .strct [(0, 3), (1, 9), (2, 114), (6, 135), (8, 136), (9, 87), (10, 87)] false⟩
def tE139 : TI := ⟨1, 8, [.nilf], .func⟩
def tE140 : TI := ⟨1, 8, [.nilf], .func⟩
def tE141 : TI := ⟨1, 8, [.nilf], .func⟩
def tE142 : TI := ⟨1, 8, [.nilp], .ptr 144⟩
def tE143 : TI := ⟨10, 176, [.nils, .nils, .nils, .nils, .int .i64 0, .int .i64 0, .int .i64 0, .int .i64 0, .nils, .nils], .strct [(0, 59), (3, 95), (4, 3), (5, 3), (6, 3), (7, 47), (8, 102), (9, 34)] false⟩
def tE144 : TI := ⟨10, 176, [.nils, .nils, .nils, .nils, .int .i64 0, .int .i64 0, .int .i64 0, .int .i64 0, .nils, .nils], .strct [(0, 59), (3, 95), (4, 3), (5, 3), (6, 3), (7, 47), (8, 102), (9, 34)] false⟩
def tE145 : TI := ⟨1, 8, [.nilf], .func⟩
def tE146 : TI := ⟨1, 8, [.nilf], .func⟩
def tE147 : TI := ⟨1, 8, [.nilf], .func⟩
def tE148 : TI := ⟨1, 8, [.nilf], .func⟩
def tE149 : TI := ⟨1, 8, [.nilf], .func⟩
def tE150 : TI := ⟨9, 9, [.bool false, .bool false, .bool false, .bool false, .bool false, .bool false, .bool false, .bool false, .bool false], .arr 9 4⟩
def tE151 : TI := ⟨1, 16, [.nili], .iface⟩
def tE152 : TI := ⟨1, 16, [.nili], .iface⟩
def tE153 : TI := ⟨1, 8, [.nilf], .func⟩
def tE154 : TI := ⟨1, 8, [.nilf], .func⟩
def tE155 : TI := ⟨1, 8, [.nilf], .func⟩
def tE156 : TI := ⟨1, 8, [.nilf], .func⟩
def tE157 : TI := ⟨3, 24, [.int .i64 0, .int .i64 0, .int .i64 0], .arr 3 3⟩
def tE158 : TI := ⟨3, 24, [.int .i64 0, .int .i64 0, .int .i64 0], .arr 3 3⟩
def tE159 : TI := ⟨1, 8, [.nilf], .func⟩
def tE160 : TI := ⟨1, 8, [.nilf], .func⟩
def tE161 : TI := ⟨1, 24, [.nils], .slice 9⟩
def tE162 : TI := ⟨1, 8, [.nilf], .func⟩
def tE163 : TI := ⟨1, 8, [.nilf], .func⟩
def tE164 : TI := ⟨1, 8, [.nilf], .func⟩
def tE165 : TI := ⟨1, 8, [.nilf], .func⟩
def tE166 : TI := ⟨1, 8, [.nilf], .func⟩
def tE167 : TI := ⟨7, 104, [.bool false, .str .empty, .nils, .int .i64 0, .int .i64 0, .str .empty, .nils], .strct [(0, 4), (1, 135), (3, 114)] false⟩
def tE168 : TI := ⟨7, 104, [.bool false, .str .empty, .nils, .int .i64 0, .int .i64 0, .str .empty, .nils], .strct [(0, 4), (1, 135), (3, 114)] false⟩
def tE169 : TI := ⟨1, 8, [.nilf], .func⟩
def tE170 : TI := ⟨1, 8, [.nilf], .func⟩
def tE171 : TI := ⟨1, 8, [.nilf], .func⟩
def tE172 : TI := ⟨1, 8, [.nilf], .func⟩
def tE173 : TI := ⟨1, 8, [.nilf], .func⟩
def tE174 : TI := ⟨1, 8, [.nilf], .func⟩
def tE175 : TI := ⟨1, 8, [.nilf], .func⟩
def tE176 : TI := ⟨0, 0, [], .strct [] true⟩
def tE177 : TI := ⟨0, 0, [], .strct [] true⟩
def tE178 : TI := ⟨1, 8, [.int .i64 0], .strct [(0, 3)] true⟩
def tE179 : TI := ⟨1, 8, [.int .i64 0], .strct [(0, 3)] true⟩
def tE180 : TI := ⟨1, 8, [.int .i64 0], .strct [(0, 3)] true⟩
def tE181 : TI := ⟨0, 0, [], .strct [] true⟩
def tE182 : TI := ⟨1, 8, [.nilf], .func⟩
def tE183 : TI := ⟨1, 8, [.nilf], .func⟩
def tE184 : TI := ⟨0, 0, [], .other⟩
def tE185 : TI := ⟨1, 8, [.nilf], .func⟩
def tE186 : TI := ⟨1, 8, [.nilf], .func⟩
def tE187 : TI := ⟨1, 8, [.nilf], .func⟩
def tE188 : TI := ⟨1, 8, [.int .u64 0], .int .u64⟩
def tE189 : TI := ⟨1, 8, [.nilf], .func⟩
def tE190 : TI := ⟨1, 8, [.nilf], .func⟩
def tE191 : TI := ⟨1, 8, [.nilf], .func⟩
def tE192 : TI := ⟨1, 8, [.nilf], .func⟩
def tE193 : TI := ⟨1, 8, [.nilf], .func⟩
def tE194 : TI := ⟨0, 0, [], .other⟩
def tE195 : TI := ⟨0, 0, [], .other⟩
def tE196 : TI := ⟨0, 0, [], .other⟩
def tE197 : TI := ⟨0, 0, [], .other⟩
def tE198 : TI := ⟨0, 0, [], .other⟩
def tE199 : TI := ⟨1, 8, [.nilf], .func⟩
def tE200 : TI := ⟨1, 4, [.int .u32 0], .int .u32⟩
def tE201 : TI := ⟨0, 0, [], .other⟩
def tE202 : TI := ⟨0, 0, [], .other⟩
def tE203 : TI := ⟨0, 0, [], .other⟩
def tE204 : TI := ⟨1, 8, [.nilp], .ptr 5⟩
def tE205 : TI := ⟨0, 0, [], .other⟩
def tE206 : TI := ⟨0, 0, [], .other⟩
def tE207 : TI := ⟨0, 0, [], .other⟩
def tE208 : TI := ⟨0, 0, [], .other⟩
def tE209 : TI := ⟨0, 0, [], .other⟩
def tiT : Tr TI := .nd (.nd (.nd (.nd (.nd (.nd (.nd (.nd (.lf tE0) (.lf tE128)) (.nd (.lf tE64) (.lf tE192))) (.nd (.nd (.lf tE32) (.lf tE160)) (.nd (.lf tE96) (.lf default)))) (.nd (.nd (.nd (.lf tE16) (.lf tE144)) (.nd (.lf tE80) (.lf tE208))) (.nd (.nd (.lf tE48) (.lf tE176)) (.nd (.lf tE112) (.lf default))))) (.nd (.nd (.nd (.nd (.lf tE8) (.lf tE136)) (.nd (.lf tE72) (.lf tE200))) (.nd (.nd (.lf tE40) (.lf tE168)) (.nd (.lf tE104) (.lf default)))) (.nd (.nd (.nd (.lf tE24) (.lf tE152)) (.nd (.lf tE88) (.lf default))) (.nd (.nd (.lf tE56) (.lf tE184)) (.nd (.lf tE120) (.lf default)))))) (.nd (.nd (.nd (.nd (.nd (.lf tE4) (.lf tE132)) (.nd (.lf tE68) (.lf tE196))) (.nd (.nd (.lf tE36) (.lf tE164)) (.nd (.lf tE100) (.lf default)))) (.nd (.nd (.nd (.lf tE20) (.lf tE148)) (.nd (.lf tE84) (.lf default))) (.nd (.nd (.lf tE52) (.lf tE180)) (.nd (.lf tE116) (.lf default))))) (.nd (.nd (.nd (.nd (.lf tE12) (.lf tE140)) (.nd (.lf tE76) (.lf tE204))) (.nd (.nd (.lf tE44) (.lf tE172)) (.nd (.lf tE108) (.lf default)))) (.nd (.nd (.nd (.lf tE28) (.lf tE156)) (.nd (.lf tE92) (.lf default))) (.nd (.nd (.lf tE60) (.lf tE188)) (.nd (.lf tE124) (.lf default))))))) (.nd (.nd (.nd (.nd (.nd (.nd (.lf tE2) (.lf tE130)) (.nd (.lf tE66) (.lf tE194))) (.nd (.nd (.lf tE34) (.lf tE162)) (.nd (.lf tE98) (.lf default)))) (.nd (.nd (.nd (.lf tE18) (.lf tE146)) (.nd (.lf tE82) (.lf default))) (.nd (.nd (.lf tE50) (.lf tE178)) (.nd (.lf tE114) (.lf default))))) (.nd (.nd (.nd (.nd (.lf tE10) (.lf tE138)) (.nd (.lf tE74) (.lf tE202))) (.nd (.nd (.lf tE42) (.lf tE170)) (.nd (.lf tE106) (.lf default)))) (.nd (.nd (.nd (.lf tE26) (.lf tE154)) (.nd (.lf tE90) (.lf default))) (.nd (.nd (.lf tE58) (.lf tE186)) (.nd (.lf tE122) (.lf default)))))) (.nd (.nd (.nd (.nd (.nd (.lf tE6) (.lf tE134)) (.nd (.lf tE70) (.lf tE198))) (.nd (.nd (.lf tE38) (.lf tE166)) (.nd (.lf tE102) (.lf default)))) (.nd (.nd (.nd (.lf tE22) (.lf tE150)) (.nd (.lf tE86) (.lf default))) (.nd (.nd (.lf tE54) (.lf tE182)) (.nd (.lf tE118) (.lf default))))) (.nd (.nd (.nd (.nd (.lf tE14) (.lf tE142)) (.nd (.lf tE78) (.lf tE206))) (.nd (.nd (.lf tE46) (.lf tE174)) (.nd (.lf tE110) (.lf default)))) (.nd (.nd (.nd (.lf tE30) (.lf tE158)) (.nd (.lf tE94) (.lf default))) (.nd (.nd (.lf tE62) (.lf tE190)) (.nd (.lf tE126) (.lf default)))))))) (.nd (.nd (.nd (.nd (.nd (.nd (.nd (.lf tE1) (.lf tE129)) (.nd (.lf tE65) (.lf tE193))) (.nd (.nd (.lf tE33) (.lf tE161)) (.nd (.lf tE97) (.lf default)))) (.nd (.nd (.nd (.lf tE17) (.lf tE145)) (.nd (.lf tE81) (.lf tE209))) (.nd (.nd (.lf tE49) (.lf tE177)) (.nd (.lf tE113) (.lf default))))) (.nd (.nd (.nd (.nd (.lf tE9) (.lf tE137)) (.nd (.lf tE73) (.lf tE201))) (.nd (.nd (.lf tE41) (.lf tE169)) (.nd (.lf tE105) (.lf default)))) (.nd (.nd (.nd (.lf tE25) (.lf tE153)) (.nd (.lf tE89) (.lf default))) (.nd (.nd (.lf tE57) (.lf tE185)) (.nd (.lf tE121) (.lf default)))))) (.nd (.nd (.nd (.nd (.nd (.lf tE5) (.lf tE133)) (.nd (.lf tE69) (.lf tE197))) (.nd (.nd (.lf tE37) (.lf tE165)) (.nd (.lf tE101) (.lf default)))) (.nd (.nd (.nd (.lf tE21) (.lf tE149)) (.nd (.lf tE85) (.lf default))) (.nd (.nd (.lf tE53) (.lf tE181)) (.nd (.lf tE117) (.lf default))))) (.nd (.nd (.nd (.nd (.lf tE13) (.lf tE141)) (.nd (.lf tE77) (.lf tE205))) (.nd (.nd (.lf tE45) (.lf tE173)) (.nd (.lf tE109) (.lf default)))) (.nd (.nd (.nd (.lf tE29) (.lf tE157)) (.nd (.lf tE93) (.lf default))) (.nd (.nd (.lf tE61) (.lf tE189)) (.nd (.lf tE125) (.lf default))))))) (.nd (.nd (.nd (.nd (.nd (.nd (.lf tE3) (.lf tE131)) (.nd (.lf tE67) (.lf tE195))) (.nd (.nd (.lf tE35) (.lf tE163)) (.nd (.lf tE99) (.lf default)))) (.nd (.nd (.nd (.lf tE19) (.lf tE147)) (.nd (.lf tE83) (.lf default))) (.nd (.nd (.lf tE51) (.lf tE179)) (.nd (.lf tE115) (.lf default))))) (.nd (.nd (.nd (.nd (.lf tE11) (.lf tE139)) (.nd (.lf tE75) (.lf tE203))) (.nd (.nd (.lf tE43) (.lf tE171)) (.nd (.lf tE107) (.lf default)))) (.nd (.nd (.nd (.lf tE27) (.lf tE155)) (.nd (.lf tE91) (.lf default))) (.nd (.nd (.lf tE59) (.lf tE187)) (.nd (.lf tE123) (.lf default)))))) (.nd (.nd (.nd (.nd (.nd (.lf tE7) (.lf tE135)) (.nd (.lf tE71) (.lf tE199))) (.nd (.nd (.lf tE39) (.lf tE167)) (.nd (.lf tE103) (.lf default)))) (.nd (.nd (.nd (.lf tE23) (.lf tE151)) (.nd (.lf tE87) (.lf default))) (.nd (.nd (.lf tE55) (.lf tE183)) (.nd (.lf tE119) (.lf default))))) (.nd (.nd (.nd (.nd (.lf tE15) (.lf tE143)) (.nd (.lf tE79) (.lf tE207))) (.nd (.nd (.lf tE47) (.lf tE175)) (.nd (.lf tE111) (.lf default)))) (.nd (.nd (.nd (.lf tE31) (.lf tE159)) (.nd (.lf tE95) (.lf default))) (.nd (.nd (.lf tE63) (.lf tE191)) (.nd (.lf tE127) (.lf default))))))))

noncomputable def fnT : Tr (Option Func) := .nd (.nd (.nd (.nd (.nd (.nd (.nd (.lf none) (.lf (some Tryd.f64))) (.nd (.lf (some Tryd.f32)) (.lf none))) (.nd (.nd (.lf (some Tryd.f16)) (.lf (some Tryd.f80))) (.nd (.lf (some Tryd.f48)) (.lf none)))) (.nd (.nd (.nd (.lf (some Tryd.f8)) (.lf (some Tryd.f72))) (.nd (.lf (some Tryd.f40)) (.lf none))) (.nd (.nd (.lf (some Tryd.f24)) (.lf (some Tryd.f88))) (.nd (.lf (some Tryd.f56)) (.lf none))))) (.nd (.nd (.nd (.nd (.lf (some Tryd.f4)) (.lf (some Tryd.f68))) (.nd (.lf (some Tryd.f36)) (.lf none))) (.nd (.nd (.lf (some Tryd.f20)) (.lf (some Tryd.f84))) (.nd (.lf (some Tryd.f52)) (.lf (some Tryd.f116))))) (.nd (.nd (.nd (.lf (some Tryd.f12)) (.lf (some Tryd.f76))) (.nd (.lf (some Tryd.f44)) (.lf (some Tryd.f108)))) (.nd (.nd (.lf (some Tryd.f28)) (.lf (some Tryd.f92))) (.nd (.lf (some Tryd.f60)) (.lf none)))))) (.nd (.nd (.nd (.nd (.nd (.lf (some Tryd.f2)) (.lf (some Tryd.f66))) (.nd (.lf (some Tryd.f34)) (.lf none))) (.nd (.nd (.lf (some Tryd.f18)) (.lf (some Tryd.f82))) (.nd (.lf (some Tryd.f50)) (.lf none)))) (.nd (.nd (.nd (.lf (some Tryd.f10)) (.lf (some Tryd.f74))) (.nd (.lf (some Tryd.f42)) (.lf none))) (.nd (.nd (.lf (some Tryd.f26)) (.lf (some Tryd.f90))) (.nd (.lf (some Tryd.f58)) (.lf none))))) (.nd (.nd (.nd (.nd (.lf (some Tryd.f6)) (.lf (some Tryd.f70))) (.nd (.lf (some Tryd.f38)) (.lf none))) (.nd (.nd (.lf (some Tryd.f22)) (.lf (some Tryd.f86))) (.nd (.lf (some Tryd.f54)) (.lf none)))) (.nd (.nd (.nd (.lf (some Tryd.f14)) (.lf (some Tryd.f78))) (.nd (.lf (some Tryd.f46)) (.lf (some Tryd.f110)))) (.nd (.nd (.lf (some Tryd.f30)) (.lf none)) (.nd (.lf (some Tryd.f62)) (.lf none))))))) (.nd (.nd (.nd (.nd (.nd (.nd (.lf none) (.lf (some Tryd.f65))) (.nd (.lf (some Tryd.f33)) (.lf none))) (.nd (.nd (.lf (some Tryd.f17)) (.lf (some Tryd.f81))) (.nd (.lf (some Tryd.f49)) (.lf none)))) (.nd (.nd (.nd (.lf (some Tryd.f9)) (.lf (some Tryd.f73))) (.nd (.lf (some Tryd.f41)) (.lf none))) (.nd (.nd (.lf (some Tryd.f25)) (.lf (some Tryd.f89))) (.nd (.lf (some Tryd.f57)) (.lf none))))) (.nd (.nd (.nd (.nd (.lf (some Tryd.f5)) (.lf (some Tryd.f69))) (.nd (.lf (some Tryd.f37)) (.lf none))) (.nd (.nd (.lf (some Tryd.f21)) (.lf (some Tryd.f85))) (.nd (.lf (some Tryd.f53)) (.lf none)))) (.nd (.nd (.nd (.lf (some Tryd.f13)) (.lf (some Tryd.f77))) (.nd (.lf (some Tryd.f45)) (.lf (some Tryd.f109)))) (.nd (.nd (.lf (some Tryd.f29)) (.lf none)) (.nd (.lf (some Tryd.f61)) (.lf none)))))) (.nd (.nd (.nd (.nd (.nd (.lf (some Tryd.f3)) (.lf (some Tryd.f67))) (.nd (.lf (some Tryd.f35)) (.lf none))) (.nd (.nd (.lf (some Tryd.f19)) (.lf (some Tryd.f83))) (.nd (.lf (some Tryd.f51)) (.lf none)))) (.nd (.nd (.nd (.lf (some Tryd.f11)) (.lf (some Tryd.f75))) (.nd (.lf (some Tryd.f43)) (.lf none))) (.nd (.nd (.lf (some Tryd.f27)) (.lf (some Tryd.f91))) (.nd (.lf (some Tryd.f59)) (.lf none))))) (.nd (.nd (.nd (.nd (.lf (some Tryd.f7)) (.lf (some Tryd.f71))) (.nd (.lf (some Tryd.f39)) (.lf none))) (.nd (.nd (.lf (some Tryd.f23)) (.lf (some Tryd.f87))) (.nd (.lf (some Tryd.f55)) (.lf none)))) (.nd (.nd (.nd (.lf (some Tryd.f15)) (.lf (some Tryd.f79))) (.nd (.lf (some Tryd.f47)) (.lf (some Tryd.f111)))) (.nd (.nd (.lf (some Tryd.f31)) (.lf none)) (.nd (.lf (some Tryd.f63)) (.lf none)))))))

def methTab : List (TypeId × String × FuncId) := [(177, "lockorder/flow.next", 108), (179, "lockorder/flow.next", 109), (180, "lockorder/flow.next", 110), (181, "lockorder/flow.next", 111)]
theorem methOk : methTab.all (checkM Tryd.prog) = true := by kernel_rfl
noncomputable def cfg : Cfg := { ti := tiT.at default 210, glob := fun g => match Nat.beq g 0 with | true => .cptr [.bool false, .bool false, .bool true, .bool false, .bool false, .bool false, .bool false, .bool false, .bool false] 0 | false => .any, fns := fnT.at none 117, meth := fun t n => lookM methTab t n, keep := fun _ => false, virt := fun _ => [] }

theorem tisOk : (List.range 210).all (fun t => checkU Tryd.prog cfg t && checkI Tryd.prog cfg t) = true := by kernel_rfl
theorem mixedOk : Tryd.prog.follows .mixedOrders = true := by kernel_rfl
theorem fnsAt : ∀ f, f < 117 → (match fnT.get f with
    | some fn => Tryd.prog.funcs[f]? = some fn
    | none => True) := by
  intro f hf
  match f, hf with
  | 0, _ => exact trivial
  | 1, _ => exact trivial
  | 2, _ => exact Tryd.func2
  | 3, _ => exact Tryd.func3
  | 4, _ => exact Tryd.func4
  | 5, _ => exact Tryd.func5
  | 6, _ => exact Tryd.func6
  | 7, _ => exact Tryd.func7
  | 8, _ => exact Tryd.func8
  | 9, _ => exact Tryd.func9
  | 10, _ => exact Tryd.func10
  | 11, _ => exact Tryd.func11
  | 12, _ => exact Tryd.func12
  | 13, _ => exact Tryd.func13
  | 14, _ => exact Tryd.func14
  | 15, _ => exact Tryd.func15
  | 16, _ => exact Tryd.func16
  | 17, _ => exact Tryd.func17
  | 18, _ => exact Tryd.func18
  | 19, _ => exact Tryd.func19
  | 20, _ => exact Tryd.func20
  | 21, _ => exact Tryd.func21
  | 22, _ => exact Tryd.func22
  | 23, _ => exact Tryd.func23
  | 24, _ => exact Tryd.func24
  | 25, _ => exact Tryd.func25
  | 26, _ => exact Tryd.func26
  | 27, _ => exact Tryd.func27
  | 28, _ => exact Tryd.func28
  | 29, _ => exact Tryd.func29
  | 30, _ => exact Tryd.func30
  | 31, _ => exact Tryd.func31
  | 32, _ => exact Tryd.func32
  | 33, _ => exact Tryd.func33
  | 34, _ => exact Tryd.func34
  | 35, _ => exact Tryd.func35
  | 36, _ => exact Tryd.func36
  | 37, _ => exact Tryd.func37
  | 38, _ => exact Tryd.func38
  | 39, _ => exact Tryd.func39
  | 40, _ => exact Tryd.func40
  | 41, _ => exact Tryd.func41
  | 42, _ => exact Tryd.func42
  | 43, _ => exact Tryd.func43
  | 44, _ => exact Tryd.func44
  | 45, _ => exact Tryd.func45
  | 46, _ => exact Tryd.func46
  | 47, _ => exact Tryd.func47
  | 48, _ => exact Tryd.func48
  | 49, _ => exact Tryd.func49
  | 50, _ => exact Tryd.func50
  | 51, _ => exact Tryd.func51
  | 52, _ => exact Tryd.func52
  | 53, _ => exact Tryd.func53
  | 54, _ => exact Tryd.func54
  | 55, _ => exact Tryd.func55
  | 56, _ => exact Tryd.func56
  | 57, _ => exact Tryd.func57
  | 58, _ => exact Tryd.func58
  | 59, _ => exact Tryd.func59
  | 60, _ => exact Tryd.func60
  | 61, _ => exact Tryd.func61
  | 62, _ => exact Tryd.func62
  | 63, _ => exact Tryd.func63
  | 64, _ => exact Tryd.func64
  | 65, _ => exact Tryd.func65
  | 66, _ => exact Tryd.func66
  | 67, _ => exact Tryd.func67
  | 68, _ => exact Tryd.func68
  | 69, _ => exact Tryd.func69
  | 70, _ => exact Tryd.func70
  | 71, _ => exact Tryd.func71
  | 72, _ => exact Tryd.func72
  | 73, _ => exact Tryd.func73
  | 74, _ => exact Tryd.func74
  | 75, _ => exact Tryd.func75
  | 76, _ => exact Tryd.func76
  | 77, _ => exact Tryd.func77
  | 78, _ => exact Tryd.func78
  | 79, _ => exact Tryd.func79
  | 80, _ => exact Tryd.func80
  | 81, _ => exact Tryd.func81
  | 82, _ => exact Tryd.func82
  | 83, _ => exact Tryd.func83
  | 84, _ => exact Tryd.func84
  | 85, _ => exact Tryd.func85
  | 86, _ => exact Tryd.func86
  | 87, _ => exact Tryd.func87
  | 88, _ => exact Tryd.func88
  | 89, _ => exact Tryd.func89
  | 90, _ => exact Tryd.func90
  | 91, _ => exact Tryd.func91
  | 92, _ => exact Tryd.func92
  | 93, _ => exact trivial
  | 94, _ => exact trivial
  | 95, _ => exact trivial
  | 96, _ => exact trivial
  | 97, _ => exact trivial
  | 98, _ => exact trivial
  | 99, _ => exact trivial
  | 100, _ => exact trivial
  | 101, _ => exact trivial
  | 102, _ => exact trivial
  | 103, _ => exact trivial
  | 104, _ => exact trivial
  | 105, _ => exact trivial
  | 106, _ => exact trivial
  | 107, _ => exact trivial
  | 108, _ => exact Tryd.func108
  | 109, _ => exact Tryd.func109
  | 110, _ => exact Tryd.func110
  | 111, _ => exact Tryd.func111
  | 112, _ => exact trivial
  | 113, _ => exact trivial
  | 114, _ => exact trivial
  | 115, _ => exact trivial
  | 116, _ => exact Tryd.func116
  | n + 117, h => omega
theorem fnsOk : ∀ f, f < 117 → ∀ fn, fnT.get f = some fn → Tryd.prog.funcs[f]? = some fn ∧ (fn.name == "runtime.NumGoroutine") = false := by
  have key : ((List.range 117).all fun f => (fnT.get f).all fun fn => !(fn.name == "runtime.NumGoroutine")) = true := by kernel_rfl
  intro f hf fn h
  refine ⟨?_, ?_⟩
  · have hk := fnsAt f hf
    rw [h] at hk
    exact hk
  · have := List.all_eq_true.1 key f (List.mem_range.2 hf)
    rw [h] at this
    simpa using this
theorem good : Ab.Good Tryd.prog cfg := good_tree tisOk rfl rfl fnsOk (fun t name f h v w => meth_of methOk t name f h v w) mixedOk
theorem virtNone (t : TypeId) : cfg.virt t = [] := rfl
theorem globOk : cfg.glob = fun g => match Nat.beq g 0 with | true => .cptr [.bool false, .bool false, .bool true, .bool false, .bool false, .bool false, .bool false, .bool false, .bool false] 0 | false => .any := rfl
theorem ut1 : cfg.ut 1 = .func := rfl
theorem sz1 : cfg.sz 1 = 1 := rfl
theorem ti1 : cfg.ti 1 = ⟨1, 8, [.nilf], .func⟩ := rfl
theorem ut2 : cfg.ut 2 = .int .i64 := rfl
theorem sz2 : cfg.sz 2 = 1 := rfl
theorem ti2 : cfg.ti 2 = ⟨1, 8, [.int .i64 0], .int .i64⟩ := rfl
theorem ut3 : cfg.ut 3 = .int .i64 := rfl
theorem sz3 : cfg.sz 3 = 1 := rfl
theorem ti3 : cfg.ti 3 = ⟨1, 8, [.int .i64 0], .int .i64⟩ := rfl
theorem ut4 : cfg.ut 4 = .bool := rfl
theorem sz4 : cfg.sz 4 = 1 := rfl
theorem ti4 : cfg.ti 4 = ⟨1, 1, [.bool false], .bool⟩ := rfl
theorem ut5 : cfg.ut 5 = .int .u8 := rfl
theorem sz5 : cfg.sz 5 = 1 := rfl
theorem ti5 : cfg.ti 5 = ⟨1, 1, [.int .u8 0], .int .u8⟩ := rfl
theorem ut9 : cfg.ut 9 = .str := rfl
theorem sz9 : cfg.sz 9 = 1 := rfl
theorem ti9 : cfg.ti 9 = ⟨1, 16, [.str .empty], .str⟩ := rfl
theorem ut12 : cfg.ut 12 = .int .u64 := rfl
theorem sz12 : cfg.sz 12 = 1 := rfl
theorem ti12 : cfg.ti 12 = ⟨1, 8, [.int .u64 0], .int .u64⟩ := rfl
theorem ut20 : cfg.ut 20 = .iface := rfl
theorem sz20 : cfg.sz 20 = 1 := rfl
theorem ti20 : cfg.ti 20 = ⟨1, 16, [.nili], .iface⟩ := rfl
theorem ut21 : cfg.ut 21 = .int .i32 := rfl
theorem sz21 : cfg.sz 21 = 1 := rfl
theorem ti21 : cfg.ti 21 = ⟨1, 4, [.int .i32 0], .int .i32⟩ := rfl
theorem ut22 : cfg.ut 22 = .func := rfl
theorem sz22 : cfg.sz 22 = 1 := rfl
theorem ti22 : cfg.ti 22 = ⟨1, 8, [.nilf], .func⟩ := rfl
theorem ut23 : cfg.ut 23 = .slice 30 := rfl
theorem sz23 : cfg.sz 23 = 1 := rfl
theorem ti23 : cfg.ti 23 = ⟨1, 24, [.nils], .slice 30⟩ := rfl
theorem ut24 : cfg.ut 24 = .strct [(0, 3), (1, 4), (2, 23)] false := rfl
theorem sz24 : cfg.sz 24 = 3 := rfl
theorem ti24 : cfg.ti 24 = ⟨3, 40, [.int .i64 0, .bool false, .nils], .strct [(0, 3), (1, 4), (2, 23)] false⟩ := rfl
theorem ut25 : cfg.ut 25 = .strct [(0, 3), (1, 4), (2, 23)] false := rfl
theorem sz25 : cfg.sz 25 = 3 := rfl
theorem ti25 : cfg.ti 25 = ⟨3, 40, [.int .i64 0, .bool false, .nils], .strct [(0, 3), (1, 4), (2, 23)] false⟩ := rfl
theorem ut26 : cfg.ut 26 = .slice 25 := rfl
theorem sz26 : cfg.sz 26 = 1 := rfl
theorem ti26 : cfg.ti 26 = ⟨1, 24, [.nils], .slice 25⟩ := rfl
theorem ut27 : cfg.ut 27 = .strct [(0, 3), (1, 3), (2, 3), (3, 3), (4, 26)] false := rfl
theorem sz27 : cfg.sz 27 = 5 := rfl
theorem ti27 : cfg.ti 27 = ⟨5, 56, [.int .i64 0, .int .i64 0, .int .i64 0, .int .i64 0, .nils], .strct [(0, 3), (1, 3), (2, 3), (3, 3), (4, 26)] false⟩ := rfl
theorem ut28 : cfg.ut 28 = .strct [(0, 3), (1, 3), (2, 3), (3, 3), (4, 26)] false := rfl
theorem sz28 : cfg.sz 28 = 5 := rfl
theorem ti28 : cfg.ti 28 = ⟨5, 56, [.int .i64 0, .int .i64 0, .int .i64 0, .int .i64 0, .nils], .strct [(0, 3), (1, 3), (2, 3), (3, 3), (4, 26)] false⟩ := rfl
theorem ut29 : cfg.ut 29 = .strct [(0, 3), (1, 3)] true := rfl
theorem sz29 : cfg.sz 29 = 2 := rfl
theorem ti29 : cfg.ti 29 = ⟨2, 16, [.int .i64 0, .int .i64 0], .strct [(0, 3), (1, 3)] true⟩ := rfl
theorem ut30 : cfg.ut 30 = .strct [(0, 3), (1, 3)] true := rfl
theorem sz30 : cfg.sz 30 = 2 := rfl
theorem ti30 : cfg.ti 30 = ⟨2, 16, [.int .i64 0, .int .i64 0], .strct [(0, 3), (1, 3)] true⟩ := rfl
theorem ut31 : cfg.ut 31 = .func := rfl
theorem sz31 : cfg.sz 31 = 1 := rfl
theorem ti31 : cfg.ti 31 = ⟨1, 8, [.nilf], .func⟩ := rfl
theorem ut32 : cfg.ut 32 = .func := rfl
theorem sz32 : cfg.sz 32 = 1 := rfl
theorem ti32 : cfg.ti 32 = ⟨1, 8, [.nilf], .func⟩ := rfl
theorem ut33 : cfg.ut 33 = .func := rfl
theorem sz33 : cfg.sz 33 = 1 := rfl
theorem ti33 : cfg.ti 33 = ⟨1, 8, [.nilf], .func⟩ := rfl
theorem ut34 : cfg.ut 34 = .slice 3 := rfl
theorem sz34 : cfg.sz 34 = 1 := rfl
theorem ti34 : cfg.ti 34 = ⟨1, 24, [.nils], .slice 3⟩ := rfl
theorem ut35 : cfg.ut 35 = .slice 83 := rfl
theorem sz35 : cfg.sz 35 = 1 := rfl
theorem ti35 : cfg.ti 35 = ⟨1, 24, [.nils], .slice 83⟩ := rfl
theorem ut36 : cfg.ut 36 = .slice 104 := rfl
theorem sz36 : cfg.sz 36 = 1 := rfl
theorem ti36 : cfg.ti 36 = ⟨1, 24, [.nils], .slice 104⟩ := rfl
theorem ut37 : cfg.ut 37 = .strct [(0, 34), (1, 35), (2, 36), (3, 3)] false := rfl
theorem sz37 : cfg.sz 37 = 4 := rfl
theorem ti37 : cfg.ti 37 = ⟨4, 80, [.nils, .nils, .nils, .int .i64 0], .strct [(0, 34), (1, 35), (2, 36), (3, 3)] false⟩ := rfl
theorem ut38 : cfg.ut 38 = .strct [(0, 34), (1, 35), (2, 36), (3, 3)] false := rfl
theorem sz38 : cfg.sz 38 = 4 := rfl
theorem ti38 : cfg.ti 38 = ⟨4, 80, [.nils, .nils, .nils, .int .i64 0], .strct [(0, 34), (1, 35), (2, 36), (3, 3)] false⟩ := rfl
theorem ut39 : cfg.ut 39 = .slice 108 := rfl
theorem sz39 : cfg.sz 39 = 1 := rfl
theorem ti39 : cfg.ti 39 = ⟨1, 24, [.nils], .slice 108⟩ := rfl
theorem ut40 : cfg.ut 40 = .slice 34 := rfl
theorem sz40 : cfg.sz 40 = 1 := rfl
theorem ti40 : cfg.ti 40 = ⟨1, 24, [.nils], .slice 34⟩ := rfl
theorem ut41 : cfg.ut 41 = .strct [(0, 39), (1, 40), (2, 34)] false := rfl
theorem sz41 : cfg.sz 41 = 3 := rfl
theorem ti41 : cfg.ti 41 = ⟨3, 72, [.nils, .nils, .nils], .strct [(0, 39), (1, 40), (2, 34)] false⟩ := rfl
theorem ut42 : cfg.ut 42 = .strct [(0, 39), (1, 40), (2, 34)] false := rfl
theorem sz42 : cfg.sz 42 = 3 := rfl
theorem ti42 : cfg.ti 42 = ⟨3, 72, [.nils, .nils, .nils], .strct [(0, 39), (1, 40), (2, 34)] false⟩ := rfl
theorem ut44 : cfg.ut 44 = .func := rfl
theorem sz44 : cfg.sz 44 = 1 := rfl
theorem ti44 : cfg.ti 44 = ⟨1, 8, [.nilf], .func⟩ := rfl
theorem ut45 : cfg.ut 45 = .int .u64 := rfl
theorem sz45 : cfg.sz 45 = 1 := rfl
theorem ti45 : cfg.ti 45 = ⟨1, 8, [.int .u64 0], .int .u64⟩ := rfl
theorem ut46 : cfg.ut 46 = .slice 55 := rfl
theorem sz46 : cfg.sz 46 = 1 := rfl
theorem ti46 : cfg.ti 46 = ⟨1, 24, [.nils], .slice 55⟩ := rfl
theorem ut47 : cfg.ut 47 = .int .i64 := rfl
theorem sz47 : cfg.sz 47 = 1 := rfl
theorem ti47 : cfg.ti 47 = ⟨1, 8, [.int .i64 0], .int .i64⟩ := rfl
theorem ut49 : cfg.ut 49 = .func := rfl
theorem sz49 : cfg.sz 49 = 1 := rfl
theorem ti49 : cfg.ti 49 = ⟨1, 8, [.nilf], .func⟩ := rfl
theorem ut50 : cfg.ut 50 = .func := rfl
theorem sz50 : cfg.sz 50 = 1 := rfl
theorem ti50 : cfg.ti 50 = ⟨1, 8, [.nilf], .func⟩ := rfl
theorem ut51 : cfg.ut 51 = .func := rfl
theorem sz51 : cfg.sz 51 = 1 := rfl
theorem ti51 : cfg.ti 51 = ⟨1, 8, [.nilf], .func⟩ := rfl
theorem ut53 : cfg.ut 53 = .func := rfl
theorem sz53 : cfg.sz 53 = 1 := rfl
theorem ti53 : cfg.ti 53 = ⟨1, 8, [.nilf], .func⟩ := rfl
theorem ut54 : cfg.ut 54 = .strct [(0, 3), (1, 3), (2, 3)] true := rfl
theorem sz54 : cfg.sz 54 = 3 := rfl
theorem ti54 : cfg.ti 54 = ⟨3, 24, [.int .i64 0, .int .i64 0, .int .i64 0], .strct [(0, 3), (1, 3), (2, 3)] true⟩ := rfl
theorem ut55 : cfg.ut 55 = .strct [(0, 3), (1, 3), (2, 3)] true := rfl
theorem sz55 : cfg.sz 55 = 3 := rfl
theorem ti55 : cfg.ti 55 = ⟨3, 24, [.int .i64 0, .int .i64 0, .int .i64 0], .strct [(0, 3), (1, 3), (2, 3)] true⟩ := rfl
theorem ut56 : cfg.ut 56 = .slice 80 := rfl
theorem sz56 : cfg.sz 56 = 1 := rfl
theorem ti56 : cfg.ti 56 = ⟨1, 24, [.nils], .slice 80⟩ := rfl
theorem ut57 : cfg.ut 57 = .slice 89 := rfl
theorem sz57 : cfg.sz 57 = 1 := rfl
theorem ti57 : cfg.ti 57 = ⟨1, 24, [.nils], .slice 89⟩ := rfl
theorem ut58 : cfg.ut 58 = .strct [(0, 56), (1, 35), (2, 57)] false := rfl
theorem sz58 : cfg.sz 58 = 3 := rfl
theorem ti58 : cfg.ti 58 = ⟨3, 72, [.nils, .nils, .nils], .strct [(0, 56), (1, 35), (2, 57)] false⟩ := rfl
theorem ut59 : cfg.ut 59 = .strct [(0, 56), (1, 35), (2, 57)] false := rfl
theorem sz59 : cfg.sz 59 = 3 := rfl
theorem ti59 : cfg.ti 59 = ⟨3, 72, [.nils, .nils, .nils], .strct [(0, 56), (1, 35), (2, 57)] false⟩ := rfl
theorem ut61 : cfg.ut 61 = .func := rfl
theorem sz61 : cfg.sz 61 = 1 := rfl
theorem ti61 : cfg.ti 61 = ⟨1, 8, [.nilf], .func⟩ := rfl
theorem ut62 : cfg.ut 62 = .slice 5 := rfl
theorem sz62 : cfg.sz 62 = 1 := rfl
theorem ti62 : cfg.ti 62 = ⟨1, 24, [.nils], .slice 5⟩ := rfl
theorem ut64 : cfg.ut 64 = .func := rfl
theorem sz64 : cfg.sz 64 = 1 := rfl
theorem ti64 : cfg.ti 64 = ⟨1, 8, [.nilf], .func⟩ := rfl
theorem ut66 : cfg.ut 66 = .func := rfl
theorem sz66 : cfg.sz 66 = 1 := rfl
theorem ti66 : cfg.ti 66 = ⟨1, 8, [.nilf], .func⟩ := rfl
theorem ut67 : cfg.ut 67 = .strct [(0, 38), (4, 42), (7, 26)] false := rfl
theorem sz67 : cfg.sz 67 = 8 := rfl
theorem ti67 : cfg.ti 67 = ⟨8, 176, [.nils, .nils, .nils, .int .i64 0, .nils, .nils, .nils, .nils], .strct [(0, 38), (4, 42), (7, 26)] false⟩ := rfl
theorem ut68 : cfg.ut 68 = .strct [(0, 38), (4, 42), (7, 26)] false := rfl
theorem sz68 : cfg.sz 68 = 8 := rfl
theorem ti68 : cfg.ti 68 = ⟨8, 176, [.nils, .nils, .nils, .int .i64 0, .nils, .nils, .nils, .nils], .strct [(0, 38), (4, 42), (7, 26)] false⟩ := rfl
theorem ut69 : cfg.ut 69 = .func := rfl
theorem sz69 : cfg.sz 69 = 1 := rfl
theorem ti69 : cfg.ti 69 = ⟨1, 8, [.nilf], .func⟩ := rfl
theorem ut70 : cfg.ut 70 = .func := rfl
theorem sz70 : cfg.sz 70 = 1 := rfl
theorem ti70 : cfg.ti 70 = ⟨1, 8, [.nilf], .func⟩ := rfl
theorem ut71 : cfg.ut 71 = .slice 93 := rfl
theorem sz71 : cfg.sz 71 = 1 := rfl
theorem ti71 : cfg.ti 71 = ⟨1, 24, [.nils], .slice 93⟩ := rfl
theorem ut73 : cfg.ut 73 = .func := rfl
theorem sz73 : cfg.sz 73 = 1 := rfl
theorem ti73 : cfg.ti 73 = ⟨1, 8, [.nilf], .func⟩ := rfl
theorem ut74 : cfg.ut 74 = .ptr 76 := rfl
theorem sz74 : cfg.sz 74 = 1 := rfl
theorem ti74 : cfg.ti 74 = ⟨1, 8, [.nilp], .ptr 76⟩ := rfl
theorem ut75 : cfg.ut 75 = .strct [(0, 71), (1, 3), (2, 3), (3, 47), (4, 3), (5, 3)] false := rfl
theorem sz75 : cfg.sz 75 = 6 := rfl
theorem ti75 : cfg.ti 75 = ⟨6, 64, [.nils, .int .i64 0, .int .i64 0, .int .i64 0, .int .i64 0, .int .i64 0], .strct [(0, 71), (1, 3), (2, 3), (3, 47), (4, 3), (5, 3)] false⟩ := rfl
theorem ut76 : cfg.ut 76 = .strct [(0, 71), (1, 3), (2, 3), (3, 47), (4, 3), (5, 3)] false := rfl
theorem sz76 : cfg.sz 76 = 6 := rfl
theorem ti76 : cfg.ti 76 = ⟨6, 64, [.nils, .int .i64 0, .int .i64 0, .int .i64 0, .int .i64 0, .int .i64 0], .strct [(0, 71), (1, 3), (2, 3), (3, 47), (4, 3), (5, 3)] false⟩ := rfl
theorem ut77 : cfg.ut 77 = .func := rfl
theorem sz77 : cfg.sz 77 = 1 := rfl
theorem ti77 : cfg.ti 77 = ⟨1, 8, [.nilf], .func⟩ := rfl
theorem ut78 : cfg.ut 78 = .func := rfl
theorem sz78 : cfg.sz 78 = 1 := rfl
theorem ti78 : cfg.ti 78 = ⟨1, 8, [.nilf], .func⟩ := rfl
theorem ut79 : cfg.ut 79 = .strct [(0, 9), (1, 3)] true := rfl
theorem sz79 : cfg.sz 79 = 2 := rfl
theorem ti79 : cfg.ti 79 = ⟨2, 24, [.str .empty, .int .i64 0], .strct [(0, 9), (1, 3)] true⟩ := rfl
theorem ut80 : cfg.ut 80 = .strct [(0, 9), (1, 3)] true := rfl
theorem sz80 : cfg.sz 80 = 2 := rfl
theorem ti80 : cfg.ti 80 = ⟨2, 24, [.str .empty, .int .i64 0], .strct [(0, 9), (1, 3)] true⟩ := rfl
theorem ut81 : cfg.ut 81 = .func := rfl
theorem sz81 : cfg.sz 81 = 1 := rfl
theorem ti81 : cfg.ti 81 = ⟨1, 8, [.nilf], .func⟩ := rfl
theorem ut82 : cfg.ut 82 = .strct [(0, 9), (1, 4), (2, 3)] true := rfl
theorem sz82 : cfg.sz 82 = 3 := rfl
theorem ti82 : cfg.ti 82 = ⟨3, 32, [.str .empty, .bool false, .int .i64 0], .strct [(0, 9), (1, 4), (2, 3)] true⟩ := rfl
theorem ut83 : cfg.ut 83 = .strct [(0, 9), (1, 4), (2, 3)] true := rfl
theorem sz83 : cfg.sz 83 = 3 := rfl
theorem ti83 : cfg.ti 83 = ⟨3, 32, [.str .empty, .bool false, .int .i64 0], .strct [(0, 9), (1, 4), (2, 3)] true⟩ := rfl
theorem ut84 : cfg.ut 84 = .func := rfl
theorem sz84 : cfg.sz 84 = 1 := rfl
theorem ti84 : cfg.ti 84 = ⟨1, 8, [.nilf], .func⟩ := rfl
theorem ut85 : cfg.ut 85 = .func := rfl
theorem sz85 : cfg.sz 85 = 1 := rfl
theorem ti85 : cfg.ti 85 = ⟨1, 8, [.nilf], .func⟩ := rfl
theorem ut86 : cfg.ut 86 = .slice 133 := rfl
theorem sz86 : cfg.sz 86 = 1 := rfl
theorem ti86 : cfg.ti 86 = ⟨1, 24, [.nils], .slice 133⟩ := rfl
theorem ut87 : cfg.ut 87 = .slice 138 := rfl
theorem sz87 : cfg.sz 87 = 1 := rfl
theorem ti87 : cfg.ti 87 = ⟨1, 24, [.nils], .slice 138⟩ := rfl
theorem ut88 : cfg.ut 88 = .strct [(0, 9), (1, 86), (2, 87)] false := rfl
theorem sz88 : cfg.sz 88 = 3 := rfl
theorem ti88 : cfg.ti 88 = ⟨3, 64, [.str .empty, .nils, .nils], .strct [(0, 9), (1, 86), (2, 87)] false⟩ := rfl
theorem ut89 : cfg.ut 89 = .strct [(0, 9), (1, 86), (2, 87)] false := rfl
theorem sz89 : cfg.sz 89 = 3 := rfl
theorem ti89 : cfg.ti 89 = ⟨3, 64, [.str .empty, .nils, .nils], .strct [(0, 9), (1, 86), (2, 87)] false⟩ := rfl
theorem ut90 : cfg.ut 90 = .func := rfl
theorem sz90 : cfg.sz 90 = 1 := rfl
theorem ti90 : cfg.ti 90 = ⟨1, 8, [.nilf], .func⟩ := rfl
theorem ut91 : cfg.ut 91 = .func := rfl
theorem sz91 : cfg.sz 91 = 1 := rfl
theorem ti91 : cfg.ti 91 = ⟨1, 8, [.nilf], .func⟩ := rfl
theorem ut92 : cfg.ut 92 = .strct [(0, 3), (1, 9), (2, 3), (3, 3)] true := rfl
theorem sz92 : cfg.sz 92 = 4 := rfl
theorem ti92 : cfg.ti 92 = ⟨4, 40, [.int .i64 0, .str .empty, .int .i64 0, .int .i64 0], .strct [(0, 3), (1, 9), (2, 3), (3, 3)] true⟩ := rfl
theorem ut93 : cfg.ut 93 = .strct [(0, 3), (1, 9), (2, 3), (3, 3)] true := rfl
theorem sz93 : cfg.sz 93 = 4 := rfl
theorem ti93 : cfg.ti 93 = ⟨4, 40, [.int .i64 0, .str .empty, .int .i64 0, .int .i64 0], .strct [(0, 3), (1, 9), (2, 3), (3, 3)] true⟩ := rfl
theorem ut94 : cfg.ut 94 = .func := rfl
theorem sz94 : cfg.sz 94 = 1 := rfl
theorem ti94 : cfg.ti 94 = ⟨1, 8, [.nilf], .func⟩ := rfl
theorem ut95 : cfg.ut 95 = .slice 99 := rfl
theorem sz95 : cfg.sz 95 = 1 := rfl
theorem ti95 : cfg.ti 95 = ⟨1, 24, [.nils], .slice 99⟩ := rfl
theorem ut97 : cfg.ut 97 = .func := rfl
theorem sz97 : cfg.sz 97 = 1 := rfl
theorem ti97 : cfg.ti 97 = ⟨1, 8, [.nilf], .func⟩ := rfl
theorem ut98 : cfg.ut 98 = .strct [(0, 9), (1, 3), (2, 3)] true := rfl
theorem sz98 : cfg.sz 98 = 3 := rfl
theorem ti98 : cfg.ti 98 = ⟨3, 32, [.str .empty, .int .i64 0, .int .i64 0], .strct [(0, 9), (1, 3), (2, 3)] true⟩ := rfl
theorem ut99 : cfg.ut 99 = .strct [(0, 9), (1, 3), (2, 3)] true := rfl
theorem sz99 : cfg.sz 99 = 3 := rfl
theorem ti99 : cfg.ti 99 = ⟨3, 32, [.str .empty, .int .i64 0, .int .i64 0], .strct [(0, 9), (1, 3), (2, 3)] true⟩ := rfl
theorem ut101 : cfg.ut 101 = .func := rfl
theorem sz101 : cfg.sz 101 = 1 := rfl
theorem ti101 : cfg.ti 101 = ⟨1, 8, [.nilf], .func⟩ := rfl
theorem ut102 : cfg.ut 102 = .slice 119 := rfl
theorem sz102 : cfg.sz 102 = 1 := rfl
theorem ti102 : cfg.ti 102 = ⟨1, 24, [.nils], .slice 119⟩ := rfl
theorem ut103 : cfg.ut 103 = .strct [(0, 9), (1, 3), (2, 3), (3, 3), (4, 102)] false := rfl
theorem sz103 : cfg.sz 103 = 5 := rfl
theorem ti103 : cfg.ti 103 = ⟨5, 64, [.str .empty, .int .i64 0, .int .i64 0, .int .i64 0, .nils], .strct [(0, 9), (1, 3), (2, 3), (3, 3), (4, 102)] false⟩ := rfl
theorem ut104 : cfg.ut 104 = .strct [(0, 9), (1, 3), (2, 3), (3, 3), (4, 102)] false := rfl
theorem sz104 : cfg.sz 104 = 5 := rfl
theorem ti104 : cfg.ti 104 = ⟨5, 64, [.str .empty, .int .i64 0, .int .i64 0, .int .i64 0, .nils], .strct [(0, 9), (1, 3), (2, 3), (3, 3), (4, 102)] false⟩ := rfl
theorem ut106 : cfg.ut 106 = .func := rfl
theorem sz106 : cfg.sz 106 = 1 := rfl
theorem ti106 : cfg.ti 106 = ⟨1, 8, [.nilf], .func⟩ := rfl
theorem ut107 : cfg.ut 107 = .strct [(0, 3), (1, 34)] false := rfl
theorem sz107 : cfg.sz 107 = 2 := rfl
theorem ti107 : cfg.ti 107 = ⟨2, 32, [.int .i64 0, .nils], .strct [(0, 3), (1, 34)] false⟩ := rfl
theorem ut108 : cfg.ut 108 = .strct [(0, 3), (1, 34)] false := rfl
theorem sz108 : cfg.sz 108 = 2 := rfl
theorem ti108 : cfg.ti 108 = ⟨2, 32, [.int .i64 0, .nils], .strct [(0, 3), (1, 34)] false⟩ := rfl
theorem ut110 : cfg.ut 110 = .func := rfl
theorem sz110 : cfg.sz 110 = 1 := rfl
theorem ti110 : cfg.ti 110 = ⟨1, 8, [.nilf], .func⟩ := rfl
theorem ut111 : cfg.ut 111 = .func := rfl
theorem sz111 : cfg.sz 111 = 1 := rfl
theorem ti111 : cfg.ti 111 = ⟨1, 8, [.nilf], .func⟩ := rfl
theorem ut112 : cfg.ut 112 = .slice 114 := rfl
theorem sz112 : cfg.sz 112 = 1 := rfl
theorem ti112 : cfg.ti 112 = ⟨1, 24, [.nils], .slice 114⟩ := rfl
theorem ut113 : cfg.ut 113 = .strct [(0, 3), (1, 3), (2, 9), (3, 112)] false := rfl
theorem sz113 : cfg.sz 113 = 4 := rfl
theorem ti113 : cfg.ti 113 = ⟨4, 56, [.int .i64 0, .int .i64 0, .str .empty, .nils], .strct [(0, 3), (1, 3), (2, 9), (3, 112)] false⟩ := rfl
theorem ut114 : cfg.ut 114 = .strct [(0, 3), (1, 3), (2, 9), (3, 112)] false := rfl
theorem sz114 : cfg.sz 114 = 4 := rfl
theorem ti114 : cfg.ti 114 = ⟨4, 56, [.int .i64 0, .int .i64 0, .str .empty, .nils], .strct [(0, 3), (1, 3), (2, 9), (3, 112)] false⟩ := rfl
theorem ut115 : cfg.ut 115 = .strct [(0, 4), (1, 3), (2, 112)] false := rfl
theorem sz115 : cfg.sz 115 = 3 := rfl
theorem ti115 : cfg.ti 115 = ⟨3, 40, [.bool false, .int .i64 0, .nils], .strct [(0, 4), (1, 3), (2, 112)] false⟩ := rfl
theorem ut116 : cfg.ut 116 = .strct [(0, 4), (1, 3), (2, 112)] false := rfl
theorem sz116 : cfg.sz 116 = 3 := rfl
theorem ti116 : cfg.ti 116 = ⟨3, 40, [.bool false, .int .i64 0, .nils], .strct [(0, 4), (1, 3), (2, 112)] false⟩ := rfl
theorem ut117 : cfg.ut 117 = .slice 116 := rfl
theorem sz117 : cfg.sz 117 = 1 := rfl
theorem ti117 : cfg.ti 117 = ⟨1, 24, [.nils], .slice 116⟩ := rfl
theorem ut118 : cfg.ut 118 = .strct [(0, 3), (1, 3), (2, 4), (3, 114), (7, 116), (10, 112), (11, 117)] false := rfl
theorem sz118 : cfg.sz 118 = 12 := rfl
theorem ti118 : cfg.ti 118 = ⟨12, 168, [.int .i64 0, .int .i64 0, .bool false, .int .i64 0, .int .i64 0, .str .empty, .nils, .bool false, .int .i64 0, .nils, .nils, .nils], .strct [(0, 3), (1, 3), (2, 4), (3, 114), (7, 116), (10, 112), (11, 117)] false⟩ := rfl
theorem ut119 : cfg.ut 119 = .strct [(0, 3), (1, 3), (2, 4), (3, 114), (7, 116), (10, 112), (11, 117)] false := rfl
theorem sz119 : cfg.sz 119 = 12 := rfl
theorem ti119 : cfg.ti 119 = ⟨12, 168, [.int .i64 0, .int .i64 0, .bool false, .int .i64 0, .int .i64 0, .str .empty, .nils, .bool false, .int .i64 0, .nils, .nils, .nils], .strct [(0, 3), (1, 3), (2, 4), (3, 114), (7, 116), (10, 112), (11, 117)] false⟩ := rfl
theorem ut120 : cfg.ut 120 = .func := rfl
theorem sz120 : cfg.sz 120 = 1 := rfl
theorem ti120 : cfg.ti 120 = ⟨1, 8, [.nilf], .func⟩ := rfl
theorem ut121 : cfg.ut 121 = .func := rfl
theorem sz121 : cfg.sz 121 = 1 := rfl
theorem ti121 : cfg.ti 121 = ⟨1, 8, [.nilf], .func⟩ := rfl
theorem ut122 : cfg.ut 122 = .func := rfl
theorem sz122 : cfg.sz 122 = 1 := rfl
theorem ti122 : cfg.ti 122 = ⟨1, 8, [.nilf], .func⟩ := rfl
theorem ut123 : cfg.ut 123 = .func := rfl
theorem sz123 : cfg.sz 123 = 1 := rfl
theorem ti123 : cfg.ti 123 = ⟨1, 8, [.nilf], .func⟩ := rfl
theorem ut124 : cfg.ut 124 = .func := rfl
theorem sz124 : cfg.sz 124 = 1 := rfl
theorem ti124 : cfg.ti 124 = ⟨1, 8, [.nilf], .func⟩ := rfl
theorem ut125 : cfg.ut 125 = .func := rfl
theorem sz125 : cfg.sz 125 = 1 := rfl
theorem ti125 : cfg.ti 125 = ⟨1, 8, [.nilf], .func⟩ := rfl
theorem ut126 : cfg.ut 126 = .func := rfl
theorem sz126 : cfg.sz 126 = 1 := rfl
theorem ti126 : cfg.ti 126 = ⟨1, 8, [.nilf], .func⟩ := rfl
theorem ut127 : cfg.ut 127 = .func := rfl
theorem sz127 : cfg.sz 127 = 1 := rfl
theorem ti127 : cfg.ti 127 = ⟨1, 8, [.nilf], .func⟩ := rfl
theorem ut128 : cfg.ut 128 = .func := rfl
theorem sz128 : cfg.sz 128 = 1 := rfl
theorem ti128 : cfg.ti 128 = ⟨1, 8, [.nilf], .func⟩ := rfl
theorem ut129 : cfg.ut 129 = .func := rfl
theorem sz129 : cfg.sz 129 = 1 := rfl
theorem ti129 : cfg.ti 129 = ⟨1, 8, [.nilf], .func⟩ := rfl
theorem ut130 : cfg.ut 130 = .func := rfl
theorem sz130 : cfg.sz 130 = 1 := rfl
theorem ti130 : cfg.ti 130 = ⟨1, 8, [.nilf], .func⟩ := rfl
theorem ut131 : cfg.ut 131 = .func := rfl
theorem sz131 : cfg.sz 131 = 1 := rfl
theorem ti131 : cfg.ti 131 = ⟨1, 8, [.nilf], .func⟩ := rfl
theorem ut132 : cfg.ut 132 = .strct [(0, 9), (1, 4)] true := rfl
theorem sz132 : cfg.sz 132 = 2 := rfl
theorem ti132 : cfg.ti 132 = ⟨2, 24, [.str .empty, .bool false], .strct [(0, 9), (1, 4)] true⟩ := rfl
theorem ut133 : cfg.ut 133 = .strct [(0, 9), (1, 4)] true := rfl
theorem sz133 : cfg.sz 133 = 2 := rfl
theorem ti133 : cfg.ti 133 = ⟨2, 24, [.str .empty, .bool false], .strct [(0, 9), (1, 4)] true⟩ := rfl
theorem ut134 : cfg.ut 134 = .strct [(0, 9), (1, 112)] false := rfl
theorem sz134 : cfg.sz 134 = 2 := rfl
theorem ti134 : cfg.ti 134 = ⟨2, 40, [.str .empty, .nils], .strct [(0, 9), (1, 112)] false⟩ := rfl
theorem ut135 : cfg.ut 135 = .strct [(0, 9), (1, 112)] false := rfl
theorem sz135 : cfg.sz 135 = 2 := rfl
theorem ti135 : cfg.ti 135 = ⟨2, 40, [.str .empty, .nils], .strct [(0, 9), (1, 112)] false⟩ := rfl
theorem ut136 : cfg.ut 136 = .slice 168 := rfl
theorem sz136 : cfg.sz 136 = 1 := rfl
theorem ti136 : cfg.ti 136 = ⟨1, 24, [.nils], .slice 168⟩ := rfl
theorem ut137 : cfg.ut 137 = .strct [(0, 3), (1, 9), (2, 114), (6, 135), (8, 136), (9, 87), (10, 87)] false := rfl
theorem sz137 : cfg.sz 137 = 11 := rfl
theorem ti137 : cfg.ti 137 = ⟨11, 192, [.int .i64 0, .str .empty, .int .i64 0, .int .i64 0, .str .empty, .nils, .str .empty, .nils, .nils, .nils, .nils], .strct [(0, 3), (1, 9), (2, 114), (6, 135), (8, 136), (9, 87), (10, 87)] false⟩ := rfl
theorem ut138 : cfg.ut 138 = .strct [(0, 3), (1, 9), (2, 114), (6, 135), (8, 136), (9, 87), (10, 87)] false := rfl
theorem sz138 : cfg.sz 138 = 11 := rfl
theorem ti138 : cfg.ti 138 = ⟨11, 192, [.int .i64 0, .str .empty, .int .i64 0, .int .i64 0, .str .empty, .nils, .str .empty, .nils, .nils, .nils, .nils], .strct [(0, 3), (1, 9), (2, 114), (6, 135), (8, 136), (9, 87), (10, 87)] false⟩ := rfl
theorem ut139 : cfg.ut 139 = .func := rfl
theorem sz139 : cfg.sz 139 = 1 := rfl
theorem ti139 : cfg.ti 139 = ⟨1, 8, [.nilf], .func⟩ := rfl
theorem ut140 : cfg.ut 140 = .func := rfl
theorem sz140 : cfg.sz 140 = 1 := rfl
theorem ti140 : cfg.ti 140 = ⟨1, 8, [.nilf], .func⟩ := rfl
theorem ut141 : cfg.ut 141 = .func := rfl
theorem sz141 : cfg.sz 141 = 1 := rfl
theorem ti141 : cfg.ti 141 = ⟨1, 8, [.nilf], .func⟩ := rfl
theorem ut142 : cfg.ut 142 = .ptr 144 := rfl
theorem sz142 : cfg.sz 142 = 1 := rfl
theorem ti142 : cfg.ti 142 = ⟨1, 8, [.nilp], .ptr 144⟩ := rfl
theorem ut143 : cfg.ut 143 = .strct [(0, 59), (3, 95), (4, 3), (5, 3), (6, 3), (7, 47), (8, 102), (9, 34)] false := rfl
theorem sz143 : cfg.sz 143 = 10 := rfl
theorem ti143 : cfg.ti 143 = ⟨10, 176, [.nils, .nils, .nils, .nils, .int .i64 0, .int .i64 0, .int .i64 0, .int .i64 0, .nils, .nils], .strct [(0, 59), (3, 95), (4, 3), (5, 3), (6, 3), (7, 47), (8, 102), (9, 34)] false⟩ := rfl
theorem ut144 : cfg.ut 144 = .strct [(0, 59), (3, 95), (4, 3), (5, 3), (6, 3), (7, 47), (8, 102), (9, 34)] false := rfl
theorem sz144 : cfg.sz 144 = 10 := rfl
theorem ti144 : cfg.ti 144 = ⟨10, 176, [.nils, .nils, .nils, .nils, .int .i64 0, .int .i64 0, .int .i64 0, .int .i64 0, .nils, .nils], .strct [(0, 59), (3, 95), (4, 3), (5, 3), (6, 3), (7, 47), (8, 102), (9, 34)] false⟩ := rfl
theorem ut145 : cfg.ut 145 = .func := rfl
theorem sz145 : cfg.sz 145 = 1 := rfl
theorem ti145 : cfg.ti 145 = ⟨1, 8, [.nilf], .func⟩ := rfl
theorem ut146 : cfg.ut 146 = .func := rfl
theorem sz146 : cfg.sz 146 = 1 := rfl
theorem ti146 : cfg.ti 146 = ⟨1, 8, [.nilf], .func⟩ := rfl
theorem ut147 : cfg.ut 147 = .func := rfl
theorem sz147 : cfg.sz 147 = 1 := rfl
theorem ti147 : cfg.ti 147 = ⟨1, 8, [.nilf], .func⟩ := rfl
theorem ut148 : cfg.ut 148 = .func := rfl
theorem sz148 : cfg.sz 148 = 1 := rfl
theorem ti148 : cfg.ti 148 = ⟨1, 8, [.nilf], .func⟩ := rfl
theorem ut149 : cfg.ut 149 = .func := rfl
theorem sz149 : cfg.sz 149 = 1 := rfl
theorem ti149 : cfg.ti 149 = ⟨1, 8, [.nilf], .func⟩ := rfl
theorem ut150 : cfg.ut 150 = .arr 9 4 := rfl
theorem sz150 : cfg.sz 150 = 9 := rfl
theorem ti150 : cfg.ti 150 = ⟨9, 9, [.bool false, .bool false, .bool false, .bool false, .bool false, .bool false, .bool false, .bool false, .bool false], .arr 9 4⟩ := rfl
theorem ut151 : cfg.ut 151 = .iface := rfl
theorem sz151 : cfg.sz 151 = 1 := rfl
theorem ti151 : cfg.ti 151 = ⟨1, 16, [.nili], .iface⟩ := rfl
theorem ut152 : cfg.ut 152 = .iface := rfl
theorem sz152 : cfg.sz 152 = 1 := rfl
theorem ti152 : cfg.ti 152 = ⟨1, 16, [.nili], .iface⟩ := rfl
theorem ut153 : cfg.ut 153 = .func := rfl
theorem sz153 : cfg.sz 153 = 1 := rfl
theorem ti153 : cfg.ti 153 = ⟨1, 8, [.nilf], .func⟩ := rfl
theorem ut154 : cfg.ut 154 = .func := rfl
theorem sz154 : cfg.sz 154 = 1 := rfl
theorem ti154 : cfg.ti 154 = ⟨1, 8, [.nilf], .func⟩ := rfl
theorem ut155 : cfg.ut 155 = .func := rfl
theorem sz155 : cfg.sz 155 = 1 := rfl
theorem ti155 : cfg.ti 155 = ⟨1, 8, [.nilf], .func⟩ := rfl
theorem ut156 : cfg.ut 156 = .func := rfl
theorem sz156 : cfg.sz 156 = 1 := rfl
theorem ti156 : cfg.ti 156 = ⟨1, 8, [.nilf], .func⟩ := rfl
theorem ut157 : cfg.ut 157 = .arr 3 3 := rfl
theorem sz157 : cfg.sz 157 = 3 := rfl
theorem ti157 : cfg.ti 157 = ⟨3, 24, [.int .i64 0, .int .i64 0, .int .i64 0], .arr 3 3⟩ := rfl
theorem ut158 : cfg.ut 158 = .arr 3 3 := rfl
theorem sz158 : cfg.sz 158 = 3 := rfl
theorem ti158 : cfg.ti 158 = ⟨3, 24, [.int .i64 0, .int .i64 0, .int .i64 0], .arr 3 3⟩ := rfl
theorem ut159 : cfg.ut 159 = .func := rfl
theorem sz159 : cfg.sz 159 = 1 := rfl
theorem ti159 : cfg.ti 159 = ⟨1, 8, [.nilf], .func⟩ := rfl
theorem ut160 : cfg.ut 160 = .func := rfl
theorem sz160 : cfg.sz 160 = 1 := rfl
theorem ti160 : cfg.ti 160 = ⟨1, 8, [.nilf], .func⟩ := rfl
theorem ut161 : cfg.ut 161 = .slice 9 := rfl
theorem sz161 : cfg.sz 161 = 1 := rfl
theorem ti161 : cfg.ti 161 = ⟨1, 24, [.nils], .slice 9⟩ := rfl
theorem ut162 : cfg.ut 162 = .func := rfl
theorem sz162 : cfg.sz 162 = 1 := rfl
theorem ti162 : cfg.ti 162 = ⟨1, 8, [.nilf], .func⟩ := rfl
theorem ut163 : cfg.ut 163 = .func := rfl
theorem sz163 : cfg.sz 163 = 1 := rfl
theorem ti163 : cfg.ti 163 = ⟨1, 8, [.nilf], .func⟩ := rfl
theorem ut164 : cfg.ut 164 = .func := rfl
theorem sz164 : cfg.sz 164 = 1 := rfl
theorem ti164 : cfg.ti 164 = ⟨1, 8, [.nilf], .func⟩ := rfl
theorem ut165 : cfg.ut 165 = .func := rfl
theorem sz165 : cfg.sz 165 = 1 := rfl
theorem ti165 : cfg.ti 165 = ⟨1, 8, [.nilf], .func⟩ := rfl
theorem ut166 : cfg.ut 166 = .func := rfl
theorem sz166 : cfg.sz 166 = 1 := rfl
theorem ti166 : cfg.ti 166 = ⟨1, 8, [.nilf], .func⟩ := rfl
theorem ut167 : cfg.ut 167 = .strct [(0, 4), (1, 135), (3, 114)] false := rfl
theorem sz167 : cfg.sz 167 = 7 := rfl
theorem ti167 : cfg.ti 167 = ⟨7, 104, [.bool false, .str .empty, .nils, .int .i64 0, .int .i64 0, .str .empty, .nils], .strct [(0, 4), (1, 135), (3, 114)] false⟩ := rfl
theorem ut168 : cfg.ut 168 = .strct [(0, 4), (1, 135), (3, 114)] false := rfl
theorem sz168 : cfg.sz 168 = 7 := rfl
theorem ti168 : cfg.ti 168 = ⟨7, 104, [.bool false, .str .empty, .nils, .int .i64 0, .int .i64 0, .str .empty, .nils], .strct [(0, 4), (1, 135), (3, 114)] false⟩ := rfl
theorem ut169 : cfg.ut 169 = .func := rfl
theorem sz169 : cfg.sz 169 = 1 := rfl
theorem ti169 : cfg.ti 169 = ⟨1, 8, [.nilf], .func⟩ := rfl
theorem ut170 : cfg.ut 170 = .func := rfl
theorem sz170 : cfg.sz 170 = 1 := rfl
theorem ti170 : cfg.ti 170 = ⟨1, 8, [.nilf], .func⟩ := rfl
theorem ut171 : cfg.ut 171 = .func := rfl
theorem sz171 : cfg.sz 171 = 1 := rfl
theorem ti171 : cfg.ti 171 = ⟨1, 8, [.nilf], .func⟩ := rfl
theorem ut172 : cfg.ut 172 = .func := rfl
theorem sz172 : cfg.sz 172 = 1 := rfl
theorem ti172 : cfg.ti 172 = ⟨1, 8, [.nilf], .func⟩ := rfl
theorem ut173 : cfg.ut 173 = .func := rfl
theorem sz173 : cfg.sz 173 = 1 := rfl
theorem ti173 : cfg.ti 173 = ⟨1, 8, [.nilf], .func⟩ := rfl
theorem ut174 : cfg.ut 174 = .func := rfl
theorem sz174 : cfg.sz 174 = 1 := rfl
theorem ti174 : cfg.ti 174 = ⟨1, 8, [.nilf], .func⟩ := rfl
theorem ut175 : cfg.ut 175 = .func := rfl
theorem sz175 : cfg.sz 175 = 1 := rfl
theorem ti175 : cfg.ti 175 = ⟨1, 8, [.nilf], .func⟩ := rfl
theorem ut176 : cfg.ut 176 = .strct [] true := rfl
theorem sz176 : cfg.sz 176 = 0 := rfl
theorem ti176 : cfg.ti 176 = ⟨0, 0, [], .strct [] true⟩ := rfl
theorem ut177 : cfg.ut 177 = .strct [] true := rfl
theorem sz177 : cfg.sz 177 = 0 := rfl
theorem ti177 : cfg.ti 177 = ⟨0, 0, [], .strct [] true⟩ := rfl
theorem ut178 : cfg.ut 178 = .strct [(0, 3)] true := rfl
theorem sz178 : cfg.sz 178 = 1 := rfl
theorem ti178 : cfg.ti 178 = ⟨1, 8, [.int .i64 0], .strct [(0, 3)] true⟩ := rfl
theorem ut179 : cfg.ut 179 = .strct [(0, 3)] true := rfl
theorem sz179 : cfg.sz 179 = 1 := rfl
theorem ti179 : cfg.ti 179 = ⟨1, 8, [.int .i64 0], .strct [(0, 3)] true⟩ := rfl
theorem ut180 : cfg.ut 180 = .strct [(0, 3)] true := rfl
theorem sz180 : cfg.sz 180 = 1 := rfl
theorem ti180 : cfg.ti 180 = ⟨1, 8, [.int .i64 0], .strct [(0, 3)] true⟩ := rfl
theorem ut181 : cfg.ut 181 = .strct [] true := rfl
theorem sz181 : cfg.sz 181 = 0 := rfl
theorem ti181 : cfg.ti 181 = ⟨0, 0, [], .strct [] true⟩ := rfl
theorem ut182 : cfg.ut 182 = .func := rfl
theorem sz182 : cfg.sz 182 = 1 := rfl
theorem ti182 : cfg.ti 182 = ⟨1, 8, [.nilf], .func⟩ := rfl
theorem ut183 : cfg.ut 183 = .func := rfl
theorem sz183 : cfg.sz 183 = 1 := rfl
theorem ti183 : cfg.ti 183 = ⟨1, 8, [.nilf], .func⟩ := rfl
theorem ut185 : cfg.ut 185 = .func := rfl
theorem sz185 : cfg.sz 185 = 1 := rfl
theorem ti185 : cfg.ti 185 = ⟨1, 8, [.nilf], .func⟩ := rfl
theorem ut186 : cfg.ut 186 = .func := rfl
theorem sz186 : cfg.sz 186 = 1 := rfl
theorem ti186 : cfg.ti 186 = ⟨1, 8, [.nilf], .func⟩ := rfl
theorem ut187 : cfg.ut 187 = .func := rfl
theorem sz187 : cfg.sz 187 = 1 := rfl
theorem ti187 : cfg.ti 187 = ⟨1, 8, [.nilf], .func⟩ := rfl
theorem ut188 : cfg.ut 188 = .int .u64 := rfl
theorem sz188 : cfg.sz 188 = 1 := rfl
theorem ti188 : cfg.ti 188 = ⟨1, 8, [.int .u64 0], .int .u64⟩ := rfl
theorem ut189 : cfg.ut 189 = .func := rfl
theorem sz189 : cfg.sz 189 = 1 := rfl
theorem ti189 : cfg.ti 189 = ⟨1, 8, [.nilf], .func⟩ := rfl
theorem ut190 : cfg.ut 190 = .func := rfl
theorem sz190 : cfg.sz 190 = 1 := rfl
theorem ti190 : cfg.ti 190 = ⟨1, 8, [.nilf], .func⟩ := rfl
theorem ut191 : cfg.ut 191 = .func := rfl
theorem sz191 : cfg.sz 191 = 1 := rfl
theorem ti191 : cfg.ti 191 = ⟨1, 8, [.nilf], .func⟩ := rfl
theorem ut192 : cfg.ut 192 = .func := rfl
theorem sz192 : cfg.sz 192 = 1 := rfl
theorem ti192 : cfg.ti 192 = ⟨1, 8, [.nilf], .func⟩ := rfl
theorem ut193 : cfg.ut 193 = .func := rfl
theorem sz193 : cfg.sz 193 = 1 := rfl
theorem ti193 : cfg.ti 193 = ⟨1, 8, [.nilf], .func⟩ := rfl
theorem ut199 : cfg.ut 199 = .func := rfl
theorem sz199 : cfg.sz 199 = 1 := rfl
theorem ti199 : cfg.ti 199 = ⟨1, 8, [.nilf], .func⟩ := rfl
theorem ut200 : cfg.ut 200 = .int .u32 := rfl
theorem sz200 : cfg.sz 200 = 1 := rfl
theorem ti200 : cfg.ti 200 = ⟨1, 4, [.int .u32 0], .int .u32⟩ := rfl
theorem ut204 : cfg.ut 204 = .ptr 5 := rfl
theorem sz204 : cfg.sz 204 = 1 := rfl
theorem ti204 : cfg.ti 204 = ⟨1, 8, [.nilp], .ptr 5⟩ := rfl
theorem hb3 : hasBody cfg 3 = true := by kernel_rfl
theorem fn3 : cfg.fns 3 = some Tryd.f3 := by kernel_rfl
theorem res3 : Tryd.f3.results = #[.tmp 4] := rfl
theorem ntm3 : Tryd.f3.ntmps = 62 := rfl
theorem hb4 : hasBody cfg 4 = true := by kernel_rfl
theorem fn4 : cfg.fns 4 = some Tryd.f4 := by kernel_rfl
theorem res4 : Tryd.f4.results = #[.tmp 2] := rfl
theorem ntm4 : Tryd.f4.ntmps = 64 := rfl
theorem hb5 : hasBody cfg 5 = true := by kernel_rfl
theorem fn5 : cfg.fns 5 = some Tryd.f5 := by kernel_rfl
theorem res5 : Tryd.f5.results = #[.tmp 4] := rfl
theorem ntm5 : Tryd.f5.ntmps = 12 := rfl
theorem hb6 : hasBody cfg 6 = true := by kernel_rfl
theorem fn6 : cfg.fns 6 = some Tryd.f6 := by kernel_rfl
theorem res6 : Tryd.f6.results = #[.tmp 2] := rfl
theorem ntm6 : Tryd.f6.ntmps = 16 := rfl
theorem hb7 : hasBody cfg 7 = true := by kernel_rfl
theorem fn7 : cfg.fns 7 = some Tryd.f7 := by kernel_rfl
theorem res7 : Tryd.f7.results = #[.tmp 0] := rfl
theorem ntm7 : Tryd.f7.ntmps = 65 := rfl
theorem hb8 : hasBody cfg 8 = true := by kernel_rfl
theorem fn8 : cfg.fns 8 = some Tryd.f8 := by kernel_rfl
theorem res8 : Tryd.f8.results = #[.cell 0 38, .cell 1 42, .cell 2 28] := rfl
theorem ntm8 : Tryd.f8.ntmps = 47 := rfl
theorem hb9 : hasBody cfg 9 = true := by kernel_rfl
theorem fn9 : cfg.fns 9 = some Tryd.f9 := by kernel_rfl
theorem res9 : Tryd.f9.results = #[.tmp 6, .tmp 7, .tmp 8] := rfl
theorem ntm9 : Tryd.f9.ntmps = 52 := rfl
theorem hb10 : hasBody cfg 10 = true := by kernel_rfl
theorem fn10 : cfg.fns 10 = some Tryd.f10 := by kernel_rfl
theorem res10 : Tryd.f10.results = #[.tmp 2] := rfl
theorem ntm10 : Tryd.f10.ntmps = 58 := rfl
theorem hb11 : hasBody cfg 11 = true := by kernel_rfl
theorem fn11 : cfg.fns 11 = some Tryd.f11 := by kernel_rfl
theorem res11 : Tryd.f11.results = #[.tmp 4, .tmp 5] := rfl
theorem ntm11 : Tryd.f11.ntmps = 29 := rfl
theorem hb12 : hasBody cfg 12 = true := by kernel_rfl
theorem fn12 : cfg.fns 12 = some Tryd.f12 := by kernel_rfl
theorem res12 : Tryd.f12.results = #[.cell 2 59, .tmp 3, .tmp 4] := rfl
theorem ntm12 : Tryd.f12.ntmps = 146 := rfl
theorem hb13 : hasBody cfg 13 = true := by kernel_rfl
theorem fn13 : cfg.fns 13 = some Tryd.f13 := by kernel_rfl
theorem res13 : Tryd.f13.results = #[.cell 2 38, .tmp 3, .tmp 4, .tmp 5] := rfl
theorem ntm13 : Tryd.f13.ntmps = 112 := rfl
theorem hb14 : hasBody cfg 14 = true := by kernel_rfl
theorem fn14 : cfg.fns 14 = some Tryd.f14 := by kernel_rfl
theorem res14 : Tryd.f14.results = #[.cell 2 42, .tmp 3] := rfl
theorem ntm14 : Tryd.f14.ntmps = 109 := rfl
theorem hb15 : hasBody cfg 15 = true := by kernel_rfl
theorem fn15 : cfg.fns 15 = some Tryd.f15 := by kernel_rfl
theorem res15 : Tryd.f15.results = #[.tmp 4] := rfl
theorem ntm15 : Tryd.f15.ntmps = 110 := rfl
theorem hb16 : hasBody cfg 16 = true := by kernel_rfl
theorem fn16 : cfg.fns 16 = some Tryd.f16 := by kernel_rfl
theorem res16 : Tryd.f16.results = #[.cell 8 55] := rfl
theorem ntm16 : Tryd.f16.ntmps = 54 := rfl
theorem hb17 : hasBody cfg 17 = true := by kernel_rfl
theorem fn17 : cfg.fns 17 = some Tryd.f17 := by kernel_rfl
theorem res17 : Tryd.f17.results = #[.tmp 4] := rfl
theorem ntm17 : Tryd.f17.ntmps = 12 := rfl
theorem hb18 : hasBody cfg 18 = true := by kernel_rfl
theorem fn18 : cfg.fns 18 = some Tryd.f18 := by kernel_rfl
theorem res18 : Tryd.f18.results = #[.tmp 6] := rfl
theorem ntm18 : Tryd.f18.ntmps = 46 := rfl
theorem hb19 : hasBody cfg 19 = true := by kernel_rfl
theorem fn19 : cfg.fns 19 = some Tryd.f19 := by kernel_rfl
theorem res19 : Tryd.f19.results = #[.tmp 2, .tmp 3, .tmp 4] := rfl
theorem ntm19 : Tryd.f19.ntmps = 124 := rfl
theorem hb20 : hasBody cfg 20 = true := by kernel_rfl
theorem fn20 : cfg.fns 20 = some Tryd.f20 := by kernel_rfl
theorem res20 : Tryd.f20.results = #[.tmp 4] := rfl
theorem ntm20 : Tryd.f20.ntmps = 25 := rfl
theorem hb21 : hasBody cfg 21 = true := by kernel_rfl
theorem fn21 : cfg.fns 21 = some Tryd.f21 := by kernel_rfl
theorem res21 : Tryd.f21.results = #[.tmp 4] := rfl
theorem ntm21 : Tryd.f21.ntmps = 37 := rfl
theorem hb22 : hasBody cfg 22 = true := by kernel_rfl
theorem fn22 : cfg.fns 22 = some Tryd.f22 := by kernel_rfl
theorem res22 : Tryd.f22.results = #[] := rfl
theorem ntm22 : Tryd.f22.ntmps = 20 := rfl
theorem hb23 : hasBody cfg 23 = true := by kernel_rfl
theorem fn23 : cfg.fns 23 = some Tryd.f23 := by kernel_rfl
theorem res23 : Tryd.f23.results = #[.tmp 4] := rfl
theorem ntm23 : Tryd.f23.ntmps = 16 := rfl
theorem hb24 : hasBody cfg 24 = true := by kernel_rfl
theorem fn24 : cfg.fns 24 = some Tryd.f24 := by kernel_rfl
theorem res24 : Tryd.f24.results = #[.cell 2 80] := rfl
theorem ntm24 : Tryd.f24.ntmps = 45 := rfl
theorem hb25 : hasBody cfg 25 = true := by kernel_rfl
theorem fn25 : cfg.fns 25 = some Tryd.f25 := by kernel_rfl
theorem res25 : Tryd.f25.results = #[.cell 4 83] := rfl
theorem ntm25 : Tryd.f25.ntmps = 57 := rfl
theorem hb26 : hasBody cfg 26 = true := by kernel_rfl
theorem fn26 : cfg.fns 26 = some Tryd.f26 := by kernel_rfl
theorem res26 : Tryd.f26.results = #[.tmp 2] := rfl
theorem ntm26 : Tryd.f26.ntmps = 27 := rfl
theorem hb27 : hasBody cfg 27 = true := by kernel_rfl
theorem fn27 : cfg.fns 27 = some Tryd.f27 := by kernel_rfl
theorem res27 : Tryd.f27.results = #[.tmp 2] := rfl
theorem ntm27 : Tryd.f27.ntmps = 44 := rfl
theorem hb28 : hasBody cfg 28 = true := by kernel_rfl
theorem fn28 : cfg.fns 28 = some Tryd.f28 := by kernel_rfl
theorem res28 : Tryd.f28.results = #[.tmp 2] := rfl
theorem ntm28 : Tryd.f28.ntmps = 47 := rfl
theorem hb29 : hasBody cfg 29 = true := by kernel_rfl
theorem fn29 : cfg.fns 29 = some Tryd.f29 := by kernel_rfl
theorem res29 : Tryd.f29.results = #[.tmp 2] := rfl
theorem ntm29 : Tryd.f29.ntmps = 140 := rfl
theorem hb30 : hasBody cfg 30 = true := by kernel_rfl
theorem fn30 : cfg.fns 30 = some Tryd.f30 := by kernel_rfl
theorem res30 : Tryd.f30.results = #[.tmp 2, .tmp 3] := rfl
theorem ntm30 : Tryd.f30.ntmps = 94 := rfl
theorem hb31 : hasBody cfg 31 = true := by kernel_rfl
theorem fn31 : cfg.fns 31 = some Tryd.f31 := by kernel_rfl
theorem res31 : Tryd.f31.results = #[.cell 4 99, .tmp 5] := rfl
theorem ntm31 : Tryd.f31.ntmps = 25 := rfl
theorem hb32 : hasBody cfg 32 = true := by kernel_rfl
theorem fn32 : cfg.fns 32 = some Tryd.f32 := by kernel_rfl
theorem res32 : Tryd.f32.results = #[.cell 6 104, .tmp 7, .tmp 8, .tmp 9] := rfl
theorem ntm32 : Tryd.f32.ntmps = 136 := rfl
theorem hb33 : hasBody cfg 33 = true := by kernel_rfl
theorem fn33 : cfg.fns 33 = some Tryd.f33 := by kernel_rfl
theorem res33 : Tryd.f33.results = #[.cell 6 108, .tmp 7] := rfl
theorem ntm33 : Tryd.f33.ntmps = 75 := rfl
theorem hb34 : hasBody cfg 34 = true := by kernel_rfl
theorem fn34 : cfg.fns 34 = some Tryd.f34 := by kernel_rfl
theorem res34 : Tryd.f34.results = #[.tmp 4] := rfl
theorem ntm34 : Tryd.f34.ntmps = 34 := rfl
theorem hb35 : hasBody cfg 35 = true := by kernel_rfl
theorem fn35 : cfg.fns 35 = some Tryd.f35 := by kernel_rfl
theorem res35 : Tryd.f35.results = #[.tmp 4] := rfl
theorem ntm35 : Tryd.f35.ntmps = 36 := rfl
theorem hb36 : hasBody cfg 36 = true := by kernel_rfl
theorem fn36 : cfg.fns 36 = some Tryd.f36 := by kernel_rfl
theorem res36 : Tryd.f36.results = #[.tmp 4] := rfl
theorem ntm36 : Tryd.f36.ntmps = 18 := rfl
theorem hb37 : hasBody cfg 37 = true := by kernel_rfl
theorem fn37 : cfg.fns 37 = some Tryd.f37 := by kernel_rfl
theorem res37 : Tryd.f37.results = #[.tmp 4] := rfl
theorem ntm37 : Tryd.f37.ntmps = 9 := rfl
theorem hb38 : hasBody cfg 38 = true := by kernel_rfl
theorem fn38 : cfg.fns 38 = some Tryd.f38 := by kernel_rfl
theorem res38 : Tryd.f38.results = #[.tmp 8] := rfl
theorem ntm38 : Tryd.f38.ntmps = 75 := rfl
theorem hb39 : hasBody cfg 39 = true := by kernel_rfl
theorem fn39 : cfg.fns 39 = some Tryd.f39 := by kernel_rfl
theorem res39 : Tryd.f39.results = #[.tmp 6] := rfl
theorem ntm39 : Tryd.f39.ntmps = 16 := rfl
theorem hb40 : hasBody cfg 40 = true := by kernel_rfl
theorem fn40 : cfg.fns 40 = some Tryd.f40 := by kernel_rfl
theorem res40 : Tryd.f40.results = #[.cell 2 55] := rfl
theorem ntm40 : Tryd.f40.ntmps = 17 := rfl
theorem hb41 : hasBody cfg 41 = true := by kernel_rfl
theorem fn41 : cfg.fns 41 = some Tryd.f41 := by kernel_rfl
theorem res41 : Tryd.f41.results = #[.tmp 8] := rfl
theorem ntm41 : Tryd.f41.ntmps = 33 := rfl
theorem hb42 : hasBody cfg 42 = true := by kernel_rfl
theorem fn42 : cfg.fns 42 = some Tryd.f42 := by kernel_rfl
theorem res42 : Tryd.f42.results = #[.cell 4 55] := rfl
theorem ntm42 : Tryd.f42.ntmps = 43 := rfl
theorem hb43 : hasBody cfg 43 = true := by kernel_rfl
theorem fn43 : cfg.fns 43 = some Tryd.f43 := by kernel_rfl
theorem res43 : Tryd.f43.results = #[.tmp 4] := rfl
theorem ntm43 : Tryd.f43.ntmps = 74 := rfl
theorem hb44 : hasBody cfg 44 = true := by kernel_rfl
theorem fn44 : cfg.fns 44 = some Tryd.f44 := by kernel_rfl
theorem res44 : Tryd.f44.results = #[.tmp 2] := rfl
theorem ntm44 : Tryd.f44.ntmps = 21 := rfl
theorem hb45 : hasBody cfg 45 = true := by kernel_rfl
theorem fn45 : cfg.fns 45 = some Tryd.f45 := by kernel_rfl
theorem res45 : Tryd.f45.results = #[.tmp 2] := rfl
theorem ntm45 : Tryd.f45.ntmps = 9 := rfl
theorem hb46 : hasBody cfg 46 = true := by kernel_rfl
theorem fn46 : cfg.fns 46 = some Tryd.f46 := by kernel_rfl
theorem res46 : Tryd.f46.results = #[.tmp 2] := rfl
theorem ntm46 : Tryd.f46.ntmps = 6 := rfl
theorem hb47 : hasBody cfg 47 = true := by kernel_rfl
theorem fn47 : cfg.fns 47 = some Tryd.f47 := by kernel_rfl
theorem res47 : Tryd.f47.results = #[.tmp 2] := rfl
theorem ntm47 : Tryd.f47.ntmps = 28 := rfl
theorem hb48 : hasBody cfg 48 = true := by kernel_rfl
theorem fn48 : cfg.fns 48 = some Tryd.f48 := by kernel_rfl
theorem res48 : Tryd.f48.results = #[.tmp 4] := rfl
theorem ntm48 : Tryd.f48.ntmps = 28 := rfl
theorem hb49 : hasBody cfg 49 = true := by kernel_rfl
theorem fn49 : cfg.fns 49 = some Tryd.f49 := by kernel_rfl
theorem res49 : Tryd.f49.results = #[] := rfl
theorem ntm49 : Tryd.f49.ntmps = 10 := rfl
theorem hb50 : hasBody cfg 50 = true := by kernel_rfl
theorem fn50 : cfg.fns 50 = some Tryd.f50 := by kernel_rfl
theorem res50 : Tryd.f50.results = #[.cell 2 138] := rfl
theorem ntm50 : Tryd.f50.ntmps = 98 := rfl
theorem hb51 : hasBody cfg 51 = true := by kernel_rfl
theorem fn51 : cfg.fns 51 = some Tryd.f51 := by kernel_rfl
theorem res51 : Tryd.f51.results = #[.tmp 2] := rfl
theorem ntm51 : Tryd.f51.ntmps = 39 := rfl
theorem hb52 : hasBody cfg 52 = true := by kernel_rfl
theorem fn52 : cfg.fns 52 = some Tryd.f52 := by kernel_rfl
theorem res52 : Tryd.f52.results = #[.tmp 4] := rfl
theorem ntm52 : Tryd.f52.ntmps = 219 := rfl
theorem hb53 : hasBody cfg 53 = true := by kernel_rfl
theorem fn53 : cfg.fns 53 = some Tryd.f53 := by kernel_rfl
theorem res53 : Tryd.f53.results = #[.tmp 2] := rfl
theorem ntm53 : Tryd.f53.ntmps = 131 := rfl
theorem hb54 : hasBody cfg 54 = true := by kernel_rfl
theorem fn54 : cfg.fns 54 = some Tryd.f54 := by kernel_rfl
theorem res54 : Tryd.f54.results = #[] := rfl
theorem ntm54 : Tryd.f54.ntmps = 253 := rfl
theorem hb55 : hasBody cfg 55 = true := by kernel_rfl
theorem fn55 : cfg.fns 55 = some Tryd.f55 := by kernel_rfl
theorem res55 : Tryd.f55.results = #[.tmp 6] := rfl
theorem ntm55 : Tryd.f55.ntmps = 33 := rfl
theorem hb56 : hasBody cfg 56 = true := by kernel_rfl
theorem fn56 : cfg.fns 56 = some Tryd.f56 := by kernel_rfl
theorem res56 : Tryd.f56.results = #[.tmp 4] := rfl
theorem ntm56 : Tryd.f56.ntmps = 15 := rfl
theorem hb57 : hasBody cfg 57 = true := by kernel_rfl
theorem fn57 : cfg.fns 57 = some Tryd.f57 := by kernel_rfl
theorem res57 : Tryd.f57.results = #[.tmp 4] := rfl
theorem ntm57 : Tryd.f57.ntmps = 26 := rfl
theorem hb58 : hasBody cfg 58 = true := by kernel_rfl
theorem fn58 : cfg.fns 58 = some Tryd.f58 := by kernel_rfl
theorem res58 : Tryd.f58.results = #[.tmp 4] := rfl
theorem ntm58 : Tryd.f58.ntmps = 18 := rfl
theorem hb59 : hasBody cfg 59 = true := by kernel_rfl
theorem fn59 : cfg.fns 59 = some Tryd.f59 := by kernel_rfl
theorem res59 : Tryd.f59.results = #[.tmp 4] := rfl
theorem ntm59 : Tryd.f59.ntmps = 19 := rfl
theorem hb60 : hasBody cfg 60 = true := by kernel_rfl
theorem fn60 : cfg.fns 60 = some Tryd.f60 := by kernel_rfl
theorem res60 : Tryd.f60.results = #[.tmp 2] := rfl
theorem ntm60 : Tryd.f60.ntmps = 23 := rfl
theorem hb61 : hasBody cfg 61 = true := by kernel_rfl
theorem fn61 : cfg.fns 61 = some Tryd.f61 := by kernel_rfl
theorem res61 : Tryd.f61.results = #[.cell 6 119] := rfl
theorem ntm61 : Tryd.f61.ntmps = 17 := rfl
theorem hb62 : hasBody cfg 62 = true := by kernel_rfl
theorem fn62 : cfg.fns 62 = some Tryd.f62 := by kernel_rfl
theorem res62 : Tryd.f62.results = #[.cell 0 55] := rfl
theorem ntm62 : Tryd.f62.ntmps = 3 := rfl
theorem hb63 : hasBody cfg 63 = true := by kernel_rfl
theorem fn63 : cfg.fns 63 = some Tryd.f63 := by kernel_rfl
theorem res63 : Tryd.f63.results = #[.cell 2 55] := rfl
theorem ntm63 : Tryd.f63.ntmps = 10 := rfl
theorem hb64 : hasBody cfg 64 = true := by kernel_rfl
theorem fn64 : cfg.fns 64 = some Tryd.f64 := by kernel_rfl
theorem res64 : Tryd.f64.results = #[.tmp 4] := rfl
theorem ntm64 : Tryd.f64.ntmps = 28 := rfl
theorem hb65 : hasBody cfg 65 = true := by kernel_rfl
theorem fn65 : cfg.fns 65 = some Tryd.f65 := by kernel_rfl
theorem res65 : Tryd.f65.results = #[.tmp 2] := rfl
theorem ntm65 : Tryd.f65.ntmps = 35 := rfl
theorem hb66 : hasBody cfg 66 = true := by kernel_rfl
theorem fn66 : cfg.fns 66 = some Tryd.f66 := by kernel_rfl
theorem res66 : Tryd.f66.results = #[.tmp 4] := rfl
theorem ntm66 : Tryd.f66.ntmps = 18 := rfl
theorem hb67 : hasBody cfg 67 = true := by kernel_rfl
theorem fn67 : cfg.fns 67 = some Tryd.f67 := by kernel_rfl
theorem res67 : Tryd.f67.results = #[.cell 4 114] := rfl
theorem ntm67 : Tryd.f67.ntmps = 52 := rfl
theorem hb68 : hasBody cfg 68 = true := by kernel_rfl
theorem fn68 : cfg.fns 68 = some Tryd.f68 := by kernel_rfl
theorem res68 : Tryd.f68.results = #[.tmp 2] := rfl
theorem ntm68 : Tryd.f68.ntmps = 34 := rfl
theorem hb69 : hasBody cfg 69 = true := by kernel_rfl
theorem fn69 : cfg.fns 69 = some Tryd.f69 := by kernel_rfl
theorem res69 : Tryd.f69.results = #[.cell 2 135] := rfl
theorem ntm69 : Tryd.f69.ntmps = 16 := rfl
theorem hb70 : hasBody cfg 70 = true := by kernel_rfl
theorem fn70 : cfg.fns 70 = some Tryd.f70 := by kernel_rfl
theorem res70 : Tryd.f70.results = #[.tmp 2] := rfl
theorem ntm70 : Tryd.f70.ntmps = 10 := rfl
theorem hb71 : hasBody cfg 71 = true := by kernel_rfl
theorem fn71 : cfg.fns 71 = some Tryd.f71 := by kernel_rfl
theorem res71 : Tryd.f71.results = #[.tmp 2] := rfl
theorem ntm71 : Tryd.f71.ntmps = 22 := rfl
theorem hb72 : hasBody cfg 72 = true := by kernel_rfl
theorem fn72 : cfg.fns 72 = some Tryd.f72 := by kernel_rfl
theorem res72 : Tryd.f72.results = #[.tmp 2] := rfl
theorem ntm72 : Tryd.f72.ntmps = 25 := rfl
theorem hb73 : hasBody cfg 73 = true := by kernel_rfl
theorem fn73 : cfg.fns 73 = some Tryd.f73 := by kernel_rfl
theorem res73 : Tryd.f73.results = #[.tmp 2] := rfl
theorem ntm73 : Tryd.f73.ntmps = 12 := rfl
theorem hb74 : hasBody cfg 74 = true := by kernel_rfl
theorem fn74 : cfg.fns 74 = some Tryd.f74 := by kernel_rfl
theorem res74 : Tryd.f74.results = #[.tmp 2] := rfl
theorem ntm74 : Tryd.f74.ntmps = 15 := rfl
theorem hb75 : hasBody cfg 75 = true := by kernel_rfl
theorem fn75 : cfg.fns 75 = some Tryd.f75 := by kernel_rfl
theorem res75 : Tryd.f75.results = #[.tmp 4] := rfl
theorem ntm75 : Tryd.f75.ntmps = 133 := rfl
theorem hb76 : hasBody cfg 76 = true := by kernel_rfl
theorem fn76 : cfg.fns 76 = some Tryd.f76 := by kernel_rfl
theorem res76 : Tryd.f76.results = #[] := rfl
theorem ntm76 : Tryd.f76.ntmps = 19 := rfl
theorem hb77 : hasBody cfg 77 = true := by kernel_rfl
theorem fn77 : cfg.fns 77 = some Tryd.f77 := by kernel_rfl
theorem res77 : Tryd.f77.results = #[.cell 6 114] := rfl
theorem ntm77 : Tryd.f77.ntmps = 53 := rfl
theorem hb78 : hasBody cfg 78 = true := by kernel_rfl
theorem fn78 : cfg.fns 78 = some Tryd.f78 := by kernel_rfl
theorem res78 : Tryd.f78.results = #[.cell 6 99] := rfl
theorem ntm78 : Tryd.f78.ntmps = 37 := rfl
theorem hb79 : hasBody cfg 79 = true := by kernel_rfl
theorem fn79 : cfg.fns 79 = some Tryd.f79 := by kernel_rfl
theorem res79 : Tryd.f79.results = #[.cell 6 119] := rfl
theorem ntm79 : Tryd.f79.ntmps = 112 := rfl
theorem hb80 : hasBody cfg 80 = true := by kernel_rfl
theorem fn80 : cfg.fns 80 = some Tryd.f80 := by kernel_rfl
theorem res80 : Tryd.f80.results = #[.cell 6 116] := rfl
theorem ntm80 : Tryd.f80.ntmps = 92 := rfl
theorem hb81 : hasBody cfg 81 = true := by kernel_rfl
theorem fn81 : cfg.fns 81 = some Tryd.f81 := by kernel_rfl
theorem res81 : Tryd.f81.results = #[.cell 0 158] := rfl
theorem ntm81 : Tryd.f81.ntmps = 2 := rfl
theorem hb82 : hasBody cfg 82 = true := by kernel_rfl
theorem fn82 : cfg.fns 82 = some Tryd.f82 := by kernel_rfl
theorem res82 : Tryd.f82.results = #[.cell 2 114] := rfl
theorem ntm82 : Tryd.f82.ntmps = 100 := rfl
theorem hb83 : hasBody cfg 83 = true := by kernel_rfl
theorem fn83 : cfg.fns 83 = some Tryd.f83 := by kernel_rfl
theorem res83 : Tryd.f83.results = #[.tmp 2, .tmp 3] := rfl
theorem ntm83 : Tryd.f83.ntmps = 23 := rfl
theorem hb84 : hasBody cfg 84 = true := by kernel_rfl
theorem fn84 : cfg.fns 84 = some Tryd.f84 := by kernel_rfl
theorem res84 : Tryd.f84.results = #[.tmp 2] := rfl
theorem ntm84 : Tryd.f84.ntmps = 77 := rfl
theorem hb85 : hasBody cfg 85 = true := by kernel_rfl
theorem fn85 : cfg.fns 85 = some Tryd.f85 := by kernel_rfl
theorem res85 : Tryd.f85.results = #[.tmp 2] := rfl
theorem ntm85 : Tryd.f85.ntmps = 34 := rfl
theorem hb86 : hasBody cfg 86 = true := by kernel_rfl
theorem fn86 : cfg.fns 86 = some Tryd.f86 := by kernel_rfl
theorem res86 : Tryd.f86.results = #[.tmp 2] := rfl
theorem ntm86 : Tryd.f86.ntmps = 25 := rfl
theorem hb87 : hasBody cfg 87 = true := by kernel_rfl
theorem fn87 : cfg.fns 87 = some Tryd.f87 := by kernel_rfl
theorem res87 : Tryd.f87.results = #[.tmp 2] := rfl
theorem ntm87 : Tryd.f87.ntmps = 95 := rfl
theorem hb88 : hasBody cfg 88 = true := by kernel_rfl
theorem fn88 : cfg.fns 88 = some Tryd.f88 := by kernel_rfl
theorem res88 : Tryd.f88.results = #[.tmp 2] := rfl
theorem ntm88 : Tryd.f88.ntmps = 39 := rfl
theorem hb89 : hasBody cfg 89 = true := by kernel_rfl
theorem fn89 : cfg.fns 89 = some Tryd.f89 := by kernel_rfl
theorem res89 : Tryd.f89.results = #[.tmp 2] := rfl
theorem ntm89 : Tryd.f89.ntmps = 19 := rfl
theorem hb90 : hasBody cfg 90 = true := by kernel_rfl
theorem fn90 : cfg.fns 90 = some Tryd.f90 := by kernel_rfl
theorem res90 : Tryd.f90.results = #[] := rfl
theorem ntm90 : Tryd.f90.ntmps = 16 := rfl
theorem hb91 : hasBody cfg 91 = true := by kernel_rfl
theorem fn91 : cfg.fns 91 = some Tryd.f91 := by kernel_rfl
theorem res91 : Tryd.f91.results = #[.tmp 2] := rfl
theorem ntm91 : Tryd.f91.ntmps = 35 := rfl
theorem hb92 : hasBody cfg 92 = true := by kernel_rfl
theorem fn92 : cfg.fns 92 = some Tryd.f92 := by kernel_rfl
theorem res92 : Tryd.f92.results = #[.tmp 4] := rfl
theorem ntm92 : Tryd.f92.ntmps = 29 := rfl
theorem hb108 : hasBody cfg 108 = true := by kernel_rfl
theorem fn108 : cfg.fns 108 = some Tryd.f108 := by kernel_rfl
theorem res108 : Tryd.f108.results = #[.tmp 4] := rfl
theorem ntm108 : Tryd.f108.ntmps = 5 := rfl
theorem hb109 : hasBody cfg 109 = true := by kernel_rfl
theorem fn109 : cfg.fns 109 = some Tryd.f109 := by kernel_rfl
theorem res109 : Tryd.f109.results = #[.tmp 4] := rfl
theorem ntm109 : Tryd.f109.ntmps = 8 := rfl
theorem hb110 : hasBody cfg 110 = true := by kernel_rfl
theorem fn110 : cfg.fns 110 = some Tryd.f110 := by kernel_rfl
theorem res110 : Tryd.f110.results = #[.tmp 4] := rfl
theorem ntm110 : Tryd.f110.ntmps = 24 := rfl
theorem hb111 : hasBody cfg 111 = true := by kernel_rfl
theorem fn111 : cfg.fns 111 = some Tryd.f111 := by kernel_rfl
theorem res111 : Tryd.f111.results = #[.tmp 4] := rfl
theorem ntm111 : Tryd.f111.ntmps = 8 := rfl
end Go.Proofs.YtfcbamfgejfleaaDoor
