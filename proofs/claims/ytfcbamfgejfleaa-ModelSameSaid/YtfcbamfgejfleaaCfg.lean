/-
  THE TABLE OF TYPES OF THIS TRANSLATION, WRITTEN BY A PROGRAM OF MINE (mkcfg.py) AND HELD AGAINST THE PROGRAM BY THE KERNEL. Conditions: none.
-/
import Derived.Test.YtfcbamfgejfleaaProg
import Derived.Test.YtfcbamfgejfleaaAbsSolo
import Derived.Test.YtfcbamfgejfleaaAbsTree
namespace Go.Proofs.Ytfcbamfgejfleaa
open Go.Ab
set_option maxRecDepth 100000

def tE0 : TI := ⟨0, 0, [], .other⟩
def tE1 : TI := ⟨1, 8, [.nilf], .func⟩
def tE2 : TI := ⟨1, 8, [.int .i64 0], .int .i64⟩
def tE3 : TI := ⟨1, 8, [.int .i64 0], .int .i64⟩
def tE4 : TI := ⟨1, 1, [.bool false], .bool⟩
def tE5 : TI := ⟨1, 1, [.int .u8 0], .int .u8⟩
def tE6 : TI := ⟨0, 0, [], .other⟩
def tE7 : TI := ⟨0, 0, [], .other⟩
def tE8 : TI := ⟨0, 0, [], .other⟩
def tE9 : TI := ⟨1, 16, [.str .empty], .str⟩
def tE10 : TI := ⟨0, 0, [], .other⟩
def tE11 : TI := ⟨0, 0, [], .other⟩
def tE12 : TI := ⟨1, 8, [.int .u64 0], .int .u64⟩
def tE13 : TI := ⟨0, 0, [], .other⟩
def tE14 : TI := ⟨0, 0, [], .other⟩
def tE15 : TI := ⟨0, 0, [], .other⟩
def tE16 : TI := ⟨0, 0, [], .other⟩
def tE17 : TI := ⟨0, 0, [], .other⟩
def tE18 : TI := ⟨0, 0, [], .other⟩
def tE19 : TI := ⟨0, 0, [], .other⟩
def tE20 : TI := ⟨1, 16, [.nili], .iface⟩
def tE21 : TI := ⟨1, 4, [.int .i32 0], .int .i32⟩
def tE22 : TI := ⟨1, 24, [.nils], .slice 3⟩
def tE23 : TI := ⟨1, 24, [.nils], .slice 100⟩
def tE24 : TI := ⟨1, 24, [.nils], .slice 78⟩
def tE25 : TI := ⟨1, 24, [.nils], .slice 104⟩
def tE26 : TI := ⟨3, 72, [.nils, .nils, .nils], .strct [(0, 23), (1, 24), (2, 25)] false⟩
def tE27 : TI := ⟨3, 72, [.nils, .nils, .nils], .strct [(0, 23), (1, 24), (2, 25)] false⟩
def tE28 : TI := ⟨1, 24, [.nils], .slice 59⟩
def tE29 : TI := ⟨4, 80, [.nils, .nils, .nils, .int .i64 0], .strct [(0, 22), (1, 24), (2, 28), (3, 3)] false⟩
def tE30 : TI := ⟨4, 80, [.nils, .nils, .nils, .int .i64 0], .strct [(0, 22), (1, 24), (2, 28), (3, 3)] false⟩
def tE31 : TI := ⟨1, 24, [.nils], .slice 42⟩
def tE32 : TI := ⟨1, 24, [.nils], .slice 22⟩
def tE33 : TI := ⟨3, 72, [.nils, .nils, .nils], .strct [(0, 31), (1, 32), (2, 22)] false⟩
def tE34 : TI := ⟨3, 72, [.nils, .nils, .nils], .strct [(0, 31), (1, 32), (2, 22)] false⟩
def tE35 : TI := ⟨0, 0, [], .other⟩
def tE36 : TI := ⟨1, 8, [.nilf], .func⟩
def tE37 : TI := ⟨0, 0, [], .other⟩
def tE38 : TI := ⟨1, 8, [.nilf], .func⟩
def tE39 : TI := ⟨1, 8, [.nilf], .func⟩
def tE40 : TI := ⟨1, 8, [.nilf], .func⟩
def tE41 : TI := ⟨2, 32, [.int .i64 0, .nils], .strct [(0, 3), (1, 22)] false⟩
def tE42 : TI := ⟨2, 32, [.int .i64 0, .nils], .strct [(0, 3), (1, 22)] false⟩
def tE43 : TI := ⟨1, 8, [.nilf], .func⟩
def tE44 : TI := ⟨1, 8, [.nilf], .func⟩
def tE45 : TI := ⟨1, 8, [.nilf], .func⟩
def tE46 : TI := ⟨1, 8, [.nilf], .func⟩
def tE47 : TI := ⟨1, 8, [.nilf], .func⟩
def tE48 : TI := ⟨1, 8, [.nilf], .func⟩
def tE49 : TI := ⟨1, 24, [.nils], .slice 51⟩
def tE50 : TI := ⟨4, 56, [.int .i64 0, .int .i64 0, .str .empty, .nils], .strct [(0, 3), (1, 3), (2, 9), (3, 49)] false⟩
def tE51 : TI := ⟨4, 56, [.int .i64 0, .int .i64 0, .str .empty, .nils], .strct [(0, 3), (1, 3), (2, 9), (3, 49)] false⟩
def tE52 : TI := ⟨3, 40, [.bool false, .int .i64 0, .nils], .strct [(0, 4), (1, 3), (2, 49)] false⟩
def tE53 : TI := ⟨3, 40, [.bool false, .int .i64 0, .nils], .strct [(0, 4), (1, 3), (2, 49)] false⟩
def tE54 : TI := ⟨1, 24, [.nils], .slice 53⟩
def tE55 : TI := ⟨12, 168, [.int .i64 0, .int .i64 0, .bool false, .int .i64 0, .int .i64 0, .str .empty, .nils, .bool false, .int .i64 0, .nils, .nils, .nils], .strct [(0, 3), (1, 3), (2, 4), (3, 51), (7, 53), (10, 49), (11, 54)] false⟩
def tE56 : TI := ⟨12, 168, [.int .i64 0, .int .i64 0, .bool false, .int .i64 0, .int .i64 0, .str .empty, .nils, .bool false, .int .i64 0, .nils, .nils, .nils], .strct [(0, 3), (1, 3), (2, 4), (3, 51), (7, 53), (10, 49), (11, 54)] false⟩
def tE57 : TI := ⟨1, 24, [.nils], .slice 56⟩
def tE58 : TI := ⟨5, 64, [.str .empty, .int .i64 0, .int .i64 0, .int .i64 0, .nils], .strct [(0, 9), (1, 3), (2, 3), (3, 3), (4, 57)] false⟩
def tE59 : TI := ⟨5, 64, [.str .empty, .int .i64 0, .int .i64 0, .int .i64 0, .nils], .strct [(0, 9), (1, 3), (2, 3), (3, 3), (4, 57)] false⟩
def tE60 : TI := ⟨1, 8, [.nilf], .func⟩
def tE61 : TI := ⟨1, 8, [.nilf], .func⟩
def tE62 : TI := ⟨1, 24, [.nils], .slice 67⟩
def tE63 : TI := ⟨2, 32, [.int .i64 0, .nils], .strct [(0, 3), (1, 62)] false⟩
def tE64 : TI := ⟨2, 32, [.int .i64 0, .nils], .strct [(0, 3), (1, 62)] false⟩
def tE65 : TI := ⟨1, 8, [.nilf], .func⟩
def tE66 : TI := ⟨2, 16, [.int .i64 0, .int .i64 0], .strct [(0, 3), (1, 3)] true⟩
def tE67 : TI := ⟨2, 16, [.int .i64 0, .int .i64 0], .strct [(0, 3), (1, 3)] true⟩
def tE68 : TI := ⟨1, 8, [.nilf], .func⟩
def tE69 : TI := ⟨1, 8, [.nilf], .func⟩
def tE70 : TI := ⟨1, 8, [.int .i64 0], .int .i64⟩
def tE71 : TI := ⟨0, 0, [], .other⟩
def tE72 : TI := ⟨1, 8, [.nilf], .func⟩
def tE73 : TI := ⟨0, 0, [], .other⟩
def tE74 : TI := ⟨1, 8, [.nilf], .func⟩
def tE75 : TI := ⟨1, 8, [.nilf], .func⟩
def tE76 : TI := ⟨1, 8, [.nilf], .func⟩
def tE77 : TI := ⟨3, 32, [.str .empty, .bool false, .int .i64 0], .strct [(0, 9), (1, 4), (2, 3)] true⟩
def tE78 : TI := ⟨3, 32, [.str .empty, .bool false, .int .i64 0], .strct [(0, 9), (1, 4), (2, 3)] true⟩
def tE79 : TI := ⟨1, 8, [.nilf], .func⟩
def tE80 : TI := ⟨1, 8, [.nilf], .func⟩
def tE81 : TI := ⟨0, 0, [], .other⟩
def tE82 : TI := ⟨1, 8, [.nilf], .func⟩
def tE83 : TI := ⟨1, 24, [.nils], .slice 5⟩
def tE84 : TI := ⟨1, 16, [.nili], .iface⟩
def tE85 : TI := ⟨1, 16, [.nili], .iface⟩
def tE86 : TI := ⟨1, 8, [.nilf], .func⟩
def tE87 : TI := ⟨1, 8, [.nilf], .func⟩
def tE88 : TI := ⟨1, 8, [.nilf], .func⟩
def tE89 : TI := ⟨1, 24, [.nils], .slice 64⟩
def tE90 : TI := ⟨1, 8, [.nilf], .func⟩
def tE91 : TI := ⟨1, 8, [.nilp], .ptr 96⟩
def tE92 : TI := ⟨1, 8, [.nilp], .ptr 94⟩
def tE93 : TI := ⟨2, 32, [.nils, .int .i64 0], .strct [(0, 22), (1, 3)] false⟩
def tE94 : TI := ⟨2, 32, [.nils, .int .i64 0], .strct [(0, 22), (1, 3)] false⟩
def tE95 : TI := ⟨6, 96, [.nilp, .nils, .nils, .nils, .int .i64 0, .bool false], .strct [(0, 92), (1, 27), (4, 3), (5, 4)] false⟩
def tE96 : TI := ⟨6, 96, [.nilp, .nils, .nils, .nils, .int .i64 0, .bool false], .strct [(0, 92), (1, 27), (4, 3), (5, 4)] false⟩
def tE97 : TI := ⟨1, 8, [.nilf], .func⟩
def tE98 : TI := ⟨1, 24, [.nils], .slice 9⟩
def tE99 : TI := ⟨2, 24, [.str .empty, .int .i64 0], .strct [(0, 9), (1, 3)] true⟩
def tE100 : TI := ⟨2, 24, [.str .empty, .int .i64 0], .strct [(0, 9), (1, 3)] true⟩
def tE101 : TI := ⟨1, 24, [.nils], .slice 106⟩
def tE102 : TI := ⟨1, 24, [.nils], .slice 156⟩
def tE103 : TI := ⟨3, 64, [.str .empty, .nils, .nils], .strct [(0, 9), (1, 101), (2, 102)] false⟩
def tE104 : TI := ⟨3, 64, [.str .empty, .nils, .nils], .strct [(0, 9), (1, 101), (2, 102)] false⟩
def tE105 : TI := ⟨2, 24, [.str .empty, .bool false], .strct [(0, 9), (1, 4)] true⟩
def tE106 : TI := ⟨2, 24, [.str .empty, .bool false], .strct [(0, 9), (1, 4)] true⟩
def tE107 : TI := ⟨1, 8, [.nilf], .func⟩
def tE108 : TI := ⟨1, 8, [.nilf], .func⟩
def tE109 : TI := ⟨1, 24, [.nils], .slice 113⟩
def tE110 : TI := ⟨0, 0, [], .other⟩
def tE111 : TI := ⟨1, 8, [.nilf], .func⟩
def tE112 : TI := ⟨3, 32, [.str .empty, .int .i64 0, .int .i64 0], .strct [(0, 9), (1, 3), (2, 3)] true⟩
def tE113 : TI := ⟨3, 32, [.str .empty, .int .i64 0, .int .i64 0], .strct [(0, 9), (1, 3), (2, 3)] true⟩
def tE114 : TI := ⟨0, 0, [], .other⟩
def tE115 : TI := ⟨1, 8, [.nilf], .func⟩
def tE116 : TI := ⟨0, 0, [], .other⟩
def tE117 : TI := ⟨1, 8, [.nilf], .func⟩
def tE118 : TI := ⟨0, 0, [], .other⟩
def tE119 : TI := ⟨1, 8, [.nilf], .func⟩
def tE120 : TI := ⟨1, 8, [.nilf], .func⟩
def tE121 : TI := ⟨1, 24, [.nils], .slice 136⟩
def tE122 : TI := ⟨0, 0, [], .other⟩
def tE123 : TI := ⟨1, 8, [.nilf], .func⟩
def tE124 : TI := ⟨1, 8, [.nilp], .ptr 126⟩
def tE125 : TI := ⟨6, 64, [.nils, .int .i64 0, .int .i64 0, .int .i64 0, .int .i64 0, .int .i64 0], .strct [(0, 121), (1, 3), (2, 3), (3, 70), (4, 3), (5, 3)] false⟩
def tE126 : TI := ⟨6, 64, [.nils, .int .i64 0, .int .i64 0, .int .i64 0, .int .i64 0, .int .i64 0], .strct [(0, 121), (1, 3), (2, 3), (3, 70), (4, 3), (5, 3)] false⟩
def tE127 : TI := ⟨1, 8, [.nilf], .func⟩
def tE128 : TI := ⟨1, 8, [.nilf], .func⟩
def tE129 : TI := ⟨1, 8, [.nilf], .func⟩
def tE130 : TI := ⟨1, 8, [.nilf], .func⟩
def tE131 : TI := ⟨1, 8, [.nilf], .func⟩
def tE132 : TI := ⟨1, 8, [.nilf], .func⟩
def tE133 : TI := ⟨1, 8, [.nilf], .func⟩
def tE134 : TI := ⟨1, 8, [.nilf], .func⟩
def tE135 : TI := ⟨4, 40, [.int .i64 0, .str .empty, .int .i64 0, .int .i64 0], .strct [(0, 3), (1, 9), (2, 3), (3, 3)] true⟩
def tE136 : TI := ⟨4, 40, [.int .i64 0, .str .empty, .int .i64 0, .int .i64 0], .strct [(0, 3), (1, 9), (2, 3), (3, 3)] true⟩
def tE137 : TI := ⟨0, 0, [], .strct [] true⟩
def tE138 : TI := ⟨0, 0, [], .strct [] true⟩
def tE139 : TI := ⟨1, 8, [.int .i64 0], .strct [(0, 3)] true⟩
def tE140 : TI := ⟨1, 8, [.int .i64 0], .strct [(0, 3)] true⟩
def tE141 : TI := ⟨1, 8, [.int .i64 0], .strct [(0, 3)] true⟩
def tE142 : TI := ⟨0, 0, [], .strct [] true⟩
def tE143 : TI := ⟨1, 8, [.nilf], .func⟩
def tE144 : TI := ⟨1, 8, [.nilp], .ptr 148⟩
def tE145 : TI := ⟨8, 160, [.nils, .nils, .nils, .int .i64 0, .nils, .nils, .nils, .int .i64 0], .strct [(0, 30), (4, 34), (7, 3)] false⟩
def tE146 : TI := ⟨8, 160, [.nils, .nils, .nils, .int .i64 0, .nils, .nils, .nils, .int .i64 0], .strct [(0, 30), (4, 34), (7, 3)] false⟩
def tE147 : TI := ⟨10, 192, [.nils, .nils, .nils, .int .i64 0, .nils, .nils, .nils, .int .i64 0, .int .i64 0, .nils], .strct [(0, 146), (8, 3), (9, 89)] false⟩
def tE148 : TI := ⟨10, 192, [.nils, .nils, .nils, .int .i64 0, .nils, .nils, .nils, .int .i64 0, .int .i64 0, .nils], .strct [(0, 146), (8, 3), (9, 89)] false⟩
def tE149 : TI := ⟨1, 8, [.nilf], .func⟩
def tE150 : TI := ⟨1, 8, [.nilf], .func⟩
def tE151 : TI := ⟨1, 8, [.nilf], .func⟩
def tE152 : TI := ⟨2, 40, [.str .empty, .nils], .strct [(0, 9), (1, 49)] false⟩
def tE153 : TI := ⟨2, 40, [.str .empty, .nils], .strct [(0, 9), (1, 49)] false⟩
def tE154 : TI := ⟨1, 24, [.nils], .slice 178⟩
def tE155 : TI := ⟨11, 192, [.int .i64 0, .str .empty, .int .i64 0, .int .i64 0, .str .empty, .nils, .str .empty, .nils, .nils, .nils, .nils], .strct [(0, 3), (1, 9), (2, 51), (6, 153), (8, 154), (9, 102), (10, 102)] false⟩
def tE156 : TI := ⟨11, 192, [.int .i64 0, .str .empty, .int .i64 0, .int .i64 0, .str .empty, .nils, .str .empty, .nils, .nils, .nils, .nils], .strct [(0, 3), (1, 9), (2, 51), (6, 153), (8, 154), (9, 102), (10, 102)] false⟩
def tE157 : TI := ⟨1, 8, [.nilf], .func⟩
def tE158 : TI := ⟨1, 8, [.nilf], .func⟩
def tE159 : TI := ⟨1, 8, [.nilf], .func⟩
def tE160 : TI := ⟨1, 8, [.nilf], .func⟩
def tE161 : TI := ⟨1, 8, [.nilf], .func⟩
def tE162 : TI := ⟨1, 8, [.nilp], .ptr 164⟩
def tE163 : TI := ⟨10, 176, [.nils, .nils, .nils, .nils, .int .i64 0, .int .i64 0, .int .i64 0, .int .i64 0, .nils, .nils], .strct [(0, 27), (3, 109), (4, 3), (5, 3), (6, 3), (7, 70), (8, 57), (9, 22)] false⟩
def tE164 : TI := ⟨10, 176, [.nils, .nils, .nils, .nils, .int .i64 0, .int .i64 0, .int .i64 0, .int .i64 0, .nils, .nils], .strct [(0, 27), (3, 109), (4, 3), (5, 3), (6, 3), (7, 70), (8, 57), (9, 22)] false⟩
def tE165 : TI := ⟨1, 8, [.nilf], .func⟩
def tE166 : TI := ⟨1, 8, [.nilf], .func⟩
def tE167 : TI := ⟨1, 8, [.nilf], .func⟩
def tE168 : TI := ⟨1, 8, [.nilf], .func⟩
def tE169 : TI := ⟨1, 8, [.nilf], .func⟩
def tE170 : TI := ⟨1, 8, [.nilf], .func⟩
def tE171 : TI := ⟨1, 8, [.nilf], .func⟩
def tE172 : TI := ⟨1, 8, [.nilf], .func⟩
def tE173 : TI := ⟨1, 8, [.nilf], .func⟩
def tE174 : TI := ⟨1, 8, [.nilf], .func⟩
def tE175 : TI := ⟨1, 8, [.nilf], .func⟩
def tE176 : TI := ⟨1, 8, [.nilf], .func⟩
def tE177 : TI := ⟨7, 104, [.bool false, .str .empty, .nils, .int .i64 0, .int .i64 0, .str .empty, .nils], .strct [(0, 4), (1, 153), (3, 51)] false⟩
def tE178 : TI := ⟨7, 104, [.bool false, .str .empty, .nils, .int .i64 0, .int .i64 0, .str .empty, .nils], .strct [(0, 4), (1, 153), (3, 51)] false⟩
def tE179 : TI := ⟨1, 8, [.nilf], .func⟩
def tE180 : TI := ⟨1, 8, [.nilf], .func⟩
def tE181 : TI := ⟨1, 8, [.nilf], .func⟩
def tE182 : TI := ⟨1, 8, [.nilf], .func⟩
def tE183 : TI := ⟨1, 8, [.nilf], .func⟩
def tE184 : TI := ⟨1, 8, [.nilf], .func⟩
def tE185 : TI := ⟨1, 8, [.nilf], .func⟩
def tE186 : TI := ⟨1, 8, [.nilf], .func⟩
def tE187 : TI := ⟨1, 8, [.nilf], .func⟩
def tE188 : TI := ⟨1, 8, [.nilf], .func⟩
def tE189 : TI := ⟨1, 8, [.nilf], .func⟩
def tE190 : TI := ⟨1, 8, [.nilf], .func⟩
def tE191 : TI := ⟨1, 8, [.nilf], .func⟩
def tE192 : TI := ⟨1, 8, [.nilf], .func⟩
def tE193 : TI := ⟨1, 8, [.nilf], .func⟩
def tE194 : TI := ⟨1, 8, [.nilf], .func⟩
def tE195 : TI := ⟨1, 24, [.nils], .slice 3⟩
def tE196 : TI := ⟨1, 8, [.nilf], .func⟩
def tE197 : TI := ⟨1, 8, [.nilf], .func⟩
def tE198 : TI := ⟨1, 8, [.nilf], .func⟩
def tE199 : TI := ⟨1, 8, [.int .u64 0], .int .u64⟩
def tE200 : TI := ⟨1, 8, [.nilf], .func⟩
def tE201 : TI := ⟨1, 8, [.nilf], .func⟩
def tE202 : TI := ⟨1, 8, [.nilf], .func⟩
def tE203 : TI := ⟨1, 8, [.nilf], .func⟩
def tE204 : TI := ⟨0, 0, [], .other⟩
def tE205 : TI := ⟨1, 8, [.nilf], .func⟩
def tE206 : TI := ⟨1, 24, [.nils], .slice 62⟩
def tE207 : TI := ⟨1, 8, [.nilf], .func⟩
def tE208 : TI := ⟨1, 8, [.nilf], .func⟩
def tE209 : TI := ⟨0, 0, [], .other⟩
def tE210 : TI := ⟨0, 0, [], .other⟩
def tE211 : TI := ⟨0, 0, [], .other⟩
def tE212 : TI := ⟨0, 0, [], .other⟩
def tE213 : TI := ⟨0, 0, [], .other⟩
def tE214 : TI := ⟨1, 4, [.int .u32 0], .int .u32⟩
def tE215 : TI := ⟨0, 0, [], .other⟩
def tE216 : TI := ⟨0, 0, [], .other⟩
def tE217 : TI := ⟨0, 0, [], .other⟩
def tE218 : TI := ⟨1, 8, [.nilp], .ptr 5⟩
def tE219 : TI := ⟨0, 0, [], .other⟩
def tE220 : TI := ⟨0, 0, [], .other⟩
def tE221 : TI := ⟨0, 0, [], .other⟩
def tE222 : TI := ⟨0, 0, [], .other⟩
def tE223 : TI := ⟨0, 0, [], .other⟩
def tiT : Tr TI := .nd (.nd (.nd (.nd (.nd (.nd (.nd (.nd (.lf tE0) (.lf tE128)) (.nd (.lf tE64) (.lf tE192))) (.nd (.nd (.lf tE32) (.lf tE160)) (.nd (.lf tE96) (.lf default)))) (.nd (.nd (.nd (.lf tE16) (.lf tE144)) (.nd (.lf tE80) (.lf tE208))) (.nd (.nd (.lf tE48) (.lf tE176)) (.nd (.lf tE112) (.lf default))))) (.nd (.nd (.nd (.nd (.lf tE8) (.lf tE136)) (.nd (.lf tE72) (.lf tE200))) (.nd (.nd (.lf tE40) (.lf tE168)) (.nd (.lf tE104) (.lf default)))) (.nd (.nd (.nd (.lf tE24) (.lf tE152)) (.nd (.lf tE88) (.lf tE216))) (.nd (.nd (.lf tE56) (.lf tE184)) (.nd (.lf tE120) (.lf default)))))) (.nd (.nd (.nd (.nd (.nd (.lf tE4) (.lf tE132)) (.nd (.lf tE68) (.lf tE196))) (.nd (.nd (.lf tE36) (.lf tE164)) (.nd (.lf tE100) (.lf default)))) (.nd (.nd (.nd (.lf tE20) (.lf tE148)) (.nd (.lf tE84) (.lf tE212))) (.nd (.nd (.lf tE52) (.lf tE180)) (.nd (.lf tE116) (.lf default))))) (.nd (.nd (.nd (.nd (.lf tE12) (.lf tE140)) (.nd (.lf tE76) (.lf tE204))) (.nd (.nd (.lf tE44) (.lf tE172)) (.nd (.lf tE108) (.lf default)))) (.nd (.nd (.nd (.lf tE28) (.lf tE156)) (.nd (.lf tE92) (.lf tE220))) (.nd (.nd (.lf tE60) (.lf tE188)) (.nd (.lf tE124) (.lf default))))))) (.nd (.nd (.nd (.nd (.nd (.nd (.lf tE2) (.lf tE130)) (.nd (.lf tE66) (.lf tE194))) (.nd (.nd (.lf tE34) (.lf tE162)) (.nd (.lf tE98) (.lf default)))) (.nd (.nd (.nd (.lf tE18) (.lf tE146)) (.nd (.lf tE82) (.lf tE210))) (.nd (.nd (.lf tE50) (.lf tE178)) (.nd (.lf tE114) (.lf default))))) (.nd (.nd (.nd (.nd (.lf tE10) (.lf tE138)) (.nd (.lf tE74) (.lf tE202))) (.nd (.nd (.lf tE42) (.lf tE170)) (.nd (.lf tE106) (.lf default)))) (.nd (.nd (.nd (.lf tE26) (.lf tE154)) (.nd (.lf tE90) (.lf tE218))) (.nd (.nd (.lf tE58) (.lf tE186)) (.nd (.lf tE122) (.lf default)))))) (.nd (.nd (.nd (.nd (.nd (.lf tE6) (.lf tE134)) (.nd (.lf tE70) (.lf tE198))) (.nd (.nd (.lf tE38) (.lf tE166)) (.nd (.lf tE102) (.lf default)))) (.nd (.nd (.nd (.lf tE22) (.lf tE150)) (.nd (.lf tE86) (.lf tE214))) (.nd (.nd (.lf tE54) (.lf tE182)) (.nd (.lf tE118) (.lf default))))) (.nd (.nd (.nd (.nd (.lf tE14) (.lf tE142)) (.nd (.lf tE78) (.lf tE206))) (.nd (.nd (.lf tE46) (.lf tE174)) (.nd (.lf tE110) (.lf default)))) (.nd (.nd (.nd (.lf tE30) (.lf tE158)) (.nd (.lf tE94) (.lf tE222))) (.nd (.nd (.lf tE62) (.lf tE190)) (.nd (.lf tE126) (.lf default)))))))) (.nd (.nd (.nd (.nd (.nd (.nd (.nd (.lf tE1) (.lf tE129)) (.nd (.lf tE65) (.lf tE193))) (.nd (.nd (.lf tE33) (.lf tE161)) (.nd (.lf tE97) (.lf default)))) (.nd (.nd (.nd (.lf tE17) (.lf tE145)) (.nd (.lf tE81) (.lf tE209))) (.nd (.nd (.lf tE49) (.lf tE177)) (.nd (.lf tE113) (.lf default))))) (.nd (.nd (.nd (.nd (.lf tE9) (.lf tE137)) (.nd (.lf tE73) (.lf tE201))) (.nd (.nd (.lf tE41) (.lf tE169)) (.nd (.lf tE105) (.lf default)))) (.nd (.nd (.nd (.lf tE25) (.lf tE153)) (.nd (.lf tE89) (.lf tE217))) (.nd (.nd (.lf tE57) (.lf tE185)) (.nd (.lf tE121) (.lf default)))))) (.nd (.nd (.nd (.nd (.nd (.lf tE5) (.lf tE133)) (.nd (.lf tE69) (.lf tE197))) (.nd (.nd (.lf tE37) (.lf tE165)) (.nd (.lf tE101) (.lf default)))) (.nd (.nd (.nd (.lf tE21) (.lf tE149)) (.nd (.lf tE85) (.lf tE213))) (.nd (.nd (.lf tE53) (.lf tE181)) (.nd (.lf tE117) (.lf default))))) (.nd (.nd (.nd (.nd (.lf tE13) (.lf tE141)) (.nd (.lf tE77) (.lf tE205))) (.nd (.nd (.lf tE45) (.lf tE173)) (.nd (.lf tE109) (.lf default)))) (.nd (.nd (.nd (.lf tE29) (.lf tE157)) (.nd (.lf tE93) (.lf tE221))) (.nd (.nd (.lf tE61) (.lf tE189)) (.nd (.lf tE125) (.lf default))))))) (.nd (.nd (.nd (.nd (.nd (.nd (.lf tE3) (.lf tE131)) (.nd (.lf tE67) (.lf tE195))) (.nd (.nd (.lf tE35) (.lf tE163)) (.nd (.lf tE99) (.lf default)))) (.nd (.nd (.nd (.lf tE19) (.lf tE147)) (.nd (.lf tE83) (.lf tE211))) (.nd (.nd (.lf tE51) (.lf tE179)) (.nd (.lf tE115) (.lf default))))) (.nd (.nd (.nd (.nd (.lf tE11) (.lf tE139)) (.nd (.lf tE75) (.lf tE203))) (.nd (.nd (.lf tE43) (.lf tE171)) (.nd (.lf tE107) (.lf default)))) (.nd (.nd (.nd (.lf tE27) (.lf tE155)) (.nd (.lf tE91) (.lf tE219))) (.nd (.nd (.lf tE59) (.lf tE187)) (.nd (.lf tE123) (.lf default)))))) (.nd (.nd (.nd (.nd (.nd (.lf tE7) (.lf tE135)) (.nd (.lf tE71) (.lf tE199))) (.nd (.nd (.lf tE39) (.lf tE167)) (.nd (.lf tE103) (.lf default)))) (.nd (.nd (.nd (.lf tE23) (.lf tE151)) (.nd (.lf tE87) (.lf tE215))) (.nd (.nd (.lf tE55) (.lf tE183)) (.nd (.lf tE119) (.lf default))))) (.nd (.nd (.nd (.nd (.lf tE15) (.lf tE143)) (.nd (.lf tE79) (.lf tE207))) (.nd (.nd (.lf tE47) (.lf tE175)) (.nd (.lf tE111) (.lf default)))) (.nd (.nd (.nd (.lf tE31) (.lf tE159)) (.nd (.lf tE95) (.lf tE223))) (.nd (.nd (.lf tE63) (.lf tE191)) (.nd (.lf tE127) (.lf default))))))))

noncomputable def fnT : Tr (Option Func) := .nd (.nd (.nd (.nd (.nd (.nd (.nd (.nd (.lf none) (.lf none)) (.nd (.lf (some Try.f64)) (.lf none))) (.nd (.nd (.lf (some Try.f32)) (.lf none)) (.nd (.lf (some Try.f96)) (.lf none)))) (.nd (.nd (.nd (.lf (some Try.f16)) (.lf none)) (.nd (.lf (some Try.f80)) (.lf none))) (.nd (.nd (.lf (some Try.f48)) (.lf none)) (.nd (.lf (some Try.f112)) (.lf none))))) (.nd (.nd (.nd (.nd (.lf (some Try.f8)) (.lf (some Try.f136))) (.nd (.lf (some Try.f72)) (.lf none))) (.nd (.nd (.lf (some Try.f40)) (.lf none)) (.nd (.lf (some Try.f104)) (.lf none)))) (.nd (.nd (.nd (.lf (some Try.f24)) (.lf none)) (.nd (.lf (some Try.f88)) (.lf none))) (.nd (.nd (.lf (some Try.f56)) (.lf none)) (.nd (.lf none) (.lf none)))))) (.nd (.nd (.nd (.nd (.nd (.lf (some Try.f4)) (.lf none)) (.nd (.lf (some Try.f68)) (.lf none))) (.nd (.nd (.lf (some Try.f36)) (.lf none)) (.nd (.lf (some Try.f100)) (.lf none)))) (.nd (.nd (.nd (.lf (some Try.f20)) (.lf none)) (.nd (.lf (some Try.f84)) (.lf none))) (.nd (.nd (.lf (some Try.f52)) (.lf none)) (.nd (.lf (some Try.f116)) (.lf none))))) (.nd (.nd (.nd (.nd (.lf (some Try.f12)) (.lf none)) (.nd (.lf (some Try.f76)) (.lf none))) (.nd (.nd (.lf (some Try.f44)) (.lf none)) (.nd (.lf (some Try.f108)) (.lf none)))) (.nd (.nd (.nd (.lf (some Try.f28)) (.lf none)) (.nd (.lf (some Try.f92)) (.lf none))) (.nd (.nd (.lf (some Try.f60)) (.lf none)) (.nd (.lf none) (.lf none))))))) (.nd (.nd (.nd (.nd (.nd (.nd (.lf (some Try.f2)) (.lf none)) (.nd (.lf (some Try.f66)) (.lf none))) (.nd (.nd (.lf (some Try.f34)) (.lf none)) (.nd (.lf (some Try.f98)) (.lf none)))) (.nd (.nd (.nd (.lf (some Try.f18)) (.lf none)) (.nd (.lf (some Try.f82)) (.lf none))) (.nd (.nd (.lf (some Try.f50)) (.lf none)) (.nd (.lf (some Try.f114)) (.lf none))))) (.nd (.nd (.nd (.nd (.lf (some Try.f10)) (.lf (some Try.f138))) (.nd (.lf (some Try.f74)) (.lf none))) (.nd (.nd (.lf (some Try.f42)) (.lf none)) (.nd (.lf (some Try.f106)) (.lf none)))) (.nd (.nd (.nd (.lf (some Try.f26)) (.lf none)) (.nd (.lf (some Try.f90)) (.lf none))) (.nd (.nd (.lf (some Try.f58)) (.lf none)) (.nd (.lf none) (.lf none)))))) (.nd (.nd (.nd (.nd (.nd (.lf (some Try.f6)) (.lf none)) (.nd (.lf (some Try.f70)) (.lf none))) (.nd (.nd (.lf (some Try.f38)) (.lf none)) (.nd (.lf (some Try.f102)) (.lf none)))) (.nd (.nd (.nd (.lf (some Try.f22)) (.lf none)) (.nd (.lf (some Try.f86)) (.lf none))) (.nd (.nd (.lf (some Try.f54)) (.lf none)) (.nd (.lf (some Try.f118)) (.lf none))))) (.nd (.nd (.nd (.nd (.lf (some Try.f14)) (.lf none)) (.nd (.lf (some Try.f78)) (.lf none))) (.nd (.nd (.lf (some Try.f46)) (.lf none)) (.nd (.lf (some Try.f110)) (.lf none)))) (.nd (.nd (.nd (.lf (some Try.f30)) (.lf none)) (.nd (.lf (some Try.f94)) (.lf none))) (.nd (.nd (.lf (some Try.f62)) (.lf none)) (.nd (.lf none) (.lf none)))))))) (.nd (.nd (.nd (.nd (.nd (.nd (.nd (.lf none) (.lf none)) (.nd (.lf (some Try.f65)) (.lf none))) (.nd (.nd (.lf (some Try.f33)) (.lf none)) (.nd (.lf (some Try.f97)) (.lf none)))) (.nd (.nd (.nd (.lf (some Try.f17)) (.lf none)) (.nd (.lf (some Try.f81)) (.lf none))) (.nd (.nd (.lf (some Try.f49)) (.lf none)) (.nd (.lf (some Try.f113)) (.lf none))))) (.nd (.nd (.nd (.nd (.lf (some Try.f9)) (.lf (some Try.f137))) (.nd (.lf (some Try.f73)) (.lf none))) (.nd (.nd (.lf (some Try.f41)) (.lf none)) (.nd (.lf (some Try.f105)) (.lf none)))) (.nd (.nd (.nd (.lf (some Try.f25)) (.lf none)) (.nd (.lf (some Try.f89)) (.lf none))) (.nd (.nd (.lf (some Try.f57)) (.lf none)) (.nd (.lf none) (.lf none)))))) (.nd (.nd (.nd (.nd (.nd (.lf (some Try.f5)) (.lf none)) (.nd (.lf (some Try.f69)) (.lf none))) (.nd (.nd (.lf (some Try.f37)) (.lf none)) (.nd (.lf (some Try.f101)) (.lf none)))) (.nd (.nd (.nd (.lf (some Try.f21)) (.lf none)) (.nd (.lf (some Try.f85)) (.lf none))) (.nd (.nd (.lf (some Try.f53)) (.lf none)) (.nd (.lf (some Try.f117)) (.lf none))))) (.nd (.nd (.nd (.nd (.lf (some Try.f13)) (.lf none)) (.nd (.lf (some Try.f77)) (.lf none))) (.nd (.nd (.lf (some Try.f45)) (.lf none)) (.nd (.lf (some Try.f109)) (.lf none)))) (.nd (.nd (.nd (.lf (some Try.f29)) (.lf none)) (.nd (.lf (some Try.f93)) (.lf none))) (.nd (.nd (.lf (some Try.f61)) (.lf none)) (.nd (.lf none) (.lf none))))))) (.nd (.nd (.nd (.nd (.nd (.nd (.lf (some Try.f3)) (.lf none)) (.nd (.lf (some Try.f67)) (.lf none))) (.nd (.nd (.lf (some Try.f35)) (.lf none)) (.nd (.lf (some Try.f99)) (.lf none)))) (.nd (.nd (.nd (.lf (some Try.f19)) (.lf none)) (.nd (.lf (some Try.f83)) (.lf none))) (.nd (.nd (.lf (some Try.f51)) (.lf none)) (.nd (.lf (some Try.f115)) (.lf none))))) (.nd (.nd (.nd (.nd (.lf (some Try.f11)) (.lf none)) (.nd (.lf (some Try.f75)) (.lf none))) (.nd (.nd (.lf (some Try.f43)) (.lf none)) (.nd (.lf (some Try.f107)) (.lf none)))) (.nd (.nd (.nd (.lf (some Try.f27)) (.lf none)) (.nd (.lf (some Try.f91)) (.lf none))) (.nd (.nd (.lf (some Try.f59)) (.lf none)) (.nd (.lf none) (.lf none)))))) (.nd (.nd (.nd (.nd (.nd (.lf (some Try.f7)) (.lf (some Try.f135))) (.nd (.lf (some Try.f71)) (.lf none))) (.nd (.nd (.lf (some Try.f39)) (.lf none)) (.nd (.lf (some Try.f103)) (.lf none)))) (.nd (.nd (.nd (.lf (some Try.f23)) (.lf none)) (.nd (.lf (some Try.f87)) (.lf none))) (.nd (.nd (.lf (some Try.f55)) (.lf none)) (.nd (.lf none) (.lf none))))) (.nd (.nd (.nd (.nd (.lf (some Try.f15)) (.lf none)) (.nd (.lf (some Try.f79)) (.lf none))) (.nd (.nd (.lf (some Try.f47)) (.lf none)) (.nd (.lf (some Try.f111)) (.lf none)))) (.nd (.nd (.nd (.lf (some Try.f31)) (.lf none)) (.nd (.lf (some Try.f95)) (.lf none))) (.nd (.nd (.lf (some Try.f63)) (.lf none)) (.nd (.lf none) (.lf none))))))))

def methTab : List (TypeId × String × FuncId) := [(138, "lockorder/flow.next", 135), (140, "lockorder/flow.next", 136), (141, "lockorder/flow.next", 137), (142, "lockorder/flow.next", 138)]
theorem methOk : methTab.all (checkM Try.prog) = true := by kernel_rfl
noncomputable def cfg : Cfg := { ti := tiT.at default 224, glob := fun _ => .any, fns := fnT.at none 140, meth := fun t n => lookM methTab t n, keep := fun f => Nat.beq f 115, virt := fun _ => [] }

theorem tisOk : (List.range 224).all (fun t => checkU Try.prog cfg t && checkI Try.prog cfg t) = true := by kernel_rfl
theorem mixedOk : Try.prog.follows .mixedOrders = true := by kernel_rfl
theorem fnsAt : ∀ f, f < 140 → (match fnT.get f with
    | some fn => Try.prog.funcs[f]? = some fn
    | none => True) := by
  intro f hf
  match f, hf with
  | 0, _ => exact trivial
  | 1, _ => exact trivial
  | 2, _ => exact Try.func2
  | 3, _ => exact Try.func3
  | 4, _ => exact Try.func4
  | 5, _ => exact Try.func5
  | 6, _ => exact Try.func6
  | 7, _ => exact Try.func7
  | 8, _ => exact Try.func8
  | 9, _ => exact Try.func9
  | 10, _ => exact Try.func10
  | 11, _ => exact Try.func11
  | 12, _ => exact Try.func12
  | 13, _ => exact Try.func13
  | 14, _ => exact Try.func14
  | 15, _ => exact Try.func15
  | 16, _ => exact Try.func16
  | 17, _ => exact Try.func17
  | 18, _ => exact Try.func18
  | 19, _ => exact Try.func19
  | 20, _ => exact Try.func20
  | 21, _ => exact Try.func21
  | 22, _ => exact Try.func22
  | 23, _ => exact Try.func23
  | 24, _ => exact Try.func24
  | 25, _ => exact Try.func25
  | 26, _ => exact Try.func26
  | 27, _ => exact Try.func27
  | 28, _ => exact Try.func28
  | 29, _ => exact Try.func29
  | 30, _ => exact Try.func30
  | 31, _ => exact Try.func31
  | 32, _ => exact Try.func32
  | 33, _ => exact Try.func33
  | 34, _ => exact Try.func34
  | 35, _ => exact Try.func35
  | 36, _ => exact Try.func36
  | 37, _ => exact Try.func37
  | 38, _ => exact Try.func38
  | 39, _ => exact Try.func39
  | 40, _ => exact Try.func40
  | 41, _ => exact Try.func41
  | 42, _ => exact Try.func42
  | 43, _ => exact Try.func43
  | 44, _ => exact Try.func44
  | 45, _ => exact Try.func45
  | 46, _ => exact Try.func46
  | 47, _ => exact Try.func47
  | 48, _ => exact Try.func48
  | 49, _ => exact Try.func49
  | 50, _ => exact Try.func50
  | 51, _ => exact Try.func51
  | 52, _ => exact Try.func52
  | 53, _ => exact Try.func53
  | 54, _ => exact Try.func54
  | 55, _ => exact Try.func55
  | 56, _ => exact Try.func56
  | 57, _ => exact Try.func57
  | 58, _ => exact Try.func58
  | 59, _ => exact Try.func59
  | 60, _ => exact Try.func60
  | 61, _ => exact Try.func61
  | 62, _ => exact Try.func62
  | 63, _ => exact Try.func63
  | 64, _ => exact Try.func64
  | 65, _ => exact Try.func65
  | 66, _ => exact Try.func66
  | 67, _ => exact Try.func67
  | 68, _ => exact Try.func68
  | 69, _ => exact Try.func69
  | 70, _ => exact Try.func70
  | 71, _ => exact Try.func71
  | 72, _ => exact Try.func72
  | 73, _ => exact Try.func73
  | 74, _ => exact Try.func74
  | 75, _ => exact Try.func75
  | 76, _ => exact Try.func76
  | 77, _ => exact Try.func77
  | 78, _ => exact Try.func78
  | 79, _ => exact Try.func79
  | 80, _ => exact Try.func80
  | 81, _ => exact Try.func81
  | 82, _ => exact Try.func82
  | 83, _ => exact Try.func83
  | 84, _ => exact Try.func84
  | 85, _ => exact Try.func85
  | 86, _ => exact Try.func86
  | 87, _ => exact Try.func87
  | 88, _ => exact Try.func88
  | 89, _ => exact Try.func89
  | 90, _ => exact Try.func90
  | 91, _ => exact Try.func91
  | 92, _ => exact Try.func92
  | 93, _ => exact Try.func93
  | 94, _ => exact Try.func94
  | 95, _ => exact Try.func95
  | 96, _ => exact Try.func96
  | 97, _ => exact Try.func97
  | 98, _ => exact Try.func98
  | 99, _ => exact Try.func99
  | 100, _ => exact Try.func100
  | 101, _ => exact Try.func101
  | 102, _ => exact Try.func102
  | 103, _ => exact Try.func103
  | 104, _ => exact Try.func104
  | 105, _ => exact Try.func105
  | 106, _ => exact Try.func106
  | 107, _ => exact Try.func107
  | 108, _ => exact Try.func108
  | 109, _ => exact Try.func109
  | 110, _ => exact Try.func110
  | 111, _ => exact Try.func111
  | 112, _ => exact Try.func112
  | 113, _ => exact Try.func113
  | 114, _ => exact Try.func114
  | 115, _ => exact Try.func115
  | 116, _ => exact Try.func116
  | 117, _ => exact Try.func117
  | 118, _ => exact Try.func118
  | 119, _ => exact trivial
  | 120, _ => exact trivial
  | 121, _ => exact trivial
  | 122, _ => exact trivial
  | 123, _ => exact trivial
  | 124, _ => exact trivial
  | 125, _ => exact trivial
  | 126, _ => exact trivial
  | 127, _ => exact trivial
  | 128, _ => exact trivial
  | 129, _ => exact trivial
  | 130, _ => exact trivial
  | 131, _ => exact trivial
  | 132, _ => exact trivial
  | 133, _ => exact trivial
  | 134, _ => exact trivial
  | 135, _ => exact Try.func135
  | 136, _ => exact Try.func136
  | 137, _ => exact Try.func137
  | 138, _ => exact Try.func138
  | 139, _ => exact trivial
  | n + 140, h => omega
theorem fnsOk : ∀ f, f < 140 → ∀ fn, fnT.get f = some fn → Try.prog.funcs[f]? = some fn ∧ (fn.name == "runtime.NumGoroutine") = false := by
  have key : ((List.range 140).all fun f => (fnT.get f).all fun fn => !(fn.name == "runtime.NumGoroutine")) = true := by kernel_rfl
  intro f hf fn h
  refine ⟨?_, ?_⟩
  · have hk := fnsAt f hf
    rw [h] at hk
    exact hk
  · have := List.all_eq_true.1 key f (List.mem_range.2 hf)
    rw [h] at this
    simpa using this
theorem good : Ab.Good Try.prog cfg := good_tree tisOk rfl rfl fnsOk (fun t name f h v w => meth_of methOk t name f h v w) mixedOk
theorem virtNone (t : TypeId) : cfg.virt t = [] := rfl
theorem globOk : cfg.glob = fun _ => .any := rfl
theorem ut1 : cfg.ut 1 = .func := rfl
theorem sz1 : cfg.sz 1 = 1 := rfl
theorem ti1 : cfg.ti 1 = ⟨1, 8, [.nilf], .func⟩ := rfl
theorem ut2 : cfg.ut 2 = .int .i64 := rfl
theorem sz2 : cfg.sz 2 = 1 := rfl
theorem ti2 : cfg.ti 2 = ⟨1, 8, [.int .i64 0], .int .i64⟩ := rfl
theorem ut3 : cfg.ut 3 = .int .i64 := rfl
theorem sz3 : cfg.sz 3 = 1 := rfl
theorem ti3 : cfg.ti 3 = ⟨1, 8, [.int .i64 0], .int .i64⟩ := rfl
theorem ut4 : cfg.ut 4 = .bool := rfl
theorem sz4 : cfg.sz 4 = 1 := rfl
theorem ti4 : cfg.ti 4 = ⟨1, 1, [.bool false], .bool⟩ := rfl
theorem ut5 : cfg.ut 5 = .int .u8 := rfl
theorem sz5 : cfg.sz 5 = 1 := rfl
theorem ti5 : cfg.ti 5 = ⟨1, 1, [.int .u8 0], .int .u8⟩ := rfl
theorem ut9 : cfg.ut 9 = .str := rfl
theorem sz9 : cfg.sz 9 = 1 := rfl
theorem ti9 : cfg.ti 9 = ⟨1, 16, [.str .empty], .str⟩ := rfl
theorem ut12 : cfg.ut 12 = .int .u64 := rfl
theorem sz12 : cfg.sz 12 = 1 := rfl
theorem ti12 : cfg.ti 12 = ⟨1, 8, [.int .u64 0], .int .u64⟩ := rfl
theorem ut20 : cfg.ut 20 = .iface := rfl
theorem sz20 : cfg.sz 20 = 1 := rfl
theorem ti20 : cfg.ti 20 = ⟨1, 16, [.nili], .iface⟩ := rfl
theorem ut21 : cfg.ut 21 = .int .i32 := rfl
theorem sz21 : cfg.sz 21 = 1 := rfl
theorem ti21 : cfg.ti 21 = ⟨1, 4, [.int .i32 0], .int .i32⟩ := rfl
theorem ut22 : cfg.ut 22 = .slice 3 := rfl
theorem sz22 : cfg.sz 22 = 1 := rfl
theorem ti22 : cfg.ti 22 = ⟨1, 24, [.nils], .slice 3⟩ := rfl
theorem ut23 : cfg.ut 23 = .slice 100 := rfl
theorem sz23 : cfg.sz 23 = 1 := rfl
theorem ti23 : cfg.ti 23 = ⟨1, 24, [.nils], .slice 100⟩ := rfl
theorem ut24 : cfg.ut 24 = .slice 78 := rfl
theorem sz24 : cfg.sz 24 = 1 := rfl
theorem ti24 : cfg.ti 24 = ⟨1, 24, [.nils], .slice 78⟩ := rfl
theorem ut25 : cfg.ut 25 = .slice 104 := rfl
theorem sz25 : cfg.sz 25 = 1 := rfl
theorem ti25 : cfg.ti 25 = ⟨1, 24, [.nils], .slice 104⟩ := rfl
theorem ut26 : cfg.ut 26 = .strct [(0, 23), (1, 24), (2, 25)] false := rfl
theorem sz26 : cfg.sz 26 = 3 := rfl
theorem ti26 : cfg.ti 26 = ⟨3, 72, [.nils, .nils, .nils], .strct [(0, 23), (1, 24), (2, 25)] false⟩ := rfl
theorem ut27 : cfg.ut 27 = .strct [(0, 23), (1, 24), (2, 25)] false := rfl
theorem sz27 : cfg.sz 27 = 3 := rfl
theorem ti27 : cfg.ti 27 = ⟨3, 72, [.nils, .nils, .nils], .strct [(0, 23), (1, 24), (2, 25)] false⟩ := rfl
theorem ut28 : cfg.ut 28 = .slice 59 := rfl
theorem sz28 : cfg.sz 28 = 1 := rfl
theorem ti28 : cfg.ti 28 = ⟨1, 24, [.nils], .slice 59⟩ := rfl
theorem ut29 : cfg.ut 29 = .strct [(0, 22), (1, 24), (2, 28), (3, 3)] false := rfl
theorem sz29 : cfg.sz 29 = 4 := rfl
theorem ti29 : cfg.ti 29 = ⟨4, 80, [.nils, .nils, .nils, .int .i64 0], .strct [(0, 22), (1, 24), (2, 28), (3, 3)] false⟩ := rfl
theorem ut30 : cfg.ut 30 = .strct [(0, 22), (1, 24), (2, 28), (3, 3)] false := rfl
theorem sz30 : cfg.sz 30 = 4 := rfl
theorem ti30 : cfg.ti 30 = ⟨4, 80, [.nils, .nils, .nils, .int .i64 0], .strct [(0, 22), (1, 24), (2, 28), (3, 3)] false⟩ := rfl
theorem ut31 : cfg.ut 31 = .slice 42 := rfl
theorem sz31 : cfg.sz 31 = 1 := rfl
theorem ti31 : cfg.ti 31 = ⟨1, 24, [.nils], .slice 42⟩ := rfl
theorem ut32 : cfg.ut 32 = .slice 22 := rfl
theorem sz32 : cfg.sz 32 = 1 := rfl
theorem ti32 : cfg.ti 32 = ⟨1, 24, [.nils], .slice 22⟩ := rfl
theorem ut33 : cfg.ut 33 = .strct [(0, 31), (1, 32), (2, 22)] false := rfl
theorem sz33 : cfg.sz 33 = 3 := rfl
theorem ti33 : cfg.ti 33 = ⟨3, 72, [.nils, .nils, .nils], .strct [(0, 31), (1, 32), (2, 22)] false⟩ := rfl
theorem ut34 : cfg.ut 34 = .strct [(0, 31), (1, 32), (2, 22)] false := rfl
theorem sz34 : cfg.sz 34 = 3 := rfl
theorem ti34 : cfg.ti 34 = ⟨3, 72, [.nils, .nils, .nils], .strct [(0, 31), (1, 32), (2, 22)] false⟩ := rfl
theorem ut36 : cfg.ut 36 = .func := rfl
theorem sz36 : cfg.sz 36 = 1 := rfl
theorem ti36 : cfg.ti 36 = ⟨1, 8, [.nilf], .func⟩ := rfl
theorem ut38 : cfg.ut 38 = .func := rfl
theorem sz38 : cfg.sz 38 = 1 := rfl
theorem ti38 : cfg.ti 38 = ⟨1, 8, [.nilf], .func⟩ := rfl
theorem ut39 : cfg.ut 39 = .func := rfl
theorem sz39 : cfg.sz 39 = 1 := rfl
theorem ti39 : cfg.ti 39 = ⟨1, 8, [.nilf], .func⟩ := rfl
theorem ut40 : cfg.ut 40 = .func := rfl
theorem sz40 : cfg.sz 40 = 1 := rfl
theorem ti40 : cfg.ti 40 = ⟨1, 8, [.nilf], .func⟩ := rfl
theorem ut41 : cfg.ut 41 = .strct [(0, 3), (1, 22)] false := rfl
theorem sz41 : cfg.sz 41 = 2 := rfl
theorem ti41 : cfg.ti 41 = ⟨2, 32, [.int .i64 0, .nils], .strct [(0, 3), (1, 22)] false⟩ := rfl
theorem ut42 : cfg.ut 42 = .strct [(0, 3), (1, 22)] false := rfl
theorem sz42 : cfg.sz 42 = 2 := rfl
theorem ti42 : cfg.ti 42 = ⟨2, 32, [.int .i64 0, .nils], .strct [(0, 3), (1, 22)] false⟩ := rfl
theorem ut43 : cfg.ut 43 = .func := rfl
theorem sz43 : cfg.sz 43 = 1 := rfl
theorem ti43 : cfg.ti 43 = ⟨1, 8, [.nilf], .func⟩ := rfl
theorem ut44 : cfg.ut 44 = .func := rfl
theorem sz44 : cfg.sz 44 = 1 := rfl
theorem ti44 : cfg.ti 44 = ⟨1, 8, [.nilf], .func⟩ := rfl
theorem ut45 : cfg.ut 45 = .func := rfl
theorem sz45 : cfg.sz 45 = 1 := rfl
theorem ti45 : cfg.ti 45 = ⟨1, 8, [.nilf], .func⟩ := rfl
theorem ut46 : cfg.ut 46 = .func := rfl
theorem sz46 : cfg.sz 46 = 1 := rfl
theorem ti46 : cfg.ti 46 = ⟨1, 8, [.nilf], .func⟩ := rfl
theorem ut47 : cfg.ut 47 = .func := rfl
theorem sz47 : cfg.sz 47 = 1 := rfl
theorem ti47 : cfg.ti 47 = ⟨1, 8, [.nilf], .func⟩ := rfl
theorem ut48 : cfg.ut 48 = .func := rfl
theorem sz48 : cfg.sz 48 = 1 := rfl
theorem ti48 : cfg.ti 48 = ⟨1, 8, [.nilf], .func⟩ := rfl
theorem ut49 : cfg.ut 49 = .slice 51 := rfl
theorem sz49 : cfg.sz 49 = 1 := rfl
theorem ti49 : cfg.ti 49 = ⟨1, 24, [.nils], .slice 51⟩ := rfl
theorem ut50 : cfg.ut 50 = .strct [(0, 3), (1, 3), (2, 9), (3, 49)] false := rfl
theorem sz50 : cfg.sz 50 = 4 := rfl
theorem ti50 : cfg.ti 50 = ⟨4, 56, [.int .i64 0, .int .i64 0, .str .empty, .nils], .strct [(0, 3), (1, 3), (2, 9), (3, 49)] false⟩ := rfl
theorem ut51 : cfg.ut 51 = .strct [(0, 3), (1, 3), (2, 9), (3, 49)] false := rfl
theorem sz51 : cfg.sz 51 = 4 := rfl
theorem ti51 : cfg.ti 51 = ⟨4, 56, [.int .i64 0, .int .i64 0, .str .empty, .nils], .strct [(0, 3), (1, 3), (2, 9), (3, 49)] false⟩ := rfl
theorem ut52 : cfg.ut 52 = .strct [(0, 4), (1, 3), (2, 49)] false := rfl
theorem sz52 : cfg.sz 52 = 3 := rfl
theorem ti52 : cfg.ti 52 = ⟨3, 40, [.bool false, .int .i64 0, .nils], .strct [(0, 4), (1, 3), (2, 49)] false⟩ := rfl
theorem ut53 : cfg.ut 53 = .strct [(0, 4), (1, 3), (2, 49)] false := rfl
theorem sz53 : cfg.sz 53 = 3 := rfl
theorem ti53 : cfg.ti 53 = ⟨3, 40, [.bool false, .int .i64 0, .nils], .strct [(0, 4), (1, 3), (2, 49)] false⟩ := rfl
theorem ut54 : cfg.ut 54 = .slice 53 := rfl
theorem sz54 : cfg.sz 54 = 1 := rfl
theorem ti54 : cfg.ti 54 = ⟨1, 24, [.nils], .slice 53⟩ := rfl
theorem ut55 : cfg.ut 55 = .strct [(0, 3), (1, 3), (2, 4), (3, 51), (7, 53), (10, 49), (11, 54)] false := rfl
theorem sz55 : cfg.sz 55 = 12 := rfl
theorem ti55 : cfg.ti 55 = ⟨12, 168, [.int .i64 0, .int .i64 0, .bool false, .int .i64 0, .int .i64 0, .str .empty, .nils, .bool false, .int .i64 0, .nils, .nils, .nils], .strct [(0, 3), (1, 3), (2, 4), (3, 51), (7, 53), (10, 49), (11, 54)] false⟩ := rfl
theorem ut56 : cfg.ut 56 = .strct [(0, 3), (1, 3), (2, 4), (3, 51), (7, 53), (10, 49), (11, 54)] false := rfl
theorem sz56 : cfg.sz 56 = 12 := rfl
theorem ti56 : cfg.ti 56 = ⟨12, 168, [.int .i64 0, .int .i64 0, .bool false, .int .i64 0, .int .i64 0, .str .empty, .nils, .bool false, .int .i64 0, .nils, .nils, .nils], .strct [(0, 3), (1, 3), (2, 4), (3, 51), (7, 53), (10, 49), (11, 54)] false⟩ := rfl
theorem ut57 : cfg.ut 57 = .slice 56 := rfl
theorem sz57 : cfg.sz 57 = 1 := rfl
theorem ti57 : cfg.ti 57 = ⟨1, 24, [.nils], .slice 56⟩ := rfl
theorem ut58 : cfg.ut 58 = .strct [(0, 9), (1, 3), (2, 3), (3, 3), (4, 57)] false := rfl
theorem sz58 : cfg.sz 58 = 5 := rfl
theorem ti58 : cfg.ti 58 = ⟨5, 64, [.str .empty, .int .i64 0, .int .i64 0, .int .i64 0, .nils], .strct [(0, 9), (1, 3), (2, 3), (3, 3), (4, 57)] false⟩ := rfl
theorem ut59 : cfg.ut 59 = .strct [(0, 9), (1, 3), (2, 3), (3, 3), (4, 57)] false := rfl
theorem sz59 : cfg.sz 59 = 5 := rfl
theorem ti59 : cfg.ti 59 = ⟨5, 64, [.str .empty, .int .i64 0, .int .i64 0, .int .i64 0, .nils], .strct [(0, 9), (1, 3), (2, 3), (3, 3), (4, 57)] false⟩ := rfl
theorem ut60 : cfg.ut 60 = .func := rfl
theorem sz60 : cfg.sz 60 = 1 := rfl
theorem ti60 : cfg.ti 60 = ⟨1, 8, [.nilf], .func⟩ := rfl
theorem ut61 : cfg.ut 61 = .func := rfl
theorem sz61 : cfg.sz 61 = 1 := rfl
theorem ti61 : cfg.ti 61 = ⟨1, 8, [.nilf], .func⟩ := rfl
theorem ut62 : cfg.ut 62 = .slice 67 := rfl
theorem sz62 : cfg.sz 62 = 1 := rfl
theorem ti62 : cfg.ti 62 = ⟨1, 24, [.nils], .slice 67⟩ := rfl
theorem ut63 : cfg.ut 63 = .strct [(0, 3), (1, 62)] false := rfl
theorem sz63 : cfg.sz 63 = 2 := rfl
theorem ti63 : cfg.ti 63 = ⟨2, 32, [.int .i64 0, .nils], .strct [(0, 3), (1, 62)] false⟩ := rfl
theorem ut64 : cfg.ut 64 = .strct [(0, 3), (1, 62)] false := rfl
theorem sz64 : cfg.sz 64 = 2 := rfl
theorem ti64 : cfg.ti 64 = ⟨2, 32, [.int .i64 0, .nils], .strct [(0, 3), (1, 62)] false⟩ := rfl
theorem ut65 : cfg.ut 65 = .func := rfl
theorem sz65 : cfg.sz 65 = 1 := rfl
theorem ti65 : cfg.ti 65 = ⟨1, 8, [.nilf], .func⟩ := rfl
theorem ut66 : cfg.ut 66 = .strct [(0, 3), (1, 3)] true := rfl
theorem sz66 : cfg.sz 66 = 2 := rfl
theorem ti66 : cfg.ti 66 = ⟨2, 16, [.int .i64 0, .int .i64 0], .strct [(0, 3), (1, 3)] true⟩ := rfl
theorem ut67 : cfg.ut 67 = .strct [(0, 3), (1, 3)] true := rfl
theorem sz67 : cfg.sz 67 = 2 := rfl
theorem ti67 : cfg.ti 67 = ⟨2, 16, [.int .i64 0, .int .i64 0], .strct [(0, 3), (1, 3)] true⟩ := rfl
theorem ut68 : cfg.ut 68 = .func := rfl
theorem sz68 : cfg.sz 68 = 1 := rfl
theorem ti68 : cfg.ti 68 = ⟨1, 8, [.nilf], .func⟩ := rfl
theorem ut69 : cfg.ut 69 = .func := rfl
theorem sz69 : cfg.sz 69 = 1 := rfl
theorem ti69 : cfg.ti 69 = ⟨1, 8, [.nilf], .func⟩ := rfl
theorem ut70 : cfg.ut 70 = .int .i64 := rfl
theorem sz70 : cfg.sz 70 = 1 := rfl
theorem ti70 : cfg.ti 70 = ⟨1, 8, [.int .i64 0], .int .i64⟩ := rfl
theorem ut72 : cfg.ut 72 = .func := rfl
theorem sz72 : cfg.sz 72 = 1 := rfl
theorem ti72 : cfg.ti 72 = ⟨1, 8, [.nilf], .func⟩ := rfl
theorem ut74 : cfg.ut 74 = .func := rfl
theorem sz74 : cfg.sz 74 = 1 := rfl
theorem ti74 : cfg.ti 74 = ⟨1, 8, [.nilf], .func⟩ := rfl
theorem ut75 : cfg.ut 75 = .func := rfl
theorem sz75 : cfg.sz 75 = 1 := rfl
theorem ti75 : cfg.ti 75 = ⟨1, 8, [.nilf], .func⟩ := rfl
theorem ut76 : cfg.ut 76 = .func := rfl
theorem sz76 : cfg.sz 76 = 1 := rfl
theorem ti76 : cfg.ti 76 = ⟨1, 8, [.nilf], .func⟩ := rfl
theorem ut77 : cfg.ut 77 = .strct [(0, 9), (1, 4), (2, 3)] true := rfl
theorem sz77 : cfg.sz 77 = 3 := rfl
theorem ti77 : cfg.ti 77 = ⟨3, 32, [.str .empty, .bool false, .int .i64 0], .strct [(0, 9), (1, 4), (2, 3)] true⟩ := rfl
theorem ut78 : cfg.ut 78 = .strct [(0, 9), (1, 4), (2, 3)] true := rfl
theorem sz78 : cfg.sz 78 = 3 := rfl
theorem ti78 : cfg.ti 78 = ⟨3, 32, [.str .empty, .bool false, .int .i64 0], .strct [(0, 9), (1, 4), (2, 3)] true⟩ := rfl
theorem ut79 : cfg.ut 79 = .func := rfl
theorem sz79 : cfg.sz 79 = 1 := rfl
theorem ti79 : cfg.ti 79 = ⟨1, 8, [.nilf], .func⟩ := rfl
theorem ut80 : cfg.ut 80 = .func := rfl
theorem sz80 : cfg.sz 80 = 1 := rfl
theorem ti80 : cfg.ti 80 = ⟨1, 8, [.nilf], .func⟩ := rfl
theorem ut82 : cfg.ut 82 = .func := rfl
theorem sz82 : cfg.sz 82 = 1 := rfl
theorem ti82 : cfg.ti 82 = ⟨1, 8, [.nilf], .func⟩ := rfl
theorem ut83 : cfg.ut 83 = .slice 5 := rfl
theorem sz83 : cfg.sz 83 = 1 := rfl
theorem ti83 : cfg.ti 83 = ⟨1, 24, [.nils], .slice 5⟩ := rfl
theorem ut84 : cfg.ut 84 = .iface := rfl
theorem sz84 : cfg.sz 84 = 1 := rfl
theorem ti84 : cfg.ti 84 = ⟨1, 16, [.nili], .iface⟩ := rfl
theorem ut85 : cfg.ut 85 = .iface := rfl
theorem sz85 : cfg.sz 85 = 1 := rfl
theorem ti85 : cfg.ti 85 = ⟨1, 16, [.nili], .iface⟩ := rfl
theorem ut86 : cfg.ut 86 = .func := rfl
theorem sz86 : cfg.sz 86 = 1 := rfl
theorem ti86 : cfg.ti 86 = ⟨1, 8, [.nilf], .func⟩ := rfl
theorem ut87 : cfg.ut 87 = .func := rfl
theorem sz87 : cfg.sz 87 = 1 := rfl
theorem ti87 : cfg.ti 87 = ⟨1, 8, [.nilf], .func⟩ := rfl
theorem ut88 : cfg.ut 88 = .func := rfl
theorem sz88 : cfg.sz 88 = 1 := rfl
theorem ti88 : cfg.ti 88 = ⟨1, 8, [.nilf], .func⟩ := rfl
theorem ut89 : cfg.ut 89 = .slice 64 := rfl
theorem sz89 : cfg.sz 89 = 1 := rfl
theorem ti89 : cfg.ti 89 = ⟨1, 24, [.nils], .slice 64⟩ := rfl
theorem ut90 : cfg.ut 90 = .func := rfl
theorem sz90 : cfg.sz 90 = 1 := rfl
theorem ti90 : cfg.ti 90 = ⟨1, 8, [.nilf], .func⟩ := rfl
theorem ut91 : cfg.ut 91 = .ptr 96 := rfl
theorem sz91 : cfg.sz 91 = 1 := rfl
theorem ti91 : cfg.ti 91 = ⟨1, 8, [.nilp], .ptr 96⟩ := rfl
theorem ut92 : cfg.ut 92 = .ptr 94 := rfl
theorem sz92 : cfg.sz 92 = 1 := rfl
theorem ti92 : cfg.ti 92 = ⟨1, 8, [.nilp], .ptr 94⟩ := rfl
theorem ut93 : cfg.ut 93 = .strct [(0, 22), (1, 3)] false := rfl
theorem sz93 : cfg.sz 93 = 2 := rfl
theorem ti93 : cfg.ti 93 = ⟨2, 32, [.nils, .int .i64 0], .strct [(0, 22), (1, 3)] false⟩ := rfl
theorem ut94 : cfg.ut 94 = .strct [(0, 22), (1, 3)] false := rfl
theorem sz94 : cfg.sz 94 = 2 := rfl
theorem ti94 : cfg.ti 94 = ⟨2, 32, [.nils, .int .i64 0], .strct [(0, 22), (1, 3)] false⟩ := rfl
theorem ut95 : cfg.ut 95 = .strct [(0, 92), (1, 27), (4, 3), (5, 4)] false := rfl
theorem sz95 : cfg.sz 95 = 6 := rfl
theorem ti95 : cfg.ti 95 = ⟨6, 96, [.nilp, .nils, .nils, .nils, .int .i64 0, .bool false], .strct [(0, 92), (1, 27), (4, 3), (5, 4)] false⟩ := rfl
theorem ut96 : cfg.ut 96 = .strct [(0, 92), (1, 27), (4, 3), (5, 4)] false := rfl
theorem sz96 : cfg.sz 96 = 6 := rfl
theorem ti96 : cfg.ti 96 = ⟨6, 96, [.nilp, .nils, .nils, .nils, .int .i64 0, .bool false], .strct [(0, 92), (1, 27), (4, 3), (5, 4)] false⟩ := rfl
theorem ut97 : cfg.ut 97 = .func := rfl
theorem sz97 : cfg.sz 97 = 1 := rfl
theorem ti97 : cfg.ti 97 = ⟨1, 8, [.nilf], .func⟩ := rfl
theorem ut98 : cfg.ut 98 = .slice 9 := rfl
theorem sz98 : cfg.sz 98 = 1 := rfl
theorem ti98 : cfg.ti 98 = ⟨1, 24, [.nils], .slice 9⟩ := rfl
theorem ut99 : cfg.ut 99 = .strct [(0, 9), (1, 3)] true := rfl
theorem sz99 : cfg.sz 99 = 2 := rfl
theorem ti99 : cfg.ti 99 = ⟨2, 24, [.str .empty, .int .i64 0], .strct [(0, 9), (1, 3)] true⟩ := rfl
theorem ut100 : cfg.ut 100 = .strct [(0, 9), (1, 3)] true := rfl
theorem sz100 : cfg.sz 100 = 2 := rfl
theorem ti100 : cfg.ti 100 = ⟨2, 24, [.str .empty, .int .i64 0], .strct [(0, 9), (1, 3)] true⟩ := rfl
theorem ut101 : cfg.ut 101 = .slice 106 := rfl
theorem sz101 : cfg.sz 101 = 1 := rfl
theorem ti101 : cfg.ti 101 = ⟨1, 24, [.nils], .slice 106⟩ := rfl
theorem ut102 : cfg.ut 102 = .slice 156 := rfl
theorem sz102 : cfg.sz 102 = 1 := rfl
theorem ti102 : cfg.ti 102 = ⟨1, 24, [.nils], .slice 156⟩ := rfl
theorem ut103 : cfg.ut 103 = .strct [(0, 9), (1, 101), (2, 102)] false := rfl
theorem sz103 : cfg.sz 103 = 3 := rfl
theorem ti103 : cfg.ti 103 = ⟨3, 64, [.str .empty, .nils, .nils], .strct [(0, 9), (1, 101), (2, 102)] false⟩ := rfl
theorem ut104 : cfg.ut 104 = .strct [(0, 9), (1, 101), (2, 102)] false := rfl
theorem sz104 : cfg.sz 104 = 3 := rfl
theorem ti104 : cfg.ti 104 = ⟨3, 64, [.str .empty, .nils, .nils], .strct [(0, 9), (1, 101), (2, 102)] false⟩ := rfl
theorem ut105 : cfg.ut 105 = .strct [(0, 9), (1, 4)] true := rfl
theorem sz105 : cfg.sz 105 = 2 := rfl
theorem ti105 : cfg.ti 105 = ⟨2, 24, [.str .empty, .bool false], .strct [(0, 9), (1, 4)] true⟩ := rfl
theorem ut106 : cfg.ut 106 = .strct [(0, 9), (1, 4)] true := rfl
theorem sz106 : cfg.sz 106 = 2 := rfl
theorem ti106 : cfg.ti 106 = ⟨2, 24, [.str .empty, .bool false], .strct [(0, 9), (1, 4)] true⟩ := rfl
theorem ut107 : cfg.ut 107 = .func := rfl
theorem sz107 : cfg.sz 107 = 1 := rfl
theorem ti107 : cfg.ti 107 = ⟨1, 8, [.nilf], .func⟩ := rfl
theorem ut108 : cfg.ut 108 = .func := rfl
theorem sz108 : cfg.sz 108 = 1 := rfl
theorem ti108 : cfg.ti 108 = ⟨1, 8, [.nilf], .func⟩ := rfl
theorem ut109 : cfg.ut 109 = .slice 113 := rfl
theorem sz109 : cfg.sz 109 = 1 := rfl
theorem ti109 : cfg.ti 109 = ⟨1, 24, [.nils], .slice 113⟩ := rfl
theorem ut111 : cfg.ut 111 = .func := rfl
theorem sz111 : cfg.sz 111 = 1 := rfl
theorem ti111 : cfg.ti 111 = ⟨1, 8, [.nilf], .func⟩ := rfl
theorem ut112 : cfg.ut 112 = .strct [(0, 9), (1, 3), (2, 3)] true := rfl
theorem sz112 : cfg.sz 112 = 3 := rfl
theorem ti112 : cfg.ti 112 = ⟨3, 32, [.str .empty, .int .i64 0, .int .i64 0], .strct [(0, 9), (1, 3), (2, 3)] true⟩ := rfl
theorem ut113 : cfg.ut 113 = .strct [(0, 9), (1, 3), (2, 3)] true := rfl
theorem sz113 : cfg.sz 113 = 3 := rfl
theorem ti113 : cfg.ti 113 = ⟨3, 32, [.str .empty, .int .i64 0, .int .i64 0], .strct [(0, 9), (1, 3), (2, 3)] true⟩ := rfl
theorem ut115 : cfg.ut 115 = .func := rfl
theorem sz115 : cfg.sz 115 = 1 := rfl
theorem ti115 : cfg.ti 115 = ⟨1, 8, [.nilf], .func⟩ := rfl
theorem ut117 : cfg.ut 117 = .func := rfl
theorem sz117 : cfg.sz 117 = 1 := rfl
theorem ti117 : cfg.ti 117 = ⟨1, 8, [.nilf], .func⟩ := rfl
theorem ut119 : cfg.ut 119 = .func := rfl
theorem sz119 : cfg.sz 119 = 1 := rfl
theorem ti119 : cfg.ti 119 = ⟨1, 8, [.nilf], .func⟩ := rfl
theorem ut120 : cfg.ut 120 = .func := rfl
theorem sz120 : cfg.sz 120 = 1 := rfl
theorem ti120 : cfg.ti 120 = ⟨1, 8, [.nilf], .func⟩ := rfl
theorem ut121 : cfg.ut 121 = .slice 136 := rfl
theorem sz121 : cfg.sz 121 = 1 := rfl
theorem ti121 : cfg.ti 121 = ⟨1, 24, [.nils], .slice 136⟩ := rfl
theorem ut123 : cfg.ut 123 = .func := rfl
theorem sz123 : cfg.sz 123 = 1 := rfl
theorem ti123 : cfg.ti 123 = ⟨1, 8, [.nilf], .func⟩ := rfl
theorem ut124 : cfg.ut 124 = .ptr 126 := rfl
theorem sz124 : cfg.sz 124 = 1 := rfl
theorem ti124 : cfg.ti 124 = ⟨1, 8, [.nilp], .ptr 126⟩ := rfl
theorem ut125 : cfg.ut 125 = .strct [(0, 121), (1, 3), (2, 3), (3, 70), (4, 3), (5, 3)] false := rfl
theorem sz125 : cfg.sz 125 = 6 := rfl
theorem ti125 : cfg.ti 125 = ⟨6, 64, [.nils, .int .i64 0, .int .i64 0, .int .i64 0, .int .i64 0, .int .i64 0], .strct [(0, 121), (1, 3), (2, 3), (3, 70), (4, 3), (5, 3)] false⟩ := rfl
theorem ut126 : cfg.ut 126 = .strct [(0, 121), (1, 3), (2, 3), (3, 70), (4, 3), (5, 3)] false := rfl
theorem sz126 : cfg.sz 126 = 6 := rfl
theorem ti126 : cfg.ti 126 = ⟨6, 64, [.nils, .int .i64 0, .int .i64 0, .int .i64 0, .int .i64 0, .int .i64 0], .strct [(0, 121), (1, 3), (2, 3), (3, 70), (4, 3), (5, 3)] false⟩ := rfl
theorem ut127 : cfg.ut 127 = .func := rfl
theorem sz127 : cfg.sz 127 = 1 := rfl
theorem ti127 : cfg.ti 127 = ⟨1, 8, [.nilf], .func⟩ := rfl
theorem ut128 : cfg.ut 128 = .func := rfl
theorem sz128 : cfg.sz 128 = 1 := rfl
theorem ti128 : cfg.ti 128 = ⟨1, 8, [.nilf], .func⟩ := rfl
theorem ut129 : cfg.ut 129 = .func := rfl
theorem sz129 : cfg.sz 129 = 1 := rfl
theorem ti129 : cfg.ti 129 = ⟨1, 8, [.nilf], .func⟩ := rfl
theorem ut130 : cfg.ut 130 = .func := rfl
theorem sz130 : cfg.sz 130 = 1 := rfl
theorem ti130 : cfg.ti 130 = ⟨1, 8, [.nilf], .func⟩ := rfl
theorem ut131 : cfg.ut 131 = .func := rfl
theorem sz131 : cfg.sz 131 = 1 := rfl
theorem ti131 : cfg.ti 131 = ⟨1, 8, [.nilf], .func⟩ := rfl
theorem ut132 : cfg.ut 132 = .func := rfl
theorem sz132 : cfg.sz 132 = 1 := rfl
theorem ti132 : cfg.ti 132 = ⟨1, 8, [.nilf], .func⟩ := rfl
theorem ut133 : cfg.ut 133 = .func := rfl
theorem sz133 : cfg.sz 133 = 1 := rfl
theorem ti133 : cfg.ti 133 = ⟨1, 8, [.nilf], .func⟩ := rfl
theorem ut134 : cfg.ut 134 = .func := rfl
theorem sz134 : cfg.sz 134 = 1 := rfl
theorem ti134 : cfg.ti 134 = ⟨1, 8, [.nilf], .func⟩ := rfl
theorem ut135 : cfg.ut 135 = .strct [(0, 3), (1, 9), (2, 3), (3, 3)] true := rfl
theorem sz135 : cfg.sz 135 = 4 := rfl
theorem ti135 : cfg.ti 135 = ⟨4, 40, [.int .i64 0, .str .empty, .int .i64 0, .int .i64 0], .strct [(0, 3), (1, 9), (2, 3), (3, 3)] true⟩ := rfl
theorem ut136 : cfg.ut 136 = .strct [(0, 3), (1, 9), (2, 3), (3, 3)] true := rfl
theorem sz136 : cfg.sz 136 = 4 := rfl
theorem ti136 : cfg.ti 136 = ⟨4, 40, [.int .i64 0, .str .empty, .int .i64 0, .int .i64 0], .strct [(0, 3), (1, 9), (2, 3), (3, 3)] true⟩ := rfl
theorem ut137 : cfg.ut 137 = .strct [] true := rfl
theorem sz137 : cfg.sz 137 = 0 := rfl
theorem ti137 : cfg.ti 137 = ⟨0, 0, [], .strct [] true⟩ := rfl
theorem ut138 : cfg.ut 138 = .strct [] true := rfl
theorem sz138 : cfg.sz 138 = 0 := rfl
theorem ti138 : cfg.ti 138 = ⟨0, 0, [], .strct [] true⟩ := rfl
theorem ut139 : cfg.ut 139 = .strct [(0, 3)] true := rfl
theorem sz139 : cfg.sz 139 = 1 := rfl
theorem ti139 : cfg.ti 139 = ⟨1, 8, [.int .i64 0], .strct [(0, 3)] true⟩ := rfl
theorem ut140 : cfg.ut 140 = .strct [(0, 3)] true := rfl
theorem sz140 : cfg.sz 140 = 1 := rfl
theorem ti140 : cfg.ti 140 = ⟨1, 8, [.int .i64 0], .strct [(0, 3)] true⟩ := rfl
theorem ut141 : cfg.ut 141 = .strct [(0, 3)] true := rfl
theorem sz141 : cfg.sz 141 = 1 := rfl
theorem ti141 : cfg.ti 141 = ⟨1, 8, [.int .i64 0], .strct [(0, 3)] true⟩ := rfl
theorem ut142 : cfg.ut 142 = .strct [] true := rfl
theorem sz142 : cfg.sz 142 = 0 := rfl
theorem ti142 : cfg.ti 142 = ⟨0, 0, [], .strct [] true⟩ := rfl
theorem ut143 : cfg.ut 143 = .func := rfl
theorem sz143 : cfg.sz 143 = 1 := rfl
theorem ti143 : cfg.ti 143 = ⟨1, 8, [.nilf], .func⟩ := rfl
theorem ut144 : cfg.ut 144 = .ptr 148 := rfl
theorem sz144 : cfg.sz 144 = 1 := rfl
theorem ti144 : cfg.ti 144 = ⟨1, 8, [.nilp], .ptr 148⟩ := rfl
theorem ut145 : cfg.ut 145 = .strct [(0, 30), (4, 34), (7, 3)] false := rfl
theorem sz145 : cfg.sz 145 = 8 := rfl
theorem ti145 : cfg.ti 145 = ⟨8, 160, [.nils, .nils, .nils, .int .i64 0, .nils, .nils, .nils, .int .i64 0], .strct [(0, 30), (4, 34), (7, 3)] false⟩ := rfl
theorem ut146 : cfg.ut 146 = .strct [(0, 30), (4, 34), (7, 3)] false := rfl
theorem sz146 : cfg.sz 146 = 8 := rfl
theorem ti146 : cfg.ti 146 = ⟨8, 160, [.nils, .nils, .nils, .int .i64 0, .nils, .nils, .nils, .int .i64 0], .strct [(0, 30), (4, 34), (7, 3)] false⟩ := rfl
theorem ut147 : cfg.ut 147 = .strct [(0, 146), (8, 3), (9, 89)] false := rfl
theorem sz147 : cfg.sz 147 = 10 := rfl
theorem ti147 : cfg.ti 147 = ⟨10, 192, [.nils, .nils, .nils, .int .i64 0, .nils, .nils, .nils, .int .i64 0, .int .i64 0, .nils], .strct [(0, 146), (8, 3), (9, 89)] false⟩ := rfl
theorem ut148 : cfg.ut 148 = .strct [(0, 146), (8, 3), (9, 89)] false := rfl
theorem sz148 : cfg.sz 148 = 10 := rfl
theorem ti148 : cfg.ti 148 = ⟨10, 192, [.nils, .nils, .nils, .int .i64 0, .nils, .nils, .nils, .int .i64 0, .int .i64 0, .nils], .strct [(0, 146), (8, 3), (9, 89)] false⟩ := rfl
theorem ut149 : cfg.ut 149 = .func := rfl
theorem sz149 : cfg.sz 149 = 1 := rfl
theorem ti149 : cfg.ti 149 = ⟨1, 8, [.nilf], .func⟩ := rfl
theorem ut150 : cfg.ut 150 = .func := rfl
theorem sz150 : cfg.sz 150 = 1 := rfl
theorem ti150 : cfg.ti 150 = ⟨1, 8, [.nilf], .func⟩ := rfl
theorem ut151 : cfg.ut 151 = .func := rfl
theorem sz151 : cfg.sz 151 = 1 := rfl
theorem ti151 : cfg.ti 151 = ⟨1, 8, [.nilf], .func⟩ := rfl
theorem ut152 : cfg.ut 152 = .strct [(0, 9), (1, 49)] false := rfl
theorem sz152 : cfg.sz 152 = 2 := rfl
theorem ti152 : cfg.ti 152 = ⟨2, 40, [.str .empty, .nils], .strct [(0, 9), (1, 49)] false⟩ := rfl
theorem ut153 : cfg.ut 153 = .strct [(0, 9), (1, 49)] false := rfl
theorem sz153 : cfg.sz 153 = 2 := rfl
theorem ti153 : cfg.ti 153 = ⟨2, 40, [.str .empty, .nils], .strct [(0, 9), (1, 49)] false⟩ := rfl
theorem ut154 : cfg.ut 154 = .slice 178 := rfl
theorem sz154 : cfg.sz 154 = 1 := rfl
theorem ti154 : cfg.ti 154 = ⟨1, 24, [.nils], .slice 178⟩ := rfl
theorem ut155 : cfg.ut 155 = .strct [(0, 3), (1, 9), (2, 51), (6, 153), (8, 154), (9, 102), (10, 102)] false := rfl
theorem sz155 : cfg.sz 155 = 11 := rfl
theorem ti155 : cfg.ti 155 = ⟨11, 192, [.int .i64 0, .str .empty, .int .i64 0, .int .i64 0, .str .empty, .nils, .str .empty, .nils, .nils, .nils, .nils], .strct [(0, 3), (1, 9), (2, 51), (6, 153), (8, 154), (9, 102), (10, 102)] false⟩ := rfl
theorem ut156 : cfg.ut 156 = .strct [(0, 3), (1, 9), (2, 51), (6, 153), (8, 154), (9, 102), (10, 102)] false := rfl
theorem sz156 : cfg.sz 156 = 11 := rfl
theorem ti156 : cfg.ti 156 = ⟨11, 192, [.int .i64 0, .str .empty, .int .i64 0, .int .i64 0, .str .empty, .nils, .str .empty, .nils, .nils, .nils, .nils], .strct [(0, 3), (1, 9), (2, 51), (6, 153), (8, 154), (9, 102), (10, 102)] false⟩ := rfl
theorem ut157 : cfg.ut 157 = .func := rfl
theorem sz157 : cfg.sz 157 = 1 := rfl
theorem ti157 : cfg.ti 157 = ⟨1, 8, [.nilf], .func⟩ := rfl
theorem ut158 : cfg.ut 158 = .func := rfl
theorem sz158 : cfg.sz 158 = 1 := rfl
theorem ti158 : cfg.ti 158 = ⟨1, 8, [.nilf], .func⟩ := rfl
theorem ut159 : cfg.ut 159 = .func := rfl
theorem sz159 : cfg.sz 159 = 1 := rfl
theorem ti159 : cfg.ti 159 = ⟨1, 8, [.nilf], .func⟩ := rfl
theorem ut160 : cfg.ut 160 = .func := rfl
theorem sz160 : cfg.sz 160 = 1 := rfl
theorem ti160 : cfg.ti 160 = ⟨1, 8, [.nilf], .func⟩ := rfl
theorem ut161 : cfg.ut 161 = .func := rfl
theorem sz161 : cfg.sz 161 = 1 := rfl
theorem ti161 : cfg.ti 161 = ⟨1, 8, [.nilf], .func⟩ := rfl
theorem ut162 : cfg.ut 162 = .ptr 164 := rfl
theorem sz162 : cfg.sz 162 = 1 := rfl
theorem ti162 : cfg.ti 162 = ⟨1, 8, [.nilp], .ptr 164⟩ := rfl
theorem ut163 : cfg.ut 163 = .strct [(0, 27), (3, 109), (4, 3), (5, 3), (6, 3), (7, 70), (8, 57), (9, 22)] false := rfl
theorem sz163 : cfg.sz 163 = 10 := rfl
theorem ti163 : cfg.ti 163 = ⟨10, 176, [.nils, .nils, .nils, .nils, .int .i64 0, .int .i64 0, .int .i64 0, .int .i64 0, .nils, .nils], .strct [(0, 27), (3, 109), (4, 3), (5, 3), (6, 3), (7, 70), (8, 57), (9, 22)] false⟩ := rfl
theorem ut164 : cfg.ut 164 = .strct [(0, 27), (3, 109), (4, 3), (5, 3), (6, 3), (7, 70), (8, 57), (9, 22)] false := rfl
theorem sz164 : cfg.sz 164 = 10 := rfl
theorem ti164 : cfg.ti 164 = ⟨10, 176, [.nils, .nils, .nils, .nils, .int .i64 0, .int .i64 0, .int .i64 0, .int .i64 0, .nils, .nils], .strct [(0, 27), (3, 109), (4, 3), (5, 3), (6, 3), (7, 70), (8, 57), (9, 22)] false⟩ := rfl
theorem ut165 : cfg.ut 165 = .func := rfl
theorem sz165 : cfg.sz 165 = 1 := rfl
theorem ti165 : cfg.ti 165 = ⟨1, 8, [.nilf], .func⟩ := rfl
theorem ut166 : cfg.ut 166 = .func := rfl
theorem sz166 : cfg.sz 166 = 1 := rfl
theorem ti166 : cfg.ti 166 = ⟨1, 8, [.nilf], .func⟩ := rfl
theorem ut167 : cfg.ut 167 = .func := rfl
theorem sz167 : cfg.sz 167 = 1 := rfl
theorem ti167 : cfg.ti 167 = ⟨1, 8, [.nilf], .func⟩ := rfl
theorem ut168 : cfg.ut 168 = .func := rfl
theorem sz168 : cfg.sz 168 = 1 := rfl
theorem ti168 : cfg.ti 168 = ⟨1, 8, [.nilf], .func⟩ := rfl
theorem ut169 : cfg.ut 169 = .func := rfl
theorem sz169 : cfg.sz 169 = 1 := rfl
theorem ti169 : cfg.ti 169 = ⟨1, 8, [.nilf], .func⟩ := rfl
theorem ut170 : cfg.ut 170 = .func := rfl
theorem sz170 : cfg.sz 170 = 1 := rfl
theorem ti170 : cfg.ti 170 = ⟨1, 8, [.nilf], .func⟩ := rfl
theorem ut171 : cfg.ut 171 = .func := rfl
theorem sz171 : cfg.sz 171 = 1 := rfl
theorem ti171 : cfg.ti 171 = ⟨1, 8, [.nilf], .func⟩ := rfl
theorem ut172 : cfg.ut 172 = .func := rfl
theorem sz172 : cfg.sz 172 = 1 := rfl
theorem ti172 : cfg.ti 172 = ⟨1, 8, [.nilf], .func⟩ := rfl
theorem ut173 : cfg.ut 173 = .func := rfl
theorem sz173 : cfg.sz 173 = 1 := rfl
theorem ti173 : cfg.ti 173 = ⟨1, 8, [.nilf], .func⟩ := rfl
theorem ut174 : cfg.ut 174 = .func := rfl
theorem sz174 : cfg.sz 174 = 1 := rfl
theorem ti174 : cfg.ti 174 = ⟨1, 8, [.nilf], .func⟩ := rfl
theorem ut175 : cfg.ut 175 = .func := rfl
theorem sz175 : cfg.sz 175 = 1 := rfl
theorem ti175 : cfg.ti 175 = ⟨1, 8, [.nilf], .func⟩ := rfl
theorem ut176 : cfg.ut 176 = .func := rfl
theorem sz176 : cfg.sz 176 = 1 := rfl
theorem ti176 : cfg.ti 176 = ⟨1, 8, [.nilf], .func⟩ := rfl
theorem ut177 : cfg.ut 177 = .strct [(0, 4), (1, 153), (3, 51)] false := rfl
theorem sz177 : cfg.sz 177 = 7 := rfl
theorem ti177 : cfg.ti 177 = ⟨7, 104, [.bool false, .str .empty, .nils, .int .i64 0, .int .i64 0, .str .empty, .nils], .strct [(0, 4), (1, 153), (3, 51)] false⟩ := rfl
theorem ut178 : cfg.ut 178 = .strct [(0, 4), (1, 153), (3, 51)] false := rfl
theorem sz178 : cfg.sz 178 = 7 := rfl
theorem ti178 : cfg.ti 178 = ⟨7, 104, [.bool false, .str .empty, .nils, .int .i64 0, .int .i64 0, .str .empty, .nils], .strct [(0, 4), (1, 153), (3, 51)] false⟩ := rfl
theorem ut179 : cfg.ut 179 = .func := rfl
theorem sz179 : cfg.sz 179 = 1 := rfl
theorem ti179 : cfg.ti 179 = ⟨1, 8, [.nilf], .func⟩ := rfl
theorem ut180 : cfg.ut 180 = .func := rfl
theorem sz180 : cfg.sz 180 = 1 := rfl
theorem ti180 : cfg.ti 180 = ⟨1, 8, [.nilf], .func⟩ := rfl
theorem ut181 : cfg.ut 181 = .func := rfl
theorem sz181 : cfg.sz 181 = 1 := rfl
theorem ti181 : cfg.ti 181 = ⟨1, 8, [.nilf], .func⟩ := rfl
theorem ut182 : cfg.ut 182 = .func := rfl
theorem sz182 : cfg.sz 182 = 1 := rfl
theorem ti182 : cfg.ti 182 = ⟨1, 8, [.nilf], .func⟩ := rfl
theorem ut183 : cfg.ut 183 = .func := rfl
theorem sz183 : cfg.sz 183 = 1 := rfl
theorem ti183 : cfg.ti 183 = ⟨1, 8, [.nilf], .func⟩ := rfl
theorem ut184 : cfg.ut 184 = .func := rfl
theorem sz184 : cfg.sz 184 = 1 := rfl
theorem ti184 : cfg.ti 184 = ⟨1, 8, [.nilf], .func⟩ := rfl
theorem ut185 : cfg.ut 185 = .func := rfl
theorem sz185 : cfg.sz 185 = 1 := rfl
theorem ti185 : cfg.ti 185 = ⟨1, 8, [.nilf], .func⟩ := rfl
theorem ut186 : cfg.ut 186 = .func := rfl
theorem sz186 : cfg.sz 186 = 1 := rfl
theorem ti186 : cfg.ti 186 = ⟨1, 8, [.nilf], .func⟩ := rfl
theorem ut187 : cfg.ut 187 = .func := rfl
theorem sz187 : cfg.sz 187 = 1 := rfl
theorem ti187 : cfg.ti 187 = ⟨1, 8, [.nilf], .func⟩ := rfl
theorem ut188 : cfg.ut 188 = .func := rfl
theorem sz188 : cfg.sz 188 = 1 := rfl
theorem ti188 : cfg.ti 188 = ⟨1, 8, [.nilf], .func⟩ := rfl
theorem ut189 : cfg.ut 189 = .func := rfl
theorem sz189 : cfg.sz 189 = 1 := rfl
theorem ti189 : cfg.ti 189 = ⟨1, 8, [.nilf], .func⟩ := rfl
theorem ut190 : cfg.ut 190 = .func := rfl
theorem sz190 : cfg.sz 190 = 1 := rfl
theorem ti190 : cfg.ti 190 = ⟨1, 8, [.nilf], .func⟩ := rfl
theorem ut191 : cfg.ut 191 = .func := rfl
theorem sz191 : cfg.sz 191 = 1 := rfl
theorem ti191 : cfg.ti 191 = ⟨1, 8, [.nilf], .func⟩ := rfl
theorem ut192 : cfg.ut 192 = .func := rfl
theorem sz192 : cfg.sz 192 = 1 := rfl
theorem ti192 : cfg.ti 192 = ⟨1, 8, [.nilf], .func⟩ := rfl
theorem ut193 : cfg.ut 193 = .func := rfl
theorem sz193 : cfg.sz 193 = 1 := rfl
theorem ti193 : cfg.ti 193 = ⟨1, 8, [.nilf], .func⟩ := rfl
theorem ut194 : cfg.ut 194 = .func := rfl
theorem sz194 : cfg.sz 194 = 1 := rfl
theorem ti194 : cfg.ti 194 = ⟨1, 8, [.nilf], .func⟩ := rfl
theorem ut195 : cfg.ut 195 = .slice 3 := rfl
theorem sz195 : cfg.sz 195 = 1 := rfl
theorem ti195 : cfg.ti 195 = ⟨1, 24, [.nils], .slice 3⟩ := rfl
theorem ut196 : cfg.ut 196 = .func := rfl
theorem sz196 : cfg.sz 196 = 1 := rfl
theorem ti196 : cfg.ti 196 = ⟨1, 8, [.nilf], .func⟩ := rfl
theorem ut197 : cfg.ut 197 = .func := rfl
theorem sz197 : cfg.sz 197 = 1 := rfl
theorem ti197 : cfg.ti 197 = ⟨1, 8, [.nilf], .func⟩ := rfl
theorem ut198 : cfg.ut 198 = .func := rfl
theorem sz198 : cfg.sz 198 = 1 := rfl
theorem ti198 : cfg.ti 198 = ⟨1, 8, [.nilf], .func⟩ := rfl
theorem ut199 : cfg.ut 199 = .int .u64 := rfl
theorem sz199 : cfg.sz 199 = 1 := rfl
theorem ti199 : cfg.ti 199 = ⟨1, 8, [.int .u64 0], .int .u64⟩ := rfl
theorem ut200 : cfg.ut 200 = .func := rfl
theorem sz200 : cfg.sz 200 = 1 := rfl
theorem ti200 : cfg.ti 200 = ⟨1, 8, [.nilf], .func⟩ := rfl
theorem ut201 : cfg.ut 201 = .func := rfl
theorem sz201 : cfg.sz 201 = 1 := rfl
theorem ti201 : cfg.ti 201 = ⟨1, 8, [.nilf], .func⟩ := rfl
theorem ut202 : cfg.ut 202 = .func := rfl
theorem sz202 : cfg.sz 202 = 1 := rfl
theorem ti202 : cfg.ti 202 = ⟨1, 8, [.nilf], .func⟩ := rfl
theorem ut203 : cfg.ut 203 = .func := rfl
theorem sz203 : cfg.sz 203 = 1 := rfl
theorem ti203 : cfg.ti 203 = ⟨1, 8, [.nilf], .func⟩ := rfl
theorem ut205 : cfg.ut 205 = .func := rfl
theorem sz205 : cfg.sz 205 = 1 := rfl
theorem ti205 : cfg.ti 205 = ⟨1, 8, [.nilf], .func⟩ := rfl
theorem ut206 : cfg.ut 206 = .slice 62 := rfl
theorem sz206 : cfg.sz 206 = 1 := rfl
theorem ti206 : cfg.ti 206 = ⟨1, 24, [.nils], .slice 62⟩ := rfl
theorem ut207 : cfg.ut 207 = .func := rfl
theorem sz207 : cfg.sz 207 = 1 := rfl
theorem ti207 : cfg.ti 207 = ⟨1, 8, [.nilf], .func⟩ := rfl
theorem ut208 : cfg.ut 208 = .func := rfl
theorem sz208 : cfg.sz 208 = 1 := rfl
theorem ti208 : cfg.ti 208 = ⟨1, 8, [.nilf], .func⟩ := rfl
theorem ut214 : cfg.ut 214 = .int .u32 := rfl
theorem sz214 : cfg.sz 214 = 1 := rfl
theorem ti214 : cfg.ti 214 = ⟨1, 4, [.int .u32 0], .int .u32⟩ := rfl
theorem ut218 : cfg.ut 218 = .ptr 5 := rfl
theorem sz218 : cfg.sz 218 = 1 := rfl
theorem ti218 : cfg.ti 218 = ⟨1, 8, [.nilp], .ptr 5⟩ := rfl
theorem hb3 : hasBody cfg 3 = true := by kernel_rfl
theorem fn3 : cfg.fns 3 = some Try.f3 := by kernel_rfl
theorem res3 : Try.f3.results = #[.tmp 8] := rfl
theorem ntm3 : Try.f3.ntmps = 76 := rfl
theorem hb4 : hasBody cfg 4 = true := by kernel_rfl
theorem fn4 : cfg.fns 4 = some Try.f4 := by kernel_rfl
theorem res4 : Try.f4.results = #[.tmp 6] := rfl
theorem ntm4 : Try.f4.ntmps = 46 := rfl
theorem hb5 : hasBody cfg 5 = true := by kernel_rfl
theorem fn5 : cfg.fns 5 = some Try.f5 := by kernel_rfl
theorem res5 : Try.f5.results = #[.tmp 6] := rfl
theorem ntm5 : Try.f5.ntmps = 94 := rfl
theorem hb6 : hasBody cfg 6 = true := by kernel_rfl
theorem fn6 : cfg.fns 6 = some Try.f6 := by kernel_rfl
theorem res6 : Try.f6.results = #[.tmp 6] := rfl
theorem ntm6 : Try.f6.ntmps = 102 := rfl
theorem hb7 : hasBody cfg 7 = true := by kernel_rfl
theorem fn7 : cfg.fns 7 = some Try.f7 := by kernel_rfl
theorem res7 : Try.f7.results = #[.tmp 10] := rfl
theorem ntm7 : Try.f7.ntmps = 99 := rfl
theorem hb8 : hasBody cfg 8 = true := by kernel_rfl
theorem fn8 : cfg.fns 8 = some Try.f8 := by kernel_rfl
theorem res8 : Try.f8.results = #[.tmp 8] := rfl
theorem ntm8 : Try.f8.ntmps = 70 := rfl
theorem hb9 : hasBody cfg 9 = true := by kernel_rfl
theorem fn9 : cfg.fns 9 = some Try.f9 := by kernel_rfl
theorem res9 : Try.f9.results = #[.cell 2 27, .cell 3 30, .cell 4 34] := rfl
theorem ntm9 : Try.f9.ntmps = 29 := rfl
theorem hb10 : hasBody cfg 10 = true := by kernel_rfl
theorem fn10 : cfg.fns 10 = some Try.f10 := by kernel_rfl
theorem res10 : Try.f10.results = #[.tmp 8, .tmp 9] := rfl
theorem ntm10 : Try.f10.ntmps = 31 := rfl
theorem hb11 : hasBody cfg 11 = true := by kernel_rfl
theorem fn11 : cfg.fns 11 = some Try.f11 := by kernel_rfl
theorem res11 : Try.f11.results = #[.tmp 4] := rfl
theorem ntm11 : Try.f11.ntmps = 12 := rfl
theorem hb12 : hasBody cfg 12 = true := by kernel_rfl
theorem fn12 : cfg.fns 12 = some Try.f12 := by kernel_rfl
theorem res12 : Try.f12.results = #[.tmp 8] := rfl
theorem ntm12 : Try.f12.ntmps = 33 := rfl
theorem hb13 : hasBody cfg 13 = true := by kernel_rfl
theorem fn13 : cfg.fns 13 = some Try.f13 := by kernel_rfl
theorem res13 : Try.f13.results = #[.tmp 8] := rfl
theorem ntm13 : Try.f13.ntmps = 44 := rfl
theorem hb14 : hasBody cfg 14 = true := by kernel_rfl
theorem fn14 : cfg.fns 14 = some Try.f14 := by kernel_rfl
theorem res14 : Try.f14.results = #[.tmp 4] := rfl
theorem ntm14 : Try.f14.ntmps = 26 := rfl
theorem hb15 : hasBody cfg 15 = true := by kernel_rfl
theorem fn15 : cfg.fns 15 = some Try.f15 := by kernel_rfl
theorem res15 : Try.f15.results = #[.tmp 8] := rfl
theorem ntm15 : Try.f15.ntmps = 31 := rfl
theorem hb16 : hasBody cfg 16 = true := by kernel_rfl
theorem fn16 : cfg.fns 16 = some Try.f16 := by kernel_rfl
theorem res16 : Try.f16.results = #[.tmp 8] := rfl
theorem ntm16 : Try.f16.ntmps = 21 := rfl
theorem hb17 : hasBody cfg 17 = true := by kernel_rfl
theorem fn17 : cfg.fns 17 = some Try.f17 := by kernel_rfl
theorem res17 : Try.f17.results = #[.tmp 0] := rfl
theorem ntm17 : Try.f17.ntmps = 55 := rfl
theorem hb18 : hasBody cfg 18 = true := by kernel_rfl
theorem fn18 : cfg.fns 18 = some Try.f18 := by kernel_rfl
theorem res18 : Try.f18.results = #[.tmp 6] := rfl
theorem ntm18 : Try.f18.ntmps = 16 := rfl
theorem hb19 : hasBody cfg 19 = true := by kernel_rfl
theorem fn19 : cfg.fns 19 = some Try.f19 := by kernel_rfl
theorem res19 : Try.f19.results = #[.tmp 6] := rfl
theorem ntm19 : Try.f19.ntmps = 38 := rfl
theorem hb20 : hasBody cfg 20 = true := by kernel_rfl
theorem fn20 : cfg.fns 20 = some Try.f20 := by kernel_rfl
theorem res20 : Try.f20.results = #[.tmp 4] := rfl
theorem ntm20 : Try.f20.ntmps = 28 := rfl
theorem hb21 : hasBody cfg 21 = true := by kernel_rfl
theorem fn21 : cfg.fns 21 = some Try.f21 := by kernel_rfl
theorem res21 : Try.f21.results = #[.tmp 4] := rfl
theorem ntm21 : Try.f21.ntmps = 17 := rfl
theorem hb22 : hasBody cfg 22 = true := by kernel_rfl
theorem fn22 : cfg.fns 22 = some Try.f22 := by kernel_rfl
theorem res22 : Try.f22.results = #[.tmp 4] := rfl
theorem ntm22 : Try.f22.ntmps = 38 := rfl
theorem hb23 : hasBody cfg 23 = true := by kernel_rfl
theorem fn23 : cfg.fns 23 = some Try.f23 := by kernel_rfl
theorem res23 : Try.f23.results = #[.tmp 0] := rfl
theorem ntm23 : Try.f23.ntmps = 76 := rfl
theorem hb24 : hasBody cfg 24 = true := by kernel_rfl
theorem fn24 : cfg.fns 24 = some Try.f24 := by kernel_rfl
theorem res24 : Try.f24.results = #[.cell 2 27] := rfl
theorem ntm24 : Try.f24.ntmps = 264 := rfl
theorem hb25 : hasBody cfg 25 = true := by kernel_rfl
theorem fn25 : cfg.fns 25 = some Try.f25 := by kernel_rfl
theorem res25 : Try.f25.results = #[.cell 2 30, .tmp 3, .tmp 4, .tmp 5] := rfl
theorem ntm25 : Try.f25.ntmps = 112 := rfl
theorem hb26 : hasBody cfg 26 = true := by kernel_rfl
theorem fn26 : cfg.fns 26 = some Try.f26 := by kernel_rfl
theorem res26 : Try.f26.results = #[.cell 2 34, .tmp 3] := rfl
theorem ntm26 : Try.f26.ntmps = 109 := rfl
theorem hb27 : hasBody cfg 27 = true := by kernel_rfl
theorem fn27 : cfg.fns 27 = some Try.f27 := by kernel_rfl
theorem res27 : Try.f27.results = #[.cell 6 56] := rfl
theorem ntm27 : Try.f27.ntmps = 17 := rfl
theorem hb28 : hasBody cfg 28 = true := by kernel_rfl
theorem fn28 : cfg.fns 28 = some Try.f28 := by kernel_rfl
theorem res28 : Try.f28.results = #[.tmp 4] := rfl
theorem ntm28 : Try.f28.ntmps = 15 := rfl
theorem hb29 : hasBody cfg 29 = true := by kernel_rfl
theorem fn29 : cfg.fns 29 = some Try.f29 := by kernel_rfl
theorem res29 : Try.f29.results = #[.tmp 2] := rfl
theorem ntm29 : Try.f29.ntmps = 11 := rfl
theorem hb30 : hasBody cfg 30 = true := by kernel_rfl
theorem fn30 : cfg.fns 30 = some Try.f30 := by kernel_rfl
theorem res30 : Try.f30.results = #[.tmp 2] := rfl
theorem ntm30 : Try.f30.ntmps = 5 := rfl
theorem hb31 : hasBody cfg 31 = true := by kernel_rfl
theorem fn31 : cfg.fns 31 = some Try.f31 := by kernel_rfl
theorem res31 : Try.f31.results = #[.tmp 2] := rfl
theorem ntm31 : Try.f31.ntmps = 5 := rfl
theorem hb32 : hasBody cfg 32 = true := by kernel_rfl
theorem fn32 : cfg.fns 32 = some Try.f32 := by kernel_rfl
theorem res32 : Try.f32.results = #[.tmp 2] := rfl
theorem ntm32 : Try.f32.ntmps = 5 := rfl
theorem hb33 : hasBody cfg 33 = true := by kernel_rfl
theorem fn33 : cfg.fns 33 = some Try.f33 := by kernel_rfl
theorem res33 : Try.f33.results = #[.tmp 4] := rfl
theorem ntm33 : Try.f33.ntmps = 32 := rfl
theorem hb34 : hasBody cfg 34 = true := by kernel_rfl
theorem fn34 : cfg.fns 34 = some Try.f34 := by kernel_rfl
theorem res34 : Try.f34.results = #[.tmp 2] := rfl
theorem ntm34 : Try.f34.ntmps = 11 := rfl
theorem hb35 : hasBody cfg 35 = true := by kernel_rfl
theorem fn35 : cfg.fns 35 = some Try.f35 := by kernel_rfl
theorem res35 : Try.f35.results = #[.cell 2 27, .tmp 3, .tmp 4] := rfl
theorem ntm35 : Try.f35.ntmps = 146 := rfl
theorem hb36 : hasBody cfg 36 = true := by kernel_rfl
theorem fn36 : cfg.fns 36 = some Try.f36 := by kernel_rfl
theorem res36 : Try.f36.results = #[.tmp 2] := rfl
theorem ntm36 : Try.f36.ntmps = 23 := rfl
theorem hb37 : hasBody cfg 37 = true := by kernel_rfl
theorem fn37 : cfg.fns 37 = some Try.f37 := by kernel_rfl
theorem res37 : Try.f37.results = #[.tmp 4] := rfl
theorem ntm37 : Try.f37.ntmps = 36 := rfl
theorem hb38 : hasBody cfg 38 = true := by kernel_rfl
theorem fn38 : cfg.fns 38 = some Try.f38 := by kernel_rfl
theorem res38 : Try.f38.results = #[.tmp 4] := rfl
theorem ntm38 : Try.f38.ntmps = 26 := rfl
theorem hb39 : hasBody cfg 39 = true := by kernel_rfl
theorem fn39 : cfg.fns 39 = some Try.f39 := by kernel_rfl
theorem res39 : Try.f39.results = #[.tmp 10] := rfl
theorem ntm39 : Try.f39.ntmps = 78 := rfl
theorem hb40 : hasBody cfg 40 = true := by kernel_rfl
theorem fn40 : cfg.fns 40 = some Try.f40 := by kernel_rfl
theorem res40 : Try.f40.results = #[.tmp 4] := rfl
theorem ntm40 : Try.f40.ntmps = 13 := rfl
theorem hb41 : hasBody cfg 41 = true := by kernel_rfl
theorem fn41 : cfg.fns 41 = some Try.f41 := by kernel_rfl
theorem res41 : Try.f41.results = #[.tmp 4] := rfl
theorem ntm41 : Try.f41.ntmps = 35 := rfl
theorem hb42 : hasBody cfg 42 = true := by kernel_rfl
theorem fn42 : cfg.fns 42 = some Try.f42 := by kernel_rfl
theorem res42 : Try.f42.results = #[.tmp 10] := rfl
theorem ntm42 : Try.f42.ntmps = 249 := rfl
theorem hb43 : hasBody cfg 43 = true := by kernel_rfl
theorem fn43 : cfg.fns 43 = some Try.f43 := by kernel_rfl
theorem res43 : Try.f43.results = #[.tmp 2] := rfl
theorem ntm43 : Try.f43.ntmps = 140 := rfl
theorem hb44 : hasBody cfg 44 = true := by kernel_rfl
theorem fn44 : cfg.fns 44 = some Try.f44 := by kernel_rfl
theorem res44 : Try.f44.results = #[.tmp 2, .tmp 3] := rfl
theorem ntm44 : Try.f44.ntmps = 94 := rfl
theorem hb45 : hasBody cfg 45 = true := by kernel_rfl
theorem fn45 : cfg.fns 45 = some Try.f45 := by kernel_rfl
theorem res45 : Try.f45.results = #[.cell 4 113, .tmp 5] := rfl
theorem ntm45 : Try.f45.ntmps = 25 := rfl
theorem hb46 : hasBody cfg 46 = true := by kernel_rfl
theorem fn46 : cfg.fns 46 = some Try.f46 := by kernel_rfl
theorem res46 : Try.f46.results = #[.cell 6 59, .tmp 7, .tmp 8, .tmp 9] := rfl
theorem ntm46 : Try.f46.ntmps = 136 := rfl
theorem hb47 : hasBody cfg 47 = true := by kernel_rfl
theorem fn47 : cfg.fns 47 = some Try.f47 := by kernel_rfl
theorem res47 : Try.f47.results = #[.cell 6 42, .tmp 7] := rfl
theorem ntm47 : Try.f47.ntmps = 75 := rfl
theorem hb48 : hasBody cfg 48 = true := by kernel_rfl
theorem fn48 : cfg.fns 48 = some Try.f48 := by kernel_rfl
theorem res48 : Try.f48.results = #[.tmp 4] := rfl
theorem ntm48 : Try.f48.ntmps = 34 := rfl
theorem hb49 : hasBody cfg 49 = true := by kernel_rfl
theorem fn49 : cfg.fns 49 = some Try.f49 := by kernel_rfl
theorem res49 : Try.f49.results = #[.tmp 4] := rfl
theorem ntm49 : Try.f49.ntmps = 35 := rfl
theorem hb50 : hasBody cfg 50 = true := by kernel_rfl
theorem fn50 : cfg.fns 50 = some Try.f50 := by kernel_rfl
theorem res50 : Try.f50.results = #[.tmp 2, .tmp 3, .tmp 4] := rfl
theorem ntm50 : Try.f50.ntmps = 124 := rfl
theorem hb51 : hasBody cfg 51 = true := by kernel_rfl
theorem fn51 : cfg.fns 51 = some Try.f51 := by kernel_rfl
theorem res51 : Try.f51.results = #[.tmp 4] := rfl
theorem ntm51 : Try.f51.ntmps = 25 := rfl
theorem hb52 : hasBody cfg 52 = true := by kernel_rfl
theorem fn52 : cfg.fns 52 = some Try.f52 := by kernel_rfl
theorem res52 : Try.f52.results = #[.tmp 4] := rfl
theorem ntm52 : Try.f52.ntmps = 37 := rfl
theorem hb53 : hasBody cfg 53 = true := by kernel_rfl
theorem fn53 : cfg.fns 53 = some Try.f53 := by kernel_rfl
theorem res53 : Try.f53.results = #[] := rfl
theorem ntm53 : Try.f53.ntmps = 20 := rfl
theorem hb54 : hasBody cfg 54 = true := by kernel_rfl
theorem fn54 : cfg.fns 54 = some Try.f54 := by kernel_rfl
theorem res54 : Try.f54.results = #[.tmp 4] := rfl
theorem ntm54 : Try.f54.ntmps = 16 := rfl
theorem hb55 : hasBody cfg 55 = true := by kernel_rfl
theorem fn55 : cfg.fns 55 = some Try.f55 := by kernel_rfl
theorem res55 : Try.f55.results = #[.cell 2 100] := rfl
theorem ntm55 : Try.f55.ntmps = 45 := rfl
theorem hb56 : hasBody cfg 56 = true := by kernel_rfl
theorem fn56 : cfg.fns 56 = some Try.f56 := by kernel_rfl
theorem res56 : Try.f56.results = #[.cell 4 78] := rfl
theorem ntm56 : Try.f56.ntmps = 57 := rfl
theorem hb57 : hasBody cfg 57 = true := by kernel_rfl
theorem fn57 : cfg.fns 57 = some Try.f57 := by kernel_rfl
theorem res57 : Try.f57.results = #[.tmp 2] := rfl
theorem ntm57 : Try.f57.ntmps = 27 := rfl
theorem hb58 : hasBody cfg 58 = true := by kernel_rfl
theorem fn58 : cfg.fns 58 = some Try.f58 := by kernel_rfl
theorem res58 : Try.f58.results = #[.tmp 2] := rfl
theorem ntm58 : Try.f58.ntmps = 44 := rfl
theorem hb59 : hasBody cfg 59 = true := by kernel_rfl
theorem fn59 : cfg.fns 59 = some Try.f59 := by kernel_rfl
theorem res59 : Try.f59.results = #[.tmp 2] := rfl
theorem ntm59 : Try.f59.ntmps = 47 := rfl
theorem hb60 : hasBody cfg 60 = true := by kernel_rfl
theorem fn60 : cfg.fns 60 = some Try.f60 := by kernel_rfl
theorem res60 : Try.f60.results = #[.tmp 4] := rfl
theorem ntm60 : Try.f60.ntmps = 18 := rfl
theorem hb61 : hasBody cfg 61 = true := by kernel_rfl
theorem fn61 : cfg.fns 61 = some Try.f61 := by kernel_rfl
theorem res61 : Try.f61.results = #[.tmp 4] := rfl
theorem ntm61 : Try.f61.ntmps = 51 := rfl
theorem hb62 : hasBody cfg 62 = true := by kernel_rfl
theorem fn62 : cfg.fns 62 = some Try.f62 := by kernel_rfl
theorem res62 : Try.f62.results = #[.cell 4 64] := rfl
theorem ntm62 : Try.f62.ntmps = 9 := rfl
theorem hb63 : hasBody cfg 63 = true := by kernel_rfl
theorem fn63 : cfg.fns 63 = some Try.f63 := by kernel_rfl
theorem res63 : Try.f63.results = #[.tmp 4] := rfl
theorem ntm63 : Try.f63.ntmps = 124 := rfl
theorem hb64 : hasBody cfg 64 = true := by kernel_rfl
theorem fn64 : cfg.fns 64 = some Try.f64 := by kernel_rfl
theorem res64 : Try.f64.results = #[.cell 6 153] := rfl
theorem ntm64 : Try.f64.ntmps = 107 := rfl
theorem hb65 : hasBody cfg 65 = true := by kernel_rfl
theorem fn65 : cfg.fns 65 = some Try.f65 := by kernel_rfl
theorem res65 : Try.f65.results = #[.cell 4 51] := rfl
theorem ntm65 : Try.f65.ntmps = 28 := rfl
theorem hb66 : hasBody cfg 66 = true := by kernel_rfl
theorem fn66 : cfg.fns 66 = some Try.f66 := by kernel_rfl
theorem res66 : Try.f66.results = #[.tmp 8] := rfl
theorem ntm66 : Try.f66.ntmps = 40 := rfl
theorem hb67 : hasBody cfg 67 = true := by kernel_rfl
theorem fn67 : cfg.fns 67 = some Try.f67 := by kernel_rfl
theorem res67 : Try.f67.results = #[.tmp 2] := rfl
theorem ntm67 : Try.f67.ntmps = 39 := rfl
theorem hb68 : hasBody cfg 68 = true := by kernel_rfl
theorem fn68 : cfg.fns 68 = some Try.f68 := by kernel_rfl
theorem res68 : Try.f68.results = #[.tmp 4] := rfl
theorem ntm68 : Try.f68.ntmps = 219 := rfl
theorem hb69 : hasBody cfg 69 = true := by kernel_rfl
theorem fn69 : cfg.fns 69 = some Try.f69 := by kernel_rfl
theorem res69 : Try.f69.results = #[.tmp 2] := rfl
theorem ntm69 : Try.f69.ntmps = 131 := rfl
theorem hb70 : hasBody cfg 70 = true := by kernel_rfl
theorem fn70 : cfg.fns 70 = some Try.f70 := by kernel_rfl
theorem res70 : Try.f70.results = #[] := rfl
theorem ntm70 : Try.f70.ntmps = 253 := rfl
theorem hb71 : hasBody cfg 71 = true := by kernel_rfl
theorem fn71 : cfg.fns 71 = some Try.f71 := by kernel_rfl
theorem res71 : Try.f71.results = #[.tmp 6] := rfl
theorem ntm71 : Try.f71.ntmps = 33 := rfl
theorem hb72 : hasBody cfg 72 = true := by kernel_rfl
theorem fn72 : cfg.fns 72 = some Try.f72 := by kernel_rfl
theorem res72 : Try.f72.results = #[.tmp 4] := rfl
theorem ntm72 : Try.f72.ntmps = 74 := rfl
theorem hb73 : hasBody cfg 73 = true := by kernel_rfl
theorem fn73 : cfg.fns 73 = some Try.f73 := by kernel_rfl
theorem res73 : Try.f73.results = #[.tmp 2] := rfl
theorem ntm73 : Try.f73.ntmps = 21 := rfl
theorem hb74 : hasBody cfg 74 = true := by kernel_rfl
theorem fn74 : cfg.fns 74 = some Try.f74 := by kernel_rfl
theorem res74 : Try.f74.results = #[.tmp 2] := rfl
theorem ntm74 : Try.f74.ntmps = 9 := rfl
theorem hb75 : hasBody cfg 75 = true := by kernel_rfl
theorem fn75 : cfg.fns 75 = some Try.f75 := by kernel_rfl
theorem res75 : Try.f75.results = #[.tmp 2] := rfl
theorem ntm75 : Try.f75.ntmps = 6 := rfl
theorem hb76 : hasBody cfg 76 = true := by kernel_rfl
theorem fn76 : cfg.fns 76 = some Try.f76 := by kernel_rfl
theorem res76 : Try.f76.results = #[.tmp 2] := rfl
theorem ntm76 : Try.f76.ntmps = 28 := rfl
theorem hb77 : hasBody cfg 77 = true := by kernel_rfl
theorem fn77 : cfg.fns 77 = some Try.f77 := by kernel_rfl
theorem res77 : Try.f77.results = #[.tmp 4] := rfl
theorem ntm77 : Try.f77.ntmps = 28 := rfl
theorem hb78 : hasBody cfg 78 = true := by kernel_rfl
theorem fn78 : cfg.fns 78 = some Try.f78 := by kernel_rfl
theorem res78 : Try.f78.results = #[] := rfl
theorem ntm78 : Try.f78.ntmps = 10 := rfl
theorem hb79 : hasBody cfg 79 = true := by kernel_rfl
theorem fn79 : cfg.fns 79 = some Try.f79 := by kernel_rfl
theorem res79 : Try.f79.results = #[.cell 2 156] := rfl
theorem ntm79 : Try.f79.ntmps = 98 := rfl
theorem hb80 : hasBody cfg 80 = true := by kernel_rfl
theorem fn80 : cfg.fns 80 = some Try.f80 := by kernel_rfl
theorem res80 : Try.f80.results = #[.tmp 4] := rfl
theorem ntm80 : Try.f80.ntmps = 9 := rfl
theorem hb81 : hasBody cfg 81 = true := by kernel_rfl
theorem fn81 : cfg.fns 81 = some Try.f81 := by kernel_rfl
theorem res81 : Try.f81.results = #[.tmp 3] := rfl
theorem ntm81 : Try.f81.ntmps = 7 := rfl
theorem hb82 : hasBody cfg 82 = true := by kernel_rfl
theorem fn82 : cfg.fns 82 = some Try.f82 := by kernel_rfl
theorem res82 : Try.f82.results = #[.cell 6 64] := rfl
theorem ntm82 : Try.f82.ntmps = 19 := rfl
theorem hb83 : hasBody cfg 83 = true := by kernel_rfl
theorem fn83 : cfg.fns 83 = some Try.f83 := by kernel_rfl
theorem res83 : Try.f83.results = #[.tmp 2] := rfl
theorem ntm83 : Try.f83.ntmps = 17 := rfl
theorem hb84 : hasBody cfg 84 = true := by kernel_rfl
theorem fn84 : cfg.fns 84 = some Try.f84 := by kernel_rfl
theorem res84 : Try.f84.results = #[.tmp 4] := rfl
theorem ntm84 : Try.f84.ntmps = 8 := rfl
theorem hb85 : hasBody cfg 85 = true := by kernel_rfl
theorem fn85 : cfg.fns 85 = some Try.f85 := by kernel_rfl
theorem res85 : Try.f85.results = #[.cell 6 51] := rfl
theorem ntm85 : Try.f85.ntmps = 32 := rfl
theorem hb86 : hasBody cfg 86 = true := by kernel_rfl
theorem fn86 : cfg.fns 86 = some Try.f86 := by kernel_rfl
theorem res86 : Try.f86.results = #[.cell 6 51] := rfl
theorem ntm86 : Try.f86.ntmps = 64 := rfl
theorem hb87 : hasBody cfg 87 = true := by kernel_rfl
theorem fn87 : cfg.fns 87 = some Try.f87 := by kernel_rfl
theorem res87 : Try.f87.results = #[.tmp 2] := rfl
theorem ntm87 : Try.f87.ntmps = 10 := rfl
theorem hb88 : hasBody cfg 88 = true := by kernel_rfl
theorem fn88 : cfg.fns 88 = some Try.f88 := by kernel_rfl
theorem res88 : Try.f88.results = #[.tmp 2] := rfl
theorem ntm88 : Try.f88.ntmps = 22 := rfl
theorem hb89 : hasBody cfg 89 = true := by kernel_rfl
theorem fn89 : cfg.fns 89 = some Try.f89 := by kernel_rfl
theorem res89 : Try.f89.results = #[.tmp 2] := rfl
theorem ntm89 : Try.f89.ntmps = 25 := rfl
theorem hb90 : hasBody cfg 90 = true := by kernel_rfl
theorem fn90 : cfg.fns 90 = some Try.f90 := by kernel_rfl
theorem res90 : Try.f90.results = #[.tmp 2] := rfl
theorem ntm90 : Try.f90.ntmps = 12 := rfl
theorem hb91 : hasBody cfg 91 = true := by kernel_rfl
theorem fn91 : cfg.fns 91 = some Try.f91 := by kernel_rfl
theorem res91 : Try.f91.results = #[.tmp 2] := rfl
theorem ntm91 : Try.f91.ntmps = 15 := rfl
theorem hb92 : hasBody cfg 92 = true := by kernel_rfl
theorem fn92 : cfg.fns 92 = some Try.f92 := by kernel_rfl
theorem res92 : Try.f92.results = #[.tmp 4] := rfl
theorem ntm92 : Try.f92.ntmps = 133 := rfl
theorem hb93 : hasBody cfg 93 = true := by kernel_rfl
theorem fn93 : cfg.fns 93 = some Try.f93 := by kernel_rfl
theorem res93 : Try.f93.results = #[] := rfl
theorem ntm93 : Try.f93.ntmps = 19 := rfl
theorem hb94 : hasBody cfg 94 = true := by kernel_rfl
theorem fn94 : cfg.fns 94 = some Try.f94 := by kernel_rfl
theorem res94 : Try.f94.results = #[.cell 6 51] := rfl
theorem ntm94 : Try.f94.ntmps = 53 := rfl
theorem hb95 : hasBody cfg 95 = true := by kernel_rfl
theorem fn95 : cfg.fns 95 = some Try.f95 := by kernel_rfl
theorem res95 : Try.f95.results = #[.cell 6 113] := rfl
theorem ntm95 : Try.f95.ntmps = 37 := rfl
theorem hb96 : hasBody cfg 96 = true := by kernel_rfl
theorem fn96 : cfg.fns 96 = some Try.f96 := by kernel_rfl
theorem res96 : Try.f96.results = #[.cell 6 56] := rfl
theorem ntm96 : Try.f96.ntmps = 112 := rfl
theorem hb97 : hasBody cfg 97 = true := by kernel_rfl
theorem fn97 : cfg.fns 97 = some Try.f97 := by kernel_rfl
theorem res97 : Try.f97.results = #[.cell 6 53] := rfl
theorem ntm97 : Try.f97.ntmps = 92 := rfl
theorem hb98 : hasBody cfg 98 = true := by kernel_rfl
theorem fn98 : cfg.fns 98 = some Try.f98 := by kernel_rfl
theorem res98 : Try.f98.results = #[.tmp 4] := rfl
theorem ntm98 : Try.f98.ntmps = 18 := rfl
theorem hb99 : hasBody cfg 99 = true := by kernel_rfl
theorem fn99 : cfg.fns 99 = some Try.f99 := by kernel_rfl
theorem res99 : Try.f99.results = #[.cell 4 51] := rfl
theorem ntm99 : Try.f99.ntmps = 52 := rfl
theorem hb100 : hasBody cfg 100 = true := by kernel_rfl
theorem fn100 : cfg.fns 100 = some Try.f100 := by kernel_rfl
theorem res100 : Try.f100.results = #[.tmp 2] := rfl
theorem ntm100 : Try.f100.ntmps = 34 := rfl
theorem hb101 : hasBody cfg 101 = true := by kernel_rfl
theorem fn101 : cfg.fns 101 = some Try.f101 := by kernel_rfl
theorem res101 : Try.f101.results = #[.cell 2 153] := rfl
theorem ntm101 : Try.f101.ntmps = 16 := rfl
theorem hb102 : hasBody cfg 102 = true := by kernel_rfl
theorem fn102 : cfg.fns 102 = some Try.f102 := by kernel_rfl
theorem res102 : Try.f102.results = #[.tmp 4] := rfl
theorem ntm102 : Try.f102.ntmps = 19 := rfl
theorem hb103 : hasBody cfg 103 = true := by kernel_rfl
theorem fn103 : cfg.fns 103 = some Try.f103 := by kernel_rfl
theorem res103 : Try.f103.results = #[.tmp 2] := rfl
theorem ntm103 : Try.f103.ntmps = 36 := rfl
theorem hb104 : hasBody cfg 104 = true := by kernel_rfl
theorem fn104 : cfg.fns 104 = some Try.f104 := by kernel_rfl
theorem res104 : Try.f104.results = #[.tmp 4] := rfl
theorem ntm104 : Try.f104.ntmps = 18 := rfl
theorem hb105 : hasBody cfg 105 = true := by kernel_rfl
theorem fn105 : cfg.fns 105 = some Try.f105 := by kernel_rfl
theorem res105 : Try.f105.results = #[.tmp 4] := rfl
theorem ntm105 : Try.f105.ntmps = 25 := rfl
theorem hb106 : hasBody cfg 106 = true := by kernel_rfl
theorem fn106 : cfg.fns 106 = some Try.f106 := by kernel_rfl
theorem res106 : Try.f106.results = #[.tmp 2] := rfl
theorem ntm106 : Try.f106.ntmps = 10 := rfl
theorem hb107 : hasBody cfg 107 = true := by kernel_rfl
theorem fn107 : cfg.fns 107 = some Try.f107 := by kernel_rfl
theorem res107 : Try.f107.results = #[.tmp 2] := rfl
theorem ntm107 : Try.f107.ntmps = 77 := rfl
theorem hb108 : hasBody cfg 108 = true := by kernel_rfl
theorem fn108 : cfg.fns 108 = some Try.f108 := by kernel_rfl
theorem res108 : Try.f108.results = #[.tmp 2] := rfl
theorem ntm108 : Try.f108.ntmps = 34 := rfl
theorem hb109 : hasBody cfg 109 = true := by kernel_rfl
theorem fn109 : cfg.fns 109 = some Try.f109 := by kernel_rfl
theorem res109 : Try.f109.results = #[.tmp 2] := rfl
theorem ntm109 : Try.f109.ntmps = 25 := rfl
theorem hb110 : hasBody cfg 110 = true := by kernel_rfl
theorem fn110 : cfg.fns 110 = some Try.f110 := by kernel_rfl
theorem res110 : Try.f110.results = #[.tmp 2] := rfl
theorem ntm110 : Try.f110.ntmps = 95 := rfl
theorem hb111 : hasBody cfg 111 = true := by kernel_rfl
theorem fn111 : cfg.fns 111 = some Try.f111 := by kernel_rfl
theorem res111 : Try.f111.results = #[.tmp 2] := rfl
theorem ntm111 : Try.f111.ntmps = 39 := rfl
theorem hb112 : hasBody cfg 112 = true := by kernel_rfl
theorem fn112 : cfg.fns 112 = some Try.f112 := by kernel_rfl
theorem res112 : Try.f112.results = #[.tmp 2] := rfl
theorem ntm112 : Try.f112.ntmps = 19 := rfl
theorem hb113 : hasBody cfg 113 = true := by kernel_rfl
theorem fn113 : cfg.fns 113 = some Try.f113 := by kernel_rfl
theorem res113 : Try.f113.results = #[.cell 2 51] := rfl
theorem ntm113 : Try.f113.ntmps = 100 := rfl
theorem hb114 : hasBody cfg 114 = true := by kernel_rfl
theorem fn114 : cfg.fns 114 = some Try.f114 := by kernel_rfl
theorem res114 : Try.f114.results = #[.tmp 2, .tmp 3] := rfl
theorem ntm114 : Try.f114.ntmps = 23 := rfl
theorem hb115 : hasBody cfg 115 = true := by kernel_rfl
theorem fn115 : cfg.fns 115 = some Try.f115 := by kernel_rfl
theorem res115 : Try.f115.results = #[.tmp 4] := rfl
theorem ntm115 : Try.f115.ntmps = 27 := rfl
theorem hb116 : hasBody cfg 116 = true := by kernel_rfl
theorem fn116 : cfg.fns 116 = some Try.f116 := by kernel_rfl
theorem res116 : Try.f116.results = #[.tmp 2] := rfl
theorem ntm116 : Try.f116.ntmps = 35 := rfl
theorem hb117 : hasBody cfg 117 = true := by kernel_rfl
theorem fn117 : cfg.fns 117 = some Try.f117 := by kernel_rfl
theorem res117 : Try.f117.results = #[.tmp 4] := rfl
theorem ntm117 : Try.f117.ntmps = 29 := rfl
theorem hb118 : hasBody cfg 118 = true := by kernel_rfl
theorem fn118 : cfg.fns 118 = some Try.f118 := by kernel_rfl
theorem res118 : Try.f118.results = #[] := rfl
theorem ntm118 : Try.f118.ntmps = 16 := rfl
theorem hb135 : hasBody cfg 135 = true := by kernel_rfl
theorem fn135 : cfg.fns 135 = some Try.f135 := by kernel_rfl
theorem res135 : Try.f135.results = #[.tmp 4] := rfl
theorem ntm135 : Try.f135.ntmps = 5 := rfl
theorem hb136 : hasBody cfg 136 = true := by kernel_rfl
theorem fn136 : cfg.fns 136 = some Try.f136 := by kernel_rfl
theorem res136 : Try.f136.results = #[.tmp 4] := rfl
theorem ntm136 : Try.f136.ntmps = 8 := rfl
theorem hb137 : hasBody cfg 137 = true := by kernel_rfl
theorem fn137 : cfg.fns 137 = some Try.f137 := by kernel_rfl
theorem res137 : Try.f137.results = #[.tmp 4] := rfl
theorem ntm137 : Try.f137.ntmps = 24 := rfl
theorem hb138 : hasBody cfg 138 = true := by kernel_rfl
theorem fn138 : cfg.fns 138 = some Try.f138 := by kernel_rfl
theorem res138 : Try.f138.results = #[.tmp 4] := rfl
theorem ntm138 : Try.f138.ntmps = 8 := rfl
end Go.Proofs.Ytfcbamfgejfleaa
