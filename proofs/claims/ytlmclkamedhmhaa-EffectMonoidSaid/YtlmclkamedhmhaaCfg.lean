/-
  THE TABLE OF TYPES OF THIS TRANSLATION, WRITTEN BY A PROGRAM OF MINE (mkcfg.py) AND HELD AGAINST THE PROGRAM BY THE KERNEL. Conditions: none.
-/
import Derived.Test.YtlmclkamedhmhaaProg
import Derived.Test.YtlmclkamedhmhaaAbsSolo
namespace Go.Proofs.Ytlmclkamedhmhaa
open Go.Ab

def tis : List TI := [
  ⟨0, 0, [], .other⟩,
  ⟨1, 8, [.nilf], .func⟩,
  ⟨1, 8, [.int .i64 0], .int .i64⟩,
  ⟨1, 8, [.int .i64 0], .int .i64⟩,
  ⟨1, 1, [.bool false], .bool⟩,
  ⟨1, 1, [.int .u8 0], .int .u8⟩,
  ⟨0, 0, [], .other⟩,
  ⟨0, 0, [], .other⟩,
  ⟨0, 0, [], .other⟩,
  ⟨1, 16, [.str .empty], .str⟩,
  ⟨0, 0, [], .other⟩,
  ⟨0, 0, [], .other⟩,
  ⟨1, 8, [.int .u64 0], .int .u64⟩,
  ⟨0, 0, [], .other⟩,
  ⟨0, 0, [], .other⟩,
  ⟨0, 0, [], .other⟩,
  ⟨0, 0, [], .other⟩,
  ⟨0, 0, [], .other⟩,
  ⟨0, 0, [], .other⟩,
  ⟨0, 0, [], .other⟩,
  ⟨1, 16, [.nili], .iface⟩,
  ⟨1, 4, [.int .i32 0], .int .i32⟩,
  ⟨3, 24, [.int .i64 0, .int .i64 0, .int .i64 0], .strct [(0, 3), (1, 3), (2, 3)] true⟩,
  ⟨3, 24, [.int .i64 0, .int .i64 0, .int .i64 0], .strct [(0, 3), (1, 3), (2, 3)] true⟩,
  ⟨1, 8, [.nilf], .func⟩,
  ⟨1, 8, [.nilf], .func⟩,
  ⟨1, 8, [.nilf], .func⟩,
  ⟨1, 8, [.nilf], .func⟩,
  ⟨1, 8, [.nilf], .func⟩,
  ⟨1, 8, [.nilf], .func⟩,
  ⟨1, 8, [.nilf], .func⟩,
  ⟨1, 8, [.nilf], .func⟩,
  ⟨1, 8, [.nilf], .func⟩,
  ⟨1, 8, [.nilf], .func⟩,
  ⟨1, 24, [.nils], .slice 3⟩,
  ⟨1, 8, [.nilf], .func⟩,
  ⟨0, 0, [], .other⟩,
  ⟨1, 8, [.nilf], .func⟩,
  ⟨1, 8, [.nilf], .func⟩,
  ⟨1, 8, [.nilf], .func⟩,
  ⟨1, 8, [.nilf], .func⟩,
  ⟨1, 8, [.nilf], .func⟩,
  ⟨1, 8, [.nilf], .func⟩,
  ⟨1, 8, [.nilf], .func⟩,
  ⟨1, 8, [.nilf], .func⟩,
  ⟨1, 8, [.nilf], .func⟩,
  ⟨1, 8, [.nilf], .func⟩,
  ⟨1, 8, [.nilf], .func⟩,
  ⟨1, 8, [.nilf], .func⟩,
  ⟨1, 8, [.nilf], .func⟩,
  ⟨1, 8, [.nilf], .func⟩,
  ⟨1, 8, [.nilf], .func⟩,
  ⟨3, 32, [.str .empty, .bool false, .int .i64 0], .strct [(0, 9), (1, 4), (2, 3)] true⟩,
  ⟨3, 32, [.str .empty, .bool false, .int .i64 0], .strct [(0, 9), (1, 4), (2, 3)] true⟩,
  ⟨1, 8, [.nilf], .func⟩,
  ⟨1, 8, [.nilf], .func⟩,
  ⟨1, 8, [.nilf], .func⟩,
  ⟨1, 8, [.nilf], .func⟩,
  ⟨1, 8, [.nilf], .func⟩,
  ⟨1, 8, [.nilf], .func⟩,
  ⟨3, 24, [.int .i64 0, .int .i64 0, .int .i64 0], .arr 3 3⟩,
  ⟨3, 24, [.int .i64 0, .int .i64 0, .int .i64 0], .arr 3 3⟩,
  ⟨1, 8, [.nilf], .func⟩,
  ⟨1, 24, [.nils], .slice 3⟩,
  ⟨1, 8, [.nilf], .func⟩,
  ⟨0, 0, [], .other⟩,
  ⟨0, 0, [], .other⟩,
  ⟨0, 0, [], .other⟩,
  ⟨0, 0, [], .other⟩,
  ⟨0, 0, [], .other⟩,
  ⟨1, 8, [.nilf], .func⟩,
  ⟨1, 4, [.int .u32 0], .int .u32⟩,
  ⟨0, 0, [], .other⟩,
  ⟨0, 0, [], .other⟩,
  ⟨0, 0, [], .other⟩,
  ⟨1, 8, [.nilp], .ptr 5⟩,
  ⟨0, 0, [], .other⟩,
  ⟨0, 0, [], .other⟩,
  ⟨0, 0, [], .other⟩,
  ⟨0, 0, [], .other⟩,
  ⟨0, 0, [], .other⟩]

noncomputable def cfg : Cfg := { ti := fun t => tis.getD t default, glob := fun _ => .any, fns := fnsOf Try.prog, meth := fun _ _ => none, keep := fun _ => false, virt := fun _ => [] }

theorem tisLen : tis.length = 81 := by kernel_rfl
theorem tisOk : (List.range 81).all (fun t => checkU Try.prog cfg t && checkI Try.prog cfg t) = true := by kernel_rfl
theorem mixedOk : Try.prog.follows .mixedOrders = true := by kernel_rfl
theorem good : Ab.Good Try.prog cfg := by
  refine good_of tisOk (fun t ht => ?_) rfl (fun t name f h => by cases h) mixedOk
  have h : tis.getD t default = default := by
    rw [List.getD_eq_getElem?_getD, List.getElem?_eq_none (by rw [tisLen]; exact ht)]
    rfl
  show (tis.getD t default).und = .other
  rw [h]
  rfl
theorem virtNone (t : TypeId) : cfg.virt t = [] := rfl
theorem globOk : cfg.glob = fun _ => .any := rfl
theorem ut1 : cfg.ut 1 = .func := rfl
theorem sz1 : cfg.sz 1 = 1 := rfl
theorem ti1 : cfg.ti 1 = ⟨1, 8, [.nilf], .func⟩ := rfl
theorem ut2 : cfg.ut 2 = .int .i64 := rfl
theorem sz2 : cfg.sz 2 = 1 := rfl
theorem ti2 : cfg.ti 2 = ⟨1, 8, [.int .i64 0], .int .i64⟩ := rfl
theorem ut3 : cfg.ut 3 = .int .i64 := rfl
theorem sz3 : cfg.sz 3 = 1 := rfl
theorem ti3 : cfg.ti 3 = ⟨1, 8, [.int .i64 0], .int .i64⟩ := rfl
theorem ut4 : cfg.ut 4 = .bool := rfl
theorem sz4 : cfg.sz 4 = 1 := rfl
theorem ti4 : cfg.ti 4 = ⟨1, 1, [.bool false], .bool⟩ := rfl
theorem ut5 : cfg.ut 5 = .int .u8 := rfl
theorem sz5 : cfg.sz 5 = 1 := rfl
theorem ti5 : cfg.ti 5 = ⟨1, 1, [.int .u8 0], .int .u8⟩ := rfl
theorem ut9 : cfg.ut 9 = .str := rfl
theorem sz9 : cfg.sz 9 = 1 := rfl
theorem ti9 : cfg.ti 9 = ⟨1, 16, [.str .empty], .str⟩ := rfl
theorem ut12 : cfg.ut 12 = .int .u64 := rfl
theorem sz12 : cfg.sz 12 = 1 := rfl
theorem ti12 : cfg.ti 12 = ⟨1, 8, [.int .u64 0], .int .u64⟩ := rfl
theorem ut20 : cfg.ut 20 = .iface := rfl
theorem sz20 : cfg.sz 20 = 1 := rfl
theorem ti20 : cfg.ti 20 = ⟨1, 16, [.nili], .iface⟩ := rfl
theorem ut21 : cfg.ut 21 = .int .i32 := rfl
theorem sz21 : cfg.sz 21 = 1 := rfl
theorem ti21 : cfg.ti 21 = ⟨1, 4, [.int .i32 0], .int .i32⟩ := rfl
theorem ut22 : cfg.ut 22 = .strct [(0, 3), (1, 3), (2, 3)] true := rfl
theorem sz22 : cfg.sz 22 = 3 := rfl
theorem ti22 : cfg.ti 22 = ⟨3, 24, [.int .i64 0, .int .i64 0, .int .i64 0], .strct [(0, 3), (1, 3), (2, 3)] true⟩ := rfl
theorem ut23 : cfg.ut 23 = .strct [(0, 3), (1, 3), (2, 3)] true := rfl
theorem sz23 : cfg.sz 23 = 3 := rfl
theorem ti23 : cfg.ti 23 = ⟨3, 24, [.int .i64 0, .int .i64 0, .int .i64 0], .strct [(0, 3), (1, 3), (2, 3)] true⟩ := rfl
theorem ut24 : cfg.ut 24 = .func := rfl
theorem sz24 : cfg.sz 24 = 1 := rfl
theorem ti24 : cfg.ti 24 = ⟨1, 8, [.nilf], .func⟩ := rfl
theorem ut25 : cfg.ut 25 = .func := rfl
theorem sz25 : cfg.sz 25 = 1 := rfl
theorem ti25 : cfg.ti 25 = ⟨1, 8, [.nilf], .func⟩ := rfl
theorem ut26 : cfg.ut 26 = .func := rfl
theorem sz26 : cfg.sz 26 = 1 := rfl
theorem ti26 : cfg.ti 26 = ⟨1, 8, [.nilf], .func⟩ := rfl
theorem ut27 : cfg.ut 27 = .func := rfl
theorem sz27 : cfg.sz 27 = 1 := rfl
theorem ti27 : cfg.ti 27 = ⟨1, 8, [.nilf], .func⟩ := rfl
theorem ut28 : cfg.ut 28 = .func := rfl
theorem sz28 : cfg.sz 28 = 1 := rfl
theorem ti28 : cfg.ti 28 = ⟨1, 8, [.nilf], .func⟩ := rfl
theorem ut29 : cfg.ut 29 = .func := rfl
theorem sz29 : cfg.sz 29 = 1 := rfl
theorem ti29 : cfg.ti 29 = ⟨1, 8, [.nilf], .func⟩ := rfl
theorem ut30 : cfg.ut 30 = .func := rfl
theorem sz30 : cfg.sz 30 = 1 := rfl
theorem ti30 : cfg.ti 30 = ⟨1, 8, [.nilf], .func⟩ := rfl
theorem ut31 : cfg.ut 31 = .func := rfl
theorem sz31 : cfg.sz 31 = 1 := rfl
theorem ti31 : cfg.ti 31 = ⟨1, 8, [.nilf], .func⟩ := rfl
theorem ut32 : cfg.ut 32 = .func := rfl
theorem sz32 : cfg.sz 32 = 1 := rfl
theorem ti32 : cfg.ti 32 = ⟨1, 8, [.nilf], .func⟩ := rfl
theorem ut33 : cfg.ut 33 = .func := rfl
theorem sz33 : cfg.sz 33 = 1 := rfl
theorem ti33 : cfg.ti 33 = ⟨1, 8, [.nilf], .func⟩ := rfl
theorem ut34 : cfg.ut 34 = .slice 3 := rfl
theorem sz34 : cfg.sz 34 = 1 := rfl
theorem ti34 : cfg.ti 34 = ⟨1, 24, [.nils], .slice 3⟩ := rfl
theorem ut35 : cfg.ut 35 = .func := rfl
theorem sz35 : cfg.sz 35 = 1 := rfl
theorem ti35 : cfg.ti 35 = ⟨1, 8, [.nilf], .func⟩ := rfl
theorem ut37 : cfg.ut 37 = .func := rfl
theorem sz37 : cfg.sz 37 = 1 := rfl
theorem ti37 : cfg.ti 37 = ⟨1, 8, [.nilf], .func⟩ := rfl
theorem ut38 : cfg.ut 38 = .func := rfl
theorem sz38 : cfg.sz 38 = 1 := rfl
theorem ti38 : cfg.ti 38 = ⟨1, 8, [.nilf], .func⟩ := rfl
theorem ut39 : cfg.ut 39 = .func := rfl
theorem sz39 : cfg.sz 39 = 1 := rfl
theorem ti39 : cfg.ti 39 = ⟨1, 8, [.nilf], .func⟩ := rfl
theorem ut40 : cfg.ut 40 = .func := rfl
theorem sz40 : cfg.sz 40 = 1 := rfl
theorem ti40 : cfg.ti 40 = ⟨1, 8, [.nilf], .func⟩ := rfl
theorem ut41 : cfg.ut 41 = .func := rfl
theorem sz41 : cfg.sz 41 = 1 := rfl
theorem ti41 : cfg.ti 41 = ⟨1, 8, [.nilf], .func⟩ := rfl
theorem ut42 : cfg.ut 42 = .func := rfl
theorem sz42 : cfg.sz 42 = 1 := rfl
theorem ti42 : cfg.ti 42 = ⟨1, 8, [.nilf], .func⟩ := rfl
theorem ut43 : cfg.ut 43 = .func := rfl
theorem sz43 : cfg.sz 43 = 1 := rfl
theorem ti43 : cfg.ti 43 = ⟨1, 8, [.nilf], .func⟩ := rfl
theorem ut44 : cfg.ut 44 = .func := rfl
theorem sz44 : cfg.sz 44 = 1 := rfl
theorem ti44 : cfg.ti 44 = ⟨1, 8, [.nilf], .func⟩ := rfl
theorem ut45 : cfg.ut 45 = .func := rfl
theorem sz45 : cfg.sz 45 = 1 := rfl
theorem ti45 : cfg.ti 45 = ⟨1, 8, [.nilf], .func⟩ := rfl
theorem ut46 : cfg.ut 46 = .func := rfl
theorem sz46 : cfg.sz 46 = 1 := rfl
theorem ti46 : cfg.ti 46 = ⟨1, 8, [.nilf], .func⟩ := rfl
theorem ut47 : cfg.ut 47 = .func := rfl
theorem sz47 : cfg.sz 47 = 1 := rfl
theorem ti47 : cfg.ti 47 = ⟨1, 8, [.nilf], .func⟩ := rfl
theorem ut48 : cfg.ut 48 = .func := rfl
theorem sz48 : cfg.sz 48 = 1 := rfl
theorem ti48 : cfg.ti 48 = ⟨1, 8, [.nilf], .func⟩ := rfl
theorem ut49 : cfg.ut 49 = .func := rfl
theorem sz49 : cfg.sz 49 = 1 := rfl
theorem ti49 : cfg.ti 49 = ⟨1, 8, [.nilf], .func⟩ := rfl
theorem ut50 : cfg.ut 50 = .func := rfl
theorem sz50 : cfg.sz 50 = 1 := rfl
theorem ti50 : cfg.ti 50 = ⟨1, 8, [.nilf], .func⟩ := rfl
theorem ut51 : cfg.ut 51 = .func := rfl
theorem sz51 : cfg.sz 51 = 1 := rfl
theorem ti51 : cfg.ti 51 = ⟨1, 8, [.nilf], .func⟩ := rfl
theorem ut52 : cfg.ut 52 = .strct [(0, 9), (1, 4), (2, 3)] true := rfl
theorem sz52 : cfg.sz 52 = 3 := rfl
theorem ti52 : cfg.ti 52 = ⟨3, 32, [.str .empty, .bool false, .int .i64 0], .strct [(0, 9), (1, 4), (2, 3)] true⟩ := rfl
theorem ut53 : cfg.ut 53 = .strct [(0, 9), (1, 4), (2, 3)] true := rfl
theorem sz53 : cfg.sz 53 = 3 := rfl
theorem ti53 : cfg.ti 53 = ⟨3, 32, [.str .empty, .bool false, .int .i64 0], .strct [(0, 9), (1, 4), (2, 3)] true⟩ := rfl
theorem ut54 : cfg.ut 54 = .func := rfl
theorem sz54 : cfg.sz 54 = 1 := rfl
theorem ti54 : cfg.ti 54 = ⟨1, 8, [.nilf], .func⟩ := rfl
theorem ut55 : cfg.ut 55 = .func := rfl
theorem sz55 : cfg.sz 55 = 1 := rfl
theorem ti55 : cfg.ti 55 = ⟨1, 8, [.nilf], .func⟩ := rfl
theorem ut56 : cfg.ut 56 = .func := rfl
theorem sz56 : cfg.sz 56 = 1 := rfl
theorem ti56 : cfg.ti 56 = ⟨1, 8, [.nilf], .func⟩ := rfl
theorem ut57 : cfg.ut 57 = .func := rfl
theorem sz57 : cfg.sz 57 = 1 := rfl
theorem ti57 : cfg.ti 57 = ⟨1, 8, [.nilf], .func⟩ := rfl
theorem ut58 : cfg.ut 58 = .func := rfl
theorem sz58 : cfg.sz 58 = 1 := rfl
theorem ti58 : cfg.ti 58 = ⟨1, 8, [.nilf], .func⟩ := rfl
theorem ut59 : cfg.ut 59 = .func := rfl
theorem sz59 : cfg.sz 59 = 1 := rfl
theorem ti59 : cfg.ti 59 = ⟨1, 8, [.nilf], .func⟩ := rfl
theorem ut60 : cfg.ut 60 = .arr 3 3 := rfl
theorem sz60 : cfg.sz 60 = 3 := rfl
theorem ti60 : cfg.ti 60 = ⟨3, 24, [.int .i64 0, .int .i64 0, .int .i64 0], .arr 3 3⟩ := rfl
theorem ut61 : cfg.ut 61 = .arr 3 3 := rfl
theorem sz61 : cfg.sz 61 = 3 := rfl
theorem ti61 : cfg.ti 61 = ⟨3, 24, [.int .i64 0, .int .i64 0, .int .i64 0], .arr 3 3⟩ := rfl
theorem ut62 : cfg.ut 62 = .func := rfl
theorem sz62 : cfg.sz 62 = 1 := rfl
theorem ti62 : cfg.ti 62 = ⟨1, 8, [.nilf], .func⟩ := rfl
theorem ut63 : cfg.ut 63 = .slice 3 := rfl
theorem sz63 : cfg.sz 63 = 1 := rfl
theorem ti63 : cfg.ti 63 = ⟨1, 24, [.nils], .slice 3⟩ := rfl
theorem ut64 : cfg.ut 64 = .func := rfl
theorem sz64 : cfg.sz 64 = 1 := rfl
theorem ti64 : cfg.ti 64 = ⟨1, 8, [.nilf], .func⟩ := rfl
theorem ut70 : cfg.ut 70 = .func := rfl
theorem sz70 : cfg.sz 70 = 1 := rfl
theorem ti70 : cfg.ti 70 = ⟨1, 8, [.nilf], .func⟩ := rfl
theorem ut71 : cfg.ut 71 = .int .u32 := rfl
theorem sz71 : cfg.sz 71 = 1 := rfl
theorem ti71 : cfg.ti 71 = ⟨1, 4, [.int .u32 0], .int .u32⟩ := rfl
theorem ut75 : cfg.ut 75 = .ptr 5 := rfl
theorem sz75 : cfg.sz 75 = 1 := rfl
theorem ti75 : cfg.ti 75 = ⟨1, 8, [.nilp], .ptr 5⟩ := rfl
theorem hb3 : hasBody cfg 3 = true := by kernel_rfl
theorem fn3 : cfg.fns 3 = some Try.f3 := by kernel_rfl
theorem res3 : Try.f3.results = #[.tmp 10] := rfl
theorem ntm3 : Try.f3.ntmps = 48 := rfl
theorem hb4 : hasBody cfg 4 = true := by kernel_rfl
theorem fn4 : cfg.fns 4 = some Try.f4 := by kernel_rfl
theorem res4 : Try.f4.results = #[.tmp 18] := rfl
theorem ntm4 : Try.f4.ntmps = 78 := rfl
theorem hb5 : hasBody cfg 5 = true := by kernel_rfl
theorem fn5 : cfg.fns 5 = some Try.f5 := by kernel_rfl
theorem res5 : Try.f5.results = #[.tmp 4] := rfl
theorem ntm5 : Try.f5.ntmps = 80 := rfl
theorem hb6 : hasBody cfg 6 = true := by kernel_rfl
theorem fn6 : cfg.fns 6 = some Try.f6 := by kernel_rfl
theorem res6 : Try.f6.results = #[.tmp 18] := rfl
theorem ntm6 : Try.f6.ntmps = 87 := rfl
theorem hb7 : hasBody cfg 7 = true := by kernel_rfl
theorem fn7 : cfg.fns 7 = some Try.f7 := by kernel_rfl
theorem res7 : Try.f7.results = #[.tmp 16] := rfl
theorem ntm7 : Try.f7.ntmps = 81 := rfl
theorem hb8 : hasBody cfg 8 = true := by kernel_rfl
theorem fn8 : cfg.fns 8 = some Try.f8 := by kernel_rfl
theorem res8 : Try.f8.results = #[.tmp 6] := rfl
theorem ntm8 : Try.f8.ntmps = 61 := rfl
theorem hb9 : hasBody cfg 9 = true := by kernel_rfl
theorem fn9 : cfg.fns 9 = some Try.f9 := by kernel_rfl
theorem res9 : Try.f9.results = #[.tmp 2] := rfl
theorem ntm9 : Try.f9.ntmps = 45 := rfl
theorem hb10 : hasBody cfg 10 = true := by kernel_rfl
theorem fn10 : cfg.fns 10 = some Try.f10 := by kernel_rfl
theorem res10 : Try.f10.results = #[.tmp 10] := rfl
theorem ntm10 : Try.f10.ntmps = 77 := rfl
theorem hb11 : hasBody cfg 11 = true := by kernel_rfl
theorem fn11 : cfg.fns 11 = some Try.f11 := by kernel_rfl
theorem res11 : Try.f11.results = #[.tmp 10] := rfl
theorem ntm11 : Try.f11.ntmps = 114 := rfl
theorem hb12 : hasBody cfg 12 = true := by kernel_rfl
theorem fn12 : cfg.fns 12 = some Try.f12 := by kernel_rfl
theorem res12 : Try.f12.results = #[.tmp 12] := rfl
theorem ntm12 : Try.f12.ntmps = 99 := rfl
theorem hb13 : hasBody cfg 13 = true := by kernel_rfl
theorem fn13 : cfg.fns 13 = some Try.f13 := by kernel_rfl
theorem res13 : Try.f13.results = #[.tmp 8] := rfl
theorem ntm13 : Try.f13.ntmps = 78 := rfl
theorem hb14 : hasBody cfg 14 = true := by kernel_rfl
theorem fn14 : cfg.fns 14 = some Try.f14 := by kernel_rfl
theorem res14 : Try.f14.results = #[.tmp 8] := rfl
theorem ntm14 : Try.f14.ntmps = 80 := rfl
theorem hb15 : hasBody cfg 15 = true := by kernel_rfl
theorem fn15 : cfg.fns 15 = some Try.f15 := by kernel_rfl
theorem res15 : Try.f15.results = #[.cell 8 23] := rfl
theorem ntm15 : Try.f15.ntmps = 24 := rfl
theorem hb16 : hasBody cfg 16 = true := by kernel_rfl
theorem fn16 : cfg.fns 16 = some Try.f16 := by kernel_rfl
theorem res16 : Try.f16.results = #[.tmp 4] := rfl
theorem ntm16 : Try.f16.ntmps = 12 := rfl
theorem hb17 : hasBody cfg 17 = true := by kernel_rfl
theorem fn17 : cfg.fns 17 = some Try.f17 := by kernel_rfl
theorem res17 : Try.f17.results = #[.cell 2 23] := rfl
theorem ntm17 : Try.f17.ntmps = 17 := rfl
theorem hb18 : hasBody cfg 18 = true := by kernel_rfl
theorem fn18 : cfg.fns 18 = some Try.f18 := by kernel_rfl
theorem res18 : Try.f18.results = #[.cell 2 23] := rfl
theorem ntm18 : Try.f18.ntmps = 16 := rfl
theorem hb19 : hasBody cfg 19 = true := by kernel_rfl
theorem fn19 : cfg.fns 19 = some Try.f19 := by kernel_rfl
theorem res19 : Try.f19.results = #[.cell 0 23] := rfl
theorem ntm19 : Try.f19.ntmps = 3 := rfl
theorem hb20 : hasBody cfg 20 = true := by kernel_rfl
theorem fn20 : cfg.fns 20 = some Try.f20 := by kernel_rfl
theorem res20 : Try.f20.results = #[.cell 0 23] := rfl
theorem ntm20 : Try.f20.ntmps = 2 := rfl
theorem hb21 : hasBody cfg 21 = true := by kernel_rfl
theorem fn21 : cfg.fns 21 = some Try.f21 := by kernel_rfl
theorem res21 : Try.f21.results = #[.tmp 2] := rfl
theorem ntm21 : Try.f21.ntmps = 35 := rfl
theorem hb22 : hasBody cfg 22 = true := by kernel_rfl
theorem fn22 : cfg.fns 22 = some Try.f22 := by kernel_rfl
theorem res22 : Try.f22.results = #[.tmp 2] := rfl
theorem ntm22 : Try.f22.ntmps = 35 := rfl
theorem hb23 : hasBody cfg 23 = true := by kernel_rfl
theorem fn23 : cfg.fns 23 = some Try.f23 := by kernel_rfl
theorem res23 : Try.f23.results = #[.tmp 0] := rfl
theorem ntm23 : Try.f23.ntmps = 26 := rfl
theorem hb24 : hasBody cfg 24 = true := by kernel_rfl
theorem fn24 : cfg.fns 24 = some Try.f24 := by kernel_rfl
theorem res24 : Try.f24.results = #[.cell 4 23] := rfl
theorem ntm24 : Try.f24.ntmps = 43 := rfl
theorem hb25 : hasBody cfg 25 = true := by kernel_rfl
theorem fn25 : cfg.fns 25 = some Try.f25 := by kernel_rfl
theorem res25 : Try.f25.results = #[.cell 4 23] := rfl
theorem ntm25 : Try.f25.ntmps = 42 := rfl
theorem hb26 : hasBody cfg 26 = true := by kernel_rfl
theorem fn26 : cfg.fns 26 = some Try.f26 := by kernel_rfl
theorem res26 : Try.f26.results = #[.tmp 6] := rfl
theorem ntm26 : Try.f26.ntmps = 36 := rfl
theorem hb27 : hasBody cfg 27 = true := by kernel_rfl
theorem fn27 : cfg.fns 27 = some Try.f27 := by kernel_rfl
theorem res27 : Try.f27.results = #[.tmp 6] := rfl
theorem ntm27 : Try.f27.ntmps = 36 := rfl
theorem hb28 : hasBody cfg 28 = true := by kernel_rfl
theorem fn28 : cfg.fns 28 = some Try.f28 := by kernel_rfl
theorem res28 : Try.f28.results = #[.tmp 2] := rfl
theorem ntm28 : Try.f28.ntmps = 25 := rfl
theorem hb29 : hasBody cfg 29 = true := by kernel_rfl
theorem fn29 : cfg.fns 29 = some Try.f29 := by kernel_rfl
theorem res29 : Try.f29.results = #[.cell 2 23, .tmp 3] := rfl
theorem ntm29 : Try.f29.ntmps = 42 := rfl
theorem hb30 : hasBody cfg 30 = true := by kernel_rfl
theorem fn30 : cfg.fns 30 = some Try.f30 := by kernel_rfl
theorem res30 : Try.f30.results = #[.cell 6 23] := rfl
theorem ntm30 : Try.f30.ntmps = 27 := rfl
theorem hb31 : hasBody cfg 31 = true := by kernel_rfl
theorem fn31 : cfg.fns 31 = some Try.f31 := by kernel_rfl
theorem res31 : Try.f31.results = #[.tmp 2] := rfl
theorem ntm31 : Try.f31.ntmps = 5 := rfl
theorem hb32 : hasBody cfg 32 = true := by kernel_rfl
theorem fn32 : cfg.fns 32 = some Try.f32 := by kernel_rfl
theorem res32 : Try.f32.results = #[.tmp 4] := rfl
theorem ntm32 : Try.f32.ntmps = 26 := rfl
theorem hb33 : hasBody cfg 33 = true := by kernel_rfl
theorem fn33 : cfg.fns 33 = some Try.f33 := by kernel_rfl
theorem res33 : Try.f33.results = #[.tmp 2] := rfl
theorem ntm33 : Try.f33.ntmps = 5 := rfl
theorem hb34 : hasBody cfg 34 = true := by kernel_rfl
theorem fn34 : cfg.fns 34 = some Try.f34 := by kernel_rfl
theorem res34 : Try.f34.results = #[.tmp 2] := rfl
theorem ntm34 : Try.f34.ntmps = 5 := rfl
theorem hb35 : hasBody cfg 35 = true := by kernel_rfl
theorem fn35 : cfg.fns 35 = some Try.f35 := by kernel_rfl
theorem res35 : Try.f35.results = #[.tmp 4] := rfl
theorem ntm35 : Try.f35.ntmps = 32 := rfl
theorem hb36 : hasBody cfg 36 = true := by kernel_rfl
theorem fn36 : cfg.fns 36 = some Try.f36 := by kernel_rfl
theorem res36 : Try.f36.results = #[.tmp 4] := rfl
theorem ntm36 : Try.f36.ntmps = 26 := rfl
theorem hb37 : hasBody cfg 37 = true := by kernel_rfl
theorem fn37 : cfg.fns 37 = some Try.f37 := by kernel_rfl
theorem res37 : Try.f37.results = #[.tmp 2] := rfl
theorem ntm37 : Try.f37.ntmps = 5 := rfl
theorem hb38 : hasBody cfg 38 = true := by kernel_rfl
theorem fn38 : cfg.fns 38 = some Try.f38 := by kernel_rfl
theorem res38 : Try.f38.results = #[.tmp 0] := rfl
theorem ntm38 : Try.f38.ntmps = 27 := rfl
theorem hb39 : hasBody cfg 39 = true := by kernel_rfl
theorem fn39 : cfg.fns 39 = some Try.f39 := by kernel_rfl
theorem res39 : Try.f39.results = #[.tmp 4] := rfl
theorem ntm39 : Try.f39.ntmps = 33 := rfl
theorem hb40 : hasBody cfg 40 = true := by kernel_rfl
theorem fn40 : cfg.fns 40 = some Try.f40 := by kernel_rfl
theorem res40 : Try.f40.results = #[.tmp 4] := rfl
theorem ntm40 : Try.f40.ntmps = 10 := rfl
theorem hb41 : hasBody cfg 41 = true := by kernel_rfl
theorem fn41 : cfg.fns 41 = some Try.f41 := by kernel_rfl
theorem res41 : Try.f41.results = #[.tmp 4] := rfl
theorem ntm41 : Try.f41.ntmps = 8 := rfl
theorem hb42 : hasBody cfg 42 = true := by kernel_rfl
theorem fn42 : cfg.fns 42 = some Try.f42 := by kernel_rfl
theorem res42 : Try.f42.results = #[.tmp 2] := rfl
theorem ntm42 : Try.f42.ntmps = 17 := rfl
theorem hb43 : hasBody cfg 43 = true := by kernel_rfl
theorem fn43 : cfg.fns 43 = some Try.f43 := by kernel_rfl
theorem res43 : Try.f43.results = #[.tmp 4] := rfl
theorem ntm43 : Try.f43.ntmps = 18 := rfl
theorem hb44 : hasBody cfg 44 = true := by kernel_rfl
theorem fn44 : cfg.fns 44 = some Try.f44 := by kernel_rfl
theorem res44 : Try.f44.results = #[.tmp 2] := rfl
theorem ntm44 : Try.f44.ntmps = 7 := rfl
theorem hb45 : hasBody cfg 45 = true := by kernel_rfl
theorem fn45 : cfg.fns 45 = some Try.f45 := by kernel_rfl
theorem res45 : Try.f45.results = #[.tmp 4] := rfl
theorem ntm45 : Try.f45.ntmps = 18 := rfl
theorem hb46 : hasBody cfg 46 = true := by kernel_rfl
theorem fn46 : cfg.fns 46 = some Try.f46 := by kernel_rfl
theorem res46 : Try.f46.results = #[.tmp 2] := rfl
theorem ntm46 : Try.f46.ntmps = 11 := rfl
theorem hb47 : hasBody cfg 47 = true := by kernel_rfl
theorem fn47 : cfg.fns 47 = some Try.f47 := by kernel_rfl
theorem res47 : Try.f47.results = #[.tmp 2] := rfl
theorem ntm47 : Try.f47.ntmps = 11 := rfl
theorem hb48 : hasBody cfg 48 = true := by kernel_rfl
theorem fn48 : cfg.fns 48 = some Try.f48 := by kernel_rfl
theorem res48 : Try.f48.results = #[.tmp 4] := rfl
theorem ntm48 : Try.f48.ntmps = 29 := rfl
theorem hb49 : hasBody cfg 49 = true := by kernel_rfl
theorem fn49 : cfg.fns 49 = some Try.f49 := by kernel_rfl
theorem res49 : Try.f49.results = #[.tmp 4] := rfl
theorem ntm49 : Try.f49.ntmps = 23 := rfl
theorem hb50 : hasBody cfg 50 = true := by kernel_rfl
theorem fn50 : cfg.fns 50 = some Try.f50 := by kernel_rfl
theorem res50 : Try.f50.results = #[.tmp 4] := rfl
theorem ntm50 : Try.f50.ntmps = 26 := rfl
theorem hb51 : hasBody cfg 51 = true := by kernel_rfl
theorem fn51 : cfg.fns 51 = some Try.f51 := by kernel_rfl
theorem res51 : Try.f51.results = #[.tmp 4] := rfl
theorem ntm51 : Try.f51.ntmps = 29 := rfl
theorem hb52 : hasBody cfg 52 = true := by kernel_rfl
theorem fn52 : cfg.fns 52 = some Try.f52 := by kernel_rfl
theorem res52 : Try.f52.results = #[.tmp 4] := rfl
theorem ntm52 : Try.f52.ntmps = 22 := rfl
theorem hb53 : hasBody cfg 53 = true := by kernel_rfl
theorem fn53 : cfg.fns 53 = some Try.f53 := by kernel_rfl
theorem res53 : Try.f53.results = #[.cell 2 23] := rfl
theorem ntm53 : Try.f53.ntmps = 10 := rfl
theorem hb54 : hasBody cfg 54 = true := by kernel_rfl
theorem fn54 : cfg.fns 54 = some Try.f54 := by kernel_rfl
theorem res54 : Try.f54.results = #[.cell 0 61] := rfl
theorem ntm54 : Try.f54.ntmps = 2 := rfl
theorem hb55 : hasBody cfg 55 = true := by kernel_rfl
theorem fn55 : cfg.fns 55 = some Try.f55 := by kernel_rfl
theorem res55 : Try.f55.results = #[.tmp 4] := rfl
theorem ntm55 : Try.f55.ntmps = 35 := rfl
theorem hb56 : hasBody cfg 56 = true := by kernel_rfl
theorem fn56 : cfg.fns 56 = some Try.f56 := by kernel_rfl
theorem res56 : Try.f56.results = #[.tmp 4] := rfl
theorem ntm56 : Try.f56.ntmps = 25 := rfl
end Go.Proofs.Ytlmclkamedhmhaa
