/- Walks over data, merged (part 4): what the laws of this claim use. -/
import Derived.Ground.Names7Prog
import Derived.IntWalk
import Derived.KernelRfl
import Derived.LoopTactic
import Derived.OwnWalk
import Derived.ProofKit
import Derived.Recover
import Derived.RegionTactic
import Derived.Shelf.Lay
import Derived.Shelf.LaysM
import Derived.Shelf.Small.Strs
import Derived.Shelf.Spec.DecodeRune
import Derived.Shelf.Strconv.Itoa3
import Derived.Shelf.Strings.Search1
import Derived.Shelf.Strings.Search2
import Derived.Shelf.Unicode.DecodeAny
import Derived.Sort.Grow
import Derived.StillTactics
import Derived.Test.YtgnbphnbdaphpaaGreatDoorChecked
import Derived.Test.YtgnbphnbdaphpaaGreatDoorRows
import Derived.Test.YtgnbphnbdaphpaaGreatDoorMc
set_option linter.unusedSimpArgs false
set_option linter.unusedVariables false
namespace Go.Vd
open Go.Proofs
abbrev IZ : TI := ⟨.int .i64, 1, 8, [.i .i64]⟩
abbrev IH : TI := ⟨.int .i64, 1, 8, [.i .i64]⟩
abbrev ID : TI := ⟨.bool, 1, 1, [.b]⟩
abbrev ti5 : TI := ⟨.int .u8, 1, 1, [.i .u8]⟩
abbrev IG : TI := ⟨.string, 1, 16, [.s]⟩
abbrev Hl : TI := ⟨.iface, 1, 16, [.o]⟩
abbrev FM : TI := ⟨.int .i32, 1, 4, [.i .i32]⟩
abbrev FL : TI := ⟨.slice 5, 1, 24, [.n]⟩
abbrev GW : TI := ⟨.struct [(0, 1), (1, 1), (2, 1), (3, 1)], 4, 80, [.n, .n, .n, .i .u8]⟩
abbrev HA : TI := ⟨.slice 55, 1, 24, [.n]⟩
abbrev Gc : TI := ⟨.slice 63, 1, 24, [.n]⟩
abbrev FH : TI := ⟨.slice 3, 1, 24, [.n]⟩
abbrev FK : TI := ⟨.slice 88, 1, 24, [.n]⟩
abbrev HS : TI := ⟨.struct [(0, 1), (1, 1), (2, 1), (3, 1), (4, 1), (5, 1), (6, 1)], 7, 152, [.i .i64, .n, .n, .n, .n, .n, .n]⟩
abbrev HY : TI := ⟨.slice 92, 1, 24, [.n]⟩
abbrev Gz : TI := ⟨.slice 36, 1, 24, [.n]⟩
abbrev HH : TI := ⟨.struct [(0, 1), (1, 1), (2, 1)], 3, 56, [.i .i64, .n, .n]⟩
abbrev HZ : TI := ⟨.int .i64, 1, 8, [.i .i64]⟩
abbrev FT : TI := ⟨.slice 22, 1, 24, [.n]⟩
abbrev Hj : TI := ⟨.array 5 3, 5, 40, [.i .i64, .i .i64, .i .i64, .i .i64, .i .i64]⟩
abbrev Ga : TI := ⟨.struct [(0, 1), (1, 1), (2, 1)], 3, 40, [.n, .i .i64, .i .i64]⟩
abbrev GB : TI := ⟨.struct [(0, 1), (1, 1)], 2, 16, [.i .i64, .i .i64]⟩
abbrev FQ : TI := ⟨.struct [(0, 1), (1, 1)], 2, 16, [.i .i64, .i .i64]⟩
abbrev HV : TI := ⟨.other, 1, 8, [.o]⟩
abbrev Hz : TI := ⟨.struct [(0, 1), (1, 1)], 2, 24, [.s, .o]⟩
abbrev G0 : TI := ⟨.map 9 74, 1, 8, [.o]⟩
abbrev HW : TI := ⟨.slice 20, 1, 24, [.n]⟩
abbrev Gi : TI := ⟨.struct [(0, 1), (1, 1), (2, 1)], 3, 32, [.i .u8, .i .i64, .s]⟩
abbrev GR : TI := ⟨.int .u8, 1, 1, [.i .u8]⟩
abbrev Ho : TI := ⟨.slice 30, 1, 24, [.n]⟩
abbrev HP : TI := ⟨.struct [(0, 1), (1, 1)], 2, 32, [.i .i64, .n]⟩
abbrev CD : TI := ⟨.slice 174, 1, 24, [.n]⟩
abbrev Hc : TI := ⟨.slice 244, 1, 24, [.n]⟩
abbrev HX : TI := ⟨.struct [(0, 1)], 1, 24, [.n]⟩
abbrev Da : TI := ⟨.slice 9, 1, 24, [.n]⟩
abbrev Gm : TI := ⟨.slice 111, 1, 24, [.n]⟩
abbrev Hn : TI := ⟨.struct [(0, 1), (1, 1), (2, 1)], 3, 56, [.i .i64, .n, .n]⟩
abbrev C8 : TI := ⟨.array 3 101, 3, 72, [.n, .n, .n]⟩
abbrev Dm : TI := ⟨.struct [(0, 1), (1, 1), (2, 3)], 5, 104, [.n, .i .i64, .n, .n, .n]⟩
abbrev C4 : TI := ⟨.other, 1, 8, [.o]⟩
abbrev CF : TI := ⟨.struct [(0, 1), (1, 1)], 2, 16, [.i .i64, .i .i64]⟩
abbrev FY : TI := ⟨.ptr 151, 1, 8, [.p]⟩
abbrev CK : TI := ⟨.struct [(0, 1), (1, 1)], 2, 32, [.n, .i .i64]⟩
abbrev GQ : TI := ⟨.other, 1, 8, [.o]⟩
abbrev HI : TI := ⟨.ptr 33, 1, 8, [.p]⟩
abbrev Gu : TI := ⟨.other, 1, 8, [.o]⟩
abbrev Df : TI := ⟨.struct [(0, 1), (1, 1)], 2, 32, [.b, .n]⟩
abbrev C7 : TI := ⟨.struct [(0, 1), (1, 1)], 2, 16, [.i .i64, .i .i64]⟩
abbrev Gd : TI := ⟨.ptr 192, 1, 8, [.p]⟩
abbrev Dg : TI := ⟨.struct [(0, 1), (1, 1)], 2, 32, [.n, .i .i64]⟩
abbrev GM : TI := ⟨.ptr 198, 1, 8, [.p]⟩
abbrev CL : TI := ⟨.struct [(0, 1), (1, 1)], 2, 32, [.p, .n]⟩
abbrev CR : TI := ⟨.other, 1, 8, [.o]⟩
abbrev He : TI := ⟨.iface, 1, 16, [.o]⟩
abbrev FR : TI := ⟨.slice 3, 1, 24, [.n]⟩
abbrev Dk : TI := ⟨.array 3 36, 3, 72, [.n, .n, .n]⟩
abbrev CW : TI := ⟨.struct [(0, 1), (1, 3)], 4, 96, [.n, .n, .n, .n]⟩
abbrev G4 : TI := ⟨.other, 1, 8, [.o]⟩
abbrev GV : TI := ⟨.struct [(0, 1), (1, 1), (2, 1), (3, 1), (4, 1)], 5, 88, [.s, .i .i64, .n, .n, .s]⟩
abbrev CJ : TI := ⟨.slice 4, 1, 24, [.n]⟩
abbrev Dd : TI := ⟨.array 3 98, 6, 96, [.i .i64, .n, .i .i64, .n, .i .i64, .n]⟩
abbrev Hx : TI := ⟨.ptr 275, 1, 8, [.p]⟩
abbrev Dv : TI := ⟨.struct [(0, 1), (1, 1), (2, 1)], 3, 40, [.n, .i .i64, .i .i64]⟩
abbrev HT : TI := ⟨.other, 1, 8, [.o]⟩
abbrev FJ : TI := ⟨.other, 1, 8, [.o]⟩
abbrev Dw : TI := ⟨.array 3 3, 3, 24, [.i .i64, .i .i64, .i .i64]⟩
abbrev CT : TI := ⟨.other, 1, 8, [.o]⟩
abbrev FI : TI := ⟨.ptr 5, 1, 8, [.p]⟩
abbrev Gp : TI := ⟨.other, 1, 8, [.o]⟩
abbrev Hs : TI := ⟨.slice 3, 1, 24, [.n]⟩
abbrev FG : TI := ⟨.other, 1, 8, [.o]⟩
abbrev Gn : TI := ⟨.other, 1, 8, [.o]⟩
abbrev Hi : TI := ⟨.other, 1, 8, [.o]⟩
abbrev GI : TI := ⟨.other, 1, 8, [.o]⟩
abbrev HF : TI := ⟨.int .u64, 1, 8, [.i .u64]⟩
abbrev Gw : TI := ⟨.other, 1, 8, [.o]⟩
abbrev Dr : TI := ⟨.slice 29, 1, 24, [.n]⟩
abbrev Dn : TI := ⟨.slice 96, 1, 24, [.n]⟩
abbrev CU : TI := ⟨.struct [(0, 1), (1, 1)], 2, 32, [.o, .n]⟩
abbrev Hb : TI := ⟨.array 24 5, 24, 24, [.i .u8, .i .u8, .i .u8, .i .u8, .i .u8, .i .u8, .i .u8, .i .u8, .i .u8, .i .u8, .i .u8, .i .u8, .i .u8, .i .u8, .i .u8, .i .u8, .i .u8, .i .u8, .i .u8, .i .u8, .i .u8, .i .u8, .i .u8, .i .u8]⟩
abbrev G6 : TI := ⟨.int .u64, 1, 8, [.i .u64]⟩
abbrev FZ : TI := ⟨.int .u32, 1, 4, [.i .u32]⟩
abbrev CA : TI := ⟨.array 3 92, 3, 3, [.i .u8, .i .u8, .i .u8]⟩
abbrev Du : TI := ⟨.array 3 449, 9, 9, [.i .u8, .i .u8, .i .u8, .i .u8, .i .u8, .i .u8, .i .u8, .i .u8, .i .u8]⟩
abbrev G8 : TI := ⟨.array 20 418, 20, 160, [.i .u64, .i .u64, .i .u64, .i .u64, .i .u64, .i .u64, .i .u64, .i .u64, .i .u64, .i .u64, .i .u64, .i .u64, .i .u64, .i .u64, .i .u64, .i .u64, .i .u64, .i .u64, .i .u64, .i .u64]⟩
abbrev Hq : TI := ⟨.array 65 5, 65, 65, [.i .u8, .i .u8, .i .u8, .i .u8, .i .u8, .i .u8, .i .u8, .i .u8, .i .u8, .i .u8, .i .u8, .i .u8, .i .u8, .i .u8, .i .u8, .i .u8, .i .u8, .i .u8, .i .u8, .i .u8, .i .u8, .i .u8, .i .u8, .i .u8, .i .u8, .i .u8, .i .u8, .i .u8, .i .u8, .i .u8, .i .u8, .i .u8, .i .u8, .i .u8, .i .u8, .i .u8, .i .u8, .i .u8, .i .u8, .i .u8, .i .u8, .i .u8, .i .u8, .i .u8, .i .u8, .i .u8, .i .u8, .i .u8, .i .u8, .i .u8, .i .u8, .i .u8, .i .u8, .i .u8, .i .u8, .i .u8, .i .u8, .i .u8, .i .u8, .i .u8, .i .u8, .i .u8, .i .u8, .i .u8, .i .u8]⟩
abbrev GU : TI := ⟨.array 256 5, 256, 256, [.i .u8, .i .u8, .i .u8, .i .u8, .i .u8, .i .u8, .i .u8, .i .u8, .i .u8, .i .u8, .i .u8, .i .u8, .i .u8, .i .u8, .i .u8, .i .u8, .i .u8, .i .u8, .i .u8, .i .u8, .i .u8, .i .u8, .i .u8, .i .u8, .i .u8, .i .u8, .i .u8, .i .u8, .i .u8, .i .u8, .i .u8, .i .u8, .i .u8, .i .u8, .i .u8, .i .u8, .i .u8, .i .u8, .i .u8, .i .u8, .i .u8, .i .u8, .i .u8, .i .u8, .i .u8, .i .u8, .i .u8, .i .u8, .i .u8, .i .u8, .i .u8, .i .u8, .i .u8, .i .u8, .i .u8, .i .u8, .i .u8, .i .u8, .i .u8, .i .u8, .i .u8, .i .u8, .i .u8, .i .u8, .i .u8, .i .u8, .i .u8, .i .u8, .i .u8, .i .u8, .i .u8, .i .u8, .i .u8, .i .u8, .i .u8, .i .u8, .i .u8, .i .u8, .i .u8, .i .u8, .i .u8, .i .u8, .i .u8, .i .u8, .i .u8, .i .u8, .i .u8, .i .u8, .i .u8, .i .u8, .i .u8, .i .u8, .i .u8, .i .u8, .i .u8, .i .u8, .i .u8, .i .u8, .i .u8, .i .u8, .i .u8, .i .u8, .i .u8, .i .u8, .i .u8, .i .u8, .i .u8, .i .u8, .i .u8, .i .u8, .i .u8, .i .u8, .i .u8, .i .u8, .i .u8, .i .u8, .i .u8, .i .u8, .i .u8, .i .u8, .i .u8, .i .u8, .i .u8, .i .u8, .i .u8, .i .u8, .i .u8, .i .u8, .i .u8, .i .u8, .i .u8, .i .u8, .i .u8, .i .u8, .i .u8, .i .u8, .i .u8, .i .u8, .i .u8, .i .u8, .i .u8, .i .u8, .i .u8, .i .u8, .i .u8, .i .u8, .i .u8, .i .u8, .i .u8, .i .u8, .i .u8, .i .u8, .i .u8, .i .u8, .i .u8, .i .u8, .i .u8, .i .u8, .i .u8, .i .u8, .i .u8, .i .u8, .i .u8, .i .u8, .i .u8, .i .u8, .i .u8, .i .u8, .i .u8, .i .u8, .i .u8, .i .u8, .i .u8, .i .u8, .i .u8, .i .u8, .i .u8, .i .u8, .i .u8, .i .u8, .i .u8, .i .u8, .i .u8, .i .u8, .i .u8, .i .u8, .i .u8, .i .u8, .i .u8, .i .u8, .i .u8, .i .u8, .i .u8, .i .u8, .i .u8, .i .u8, .i .u8, .i .u8, .i .u8, .i .u8, .i .u8, .i .u8, .i .u8, .i .u8, .i .u8, .i .u8, .i .u8, .i .u8, .i .u8, .i .u8, .i .u8, .i .u8, .i .u8, .i .u8, .i .u8, .i .u8, .i .u8, .i .u8, .i .u8, .i .u8, .i .u8, .i .u8, .i .u8, .i .u8, .i .u8, .i .u8, .i .u8, .i .u8, .i .u8, .i .u8, .i .u8, .i .u8, .i .u8, .i .u8, .i .u8, .i .u8, .i .u8, .i .u8, .i .u8, .i .u8, .i .u8, .i .u8, .i .u8, .i .u8, .i .u8, .i .u8, .i .u8, .i .u8, .i .u8, .i .u8, .i .u8, .i .u8, .i .u8, .i .u8, .i .u8, .i .u8]⟩
abbrev GN : TI := ⟨.struct [(0, 1), (1, 1)], 2, 2, [.i .u8, .i .u8]⟩
abbrev Hp : TI := ⟨.array 16 460, 32, 32, [.i .u8, .i .u8, .i .u8, .i .u8, .i .u8, .i .u8, .i .u8, .i .u8, .i .u8, .i .u8, .i .u8, .i .u8, .i .u8, .i .u8, .i .u8, .i .u8, .i .u8, .i .u8, .i .u8, .i .u8, .i .u8, .i .u8, .i .u8, .i .u8, .i .u8, .i .u8, .i .u8, .i .u8, .i .u8, .i .u8, .i .u8, .i .u8]⟩
abbrev FS : TI := ⟨.array 32 5, 32, 32, [.i .u8, .i .u8, .i .u8, .i .u8, .i .u8, .i .u8, .i .u8, .i .u8, .i .u8, .i .u8, .i .u8, .i .u8, .i .u8, .i .u8, .i .u8, .i .u8, .i .u8, .i .u8, .i .u8, .i .u8, .i .u8, .i .u8, .i .u8, .i .u8, .i .u8, .i .u8, .i .u8, .i .u8, .i .u8, .i .u8, .i .u8, .i .u8]⟩
abbrev FV : TI := ⟨.array 64 5, 64, 64, [.i .u8, .i .u8, .i .u8, .i .u8, .i .u8, .i .u8, .i .u8, .i .u8, .i .u8, .i .u8, .i .u8, .i .u8, .i .u8, .i .u8, .i .u8, .i .u8, .i .u8, .i .u8, .i .u8, .i .u8, .i .u8, .i .u8, .i .u8, .i .u8, .i .u8, .i .u8, .i .u8, .i .u8, .i .u8, .i .u8, .i .u8, .i .u8, .i .u8, .i .u8, .i .u8, .i .u8, .i .u8, .i .u8, .i .u8, .i .u8, .i .u8, .i .u8, .i .u8, .i .u8, .i .u8, .i .u8, .i .u8, .i .u8, .i .u8, .i .u8, .i .u8, .i .u8, .i .u8, .i .u8, .i .u8, .i .u8, .i .u8, .i .u8, .i .u8, .i .u8, .i .u8, .i .u8, .i .u8, .i .u8]⟩
abbrev GX : TI := ⟨.ptr 503, 1, 8, [.p]⟩
abbrev GZ : TI := ⟨.struct [(0, 1), (1, 1), (2, 1)], 3, 56, [.n, .n, .b]⟩
abbrev Hg : TI := ⟨.map 3 30, 1, 8, [.o]⟩
abbrev F4 : TI := ⟨.int .i64, 1, 8, [.i .i64]⟩
abbrev HN : TI := ⟨.int .u64, 1, 8, [.i .u64]⟩
abbrev GH : TI := ⟨.ptr 3, 1, 8, [.p]⟩
abbrev GS : TI := ⟨.ptr 518, 1, 8, [.p]⟩
def tab : kt := [(2, IZ), (3, IH), (4, ID), (5, ti5), (9, IG), (20, Hl), (21, FM), (22, FL), (24, GW), (28, HA), (29, Gc), (30, FH), (31, FK), (33, HS), (36, HY), (37, Gz), (39, HH), (43, HZ), (46, FT), (47, Hj), (49, Ga), (55, GB), (63, FQ), (72, HV), (74, Hz), (76, G0), (79, HW), (88, Gi), (92, GR), (96, Ho), (98, HP), (101, CD), (106, Hc), (108, HX), (111, Da), (112, Gm), (114, Hn), (117, C8), (119, Dm), (125, C4), (147, CF), (149, FY), (151, CK), (159, GQ), (161, HI), (167, Gu), (174, Df), (189, C7), (190, Gd), (192, Dg), (196, GM), (198, CL), (204, CR), (216, He), (220, FR), (226, Dk), (228, CW), (234, G4), (244, GV), (252, CJ), (265, Dd), (273, Hx), (275, Dv), (277, HT), (278, FJ), (296, Dw), (299, CT), (302, FI), (307, Gp), (310, Hs), (312, FG), (318, Gn), (350, Hi), (359, GI), (360, HF), (398, Gw), (400, Dr), (402, Dn), (414, CU), (417, Hb), (418, G6), (423, FZ), (449, CA), (450, Du), (453, G8), (454, Hq), (458, GU), (460, GN), (461, Hp), (466, FS), (467, FV), (501, GX), (503, GZ), (504, Hg), (512, F4), (518, HN), (522, GH), (524, GS)]
theorem bm : lk tab 3 = some IH := rfl
theorem pK : lk tab 4 = some ID := rfl
theorem eK : lk tab 5 = some ti5 := rfl
theorem fH : lk tab 9 = some IG := rfl
theorem iD : lk tab 20 = some Hl := rfl
theorem Il : lk tab 21 = some FM := rfl
theorem bG : lk tab 22 = some FL := rfl
theorem Bv : lk tab 24 = some GW := rfl
theorem cR : lk tab 28 = some HA := rfl
theorem dg : lk tab 29 = some Gc := rfl
theorem br : lk tab 30 = some FH := rfl
theorem dK : lk tab 31 = some FK := rfl
theorem aK : lk tab 33 = some HS := rfl
theorem dd : lk tab 36 = some HY := rfl
theorem eB : lk tab 37 = some Gz := rfl
theorem dF : lk tab 39 = some HH := rfl
theorem mI : lk tab 43 = some HZ := rfl
theorem iy : lk tab 46 = some FT := rfl
theorem kM : lk tab 47 = some Hj := rfl
theorem aM : lk tab 49 = some Ga := rfl
theorem c7 : lk tab 55 = some GB := rfl
theorem dY : lk tab 63 = some FQ := rfl
theorem Eg : lk tab 72 = some HV := rfl
theorem kp : lk tab 74 = some Hz := rfl
theorem Er : lk tab 76 = some G0 := rfl
theorem iB : lk tab 79 = some HW := rfl
theorem dC : lk tab 88 = some Gi := rfl
theorem ed : lk tab 92 = some GR := rfl
theorem eC : lk tab 96 = some Ho := rfl
theorem eI : lk tab 98 = some HP := rfl
theorem eX : lk tab 101 = some CD := rfl
theorem uG : lk tab 111 = some Da := rfl
theorem mF : lk tab 117 = some C8 := rfl
theorem ea : lk tab 119 = some Dm := rfl
theorem Ht : lk tab 125 = some C4 := rfl
theorem ie : lk tab 147 = some CF := rfl
theorem fW : lk tab 151 = some CK := rfl
theorem jK : lk tab 174 = some Df := rfl
theorem kK : lk tab 189 = some C7 := rfl
theorem io : lk tab 192 = some Dg := rfl
theorem qO : lk tab 198 = some CL := rfl
theorem Gq : lk tab 204 = some CR := rfl
theorem lB : lk tab 226 = some Dk := rfl
theorem sX : lk tab 228 = some CW := rfl
theorem km : lk tab 252 = some CJ := rfl
theorem kW : lk tab 265 = some Dd := rfl
theorem dN : lk tab 275 = some Dv := rfl
theorem mj : lk tab 296 = some Dw := rfl
theorem zX : lk tab 299 = some CT := rfl
theorem sI : lk tab 400 = some Dr := rfl
theorem oH : lk tab 402 = some Dn := rfl
theorem kz : lk tab 414 = some CU := rfl
theorem nN : lk tab 449 = some CA := rfl
theorem xl : lk tab 450 = some Du := rfl
theorem ac : bg Tryz.prog tab = true := by kernel_rfl
section
abbrev dn := PCall Tryz.prog
abbrev kw := PCallE Tryz.prog
theorem J {α : Sort _} {a : α} : a = a := rfl
theorem aj : True := trivial
theorem eb {α β : Type} {a c : α} {b d : β} (e : (a, b) = (c, d)) : a = c := (Prod.mk.inj e).1
theorem bw {α β : Type} {a c : α} {b d : β} (e : (a, b) = (c, d)) : b = d := (Prod.mk.inj e).2
variable {r : Option Nat} {𝔅 : BB} {ops : List Oper} {lab : Option hY} {i : Nat} {o : Oper} {rest : List Oper} {tl : List (Nat × D)} {hl : List (Nat × Blk)} {m : MM} {K : St → Prop} {k : Nat} {Q : Exit → St → Prop} {s : St} {N : Nat}
theorem ab {c : Code} (h : Wp Tryz.prog r N 𝔅 c Q s) : aG Tryz.prog r 𝔅 ops lab i [] s (oA (Wp Tryz.prog r N 𝔅 c Q) Q .normal) := ar (ak h)
theorem ag {id : Nat} {l : List Oper} {c : Code} (h : aG Tryz.prog r 𝔅 l none 0 l s (oA (Wp Tryz.prog r N 𝔅 c Q) Q .normal)) (hd : kL N l = true := by kernel_rfl) : Wp Tryz.prog r N 𝔅 (.seq (.region id l.toArray false) c) Q s := ae (zp hd h)
theorem aF {id : Nat} {l : List Oper} (h : aG Tryz.prog r 𝔅 l none 0 l s (Q .normal)) (hd : kL N l = true := by kernel_rfl) : Wp Tryz.prog r N 𝔅 (.region id l.toArray false) Q s := zp hd h
theorem aa {x : Operand} {d : D}  (e0 : Eq (o.op, (mk tl hl m).ev x, o.dst, aQ ops (mk tl hl m) o.guard) (.move x, some (d), some k, some true)) (h : aG Tryz.prog r 𝔅 ops lab (i + 1) rest (mk ((k, d) :: tl) hl m) K) : aG Tryz.prog r 𝔅 ops lab i (o :: rest) (mk tl hl m) K := Cu (eb e0) (eb (bw e0)) (eb (bw (bw e0))) (bw (bw (bw e0))) h
theorem af {x : Operand} {d : D}  (e0 : Eq (o.op, (mk tl hl m).ev x, o.dst, aQ ops (mk tl hl m) o.guard) (.assign x, some (d), some k, some true)) (h : aG Tryz.prog r 𝔅 ops lab (i + 1) rest (mk ((k, d) :: tl) hl m) K) : aG Tryz.prog r 𝔅 ops lab i (o :: rest) (mk tl hl m) K := ye (eb e0) (eb (bw e0)) (eb (bw (bw e0))) (bw (bw (bw e0))) h
theorem ax {T f n : Nat} {ti : TI} {x : Operand} {id q j : Nat} {cs : List D} (hlt : lk tab T = some ti) (e0 : Eq (o.op, (mk tl hl m).ev x, (mk tl hl m).h id, ti.field f, q + n, cB lab i [(id, .box cs)] [], o.dst, aQ ops (mk tl hl m) o.guard) (.fieldAddr T x f, some (.ptr id q), .box cs, some n, j, true, some k, some true)) (h : aG Tryz.prog r 𝔅 ops lab (i + 1) rest (mk ((k, .ptr id j) :: tl) hl m) K) : aG Tryz.prog r 𝔅 ops lab i (o :: rest) (mk tl hl m) K := G5 ac (eb e0) (eb (bw e0)) (eb (bw (bw e0))) hlt (eb (bw (bw (bw e0)))) (eb (bw (bw (bw (bw e0))))) (eb (bw (bw (bw (bw (bw e0)))))) (eb (bw (bw (bw (bw (bw (bw e0))))))) (bw (bw (bw (bw (bw (bw (bw e0))))))) h
theorem aR {T : Nat} {ti : TI} {x y : Operand} {id n : Nat} {cs ds cs' : List D} {d : D} (hl' : lk tab T = some ti) (F : List (Nat × Blk)) (e0 : Eq (o.op, (mk tl hl m).ev x, (mk tl hl m).ev y, (mk tl hl m).h id) (.store T x y, some (.ptr id n), some d, .box cs)) (hFs : HasH (mk tl hl m) F) (e1 : Eq (d.flat (hF F), ds.all (·.one (hF F)), ti.size, Nat.ble (n + ds.length) cs.length, cs.take n ++ ds ++ cs.drop (n + ds.length), cB lab i ((id, .box cs) :: F) [(id, .box cs')], o.dst, aQ ops (mk tl hl m) o.guard) (some ds, true, ds.length, true, cs', true, none, some true)) (h : aG Tryz.prog r 𝔅 ops lab (i + 1) rest (mk tl ((id, .box cs') :: hl) m) K) : aG Tryz.prog r 𝔅 ops lab i (o :: rest) (mk tl hl m) K := gF F ac (eb e0) hl' (eb (bw e0)) (eb (bw (bw e0))) (bw (bw (bw e0))) hFs (eb e1) (eb (bw e1)) (eb (bw (bw e1))) (eb (bw (bw (bw e1)))) (eb (bw (bw (bw (bw e1))))) (eb (bw (bw (bw (bw (bw e1)))))) (eb (bw (bw (bw (bw (bw (bw e1))))))) (bw (bw (bw (bw (bw (bw (bw e1))))))) h
theorem aC {T : Nat} {ti : TI} {x : Operand} {id n : Nat} {cs : List D} {d : D} (hlt : lk tab T = some ti) (e0 : Eq (o.op, (mk tl hl m).ev x, (mk tl hl m).h id, ti.isAgg, cs[n]?, cB lab i [(id, .box cs)] [], o.dst, aQ ops (mk tl hl m) o.guard) (.load T x, some (.ptr id n), .box cs, false, some d, true, some k, some true)) (h : aG Tryz.prog r 𝔅 ops lab (i + 1) rest (mk ((k, d) :: tl) hl m) K) : aG Tryz.prog r 𝔅 ops lab i (o :: rest) (mk tl hl m) K := Dc ac (eb e0) (eb (bw e0)) (eb (bw (bw e0))) hlt (eb (bw (bw (bw e0)))) (eb (bw (bw (bw (bw e0))))) (eb (bw (bw (bw (bw (bw e0)))))) (eb (bw (bw (bw (bw (bw (bw e0))))))) (bw (bw (bw (bw (bw (bw (bw e0))))))) h
theorem a7 {T : Nat} {ti : TI} {x : Operand} {id n : Nat} {cs : List D} {d : D} (hlt : lk tab T = some ti) (e0 : Eq (o.op, (mk tl hl m).ev x, (mk tl hl m).h id, ti.isAgg, Nat.ble (n + ti.size) cs.length, mkAgg ((cs.drop n).take ti.size), cB lab i [(id, .box cs)] [], o.dst, aQ ops (mk tl hl m) o.guard) (.load T x, some (.ptr id n), .box cs, true, true, d, true, some k, some true)) (h : aG Tryz.prog r 𝔅 ops lab (i + 1) rest (mk ((k, d) :: tl) hl m) K) : aG Tryz.prog r 𝔅 ops lab i (o :: rest) (mk tl hl m) K := DR ac (eb e0) (eb (bw e0)) (eb (bw (bw e0))) hlt (eb (bw (bw (bw e0)))) (eb (bw (bw (bw (bw e0))))) (eb (bw (bw (bw (bw (bw e0)))))) (eb (bw (bw (bw (bw (bw (bw e0))))))) (eb (bw (bw (bw (bw (bw (bw (bw e0)))))))) (bw (bw (bw (bw (bw (bw (bw (bw e0)))))))) h
theorem bh {T T' : TypeId} {x y : Operand} {a b z : Int}  (e0 : Eq (o.op, (mk tl hl m).ev x, (mk tl hl m).ev y, a + b) (.binOp .add T x y T', some (.v (.int .i64 a)), some (.v (.int .i64 b)), z)) (hr1 : -9223372036854775808 ≤ z) (hr2 : z ≤ 9223372036854775807) (e1 : Eq (o.dst, aQ ops (mk tl hl m) o.guard) (some k, some true)) (h : aG Tryz.prog r 𝔅 ops lab (i + 1) rest (mk ((k, .v (.int .i64 z)) :: tl) hl m) K) : aG Tryz.prog r 𝔅 ops lab i (o :: rest) (mk tl hl m) K := mA (eb e0) (eb (bw e0)) (eb (bw (bw e0))) (bw (bw (bw e0))) hr1 hr2 (eb e1) (bw e1) h
theorem aV {c x y : Operand} {d : D}  (e0 : Eq (o.op, (mk tl hl m).ev c, (mk tl hl m).ev x, o.dst, aQ ops (mk tl hl m) o.guard) (.pick c x y, some (.v (.bool true)), some (d), some k, some true)) (h : aG Tryz.prog r 𝔅 ops lab (i + 1) rest (mk ((k, d) :: tl) hl m) K) : aG Tryz.prog r 𝔅 ops lab i (o :: rest) (mk tl hl m) K := zL (eb e0) (eb (bw e0)) (eb (bw (bw e0))) (eb (bw (bw (bw e0)))) (bw (bw (bw (bw e0)))) h
theorem al   (e0 : Eq (aQ ops (mk tl hl m) o.guard, o.dst) (some false, some k)) (h : aG Tryz.prog r 𝔅 ops lab (i + 1) rest (mk ((k, ik) :: tl) hl m) K) : aG Tryz.prog r 𝔅 ops lab i (o :: rest) (mk tl hl m) K := BE (eb e0) (bw e0) h
theorem aW {x : Operand} {j : Nat} {vs : List V} {v : V}  (e0 : Eq (o.op, (mk tl hl m).ev x, vs[j]?, o.dst, aQ ops (mk tl hl m) o.guard) (.extract x j, some (.v (.tup vs)), some v, some k, some true)) (h : aG Tryz.prog r 𝔅 ops lab (i + 1) rest (mk ((k, .v v) :: tl) hl m) K) : aG Tryz.prog r 𝔅 ops lab i (o :: rest) (mk tl hl m) K := D7 (eb e0) (eb (bw e0)) (eb (bw (bw e0))) (eb (bw (bw (bw e0)))) (bw (bw (bw (bw e0)))) h
theorem bZ {t e n : Nat} {ti te : TI} {parts : Array (Nat × Operand)} {E : List (Operand × D)} {pd : List (Nat × List D)} {res : List D} {vs : List V} {es : List (List V)} (hl1 : lk tab t = some ti) (hle : lk tab e = some te) (F : List (Nat × Blk)) (e0 : Eq (o.op, ti.sliceElem, iT (mk tl hl m) (parts.toList.map (·.2))) (.buildSlice t n parts, some e, some E)) (hFs : HasH (mk tl hl m) F) (e1 : Eq (kg F (parts.toList.map (·.1)) (E.map (·.2)), gd (fun i => some (i * te.size, te.size)) (mY (te.zero.map Z.toD) n) pd, ks res, Nat.ble (n * te.size) 16777216, jw te.size n vs, cB lab i F [], o.dst, aQ ops (mk tl hl m) o.guard) (some pd, some res, some vs, true, es, true, some k, some true)) (h : aG Tryz.prog r 𝔅 ops lab (i + 1) rest (mk ((k, .v (.sl es)) :: tl) hl m) K) : aG Tryz.prog r 𝔅 ops lab i (o :: rest) (mk tl hl m) K := Dh F ac (eb e0) hl1 (eb (bw e0)) hle (bw (bw e0)) hFs (eb e1) (eb (bw e1)) (eb (bw (bw e1))) (eb (bw (bw (bw e1)))) (eb (bw (bw (bw (bw e1))))) (eb (bw (bw (bw (bw (bw e1)))))) (eb (bw (bw (bw (bw (bw (bw e1))))))) (bw (bw (bw (bw (bw (bw (bw e1))))))) h
theorem aJ {c x y : Operand} {d : D}  (e0 : Eq (o.op, (mk tl hl m).ev c, (mk tl hl m).ev y, o.dst, aQ ops (mk tl hl m) o.guard) (.pick c x y, some (.v (.bool false)), some (d), some k, some true)) (h : aG Tryz.prog r 𝔅 ops lab (i + 1) rest (mk ((k, d) :: tl) hl m) K) : aG Tryz.prog r 𝔅 ops lab i (o :: rest) (mk tl hl m) K := yH (eb e0) (eb (bw e0)) (eb (bw (bw e0))) (eb (bw (bw (bw e0)))) (bw (bw (bw (bw e0)))) h
theorem bl {T : Nat} {ti : TI} {id : Nat} {cs : List D} (hlt : lk tab T = some ti) (e0 : Eq (o.op, (mk tl hl m).h id, ti.zero.map Z.toD, cB lab i [(id, .res)] [(id, .box cs)], o.dst, aQ ops (mk tl hl m) o.guard) (.alloc T, .res, cs, true, some k, some true)) (h : aG Tryz.prog r 𝔅 ops lab (i + 1) rest (mk ((k, .ptr id 0) :: tl) ((id, .box cs) :: hl) m) K) : aG Tryz.prog r 𝔅 ops lab i (o :: rest) (mk tl hl m) K := AG ac (eb e0) (eb (bw e0)) hlt (eb (bw (bw e0))) (eb (bw (bw (bw e0)))) (eb (bw (bw (bw (bw e0))))) (bw (bw (bw (bw (bw e0))))) h
theorem bu {T : Nat} {ti : TI} {x : Operand} {cs : List V} {y : V} (hlt : lk tab T = some ti) (e0 : Eq (o.op, (mk tl hl m).ev x, ti.isAgg, cs[0]?, o.dst, aQ ops (mk tl hl m) o.guard) (.load T x, some (.v (.ref cs)), false, some y, some k, some true)) (h : aG Tryz.prog r 𝔅 ops lab (i + 1) rest (mk ((k, .v y) :: tl) hl m) K) : aG Tryz.prog r 𝔅 ops lab i (o :: rest) (mk tl hl m) K := yi ac (eb e0) (eb (bw e0)) hlt (eb (bw (bw e0))) (eb (bw (bw (bw e0)))) (eb (bw (bw (bw (bw e0))))) (bw (bw (bw (bw (bw e0))))) h
theorem cj {T e : Nat} {ti te : TI} {x y : Operand} {es : List (List V)} {el : List V} {kk : IntKind} {n : Int} (hlt : lk tab T = some ti) (hle : lk tab e = some te) (e0 : Eq (o.op, (mk tl hl m).ev x, (mk tl hl m).ev y, ti.sliceElem) (.indexAddr T x y, some (.v (.sl es)), some (.v (.int kk n)), some e)) (h0 : 0 ≤ n) (hel : es[n.toNat]? = some el) (e1 : Eq (te.size, o.dst, aQ ops (mk tl hl m) o.guard) (el.length, some k, some true)) (h : aG Tryz.prog r 𝔅 ops lab (i + 1) rest (mk ((k, .v (.ref el)) :: tl) hl m) K) : aG Tryz.prog r 𝔅 ops lab i (o :: rest) (mk tl hl m) K := fZ ac (eb e0) (eb (bw e0)) (eb (bw (bw e0))) hlt (bw (bw (bw e0))) hle h0 hel (eb e1) (eb (bw e1)) (bw (bw e1)) h
theorem bj {T T' : TypeId} {x y : Operand} {kk : IntKind} {a b : Int}  (e0 : Eq (o.op, (mk tl hl m).ev x, (mk tl hl m).ev y, o.dst, aQ ops (mk tl hl m) o.guard) (.binOp .lss T x y T', some (.v (.int kk a)), some (.v (.int kk b)), some k, some true)) (ht : a < b → aG Tryz.prog r 𝔅 ops lab (i + 1) rest (mk ((k, .v (.bool true)) :: tl) hl m) K) (hf : ¬ (a < b) → aG Tryz.prog r 𝔅 ops lab (i + 1) rest (mk ((k, .v (.bool false)) :: tl) hl m) K) : aG Tryz.prog r 𝔅 ops lab i (o :: rest) (mk tl hl m) K := pF (eb e0) (eb (bw e0)) (eb (bw (bw e0))) (eb (bw (bw (bw e0)))) (bw (bw (bw (bw e0)))) ht hf
theorem bJ {x : Operand} {id n : Nat} {cs : List D}  (e0 : Eq (o.op, (mk tl hl m).ev x, (mk tl hl m).h id, cB lab i [(id, .box cs)] [], o.dst, aQ ops (mk tl hl m) o.guard) (.nilCheck x, some (.ptr id n), .box cs, true, some k, some true)) (h : aG Tryz.prog r 𝔅 ops lab (i + 1) rest (mk ((k, .ptr id n) :: tl) hl m) K) : aG Tryz.prog r 𝔅 ops lab i (o :: rest) (mk tl hl m) K := Ax (eb e0) (eb (bw e0)) (eb (bw (bw e0))) (eb (bw (bw (bw e0)))) (eb (bw (bw (bw (bw e0))))) (bw (bw (bw (bw (bw e0))))) h
theorem bL {x : Operand} {T : TypeId} {b b' : Bool}  (e0 : Eq (o.op, (mk tl hl m).ev x, (!b), o.dst, aQ ops (mk tl hl m) o.guard) (.unOp .not T x, some (.v (.bool b)), b', some k, some true)) (h : aG Tryz.prog r 𝔅 ops lab (i + 1) rest (mk ((k, .v (.bool b')) :: tl) hl m) K) : aG Tryz.prog r 𝔅 ops lab i (o :: rest) (mk tl hl m) K := EI (eb e0) (eb (bw e0)) (eb (bw (bw e0))) (eb (bw (bw (bw e0)))) (bw (bw (bw (bw e0)))) h
end
end Go.Vd
namespace Go.Vd
open Go.RowKit Go.ChangeShapes
def Reads (P : Program) (T : TypeId) {α : Type} (en : α → List V) (ok : α → Prop) : Prop :=
 ∀ (H : Type) (enc : TypeId × Value → H) (w : World) (spare : Nat → Bool) (held : Bool) (fuel : Nat) (cs : List Value) (x : DataW H × List MemPlace),
   DataW.trod enc P w 0 spare held fuel T cs = some x → ∃ v : α, ok v ∧ PW (RepV w (fun _ => True)) (en v) cs
section
variable {P : Program} {T : TypeId}
theorem oy {R : V → Value → Prop} {v : V} {u : Value} (h : R v u) : PW R [v] [u] := ⟨rfl, fun i x y hx hy => by
 cases i with
 | zero => simp at hx hy; subst hx; subst hy; exact h
 | succ i => simp at hx⟩
theorem xF {k : IntKind} (ht : P.underlying T = some (.int k)) : Reads P T (fun n : Int => [.int k n]) (fun n => k.min ≤ n ∧ n ≤ k.max) := by
 intro H enc w spare held fuel cs x h
 obtain ⟨n, rfl, _, hw⟩ := DataW.trod_int ht h
 simp only [Lit.wf, Bool.and_eq_true, decide_eq_true_eq] at hw
 exact ⟨n, hw, oy (.int k n)⟩
theorem sC {e sz : Nat} {α : Type} {en : α → List V} {ok : α → Prop} (ht : P.underlying T = some (.slice e)) (hsz : P.cellsOf e = sz) (h0 : 0 < sz) (he : Reads P e en ok) (hen : ∀ a, (en a).length = sz) :
 Reads P T (fun xs : List α => [.sl (xs.map en)]) (fun xs => xs.length ≤ 9223372036854775807 ∧ ∀ a, a ∈ xs → ok a) := by
 intro H enc w spare held fuel cs x h
 rcases DataW.trod_slice ht h with ⟨rfl, _⟩ | ⟨ad, len, cap, elems, rest, n, _, rfl, _, hb, hl, hm, hlen, hel, _⟩
 ·exact ⟨[], ⟨by simp, by simp⟩, oy (.sl0 _ _)⟩
 ·have key : ∀ i : Fin len, ∃ v : α, ok v ∧ ∃ ci : List Value, w.cells? 0 (ad.add (i.1 * sz)) sz = some ci ∧ PW (RepV w (fun _ => True)) (en v) ci := by
   intro i
   have h1 := hel i.1 i.2
   rw [hsz, List.getElem?_eq_getElem (by omega : i.1 < elems.length)] at h1
   obtain ⟨ci, h2, h3⟩ := Option.bind_eq_some_iff.1 h1
   obtain ⟨v, h4, h5⟩ := he H enc w spare held n ci _ h3
   exact ⟨v, h4, ci, h2, h5⟩
  refine ⟨List.ofFn fun i => Classical.choose (key i), ⟨by simp [maxLen] at hm ⊢; omega, fun a ha => ?_⟩, ?_⟩
  ·obtain ⟨i, rfl⟩ := (List.mem_ofFn).1 ha
   exact (Classical.choose_spec (key i)).1
  ·by_cases hz : len = 0
   ·subst hz
    exact oy (by simpa using RepV.sl0 (some ad) cap)
   ·obtain ⟨c0, h1, _⟩ := (Classical.choose_spec (key ⟨0, by omega⟩)).2
    obtain ⟨_, h2, h3⟩ := World.cells?_some h1
    have h4 := h3 0 h0
    have hne : c0[0]? = some c0[0] := List.getElem?_eq_getElem (by omega)
    rw [hne] at h4
    simp only [Nat.zero_mul, Addr.add, if_true] at h4
    have hspot : ad.spot = none := by
     unfold World.cell? at h4
     split at h4
     ·split at h4
      ·cases h4
      ·rename_i hs; simpa using hs
     ·cases h4
    obtain ⟨b, o, sp⟩ := ad
    simp only at hspot
    subst hspot
    have hlt : b < w.heap.size := by
     unfold World.cell? at h4
     split at h4
     ·rename_i hh; exact (Array.getElem?_eq_some_iff.1 hh).1
     ·cases h4
    have hcell : ∀ (i : Fin len) (j : Nat), j < sz → ∃ ci : List Value, PW (RepV w (fun _ => True)) (en (Classical.choose (key i))) ci ∧ w.cell? ⟨b, o + i.1 * sz + j, none⟩ = ci[j]? ∧ j < ci.length := by
     intro i j hj
     obtain ⟨ci, q1, q2⟩ := (Classical.choose_spec (key i)).2
     obtain ⟨_, q3, q4⟩ := World.cells?_some q1
     refine ⟨ci, q2, ?_, by omega⟩
     have := q4 j hj
     rwa [Addr.add_lit, Addr.add_lit] at this
    refine oy ?_
    have hL : ((List.ofFn fun i => Classical.choose (key i)).map en).length = len := by simp
    have := RepV.sl (w := w) (im := fun _ => True) ((List.ofFn fun i => Classical.choose (key i)).map en) b o sz cap aj hlt (by rw [hL]; exact hl) (fun e he => by
     obtain ⟨a, _, rfl⟩ := List.mem_map.1 he
     exact hen a) (fun i j hi hj => by
     rw [hL] at hi
     obtain ⟨ci, _, q2, q3⟩ := hcell ⟨i, hi⟩ j hj
     rw [q2]; simp [q3]) (fun i j el v u hel' hv hu => by
     have hi : i < len := by have := (List.getElem?_eq_some_iff.1 hel').1; omega
     have hel2 : el = en (Classical.choose (key ⟨i, hi⟩)) := by simpa [hi] using hel'.symm
     subst hel2
     have hj : j < sz := by have := (List.getElem?_eq_some_iff.1 hv).1; rw [hen] at this; exact this
     obtain ⟨ci, q1, q2, q3⟩ := hcell ⟨i, hi⟩ j hj
     rw [q2] at hu
     exact q1.2 j v u hv hu)
    rw [hL] at this
    exact this
def sd (P : Program) (N : Nat) (flds : List (Nat × Nat)) (o : Nat) {α : Type} (en : α → List V) (ok : α → Prop) : Prop :=
 ∀ (H : Type) (enc : TypeId × Value → H) (w : World) (spare : Nat → Bool) (held : Bool) (n : Nat) (cs : List Value), cs.length = N →
   (∀ (i o t : Nat), flds[i]? = some (o, t) → ∃ x, DataW.trod enc P w 0 spare held n t ((cs.drop o).take (P.cellsOf t)) = some x) → ∃ v : α, ok v ∧ PW (RepV w (fun _ => True)) (en v) (cs.drop o)
theorem vI {N o : Nat} (h : N ≤ o) : sd P N [] o (fun _ : Unit => []) (fun _ => True) := by
 intro H enc w spare held n cs hN _
 exact ⟨(), aj, by rw [List.drop_eq_nil_of_le (by omega)]; exact PW.nil⟩
theorem jf {N o o' t sz : Nat} {rest : List (Nat × Nat)} {α β : Type} {en : α → List V} {ok : α → Prop} {en' : β → List V} {ok' : β → Prop} (ht : Reads P t en ok) (hsz : P.cellsOf t = sz) (ho : o + sz = o') (hr : sd P N rest o' en' ok') :
 sd P N ((o, t) :: rest) o (fun p : α × β => en p.1 ++ en' p.2) (fun p => ok p.1 ∧ ok' p.2) := by
 intro H enc w spare held n cs hN h
 obtain ⟨x, hx⟩ := h 0 o t rfl
 rw [hsz] at hx
 obtain ⟨v, h1, h2⟩ := ht H enc w spare held n _ x hx
 obtain ⟨v', h3, h4⟩ := hr H enc w spare held n cs hN (fun i o t hi => h (i + 1) o t hi)
 refine ⟨(v, v'), ⟨h1, h3⟩, ?_⟩
 have := h2.append h4
 rwa [← ho, ← List.drop_drop, List.take_append_drop] at this
theorem rp {fs : Array Field} {N : Nat} {flds : List (Nat × Nat)} {α : Type} {en : α → List V} {ok : α → Prop} (ht : P.underlying T = some (.struct fs)) (hN : P.cellsOf T = N) (hf : (fs.toList.map fun f => (f.offset, f.type)) = flds) (hr : sd P N flds 0 en ok) : Reads P T en ok := by
 intro H enc w spare held fuel cs x h
 obtain ⟨xs, n, _, _, hl, hxs, hi⟩ := DataW.trod_struct ht h
 obtain ⟨v, h1, h2⟩ := hr H enc w spare held n cs (by rw [hl, hN]) (fun i o t hio => by
  rw [← hf, List.getElem?_map, Option.map_eq_some_iff] at hio
  obtain ⟨f, h3, h4⟩ := hio
  cases h4
  have h5 := hi i f (by simpa using h3)
  have hlt : i < xs.length := by have := (List.getElem?_eq_some_iff.1 h3).1; simp at this; omega
  rw [List.getElem?_eq_getElem hlt] at h5
  exact ⟨_, h5⟩)
 exact ⟨v, h1, by simpa using h2⟩
theorem Reads.map {α β : Type} {en : α → List V} {ok : α → Prop} {en' : β → List V} {ok' : β → Prop} (h : Reads P T en ok) (g : α → β) (hg : ∀ a, en' (g a) = en a) (ho : ∀ a, ok a → ok' (g a)) : Reads P T en' ok' := by
 intro H enc w spare held fuel cs x hx
 obtain ⟨v, h1, h2⟩ := h H enc w spare held fuel cs x hx
 exact ⟨g v, ho v h1, by rw [hg]; exact h2⟩
theorem Ck {H : Type} {enc : TypeId × Value → H} {w : World} {spare : Nat → Bool} {held : Bool} {v : Value} {d : DataW H} {ps : List MemPlace} {α : Type} {en : α → List V} {ok : α → Prop} (h : Reads P T en ok)
 (hd : DataW.Trod enc P w 0 spare held T v d ps) {cs : Array Value} (hv : v = .agg cs) : ∃ x, ok x ∧ RepV w (fun _ => True) (.agg (en x)) v := by
 obtain ⟨fuel, hf⟩ := hd
 obtain ⟨x, h1, h2⟩ := h H enc w spare held fuel _ _ hf
 subst hv
 refine ⟨x, h1, .agg _ _ (by simpa [Value.cells] using h2.1) fun i a u ha hu => h2.2 i a u ha (by simpa [Value.cells] using hu)⟩
theorem yl {H : Type} {enc : TypeId × Value → H} {f : Func} {s : ChangeSpec} {apart : Bool} {W W' : World} {args : Array Value} {ds gs : List (DataW H)} {before : List MemPlace} {T : TypeId}
 (hW : DataW.Whole enc P f.params.toList s.vars apart W args.toList ds gs before) (hb : Below W.heap.size W W') (hT : P.underlying T = some .bool) (hrt : f.resultTypes = #[T])
 (hres : (s.fn H (ds ++ gs)).results = [.lit (.bool true)])
 (hargs : ∀ sp : Nat → Bool, (∀ p ∈ before, sp p.block = true) → DataW.TrodAll enc P W' 0 sp true f.params.toList args.toList (s.fn H (ds ++ gs)).args before)
 (hvars : ∀ sp : Nat → Bool, DataW.TrodVars enc P W' sp s.vars (s.fn H (ds ++ gs)).vars []) :
 s.post enc P f apart true false false W args (.bool true) W' := by
 have hold : ∀ p ∈ before, (fun b => decide (b < W.heap.size)) p.block = true := fun p hp => by simpa using hW.lt p hp
 have htrue : ∀ (b : Nat) (sp : Nat → Bool) (hd : Bool), DataW.TrodAll enc P W' b sp hd f.resultTypes.toList ((Value.bool true).resultList f.resultTypes.size) (s.fn H (ds ++ gs)).results [] := by
  intro b sp hd
  rw [hres, hrt]
  exact trodAll_mk1 (shut_bool hT true)
 refine ⟨ds, gs, before, [], before, [], hW, htrue _ _ _, hargs _ hold, hvars _, hb.frame _, fun _ => ?_⟩
 obtain ⟨_, _, _, _, _, hz, hn⟩ := hW
 refine ⟨?_, _, _, ([] ++ before) ++ [], ⟨[] ++ before, [], trodAll_append (hargs _ (fun _ _ => rfl)) (htrue _ _ _), hvars _, rfl, ?_, ?_⟩, ?_⟩
 ·exact ok_one hrt rfl (okWide_bool_mk hT true)
 ·intro b off hp
  have hp' : MemPlace.cell b off ∈ before := by simpa using hp
  rw [hb.frozen (p := ⟨b, off, none⟩) (show b < W.heap.size by have := hold _ hp'; exact of_decide_eq_true this)]
  exact hz b off hp'
 ·intro ha
  simpa using hn ha
 ·intro p hp _
  simpa using hp
end
end Go.Vd
namespace Go.Vd
open Go.Proofs Go.RowKit
theorem mixed : Tryz.prog.follows .mixedOrders = true := by kernel_rfl
theorem aB {α β : Type} {enc : α → β} {xs : List α} : ((xs.map enc).length : Int) = (xs.length : Int) := by simp
theorem cA {α β : Type} {enc : α → β} {xs : List α} {x : α} : xs.map enc ++ [enc x] = (xs ++ [x]).map enc := by simp
theorem ke {α β : Type} {enc : α → β} {xs ys : List α} : xs.map enc ++ ys.map enc = (xs ++ ys).map enc := by simp
theorem jl {α β : Type} {enc : α → β} {xs : List α} {n : Nat} {x : α} : (xs.map enc).set n (enc x) = (xs.set n x).map enc := by simp
theorem ld {α β : Type} {f : α → β} {l : List α} {n : Nat} : (l.map f).drop n = (l.drop n).map f := List.map_drop.symm
theorem rL {α β : Type} {f : α → β} {l : List α} {n m : Nat} : ((l.map f).take m).drop n = ((l.take m).drop n).map f := by simp [List.map_take, List.map_drop]
@[simp] theorem dflt_b : (default : Bool) = false := rfl
@[simp] theorem dflt_i : (default : Int) = 0 := rfl
structure Latch where
 next : Int
 reset : Int
 deriving Inhabited, DecidableEq
structure Gate where
 a : Int
 b : Int
 deriving Inhabited, DecidableEq
structure ij where
 kind : UInt8
 pos : Int
 s : List UInt8
 deriving Inhabited, DecidableEq
structure Aig where
 i : Int
 l : List Latch
 g : List Gate
 outs : List Int
 bad : List Int
 con : List Int
 names : List ij
 deriving Inhabited, DecidableEq
structure ii where
 del : Bool
 c : List Int
 deriving Inhabited, DecidableEq
structure gO where
 g : List Gate
 inv : Int
 p0 : List ii
 p1 : List ii
 p2 : List ii
 deriving Inhabited, DecidableEq
structure xy where
 n : Int
 c : List (List Int)
 deriving Inhabited, DecidableEq
structure dT where
 bad : Int
 ini : List Int
 ins : List (List Int)
 deriving Inhabited, DecidableEq
abbrev sg (b : Bool) : List V := [.bool b]
abbrev d7 (n : Int) : List V := [.int .i64 n]
abbrev lA (n : Int) : List V := [.int .u8 n]
abbrev pL (l : Latch) : List V := [.int .i64 l.next, .int .i64 l.reset]
abbrev nT (g : Gate) : List V := [.int .i64 g.a, .int .i64 g.b]
abbrev ka (n : ij) : List V := [.int .u8 (n.kind.toNat : Int), .int .i64 n.pos, .str (bs n.s)]
abbrev IP (xs : List Bool) : V := .sl (xs.map sg)
abbrev cf (xs : List Int) : V := .sl (xs.map d7)
abbrev gH (xs : List Int) : V := .sl (xs.map lA)
abbrev jL (xs : List Latch) : V := .sl (xs.map pL)
abbrev iH (xs : List Gate) : V := .sl (xs.map nT)
abbrev up (xs : List ij) : V := .sl (xs.map ka)
abbrev dw (xs : List Int) : List V := [cf xs]
abbrev dS (xs : List (List Int)) : V := .sl (xs.map dw)
abbrev mG (xs : List Int) : List V := [gH xs]
abbrev pm (xs : List (List Int)) : V := .sl (xs.map mG)
abbrev nQ (s : ii) : List V := [.bool s.del, cf s.c]
abbrev lu (xs : List ii) : V := .sl (xs.map nQ)
abbrev eE (a : Aig) : List V := [.int .i64 a.i, jL a.l, iH a.g, cf a.outs, cf a.bad, cf a.con, up a.names]
abbrev bq (a : Aig) : V := .agg (eE a)
abbrev In (c : gO) : List V := [iH c.g, .int .i64 c.inv, lu c.p0, lu c.p1, lu c.p2]
abbrev dU (c : gO) : V := .agg (In c)
abbrev pQ (f : xy) : List V := [.int .i64 f.n, dS f.c]
abbrev vC (f : xy) : V := .agg (pQ f)
abbrev rz (t : dT) : List V := [.int .i64 t.bad, gH t.ini, pm t.ins]
abbrev sr (t : dT) : V := .agg (rz t)
theorem Ds (xs : List Int) : elOk 1 (xs.map lA) := elOk.map (enc := lA) (fun _ => ⟨rfl, rfl⟩) xs
theorem Di (xs : List ij) : elOk 3 (xs.map ka) := elOk.map (enc := ka) (fun _ => ⟨rfl, rfl⟩) xs
theorem GP (xs : List Int) : elOk 1 (xs.map d7) := elOk.map (enc := d7) (fun _ => ⟨rfl, rfl⟩) xs
theorem Gh (xs : List Gate) : elOk 2 (xs.map nT) := elOk.map (enc := nT) (fun _ => ⟨rfl, rfl⟩) xs
theorem Ge (xs : List (List Int)) : elOk 1 (xs.map dw) := elOk.map (enc := dw) (fun _ => ⟨rfl, rfl⟩) xs
theorem H2 {w : World} {im : Nat → Prop} {a : V} {us : Array Value} (h : PW (RepV w im) [a] us.toList) : ∃ u, us = #[u] ∧ RepV w im a u := by
 obtain ⟨h1, h2⟩ := h
 have hs : us.size = 1 := by simpa using h1
 refine ⟨us[0], Array.ext (by simp [hs]) fun i hi hj => ?_, h2 0 a _ rfl (by simp [hs])⟩
 have : i = 0 := by omega
 subst this; rfl
theorem GL {w : World} {im : Nat → Prop} {a b : V} {us : Array Value} (h : PW (RepV w im) [a, b] us.toList) : ∃ u v, us = #[u, v] ∧ RepV w im a u ∧ RepV w im b v := by
 obtain ⟨h1, h2⟩ := h
 have hs : us.size = 2 := by simpa using h1
 refine ⟨us[0], us[1], Array.ext (by simp [hs]) fun i hi hj => ?_, h2 0 a _ rfl (by simp [hs]), h2 1 b _ rfl (by simp [hs])⟩
 match i, hj with
 | 0, _ => rfl
 | 1, _ => rfl
 | i + 2, h => simp at h; omega
theorem vN {w : World} {k : Nat} {os : Array Obj} : Below w.heap.size w (Go.Sort.grow (w.drewN k) os) :=
 ⟨rfl, rfl, rfl, by show w.heap.size ≤ (w.heap ++ os).size; simp, fun b hb => by show (w.heap ++ os)[b]? = _; rw [Array.getElem?_append_left hb]⟩
end Go.Vd
namespace Go.Vd
open Go.Proofs Go.RowKit
def lt (m : Nat → Bool) (l : Int) : Bool := if 0 < l then m l.natAbs else !m l.natAbs
theorem nm {m : Nat → Bool} {l : Int} (h : l ≠ 0) : lt m (-l) = !lt m l := by
 unfold lt
 rw [Int.natAbs_neg]
 by_cases h1 : 0 < l
 ·rw [if_pos h1, if_neg (by omega)]
 ·rw [if_neg h1, if_pos (by omega), Bool.not_not]
structure Wk (Sat : (Nat → Bool) → Prop) (wb fb n : Nat) (S : Nat → Prop) (w : World) (fs : List Int) (qk : Nat) (cl : Bool) : Prop where
 box : ∃ q, w.heap[wb]? = some (.cells #[.slice (some ⟨fb, 0, none⟩) (n + 1) (n + 1), q, .bool cl] 503 (0, 0)) ∧ SlIn S w q qk
 rows : RowsOf S (fun _ => True) w
 fcd : w.heap[fb]? = some (.cells (fs.map (Value.int .i64)).toArray 3 (0, 0))
 fl : fs.length = n + 1
 fz : ∀ v, v < n + 1 → fs.getD v 0 = 0 ∨ ((fs.getD v 0).natAbs = v ∧ ∀ m, Sat m → lt m (fs.getD v 0) = true)
 bad : cl = true → ∀ m, ¬ Sat m
 ne : wb ≠ fb
 nw : ¬ S wb
 nf : ¬ S fb
 qz : qk + List.count 0 fs ≤ n + 1
structure Mv (wb fb : Nat) (S S' : Nat → Prop) (w w' : World) : Prop where
 os : w'.os = w.os
 tape : w'.tape = w.tape
 output : w'.output = w.output
 size : w.heap.size ≤ w'.heap.size
 frame : ∀ b, b < w.heap.size → b ≠ wb → b ≠ fb → ¬ S b → w'.heap[b]? = w.heap[b]?
 sub : ∀ b, S b → S' b
 new : ∀ b, S' b → S b ∨ w.heap.size ≤ b
theorem Mv.refl (wb fb : Nat) (S : Nat → Prop) (w : World) : Mv wb fb S S w w := ⟨rfl, rfl, rfl, Nat.le_refl _, fun _ _ _ _ _ => rfl, fun _ h => h, fun _ h => .inl h⟩
structure Mono (fs fs' : List Int) (qk qk' : Nat) (cl cl' : Bool) : Prop where
 fd : ∀ v, fs.getD v 0 ≠ 0 → fs'.getD v 0 = fs.getD v 0
 cm : cl = true → cl' = true
 mu : 2 * List.count 0 fs' + qk' ≤ 2 * List.count 0 fs + qk
theorem Mono.refl (fs : List Int) (qk : Nat) (cl : Bool) : Mono fs fs qk qk cl cl := ⟨fun _ _ => rfl, fun h => h, Nat.le_refl _⟩
theorem Wk.cell {Sat : (Nat → Bool) → Prop} {wb fb n : Nat} {S : Nat → Prop} {w : World} {fs : List Int} {qk : Nat} {cl : Bool} (W : Wk Sat wb fb n S w fs qk cl) {v : Nat} (hv : v < n + 1) : w.cell? ⟨fb, v, none⟩ = some (.int .i64 (fs.getD v 0)) := by
 refine aY W.fcd ?_
 have : v < fs.length := by rw [W.fl]; exact hv
 simp [this]
abbrev rR (Sat : (Nat → Bool) → Prop) (wb fb n : Nat) (S : Nat → Prop) (w : World) (fs : List Int) (qk : Nat) (cl : Bool) (l : Int) (v : Nat) (e : Ending) (w' : World) : Prop :=
 e = .returned (.tuple #[]) ∧ ∃ S' fs' qk' cl', Wk Sat wb fb n S' w' fs' qk' cl' ∧ Mv wb fb S S' w w' ∧ Mono fs fs' qk qk' cl cl' ∧ (fs'.getD v 0 = l ∨ cl' = true)
abbrev HO (Sat : (Nat → Bool) → Prop) (wb fb n : Nat) (S : Nat → Prop) (w : World) (fs : List Int) (qk : Nat) (cl : Bool) (l : Int) (e : Ending) (w' : World) : Prop :=
 e = .returned (.tuple #[]) ∧ ∃ S' fs' qk' cl', Wk Sat wb fb n S' w' fs' qk' cl' ∧ Mv wb fb S S' w w' ∧ Mono fs fs' qk qk' cl cl' ∧ (fs'.getD l.natAbs 0 = l ∨ cl' = true)
theorem iX {P : Program} {w w' : World} {ops : Array Oper} {rest : List Oper} {o : Oper} {a : Act} {Q : Exit → Act → World → Prop} {x y : Operand} {t t' : TypeId} {u : Value} (hg : o.guard = none) (ho : o.op = .call { callee := .builtin .append, args := #[x, y], argTypes := #[t, t'] })
 (h : (Builtin.append_ #[t, t'] o.type #[a.eval x, a.eval y]).run P w = .ok u w') (hK : wpList P ops Q rest (a.put o.dst u) w') : wpList P ops Q (o :: rest) a w := by
 refine wpList_plain hg fun K hK' => ?_
 unfold Oper.wp
 rw [ce ho h]
 exact hK' _ _ hK
theorem i3 : ∃ i, Tryz.prog.info? 3 = some i ∧ i.zero = some (.int .i64 0) ∧ i.size = 1 ∧ i.bytes = 8 := info_parts (by kernel_rfl)
theorem DD : Tryz.prog.underlying 30 = some (.slice 3) := by kernel_rfl
theorem nL (w : World) (a : Addr) (v : Value) : (w.setCell a v).os = w.os := rfl
theorem oU (w : World) (a : Addr) (v : Value) : (w.setCell a v).tape = w.tape := rfl
theorem kS (w : World) (a : Addr) (v : Value) : (w.setCell a v).output = w.output := rfl
theorem Wk.clash {Sat : (Nat → Bool) → Prop} {wb fb n : Nat} {S : Nat → Prop} {w : World} {fs : List Int} {qk : Nat} {cl : Bool} (W : Wk Sat wb fb n S w fs qk cl) (hb : ∀ m, ¬ Sat m) :
 Wk Sat wb fb n S (w.setCell ⟨wb, 2, none⟩ (.bool true)) fs qk true ∧ Mv wb fb S S w (w.setCell ⟨wb, 2, none⟩ (.bool true)) ∧ Mono fs fs qk qk cl true := by
 obtain ⟨q, h1, h2⟩ := W.box
 have hs := heap_setCell_same w wb 2 _ 503 (.bool true) h1
 have ho : ∀ b, b ≠ wb → (w.setCell ⟨wb, 2, none⟩ (.bool true)).heap[b]? = w.heap[b]? := fun b hb => heap_setCell_other _ _ _ _ hb
 refine ⟨⟨⟨q, hs, h2.frame fun b hb => ho b (fun e => W.nw (e ▸ hb))⟩, W.rows.frame (by simp) fun b hb => ho b (fun e => W.nw (e ▸ hb)), (ho fb W.ne.symm).trans W.fcd, W.fl, W.fz, fun _ => hb, W.ne, W.nw, W.nf, W.qz⟩, ⟨rfl, rfl, rfl, by simp, fun b _ hb _ _ => ho b hb, fun _ h => h, fun _ h => .inl h⟩, ⟨fun _ _ => rfl, fun _ => rfl, Nat.le_refl _⟩⟩
theorem xq {fs : List Int} {v : Nat} {l : Int} (hv : v < fs.length) (h0 : fs.getD v 0 = 0) (hl : l ≠ 0) : List.count 0 (fs.set v l) + 1 = List.count 0 fs := by
 induction fs generalizing v with
 | nil => simp at hv
 | cons x xs ih =>
   cases v with
   | zero =>
     have hx : x = 0 := by simpa using h0
     subst hx
     simp [List.count_cons, hl]
   | succ v =>
     have := ih (v := v) (by simpa using hv) (by simpa using h0)
     simp only [List.set_cons_succ, List.count_cons]
     omega
theorem pr {fs : List Int} {v u : Nat} {l : Int} (hv : v < fs.length) : (fs.set v l).getD u 0 = if u = v then l else fs.getD u 0 := by
 by_cases h : u = v
 ·subst h; simp [hv]
 ·rw [if_neg h]; simp [List.getElem?_set, Ne.symm h]
set_option maxRecDepth 100000 in
theorem Wk.forced {Sat : (Nat → Bool) → Prop} {wb fb n : Nat} {S : Nat → Prop} {w : World} {fs : List Int} {qk : Nat} {cl : Bool} (W : Wk Sat wb fb n S w fs qk cl) {v : Nat} {l : Int} (hv : v < n + 1) (hlv : l.natAbs = v) (hl0 : l ≠ 0) (hz : fs.getD v 0 = 0) (himp : ∀ m, Sat m → lt m l = true) (hn : n ≤ 1000000) (hwb : wb < w.heap.size) :
 ∃ q q' w3 S', w.heap[wb]? = some (.cells #[.slice (some ⟨fb, 0, none⟩) (n + 1) (n + 1), q, .bool cl] 503 (0, 0)) ∧ (∀ ty, (Builtin.append_ #[30, 30] ty #[q, .slice (some ⟨w.heap.size, 0, none⟩) 1 1]).run Tryz.prog ((w.setCell ⟨fb, v, none⟩ (.int .i64 l)).alloc (.cells #[.int .i64 l] 3)) = .ok q' w3) ∧
   w3.heap[wb]? = some (.cells #[.slice (some ⟨fb, 0, none⟩) (n + 1) (n + 1), q, .bool cl] 503 (0, 0)) ∧ Wk Sat wb fb n S' (w3.setCell ⟨wb, 1, none⟩ q') (fs.set v l) (qk + 1) cl ∧ Mv wb fb S S' w (w3.setCell ⟨wb, 1, none⟩ q') ∧ Mono fs (fs.set v l) qk (qk + 1) cl cl := by
 obtain ⟨q, hbox, hq⟩ := W.box
 obtain ⟨i, hi, hiz, his, hib⟩ := i3
 have hvl : v < fs.length := by rw [W.fl]; exact hv
 have hcs := xq hvl hz hl0
 have hf1 := heap_setCell_same w fb v _ 3 (.int .i64 l) W.fcd
 have ho1 : ∀ b, b ≠ fb → (w.setCell ⟨fb, v, none⟩ (.int .i64 l)).heap[b]? = w.heap[b]? := fun b hb => heap_setCell_other _ _ _ _ hb
 have hsz1 : (w.setCell ⟨fb, v, none⟩ (.int .i64 l)).heap.size = w.heap.size := by simp
 have hfl : fb < w.heap.size := (Array.getElem?_eq_some_iff.1 W.fcd).1
 have hos1 : (w.setCell ⟨fb, v, none⟩ (.int .i64 l)).os = w.os := rfl
 have htp1 : (w.setCell ⟨fb, v, none⟩ (.int .i64 l)).tape = w.tape := rfl
 have hou1 : (w.setCell ⟨fb, v, none⟩ (.int .i64 l)).output = w.output := rfl
 generalize w.setCell ⟨fb, v, none⟩ (.int .i64 l) = w1 at hf1 ho1 hsz1 hos1 htp1 hou1 ⊢
 have ha2 : ∀ b, b < w.heap.size → (w1.alloc (.cells #[.int .i64 l] 3)).heap[b]? = w1.heap[b]? := fun b hb => Below.heap_alloc w1 _ b (by omega)
 have hn2 := heap_alloc_new w1 (.cells #[.int .i64 l] 3)
 have hs2 : (w1.alloc (.cells #[.int .i64 l] 3)).heap.size = w.heap.size + 1 := by simp [hsz1]
 have hSlt : ∀ b, S b → b < w.heap.size := fun b hb => (W.rows b hb).1
 have hS2 : ∀ b, S b → (w1.alloc (.cells #[.int .i64 l] 3)).heap[b]? = w.heap[b]? := fun b hb => (ha2 b (hSlt b hb)).trans (ho1 b fun e => W.nf (e ▸ hb))
 rw [hsz1] at hn2
 have hos2 : (w1.alloc (.cells #[.int .i64 l] 3)).os = w.os := hos1
 have htp2 : (w1.alloc (.cells #[.int .i64 l] 3)).tape = w.tape := htp1
 have hou2 : (w1.alloc (.cells #[.int .i64 l] 3)).output = w.output := hou1
 have hw2 := (ha2 wb hwb).trans ((ho1 wb W.ne).trans hbox)
 have hfb2 := (ha2 fb hfl).trans hf1
 have hoth2 : ∀ b, b < w.heap.size → b ≠ fb → (w1.alloc (.cells #[.int .i64 l] 3)).heap[b]? = w.heap[b]? := fun b hb hne => (ha2 b hb).trans (ho1 b hne)
 generalize w1.alloc (.cells #[.int .i64 l] 3) = w2 at hn2 hs2 hS2 hos2 htp2 hou2 hw2 hfb2 hoth2 ⊢
 obtain ⟨q', w3, S', hrun, hq', hr', G⟩ := FP (ty := 30) DD hi hiz his hib (hq.frame hS2) (W.rows.frame (by omega) hS2) (x := l) aj aj (by have := W.qz; omega) hn2
 have hw3 := (G.frame wb (by omega) W.nw).trans hw2
 have hfb3 := (G.frame fb (by omega) W.nf).trans hfb2
 have hnw : ¬ S' wb := fun h => (G.new wb h).elim W.nw fun h => by omega
 have hnf : ¬ S' fb := fun h => (G.new fb h).elim W.nf fun h => by omega
 have hs4 := heap_setCell_same w3 wb 1 _ 503 q' hw3
 have ho4 : ∀ b, b ≠ wb → (w3.setCell ⟨wb, 1, none⟩ q').heap[b]? = w3.heap[b]? := fun b hb => heap_setCell_other _ _ _ _ hb
 refine ⟨q, q', w3, S', hbox, fun _ => hrun, hw3, ⟨⟨q', hs4, hq'.frame fun b hb => ho4 b fun e => hnw (e ▸ hb)⟩, hr'.frame (by simp) fun b hb => ho4 b fun e => hnw (e ▸ hb), ?_, by rw [List.length_set, W.fl], fun u hu => ?_, W.bad, W.ne, hnw, hnf, by have := W.qz; omega⟩, ⟨?_, ?_, ?_, ?_, fun b hb h1 h2 h3 => ?_, G.sub, fun b hb => (G.new b hb).imp id fun h => by omega⟩, ⟨fun u hu => ?_, fun h => h, by omega⟩⟩
 ·rw [ho4 fb W.ne.symm, hfb3]
  congr 2
  apply Array.ext'
  simp [List.map_set]
 ·rw [pr hvl]
  split
  ·rename_i h; subst h; exact .inr ⟨hlv, himp⟩
  ·exact W.fz u hu
 ·exact (nL w3 _ _).trans (G.os.trans hos2)
 ·exact (oU w3 _ _).trans (G.tape.trans htp2)
 ·exact (kS w3 _ _).trans (G.output.trans hou2)
 ·have := G.size; simp; omega
 ·rw [ho4 b h1, G.frame b (by omega) h3, hoth2 b hb h2]
 ·rw [pr hvl, if_neg]
  intro e; subst e; exact hu hz
set_option maxHeartbeats 1000000 in
set_option maxRecDepth 100000 in
theorem oI (Sat : (Nat → Bool) → Prop) (wb fb n : Nat) (S : Nat → Prop) (w : World) (fs : List Int) (qk : Nat) (cl : Bool) (l : Int) (hl0 : l ≠ 0) (hl : l.natAbs ≤ n) (hn : n ≤ 1000000) (himp : ∀ m, Sat m → lt m l = true) (W : Wk Sat wb fb n S w fs qk cl) :
 Calls Tryz.prog 356 #[.pointer (some ⟨wb, 0, none⟩), .int .i64 l] w (HO Sat wb fb n S w fs qk cl l) := by
 show Calls Tryz.prog 356 _ w (rR Sat wb fb n S w fs qk cl l l.natAbs)
 obtain ⟨v, hv⟩ : ∃ v, v = l.natAbs := ⟨_, rfl⟩
 rw [← hv] at hl ⊢
 have hwb : wb < w.heap.size := by obtain ⟨q, h, _⟩ := W.box; exact (Array.getElem?_eq_some_iff.1 h).1
 have hfz := W.fz v (by omega)
 have hcell := W.cell (show v < n + 1 by omega)
 have ff : w.frozen? ⟨fb, v, none⟩ = false := bQ W.fcd
 have hA : fs.getD v 0 = l → rR Sat wb fb n S w fs qk cl l v (.returned (.tuple #[])) w := fun h => ⟨rfl, S, fs, qk, cl, W, Mv.refl .., Mono.refl .., .inl h⟩
 have hB : fs.getD v 0 = -l → rR Sat wb fb n S w fs qk cl l v (.returned (.tuple #[])) (w.setCell ⟨wb, 2, none⟩ (.bool true)) := fun h => by
  have hb : ∀ m, ¬ Sat m := fun m hm => by
   rcases hfz with h1 | ⟨_, h1⟩
   ·omega
   ·have h2 := h1 m hm
    rw [h, nm hl0, himp m hm] at h2
    cases h2
  obtain ⟨h1, h2, h3⟩ := W.clash hb
  exact ⟨rfl, S, fs, qk, true, h1, h2, h3, .inr rfl⟩
 by_cases hz : fs.getD v 0 = 0
 ·obtain ⟨q, q', w3, S', hbox, hrun, hw3, W', M1, M2⟩ := W.forced (show v < n + 1 by omega) hv.symm hl0 hz himp hn hwb
  obtain ⟨ad, kc, rfl⟩ : ∃ ad kc, q' = .slice ad (qk + 1) kc := by
   obtain ⟨q2, h1, h2⟩ := W'.box
   have h3 := heap_setCell_same w3 wb 1 _ 503 q' hw3
   rw [h3] at h1
   have h4 : q' = q2 := by simpa using h1
   subst h4
   exact h2.val
  have hC : rR Sat wb fb n S w fs qk cl l v (.returned (.tuple #[])) (w3.setCell ⟨wb, 1, none⟩ (.slice ad (qk + 1) kc)) := ⟨rfl, S', _, _, _, W', M1, M2, .inl (by rw [pr (by rw [W.fl]; omega), if_pos rfl])⟩
  have c0 : w.cell? ⟨wb, 0, none⟩ = some (.slice (some ⟨fb, 0, none⟩) (n + 1) (n + 1)) := aY hbox rfl
  have hbox1 : (w.setCell ⟨fb, v, none⟩ (.int .i64 l)).heap[wb]? = some (.cells #[.slice (some ⟨fb, 0, none⟩) (n + 1) (n + 1), q, .bool cl] 503 (0, 0)) := (heap_setCell_other _ _ _ _ W.ne).trans hbox
  have c1 : (w.setCell ⟨fb, v, none⟩ (.int .i64 l)).cell? ⟨wb, 1, none⟩ = some q := aY hbox1 rfl
  have c3 : w3.cell? ⟨wb, 1, none⟩ = some q := aY hw3 rfl
  have f3 : w3.frozen? ⟨wb, 1, none⟩ = false := bQ hw3
  rw [hz] at hcell
  clear hA hB hfz W W' M1 M2 hbox hbox1 hw3 himp
  by_cases h0 : 0 ≤ l
  ·have hl1 : l = (v : Int) := by omega
   subst hl1
   clear hv
   have hneg : IntKind.i64.wrap (0 - (v : Int)) = -(v : Int) := by rw [IntKind.wrap_i64]; omega
   have hmx : max (v : Int) (-(v : Int)) = v := by omega
   have hvn : ¬ (0 : Int) = v := by omega
   go_enter Tryz.func356, Tryz.ntmps356
   go_wp2_with (at_builtin; refine iX rfl rfl (hrun _) ?_)
   exact ⟨rfl, .tuple #[], by simp [results, Tryz.results356, go_sem], hC⟩
  ·have hl1 : l = -(v : Int) := by omega
   subst hl1
   clear hv
   have hneg : IntKind.i64.wrap (0 - -(v : Int)) = (v : Int) := by rw [IntKind.wrap_i64]; omega
   have hmx : max (-(v : Int)) (v : Int) = v := by omega
   have hvn : ¬ (0 : Int) = -(v : Int) := by omega
   go_enter Tryz.func356, Tryz.ntmps356
   go_wp2_with (at_builtin; refine iX rfl rfl (hrun _) ?_)
   exact ⟨rfl, .tuple #[], by simp [results, Tryz.results356, go_sem], hC⟩
 ·have hw := W.box
  obtain ⟨q, hbox, _⟩ := hw
  have c0 : w.cell? ⟨wb, 0, none⟩ = some (.slice (some ⟨fb, 0, none⟩) (n + 1) (n + 1)) := aY hbox rfl
  have c2 : w.cell? ⟨wb, 2, none⟩ = some (.bool cl) := aY hbox rfl
  have f2 : w.frozen? ⟨wb, 2, none⟩ = false := bQ hbox
  have hcase : fs.getD v 0 = l ∨ fs.getD v 0 = -l := by
   rcases hfz with h1 | ⟨h1, _⟩
   ·exact absurd h1 hz
   ·exact Int.natAbs_eq_natAbs_iff.1 (h1.trans hv)
  rcases hcase with h1 | h1
  ·have hP := hA h1
   rw [h1] at hcell
   clear hA hB hfz W hbox himp h1 hz
   by_cases h0 : 0 ≤ l
   ·have hl1 : l = (v : Int) := by omega
    subst hl1
    clear hv
    have hneg : IntKind.i64.wrap (0 - (v : Int)) = -(v : Int) := by rw [IntKind.wrap_i64]; omega
    have hmx : max (v : Int) (-(v : Int)) = v := by omega
    go_enter Tryz.func356, Tryz.ntmps356
    go_wp2
    exact ⟨rfl, .tuple #[], by simp [results, Tryz.results356, go_sem], hP⟩
   ·have hl1 : l = -(v : Int) := by omega
    subst hl1
    clear hv
    have hneg : IntKind.i64.wrap (0 - -(v : Int)) = (v : Int) := by rw [IntKind.wrap_i64]; omega
    have hmx : max (-(v : Int)) (v : Int) = v := by omega
    go_enter Tryz.func356, Tryz.ntmps356
    go_wp2
    exact ⟨rfl, .tuple #[], by simp [results, Tryz.results356, go_sem], hP⟩
  ·have hP := hB h1
   rw [h1] at hcell
   clear hA hB hfz W hbox himp h1 hz
   by_cases h0 : 0 ≤ l
   ·have hl1 : l = (v : Int) := by omega
    subst hl1
    clear hv
    have hneg : IntKind.i64.wrap (0 - (v : Int)) = -(v : Int) := by rw [IntKind.wrap_i64]; omega
    have hmx : max (v : Int) (-(v : Int)) = v := by omega
    have hv1 : ¬ -(v : Int) = v := by omega
    have hv2 : ¬ -(v : Int) = 0 := by omega
    go_enter Tryz.func356, Tryz.ntmps356
    go_wp2
    exact ⟨rfl, .tuple #[], by simp [results, Tryz.results356, go_sem], hP⟩
   ·have hl1 : l = -(v : Int) := by omega
    subst hl1
    clear hv
    rw [Int.neg_neg] at hcell
    have hneg : IntKind.i64.wrap (0 - -(v : Int)) = (v : Int) := by rw [IntKind.wrap_i64]; omega
    have hmx : max (-(v : Int)) (v : Int) = v := by omega
    have hv1 : ¬ (v : Int) = -(v : Int) := by omega
    have hv2 : ¬ (v : Int) = 0 := by omega
    go_enter Tryz.func356, Tryz.ntmps356
    go_wp2
    exact ⟨rfl, .tuple #[], by simp [results, Tryz.results356, go_sem], hP⟩
end Go.Vd
namespace Go.Vd
open Go.Proofs Go.RowKit
def EU (w : World) (u : Value) (c : List Int) : Prop := ∃ ad cc, u = .slice ad c.length cc ∧ ∀ i, i < c.length → ∃ b o, ad = some ⟨b, o, none⟩ ∧ c.length ≤ cc ∧ w.cell? ⟨b, o + i, none⟩ = some (.int .i64 (c.getD i 0))
abbrev xd (Sat : (Nat → Bool) → Prop) (wb fb n : Nat) (S : Nat → Prop) (w : World) (fs : List Int) (qk : Nat) (cl : Bool) (c : List Int) (e : Ending) (w' : World) : Prop :=
 e = .returned (.tuple #[]) ∧ ∃ S' fs' qk' cl', Wk Sat wb fb n S' w' fs' qk' cl' ∧ Mv wb fb S S' w w' ∧ Mono fs fs' qk qk' cl cl' ∧ ∀ x, c = [x] → fs'.getD x.natAbs 0 = x ∨ cl' = true
def Seen (fs c : List Int) (j : Nat) (o : Int) : Prop := (o = 0 ∨ o ∈ c) ∧ ∀ q, q < j → c.getD q 0 = o ∨ fs.getD (c.getD q 0).natAbs 0 = -(c.getD q 0)
theorem iL {c : List Int} {j : Nat} (h : j < c.length) : c.getD j 0 ∈ c := by
 rw [List.getD_eq_getElem?_getD, List.getElem?_eq_getElem h]; exact List.getElem_mem h
theorem xL {c : List Int} {x : Int} (h : x ∈ c) : ∃ j, j < c.length ∧ c.getD j 0 = x := by
 obtain ⟨j, hj, rfl⟩ := List.getElem_of_mem h
 exact ⟨j, hj, by rw [List.getD_eq_getElem?_getD, List.getElem?_eq_getElem hj]; rfl⟩
theorem Seen.skip {fs c : List Int} {j : Nat} {o : Int} (h : Seen fs c j o) (hx : fs.getD (c.getD j 0).natAbs 0 = -(c.getD j 0)) : Seen fs c (j + 1) o :=
 ⟨h.1, fun q hq => (Nat.lt_succ_iff_lt_or_eq.1 hq).elim (h.2 q) (fun e => e ▸ .inr hx)⟩
theorem Seen.take {fs c : List Int} {j : Nat} {o : Int} (h : Seen fs c j o) (hj : j < c.length) (h0 : ∀ x, x ∈ c → x ≠ 0) (ho : o = 0 ∨ o = c.getD j 0) : Seen fs c (j + 1) (c.getD j 0) := by
 refine ⟨.inr (iL hj), fun q hq => (Nat.lt_succ_iff_lt_or_eq.1 hq).elim (fun hq' => ?_) (fun e => e ▸ .inl rfl)⟩
 rcases h.2 q hq' with h1 | h1
 ·rcases ho with rfl | rfl
  ·exact absurd h1 (h0 _ (iL (by omega)))
  ·exact .inl h1
 ·exact .inr h1
theorem Seen.all {Sat : (Nat → Bool) → Prop} {wb fb n : Nat} {S : Nat → Prop} {w : World} {fs c : List Int} {qk : Nat} {cl : Bool} {o : Int} (h : Seen fs c c.length o) (W : Wk Sat wb fb n S w fs qk cl) (hcx : ∀ x, x ∈ c → x ≠ 0 ∧ x.natAbs ≤ n) (hsat : ∀ m, Sat m → ∃ x, x ∈ c ∧ lt m x = true) : ∀ m, Sat m → o ∈ c ∧ lt m o = true := by
 intro m hm
 obtain ⟨x, hx, ht⟩ := hsat m hm
 obtain ⟨q, hq, rfl⟩ := xL hx
 have hb := hcx _ hx
 rcases h.2 q hq with h1 | h1
 ·rw [h1] at hx ht; exact ⟨hx, ht⟩
 ·exfalso
  rcases W.fz (c.getD q 0).natAbs (by omega) with h2 | ⟨_, h2⟩
  ·rw [h2] at h1; exact hb.1 (by omega)
  ·have h3 := h2 m hm
   rw [h1, nm hb.1, ht] at h3
   cases h3
set_option maxHeartbeats 4000000 in
set_option maxRecDepth 100000 in
theorem nr (Sat : (Nat → Bool) → Prop) (wb fb n : Nat) (S : Nat → Prop) (w : World) (fs : List Int) (qk : Nat) (cl : Bool) (c : List Int) (cv : Value) (hc : EU w cv c) (hcl : c.length ≤ 1000000) (hcx : ∀ x, x ∈ c → x ≠ 0 ∧ x.natAbs ≤ n) (hn : n ≤ 1000000) (hsat : ∀ m, Sat m → ∃ x, x ∈ c ∧ lt m x = true) (W : Wk Sat wb fb n S w fs qk cl) :
 Calls Tryz.prog 357 #[.pointer (some ⟨wb, 0, none⟩), cv] w (xd Sat wb fb n S w fs qk cl c) := by
 obtain ⟨ad, cc, rfl, hcs⟩ := hc
 obtain ⟨q, hbox, hq⟩ := W.box
 have c0 : w.cell? ⟨wb, 0, none⟩ = some (.slice (some ⟨fb, 0, none⟩) (n + 1) (n + 1)) := aY hbox rfl
 have c2 : w.cell? ⟨wb, 2, none⟩ = some (.bool cl) := aY hbox rfl
 have f2 : w.frozen? ⟨wb, 2, none⟩ = false := bQ hbox
 clear hbox hq
 go_enter Tryz.func357, Tryz.ntmps357
 go_wp2
 go_step3
 go_wp2
 go_step3
 go_wp2
 have hi0 : (0 : Nat) ≤ c.length := Nat.zero_le _
 go_loopw [4, 9] (fun only i wr => wr = w ∧ ∃ (j : Nat) (o : Int), i = .int .i64 j ∧ only = .int .i64 o ∧ j ≤ c.length ∧ Seen fs c j o) (fun _ i _ => c.length - (RowKit.intOf i).toNat)
 case atStart => exact ⟨rfl, 0, 0, rfl, rfl, Nat.zero_le _, .inl rfl, fun q h => by omega⟩
 case round =>
  obtain ⟨rfl, j, o, rfl, rfl, hj, hS⟩ := hrel
  by_cases hlt : j < c.length
  ·obtain ⟨bb, oo, rfl, hcc, hcell⟩ := hcs j hlt
   have hxm := iL hlt
   have hsk := hS.skip
   have htk := hS.take hlt (fun x hx => (hcx x hx).1)
   have hx := hcx _ hxm
   have hone : ∀ y, c = [y] → c.getD j 0 = y ∧ (o = 0 ∨ o = y) := fun y hy => by
    subst hy
    have : j = 0 := by simp at hlt; exact hlt
    subst this
    exact ⟨rfl, hS.1.imp id (by simp)⟩
   obtain ⟨x, hxe⟩ : ∃ x, x = c.getD j 0 := ⟨_, rfl⟩
   rw [← hxe] at hsk htk hx hone hcell
   clear hxe hxm hcs hsat hcx
   obtain ⟨v, hv⟩ : ∃ v, v = x.natAbs := ⟨_, rfl⟩
   rw [← hv] at hsk hx
   have hvn : v < n + 1 := by omega
   have hfz := W.fz v hvn
   have hfc := W.cell hvn
   have hneg : IntKind.i64.wrap (0 - x) = -x := by rw [IntKind.wrap_i64]; omega
   have hmx : max x (-x) = (v : Int) := by omega
   have hx0 : ¬ x = 0 := hx.1
   have hP1 : fs.getD v 0 = x → xd Sat wb fb n S wr fs qk cl c (.returned (.tuple #[])) wr := fun h => ⟨rfl, S, fs, qk, cl, W, Mv.refl .., Mono.refl .., fun y hy => .inl (by
    have := (hone y hy).1; subst this; rw [← hv]; exact h)⟩
   have hP2 : ¬ o = 0 → ¬ o = x → xd Sat wb fb n S wr fs qk cl c (.returned (.tuple #[])) wr := fun h1 h2 => ⟨rfl, S, fs, qk, cl, W, Mv.refl .., Mono.refl .., fun y hy => by
    obtain ⟨e1, e2⟩ := hone y hy
    subst e1
    exact absurd e2 (fun h => h.elim h1 h2)⟩
   clear hv hone W
   generalize hz : fs.getD v 0 = z at hsk hfz hfc hP1
   by_cases hzx : z = x
   ·have hP := hP1 hzx
    subst hzx
    clear hP1 hP2 hsk htk hfz hS
    go_wp2
    exact ⟨rfl, .tuple #[], by simp [results, Tryz.results357, go_sem], hP⟩
   ·by_cases hzn : z = -x
    ·have hn' := hsk hzn
     subst hzn
     clear hP1 hP2 hsk htk hfz hS
     go_wp2
     exact ⟨⟨aj, j + 1, _, by simp, rfl, by omega, hn'⟩, by simp [RowKit.intOf]; omega⟩
    ·by_cases ho : o = 0
     ·have hn' := htk (.inl ho)
      clear hP1 hP2 hsk htk hfz hS
      go_wp2
      exact ⟨⟨aj, j + 1, _, by simp, rfl, by omega, hn'⟩, by simp [RowKit.intOf]; omega⟩
     ·by_cases hox : o = x
      ·have hn' := htk (.inr hox)
       clear hP1 hP2 hsk htk hfz hS
       go_wp2
       exact ⟨⟨aj, j + 1, _, by simp, rfl, by omega, hn'⟩, by simp [RowKit.intOf]; omega⟩
      ·have hP := hP2 ho hox
       clear hP1 hP2 hsk htk hfz hS
       go_wp2
       all_goals first | (exact ⟨rfl, .tuple #[], by simp [results, Tryz.results357, go_sem], hP⟩) | (exfalso; rename_i hh; simp only [bne_eq_false_iff_eq] at hh; omega)
  ·obtain rfl : j = c.length := by omega
   have hA := hS.all W hcx hsat
   by_cases ho : o = 0
   ·have hb : ∀ m, ¬ Sat m := fun m hm => (hcx o (hA m hm).1).1 ho
    obtain ⟨h1, h2, h3⟩ := W.clash hb
    have hP : xd Sat wb fb n S wr fs qk cl c (.returned (.tuple #[])) (wr.setCell ⟨wb, 2, none⟩ (.bool true)) := ⟨rfl, S, fs, qk, true, h1, h2, h3, fun _ _ => .inr rfl⟩
    subst ho
    clear h1 h2 h3 hA hb hS W hcs
    go_wp2
    exact ⟨rfl, .tuple #[], by simp [results, Tryz.results357, go_sem], hP⟩
   ·have hoc : o ∈ c := hS.1.resolve_left ho
    have hC := oI Sat wb fb n S wr fs qk cl o ho (hcx o hoc).2 hn (fun m hm => (hA m hm).2) W
    have hone : ∀ y, c = [y] → o = y := fun y hy => by subst hy; simpa using hoc
    clear hA hS W hcs hsat hcx hoc
    go_wp2_with (go_at_call 356; refine hC.mono ?_; rintro e w5 ⟨rfl, S', fs', qk', cl', W', M1, M2, hfo⟩)
    exact ⟨rfl, .tuple #[], by simp [results, Tryz.results357, go_sem], ⟨rfl, S', fs', qk', cl', W', M1, M2, fun y hy => by have := hone y hy; subst this; exact hfo⟩⟩
end Go.Vd
namespace Go.Proofs
open Go.Shelf Go.RowKit
def Tryz.laysD_ren : Ren := ⟨fun | 32=>308 | 49=>324 | n=>n, fun | 30=>22 | 21=>21 | 3=>3 | 0=>0 | 5=>5 | 4=>4 | 33=>411 | 66=>458 | 25=>360 | 69=>461 | 68=>460 | n=>n, fun | 2=>2 | 3=>3 | n=>n⟩
theorem Tryz.laysD : Lays7.n32 Tryz.prog Tryz.laysD_ren := ⟨by kernel_rfl, func308.trans (congrArg some (by kernel_rfl)), func324.trans (congrArg some (by kernel_rfl)), underlying0, isAgg0, sizeOf0, zeroValue0, by kernel_rfl, underlying3, isAgg3, sizeOf3, zeroValue3, by kernel_rfl, underlying4, isAgg4, sizeOf4, zeroValue4, by kernel_rfl, underlying5, isAgg5, sizeOf5, zeroValue5, by kernel_rfl, underlying21, isAgg21,
 sizeOf21, zeroValue21, by kernel_rfl, underlying360, isAgg360, sizeOf360, zeroValue360, by kernel_rfl, underlying22, isAgg22, sizeOf22, zeroValue22, by kernel_rfl, underlying411, isAgg411, sizeOf411, zeroValue411, by kernel_rfl, underlying458, isAgg458, sizeOf458, underlying460, isAgg460, sizeOf460, zeroValue460,
 by kernel_rfl, underlying461, isAgg461, sizeOf461, zeroValue461, by kernel_rfl, by kernel_rfl, by kernel_rfl⟩
theorem Tryz.utf8_DecodeRune (s : ByteArray) (b off cap : Nat) (w : World) (hT : Lib.Utf8Tabs 2 3 w)
 (hp : ∀ j, j < s.size → w.cell? ⟨b, off + j, none⟩ = some (.int .u8 (s.get! j).toNat)) :
 Calls Tryz.prog 308 #[.slice (some ⟨b, off, none⟩) s.size cap] w fun e w' => e = .returned (.tuple #[.int .i32 (Lib.decodeGo s).1, .int .i64 (Lib.decodeGo s).2]) ∧ Below w.heap.size w w' := Any7.utf8_DecodeRune Tryz.laysD s b off cap w hT hp
def Tryz.lays197_ren : Ren := ⟨fun | 197=>282 | 260=>311 | n=>n, fun | 9=>9 | 21=>21 | 3=>3 | 4=>4 | 5=>5 | 105=>411 | 119=>458 | 0=>0 | 46=>360 | 139=>461 | 138=>460 | n=>n, fun | 3=>2 | 4=>3 | n=>n⟩
theorem Tryz.lays197 : Lays.n197 Tryz.prog Tryz.lays197_ren := ⟨by kernel_rfl, func282.trans (congrArg some (by kernel_rfl)), func311.trans (congrArg some (by kernel_rfl)), underlying0, isAgg0, sizeOf0, zeroValue0, underlying3, isAgg3, sizeOf3, zeroValue3, underlying4, isAgg4, sizeOf4, zeroValue4, underlying5, isAgg5, sizeOf5, zeroValue5, underlying9, isAgg9, sizeOf9, zeroValue9, underlying21, isAgg21,
 sizeOf21, zeroValue21, underlying360, isAgg360, sizeOf360, zeroValue360, underlying411, isAgg411, sizeOf411, zeroValue411, underlying458, isAgg458, sizeOf458, underlying460, isAgg460, sizeOf460, zeroValue460, underlying461, isAgg461, sizeOf461, zeroValue461, by kernel_rfl, by kernel_rfl⟩
theorem Tryz.utf8_DecodeRuneInString (s : ByteArray) (w : World) (hT : Lib.Utf8Tabs 2 3 w) :
 Calls Tryz.prog 282 #[.string s] w fun e w' => e = .returned (.tuple #[.int .i32 (Lib.decodeGo s).1, .int .i64 (Lib.decodeGo s).2]) ∧ Below w.heap.size w w' := Any.utf8_DecodeRuneInString Tryz.lays197 s w hT
def Tryz.lays137_ren : Ren := ⟨fun | 137=>158 | 217=>228 | 266=>281 | n=>n, fun | 9=>9 | 5=>5 | 3=>3 | n=>n, fun | n=>n⟩
theorem Tryz.lays137 : Lays.n137 Tryz.prog Tryz.lays137_ren := ⟨by kernel_rfl, func158.trans (congrArg some (by kernel_rfl)), func228.trans (congrArg some (by kernel_rfl)), func281.trans (congrArg some (by kernel_rfl)), underlying3, isAgg3, sizeOf3, zeroValue3, underlying5, isAgg5, sizeOf5, zeroValue5, underlying9, isAgg9, sizeOf9, zeroValue9⟩
theorem Tryz.strings_IndexByte (s : ByteArray) (c : Int) (w : World) :
 Calls Tryz.prog 158 #[.string s, .int .u8 c] w fun e w' => e = .returned (.int .i64 (Lib.indexByte s.data.toList c.toNat.toUInt8)) ∧ w' = w := Any.strings_IndexByte Tryz.lays137 s c w
def Tryz.lays219_ren : Ren := ⟨fun | 219=>296 | 217=>228 | 225=>318 | 224=>319 | 267=>320 | 266=>281 | 314=>328 | n=>n, fun | 9=>9 | 3=>3 | 4=>4 | 5=>5 | 46=>360 | 146=>424 | 51=>423 | n=>n, fun | 1=>0 | n=>n⟩
theorem Tryz.lays219 : Lays.n219 Tryz.prog Tryz.lays219_ren := ⟨by kernel_rfl, func228.trans (congrArg some (by kernel_rfl)), func296.trans (congrArg some (by kernel_rfl)), func319.trans (congrArg some (by kernel_rfl)), func318.trans (congrArg some (by kernel_rfl)), func281.trans (congrArg some (by kernel_rfl)), func320.trans (congrArg some (by kernel_rfl)), func328.trans (congrArg some (by kernel_rfl)), underlying3, isAgg3, sizeOf3, zeroValue3, underlying4, isAgg4, sizeOf4, zeroValue4, underlying5, isAgg5, sizeOf5, zeroValue5, underlying9, isAgg9, sizeOf9, zeroValue9, underlying360,
 isAgg360, sizeOf360, zeroValue360, underlying423, isAgg423, sizeOf423, zeroValue423, underlying424, isAgg424, sizeOf424, zeroValue424, by kernel_rfl⟩
theorem Tryz.stringslite_Index_one (s : ByteArray) (c : UInt8) (w : World) :
 Calls Tryz.prog 296 #[.string s, .string ⟨#[c]⟩] w fun e w' => e = .returned (.int .i64 (Lib.indexByte s.data.toList c)) ∧ w' = w := Any.stringslite_Index_one Tryz.lays219 s c w
def Tryz.laysM171_ren : Ren := ⟨fun | 171=>113 | 243=>184 | 246=>239 | 283=>289 | 284=>290 | 285=>291 | 286=>292 | 129=>314 | 317=>313 | 318=>315 | 319=>316 | 320=>317 | 337=>326 | 338=>327 | n=>n, fun | 3=>3 | 9=>9 | 2=>2 | 4=>4 | 171=>417 | 0=>0 | 53=>418 | 37=>22 | 5=>5 | 173=>421 | 212=>453 | 51=>423 | 20=>20 | 213=>454 | 46=>360 | 232=>466 | 233=>467 | n=>n, fun | 17=>1 | 18=>5 | 19=>6 | n=>n⟩
set_option maxRecDepth 10000 in
theorem Tryz.laysM171 : LaysM.n171 Tryz.prog Tryz.laysM171_ren := {mixed := by kernel_rfl, f129 := func314.trans (congrArg some (by kernel_rfl)), f171 := func113.trans (congrArg some (by kernel_rfl)), f243 := func184.trans (congrArg some (by kernel_rfl)), f246 := func239.trans (congrArg some (by kernel_rfl)), f283 := func289.trans (congrArg some (by kernel_rfl)), f284 := func290.trans (congrArg some (by kernel_rfl)), f285 := func291.trans (congrArg some (by kernel_rfl)), f286 := func292.trans (congrArg some (by kernel_rfl)), f317 := func313.trans (congrArg some (by kernel_rfl)), f318 := func315.trans (congrArg some (by kernel_rfl)), f319 := func316.trans (congrArg some (by kernel_rfl)), f320 := func317.trans (congrArg some (by kernel_rfl)), f337 := func326.trans (congrArg some (by kernel_rfl)), f338 := func327.trans (congrArg some (by kernel_rfl)), t0 := underlying0, a0 := isAgg0, z0 := sizeOf0, v0 := zeroValue0, t2 := underlying2, a2 := isAgg2, z2 := sizeOf2, v2 := zeroValue2, t3 := underlying3, a3 := isAgg3, z3 := sizeOf3, v3 := zeroValue3, t4 := underlying4, a4 := isAgg4, z4 := sizeOf4, v4 := zeroValue4, t5 := underlying5, a5 := isAgg5, z5 := sizeOf5, v5 := zeroValue5, t9 := underlying9, a9 := isAgg9, z9 := sizeOf9, v9 := zeroValue9, t20 := underlying20, a20 := isAgg20, z20 := sizeOf20, v20 := zeroValue20, t37 := underlying22, a37 := isAgg22, z37 := sizeOf22, v37 := zeroValue22, t46 := underlying360, a46 := isAgg360, z46 := sizeOf360, v46 := zeroValue360, t51 := underlying423, a51 := isAgg423, z51 := sizeOf423, v51 := zeroValue423, t53 := underlying418, a53 := isAgg418, z53 := sizeOf418, v53 := zeroValue418, t171 := underlying417, a171 := isAgg417, z171 := sizeOf417, v171 := zeroValue417, t173 := underlying421, a173 := isAgg421, z173 := sizeOf421, v173 := zeroValue421, t212 := underlying453, a212 := isAgg453, z212 := sizeOf453, v212 := zeroValue453, t213 := underlying454, a213 := isAgg454, z213 := sizeOf454, t232 := underlying466, a232 := isAgg466, z232 := sizeOf466, v232 := zeroValue466, t233 := underlying467, a233 := isAgg467, z233 := sizeOf467, v233 := zeroValue467, g17 := by kernel_rfl, g18 := by kernel_rfl, g19 := by kernel_rfl, i0 := by kernel_rfl, i2 := by kernel_rfl, i3 := by kernel_rfl, i4 := by kernel_rfl, i5 := by kernel_rfl, i9 := by kernel_rfl, i20 := by kernel_rfl, i37 := by kernel_rfl, i46 := by kernel_rfl, i51 := by kernel_rfl, i53 := by kernel_rfl, i171 := by kernel_rfl, i173 := by kernel_rfl, i212 := by kernel_rfl, i232 := by kernel_rfl, i233 := by kernel_rfl, m17 := by kernel_rfl, m18 := by kernel_rfl, m19 := by kernel_rfl}
open Go.RowKit Go.Sort Go.Lib in
theorem Tryz.strconv_Itoa (n : Int) (h0 : -9223372036854775808 ≤ n) (h1 : n ≤ 9223372036854775807) (w : World) (htab : Lib.TabIs Tryz.prog w "internal/strconv.uint64pow10" .u64 Lib.pow10Tab) :
 Calls Tryz.prog 113 #[.int .i64 n] w fun e w' => e = .returned (.string ⟨(Lib.itoa n).toArray⟩) ∧ ∃ k os, w' = grow (w.drewN k) os := Any.strconv_Itoa Tryz.laysM171 n h0 h1 w htab
end Go.Proofs
namespace Go.Vd
open Go.Proofs Go.RowKit
def d9 (c : UInt8) : Bool := decide ((48 : Int) ≤ (c.toNat : Int)) && decide ((c.toNat : Int) ≤ 57)
def cD (q : UInt8 → Bool) (l : List UInt8) : Nat := (l.takeWhile q).length
def gD (l : List UInt8) : Int := l.foldl (fun n c => n * 10 + ((c.toNat : Int) - 48)) 0
def eL (b : List UInt8) (p : Nat) (s : List UInt8) : Bool := s.isPrefixOf (b.drop p)
def bK (b : List UInt8) (p : Nat) (most : Int) : Int × Nat × Int :=
 if cD d9 (b.drop p) = 0 ∨ (b.drop p).head? = some 48 ∧ 1 < cD d9 (b.drop p) then (0, p, 2)
 else if min most 2147483647 < gD ((b.drop p).takeWhile d9) then (0, p, 3)
 else (gD ((b.drop p).takeWhile d9), p + cD d9 (b.drop p), 0)
abbrev xN (r : Int × Nat × Int) : V := .tup [.int .i64 r.1, .int .i64 r.2.1, .int .i64 r.2.2]
theorem fw (q : UInt8 → Bool) (l : List UInt8) : cD q l ≤ l.length := (List.takeWhile_sublist _).length_le
theorem em (q : UInt8 → Bool) : ∀ l : List UInt8, l.takeWhile q = l.take (cD q l)
 | [] => rfl
 | c :: l => by
   unfold cD
   rw [List.takeWhile_cons]
   cases h : q c with
   | true => simp only [if_true, List.length_cons, List.take_succ_cons]; rw [← cD, ← em q l]
   | false => simp
theorem tj (q : UInt8 → Bool) : ∀ (l : List UInt8) (j : Nat), j < cD q l → ∃ c, l[j]? = some c ∧ q c = true
 | [], j, h => by simp [cD] at h
 | c :: l, j, h => by
   unfold cD at h
   rw [List.takeWhile_cons] at h
   cases hc : q c with
   | false => rw [hc] at h; simp at h
   | true =>
     rw [hc] at h
     cases j with
     | zero => exact ⟨c, rfl, hc⟩
     | succ j => exact tj q l j (by simpa [cD] using h)
theorem wZ (q : UInt8 → Bool) : ∀ {l : List UInt8} {j : Nat} {c : UInt8}, (∀ i x, i < j → l[i]? = some x → q x = true) → l[j]? = some c → q c = false → cD q l = j
 | [], j, c, _, h, _ => by simp at h
 | x :: l, j, c, h0, h, hc => by
   unfold cD
   rw [List.takeWhile_cons]
   cases j with
   | zero => cases h; rw [hc]; rfl
   | succ j =>
     rw [h0 0 x (by omega) rfl]
     simp only [if_true, List.length_cons]
     rw [← cD, wZ q (j := j) (fun i y hi hy => h0 (i + 1) y (by omega) hy) h hc]
theorem uj (q : UInt8 → Bool) : ∀ {l : List UInt8}, (∀ (i : Nat) x, l[i]? = some x → q x = true) → cD q l = l.length
 | [], _ => rfl
 | x :: l, h => by
   unfold cD
   rw [List.takeWhile_cons, h 0 x rfl]
   simp only [if_true, List.length_cons]
   rw [← cD, uj q (fun i y hy => h (i + 1) y hy)]
theorem zk {l s : List UInt8} : s.isPrefixOf l = (decide (s.length ≤ l.length) && decide (l.take s.length = s)) := by
 rw [Bool.eq_iff_iff]
 simp only [List.isPrefixOf_iff_prefix, Bool.and_eq_true, decide_eq_true_eq, List.prefix_iff_eq_take]
 constructor
 ·intro h
  have hl := congrArg List.length h
  simp at hl
  exact ⟨by omega, h.symm⟩
 ·exact fun h => h.2.symm
theorem bs_inj {l l' : List UInt8} : bs l = bs l' ↔ l = l' := ⟨fun h => by have := congrArg (fun s => s.data.toList) h; simpa [od] using this, fun h => h ▸ rfl⟩
@[simp] theorem bs_dec (l l' : List UInt8) : decide (bs l = bs l') = decide (l = l') := by simp [bs_inj]
theorem rB {l : List UInt8} {j : Nat} (h : j < l.length) : l[j]? = some (l.getD j 0) := by rw [List.getD_eq_getElem?_getD, List.getElem?_eq_getElem h]; rfl
theorem qK {l : List UInt8} {j : Nat} (h : j < l.length) : l.drop j = l.getD j 0 :: l.drop (j + 1) := by
 rw [List.drop_eq_getElem_cons h, List.getD_eq_getElem?_getD, List.getElem?_eq_getElem h]; rfl
theorem ek {l : List UInt8} {n : Nat} (h : n < l.length) : (l.map bV)[n]? = some [.int .u8 ((l.getD n 0).toNat : Int)] := by rw [List.getElem?_map, rB h]; rfl
theorem wK (l : List UInt8) (j : Nat) : (bs l).get! j = l.getD j 0 := by
 show l.toArray[j]! = _
 simp [List.getD_eq_getElem?_getD]; rfl
theorem sE (c : UInt8) (l : List UInt8) : ((Lib.decodeGo (bs (c :: l))).1 < 2097152) ∧ (c.toNat < 128 → Lib.decodeGo (bs (c :: l)) = (c.toNat, 1)) ∧ (128 ≤ c.toNat → 128 ≤ (Lib.decodeGo (bs (c :: l))).1) := by
 have h0 : (bs (c :: l)).get! 0 = c := by rfl
 have hne : (bs (c :: l)).size ≠ 0 := by rw [cU]; simp
 have hlt := c.toNat_lt
 unfold Lib.decodeGo
 rw [if_neg hne]
 unfold Utf8.decode
 simp only [Nat.add_zero, Nat.zero_add, h0]
 refine ⟨?_, fun h => by rw [if_pos h], fun h => ?_⟩
 ·repeat' split
  all_goals simp_all [Utf8.runeError]
  all_goals omega
 ·repeat' split
  all_goals simp_all [Utf8.runeError]
  all_goals omega
theorem A7 (c : UInt8) (l : List UInt8) : kw 308 [cH (c :: l)] (fun v => ∃ r n : Nat, v = .tup [.int .i32 r, .int .i64 n] ∧ r < 2097152 ∧ (c.toNat < 128 → r = c.toNat ∧ n = 1) ∧ (128 ≤ c.toNat → 128 ≤ r)) := by
 refine ⟨cJ (fn := Tryz.f308) (by kernel_rfl) rfl (by kernel_rfl), fun w im us hG hp => ?_⟩
 obtain ⟨u, rfl, hu⟩ := H2 hp
 obtain ⟨a, cp, rfl, h1⟩ := sR hu
 obtain ⟨b, q, rfl, hc⟩ := h1 (by simp)
 have h := Tryz.utf8_DecodeRune (bs (c :: l)) b q cp w hG.2.2.2 (fun j hj => by
  rw [cU] at hj
  rw [hc j hj]
  congr 2
  rw [wK, List.getD_eq_getElem?_getD, List.getElem?_eq_getElem hj]; rfl)
 rw [cU] at h
 obtain ⟨d1, d2, d3⟩ := sE c l
 refine h.mono ?_
 rintro e w' ⟨rfl, hb⟩
 refine ⟨_, _, ⟨(Lib.decodeGo (bs (c :: l))).1, (Lib.decodeGo (bs (c :: l))).2, rfl, d1, fun h => by rw [d2 h]; exact ⟨rfl, rfl⟩, d3⟩, rfl, hb, .tup _ _ rfl fun i v u hv hu => ?_⟩
 match i with
 | 0 => cases hv; simp at hu; subst hu; exact .int _ _
 | 1 => cases hv; simp at hu; subst hu; exact .int _ _
 | i + 2 => simp at hv
theorem rx (b : List UInt8) (p : Nat) (h : p ≤ b.length) : dn 139 [cH b, .int .i64 p] (.bool true) := by
 refine bC ac (f := 139) (fn := Tryz.f139) (N := 13) (rs := [.tmp 4]) (by kernel_rfl) rfl (by kernel_rfl) rfl rfl [(0, .v (cH b)), (1, .v (.int .i64 p))] ⟨rfl, rfl, aj⟩ rfl rfl ?_
 intro B
 refine ag<|af J<|ab<|ag<|aa J<|jX J J J (decide_eq_true (by omega)) J J ?_
 refine aa J<|aa J<|aa J<|aI ac J J bG J aB J J<|lN J J J (decide_eq_true (by omega)) J J ?_
 refine aV J<|af J<|ab<|am ?_
 refine an J J ?_
 rfl
theorem Ff (l s : List UInt8) : dn 213 [.str (bs l), .str (bs s)] (.bool (s.isPrefixOf l)) := by
 refine bC ac (f := 213) (fn := Tryz.f213) (N := 18) (rs := [.tmp 4]) (by kernel_rfl) rfl (by kernel_rfl) rfl rfl [(0, .v (.str (bs l))), (1, .v (.str (bs s)))] ⟨rfl, rfl, aj⟩ rfl rfl ?_
 intro B
 refine ag<|af J<|ab<|ag<|aa J<|dc ac J J fH J J J<|aa J<|dc ac J J fH J J J<|bY J J J J J (fun h9 => ?_) (fun h9 => ?_)
 ·refine aa J<|aa J<|aa J<|dc ac J J fH J J J ?_
  refine o6 s.length ac J fH J J J (by simp [cU]) (by omega) J J J ?_
  refine aa J<|pa J J J J J J<|aV J<|af J<|ab<|am ?_
  refine an J J ?_
  have h' : s.length ≤ l.length := by omega
  exact congrArg V.bool (by rw [zk, decide_eq_true h', Bool.true_and])
 ·refine aa J<|al J<|al J<|al J<|al J<|al J<|al J<|aJ J<|af J<|ab<|am ?_
  refine an J J ?_
  have h' : ¬ s.length ≤ l.length := by omega
  exact congrArg V.bool (by rw [zk, decide_eq_false h', Bool.false_and])
theorem ER (l s : List UInt8) : dn 140 [.str (bs l), .str (bs s)] (.bool (s.isPrefixOf l)) := by
 refine bC ac (f := 140) (fn := Tryz.f140) (N := 8) (rs := [.tmp 4]) (by kernel_rfl) rfl (by kernel_rfl) rfl rfl [(0, .v (.str (bs l))), (1, .v (.str (bs s)))] ⟨rfl, rfl, aj⟩ rfl rfl ?_
 intro B
 refine ag<|af J<|ab<|ag<|aa J<|aa J<|ap [] (Ff l s) J J J J J J aj (.inl J) J J J<|af J<|ab<|am ?_
 refine an J J ?_
 rfl
theorem o5 (b s : List UInt8) (p : Nat) (h : p ≤ b.length) (hb : b.length ≤ 1000000000000) (hs : s.length ≤ 1000000000000) : dn 68 [cH b, .int .i64 p, .str (bs s)] (.tup [.int .i64 ((if eL b p s then p + s.length else p : Nat) : Int), .bool (eL b p s)]) := by
 refine bC ac (f := 68) (fn := Tryz.f68) (N := 24) (rs := [.tmp 6, .tmp 7]) (by kernel_rfl) rfl (by kernel_rfl) rfl rfl [(0, .v (cH b)), (1, .v (.int .i64 p)), (2, .v (.str (bs s)))] ⟨rfl, rfl, rfl, aj⟩ rfl rfl ?_
 intro B
 refine ag<|af J<|af J<|ab<|ae<|ag<|aa J<|aa J<|ap [] (rx b p h) J J J J J J aj (.inl J) J J J<|s9 (d' := .v (.bool true)) (congrArg (fun b => D.v (V.bool b)) J)<|bL J<|ab ?_
 refine ah J<|ao<|ak<|ae<|ag<|aa J<|aa J ?_
 refine jc p ac J bG J eK J J J (by simpa using h) (jR _) ld J J ?_
 refine gV ac J bG fH J eK J J J J J<|aa J<|ap [] (ER (b.drop p) s) J J J J J J aj (.inl J) J J J<|bf (fun h17 => ?_) (fun h17 => ?_)
 ·refine bL J<|ab<|ah J<|ao<|ak<|ag<|aa J<|aa J<|dc ac J J fH J J J<|bh J (by omega) (by omega) J ?_
  refine af J<|af J<|ab<|am ?_
  refine an J J ?_
  unfold eL
  simp_all; done
 ·refine bL J<|ab<|ai J<|ag<|aa J<|af J<|af J<|ab<|am<|au (an J J ?_)
  unfold eL
  simp_all; done
theorem Fq (c : UInt8) : dn 145 [.int .u8 c.toNat] (.bool (d9 c)) := by
 refine bC ac (f := 145) (fn := Tryz.f145) (N := 9) (rs := [.tmp 2]) (by kernel_rfl) rfl (by kernel_rfl) rfl rfl [(0, .v (.int .u8 c.toNat))] ⟨rfl, aj⟩ rfl rfl ?_
 intro B
 refine ag<|af J<|ab<|ag<|aa J<|bY J J J J J (fun h4 => ?_) (fun h4 => ?_)
 ·refine aa J<|aa J<|lN J J J J J J<|aV J<|af J<|ab<|am ?_
  refine an J J ?_
  (simp_all [d9]; try omega)
 ·refine aa J<|al J<|al J<|aJ J<|af J<|ab<|am ?_
  refine an J J ?_
  (simp_all [d9]; try omega)
theorem sT {r : Nat} (h : ¬ (128 : Int) ≤ (r : Int)) : ((UInt8.ofNat r).toNat : Int) = (r : Int) := by
 have : r < 256 := by omega
 simp [UInt8.toNat_ofNat']; omega
theorem Eo (gf : Nat) (q : UInt8 → Bool) (hq : ∀ c : UInt8, PCall Tryz.prog gf [.int .u8 c.toNat] (.bool (q c))) (r : Nat) (hr : r < 2097152) : dn 217 [.int .i32 r, .ref [.fn (.func gf) [] []]] (.bool (decide (128 ≤ r) || !q (UInt8.ofNat r))) := by
 refine bC ac (f := 217) (fn := Tryz.f217) (N := 13) (rs := [.tmp 3]) (by kernel_rfl) rfl (by kernel_rfl) rfl rfl [(0, .v (.int .i32 r)), (1, .v (.ref [.fn (.func gf) [] []]))] ⟨rfl, rfl, aj⟩ rfl rfl ?_
 intro B
 refine ag<|af J<|ab<|ag<|aa J<|bY J J J J J (fun h5 => ?_) (fun h5 => ?_)
 ·refine aa J<|al J<|al J<|al J<|al J<|al J<|aV J<|af J<|ab<|am ?_
  refine an J J ?_
  have h' : 128 ≤ r := by omega
  simp [h']
 ·refine aa J<|bu Ht J<|aa J ?_
  refine fR ac J J Il eK J J (IntWalk.u8_in _ ⟨by omega, by omega⟩) J J ?_
  refine ap [] (hq (UInt8.ofNat r)) J J J J J (by rw [sT h5]; rfl) aj (.inl rfl) J J J ?_
  refine bL J<|aJ J<|af J<|ab<|am ?_
  refine an J J ?_
  have h' : ¬ 128 ≤ r := by omega
  simp [h']
def su (q : UInt8 → Bool) (l : List UInt8) : Int := if cD q l = l.length then -1 else (cD q l : Nat)
theorem uZ (c : UInt8) : UInt8.ofNat c.toNat = c := by simp
theorem zz {q : UInt8 → Bool} (hq8 : ∀ c : UInt8, 128 ≤ c.toNat → q c = false) {c : UInt8} {r n : Nat} (h1 : c.toNat < 128 → r = c.toNat ∧ n = 1) (h : (decide (128 ≤ r) || !q (UInt8.ofNat r)) = true) : q c = false := by
 by_cases hc : c.toNat < 128
 ·obtain ⟨rfl, _⟩ := h1 hc
  have : ¬ 128 ≤ c.toNat := by omega
  simpa [this] using h
 ·exact hq8 c (by omega)
theorem vZ {q : UInt8 → Bool} {c : UInt8} {r n : Nat} (h1 : c.toNat < 128 → r = c.toNat ∧ n = 1) (h2 : 128 ≤ c.toNat → 128 ≤ r) (h : (decide (128 ≤ r) || !q (UInt8.ofNat r)) = false) : q c = true ∧ n = 1 := by
 by_cases hc : c.toNat < 128
 ·obtain ⟨rfl, rfl⟩ := h1 hc
  simp only [Bool.or_eq_false_iff, Bool.not_eq_false', uZ] at h
  exact ⟨h.2, rfl⟩
 ·simp [h2 (by omega)] at h
theorem DE (gf : Nat) (q : UInt8 → Bool) (hq : ∀ c : UInt8, PCall Tryz.prog gf [.int .u8 c.toNat] (.bool (q c))) (hq8 : ∀ c : UInt8, 128 ≤ c.toNat → q c = false) (l : List UInt8) (hl : l.length ≤ 1000000000000) : dn 277 [cH l, .fn (.func 217) [] [.ref [.fn (.func gf) [] []]], .bool true] (.int .i64 (su q l)) := by
 refine bC ac (f := 277) (fn := Tryz.f277) (N := 30) (rs := [.tmp 6]) (by kernel_rfl) rfl (by kernel_rfl) rfl rfl [(0, .v (cH l)), (1, .v (.fn (.func 217) [] [.ref [.fn (.func gf) [] []]])), (2, .v (.bool true))] ⟨rfl, rfl, rfl, aj⟩ rfl rfl ?_
 intro B
 refine ag<|af J<|ab<|ag<|af J<|ab<|ae<|aw<|aZ (α := Nat) (fun j => mk [(0, .v (cH l)), (1, .v (.fn (.func 217) [] [.ref [.fn (.func gf) [] []]])), (2, .v (.bool true)), (7, .v (.int .i64 j))] [] 0) (fun j => j ≤ l.length ∧ ∀ (i : Nat) x, i < j → l[i]? = some x → q x = true) (fun j => l.length - j) 0 ⟨Nat.zero_le _, fun i x h => absurd h (Nat.not_lt_zero i)⟩ (aL ⟨J, J, J, J, aj⟩ aj J J J J) ?_
 rintro j ⟨hj1, hj2⟩
 refine ae<|ag<|aa J<|aa J<|aI ac J J bG J aB J J<|bj J (fun h13 => ?_) (fun h13 => ?_)
 ·refine ab<|ai J<|ao<|ak<|aw<|ag<|aa J<|aa J ?_
  refine jc j ac J bG J eK J J J (by simpa using hj1) (jR _) (by rw [ld, qK (by omega)]) J J ?_
  refine dm [] (A7 (l.getD j 0) (l.drop (j + 1))) J J J J J J aj (.inl J) J J J ?_
  rintro _ ⟨r, n, rfl, hr, hr1, hr2⟩
  refine aa J<|aW J<|aW J<|af J<|af J<|ab<|ae<|ag<|aa J<|aa J<|ap [] (Eo gf q hq r hr) J J J J J J aj (.inl J) J J J<|aa J<|BW ac J J J pK J J J J<|bf (fun h25 => ?_) (fun h25 => ?_)
  ·refine ab<|ai J<|ag<|aa J<|af J<|ab<|am<|au (az (bR (az (au (an J J ?_)))))
   have hs := zz hq8 hr1 (by simpa using h25)
   have e : cD q l = j := wZ q hj2 (rB (by omega)) hs
   unfold su
   rw [e, if_neg (by omega)]
  ·refine ab<|ah J<|ao<|ak<|aF<|aa J<|aa J ?_
   refine mA J J J J (by have := (vZ hr1 hr2 (by simpa using h25)).2; omega) (by have := (vZ hr1 hr2 (by simpa using h25)).2; omega) J J ?_
   refine af J<|ar<|aH ?_
   have hgo := vZ hr1 hr2 (by simpa using h25)
   exact aT (j + 1) ⟨by omega, fun i x hi hx => (Nat.lt_succ_iff_lt_or_eq.1 hi).elim (fun h => hj2 i x h hx) (fun e => by subst e; rw [rB (by omega)] at hx; cases hx; exact hgo.1)⟩ (by omega) (aL ⟨rfl, rfl, rfl, (fJ rfl (by have := hgo.2; omega)), aj⟩ aj rfl rfl rfl rfl)
 ·refine ab<|ah J<|aO<|ba (a8 (aP ?_))
  refine ak<|ag<|af J<|ab<|am ?_
  refine an J J ?_
  have hi : j = l.length := by omega
  have e : cD q l = l.length := uj q (fun i x h => hj2 i x (by have := (List.getElem?_eq_some_iff.1 h).1; omega) h)
  unfold su
  rw [if_pos e]
theorem EX (gf : Nat) (q : UInt8 → Bool) (hq : ∀ c : UInt8, PCall Tryz.prog gf [.int .u8 c.toNat] (.bool (q c))) (hq8 : ∀ c : UInt8, 128 ≤ c.toNat → q c = false) (l : List UInt8) (hl : l.length ≤ 1000000000000) : dn 216 [cH l, .fn (.func 217) [] [.ref [.fn (.func gf) [] []]]] (.int .i64 (su q l)) := by
 refine bC ac (f := 216) (fn := Tryz.f216) (N := 8) (rs := [.tmp 4]) (by kernel_rfl) rfl (by kernel_rfl) rfl rfl [(0, .v (cH l)), (1, .v (.fn (.func 217) [] [.ref [.fn (.func gf) [] []]]))] ⟨rfl, rfl, aj⟩ rfl rfl ?_
 intro B
 refine ag<|af J<|ab<|ag<|aa J<|aa J<|ap [] (DE gf q hq hq8 l hl) J J J J J J aj (.inl J) J J J<|af J<|ab<|am ?_
 refine an J J ?_
 rfl
theorem DP (gf : Nat) (q : UInt8 → Bool) (hq : ∀ c : UInt8, PCall Tryz.prog gf [.int .u8 c.toNat] (.bool (q c))) (hq8 : ∀ c : UInt8, 128 ≤ c.toNat → q c = false) (b : List UInt8) (p : Nat) (h : p ≤ b.length) (hb : b.length ≤ 1000000000000) : dn 144 [cH b, .int .i64 p, .fn (.func gf) [] []] (.int .i64 ((p + cD q (b.drop p) : Nat) : Int)) := by
 refine bC ac (f := 144) (fn := Tryz.f144) (N := 20) (rs := [.tmp 6]) (by kernel_rfl) rfl (by kernel_rfl) rfl rfl [(0, .v (cH b)), (1, .v (.int .i64 p)), (2, .v (.fn (.func gf) [] []))] ⟨rfl, rfl, rfl, aj⟩ rfl rfl ?_
 intro B
 refine ag<|bE 5 [] J J J ⟨J, aj⟩ J J J<|af J<|ab<|ag<|aa J<|aa J ?_
 refine jc p ac J bG J eK J J J (by simpa using h) (jR _) ld J J ?_
 refine jP J J J J J J ?_
 refine ap [(5, _)] (EX gf q hq hq8 (b.drop p) (by simp; omega)) J J J J J J ⟨J, aj⟩ (.inr rfl) J J J ?_
 refine af J<|ab<|ae<|ag<|aa J<|bj J (fun h14 => ?_) (fun h14 => ?_)
 ·refine ab<|ai J<|ag<|aa J<|aI ac J J bG J aB J J<|af J<|ab<|am<|au (an J J ?_)
  have hle := fw q (b.drop p)
  have hdl : (b.drop p).length = b.length - p := List.length_drop
  unfold su at *
  split at * <;> first | (congr 1; omega) | omega
 ·refine ab<|ah J<|ao<|ak<|ag<|aa J<|aa J ?_
  refine mA J J J J (by have := fw q (b.drop p); unfold su; split <;> omega) (by have := fw q (b.drop p); simp at this; unfold su; split <;> omega) J J ?_
  refine af J<|ab<|am ?_
  refine an J J ?_
  have hle := fw q (b.drop p)
  have hdl : (b.drop p).length = b.length - p := List.length_drop
  unfold su at *
  split at * <;> first | (congr 1; omega) | omega
theorem Im (c : UInt8) (h : 128 ≤ c.toNat) : d9 c = false := by simp [d9]; omega
theorem isD_iff {c : UInt8} : d9 c = true ↔ 48 ≤ (c.toNat : Int) ∧ (c.toNat : Int) ≤ 57 := by simp [d9]
theorem yD (l : List UInt8) (c : UInt8) : gD (l ++ [c]) = gD l * 10 + ((c.toNat : Int) - 48) := by simp [gD]
theorem eS {l : List UInt8} {i : Nat} (h : i < l.length) : gD (l.take (i + 1)) = gD (l.take i) * 10 + (((l.getD i 0).toNat : Int) - 48) := by
 rw [List.take_add_one, rB h]; exact yD _ _
theorem qj {l : List UInt8} (hl : ∀ (i : Nat) x, l[i]? = some x → d9 x = true) : ∀ {n i : Nat}, i + n ≤ l.length → 0 ≤ gD (l.take i) → gD (l.take i) ≤ gD (l.take (i + n)) := by
 intro n
 induction n with
 | zero => intro i _ _; exact Int.le_refl _
 | succ n ih =>
   intro i h h0
   have h1 := ih (i := i) (by omega) h0
   rw [show i + (n + 1) = (i + n) + 1 by omega, eS (by omega)]
   have := isD_iff.1 (hl (i + n) _ (rB (by omega)))
   omega
theorem wN {q : UInt8 → Bool} {b : List UInt8} {p : Nat} : (b.take (p + cD q (b.drop p))).drop p = (b.drop p).takeWhile q := by
 rw [em, List.drop_take]; congr 1; omega
theorem vY {q : UInt8 → Bool} {l : List UInt8} : ∀ (i : Nat) x, (l.takeWhile q)[i]? = some x → q x = true := fun i x h => by
 have := List.mem_of_getElem? h
 exact (List.all_eq_true.1 List.all_takeWhile) x this
theorem lw {b : List UInt8} {p : Nat} (h : p < b.length) : (b.drop p).head? = some (b.getD p 0) := by rw [qK h]; rfl
theorem jz {c d : UInt8} (h : (c.toNat : Int) = (d.toNat : Int)) : c = d := UInt8.toNat_inj.1 (by omega)
theorem mv (b : List UInt8) (p : Nat) (most : Int) (h : p ≤ b.length) (hb : b.length ≤ 1000000000000) (hm : -1 ≤ most) (hm2 : most ≤ 1000000000000) : dn 76 [cH b, .int .i64 p, .int .i64 most] (xN (bK b p most)) := by
 refine bC ac (f := 76) (fn := Tryz.f76) (N := 60) (rs := [.tmp 6, .tmp 7, .tmp 8]) (by kernel_rfl) rfl (by kernel_rfl) rfl rfl [(0, .v (cH b)), (1, .v (.int .i64 p)), (2, .v (.int .i64 most))] ⟨rfl, rfl, rfl, aj⟩ rfl rfl ?_
 intro B
 have hrl := fw d9 (b.drop p)
 have hdl : (b.drop p).length = b.length - p := List.length_drop
 have hdr : ((b.drop p).takeWhile d9).length = cD d9 (b.drop p) := rfl
 refine ag<|af J<|af J<|af J<|ab<|ae<|ag<|aa J<|aa J<|ap [] (rx b p h) J J J J J J aj (.inl J) J J J<|s9 (d' := .v (.bool true)) (congrArg (fun b => D.v (V.bool b)) J)<|bL J<|ar ?_
 refine ak<|ah J<|ao<|ak<|ag<|aa J<|aa J<|ap [] (DP 145 d9 (fun c => Fq c) Im b p h (by omega)) J J J J J J aj (.inl J) J J J ?_
 refine af J<|ab<|gN (α := Unit) (fun _ => mk [(0, .v (cH b)), (1, .v (.int .i64 p)), (2, .v (.int .i64 most)), (9, .v (.int .i64 ((p + cD d9 (b.drop p) : Nat) : Int)))] [] 0) (fun _ => ¬ (cD d9 (b.drop p) = 0 ∨ (b.drop p).head? = some 48 ∧ 1 < cD d9 (b.drop p))) ?_ ?_
 ·refine ag<|aa J<|aa J<|bc J J J J J (fun h22 => ?_) (fun h22 => ?_)
  ·refine aa J<|al J<|al J<|al J<|al J<|al J<|al J<|al J<|al J<|al J<|al J<|al J<|aV J<|ab<|ai J ?_
   refine ag<|aa J<|af J<|af J<|af J<|ab<|am<|au (an J J ?_)
   have e : bK b p most = (0, p, 2) := by
    unfold bK
    rw [if_pos (.inl (by omega))]
   rw [e]
  ·refine aa J<|aa J<|aa J<|cj bG eK J (by omega) (ek (n := p) (by omega)) J ?_
   refine bu eK J<|bc J J J J J (fun h28 => ?_) (fun h28 => ?_)
   ·refine aa J<|aa J<|aa J<|bh J (by omega) (by omega) J ?_
    refine bW J J J J J (fun h33 => ?_) (fun h33 => ?_)
    ·refine aV J<|aJ J<|ab<|ai J<|ag<|aa J<|af J<|af J<|af J<|ab<|am<|au (an J J ?_)
     have e : bK b p most = (0, p, 2) := by
      unfold bK
      rw [if_pos (.inr ⟨by rw [lw (by omega)]; exact congrArg some (jz h28), by omega⟩)]
     rw [e]
    ·refine aV J<|aJ J<|ab<|ah J<|ao ?_
     exact cX () (by rintro (hh | ⟨hh, hh2⟩) <;> first | omega | (rw [lw (by omega)] at hh; exact h28 (by rw [Option.some.inj hh]; rfl))) (aL ⟨J, J, J, J, aj⟩ aj J J J J)
   ·refine aa J<|al J<|al J<|al J<|al J<|aJ J<|aJ J<|ab<|ah J<|ao ?_
    exact cX () (by rintro (hh | ⟨hh, hh2⟩) <;> first | omega | (rw [lw (by omega)] at hh; exact h28 (by rw [Option.some.inj hh]; rfl))) (aL ⟨J, J, J, J, aj⟩ aj J J J J)
 ·intro _ hgood
  refine ag<|af J<|ab<|ae<|ag<|aa J<|aa J<|aa J ?_
  refine kH p (p + cD d9 (b.drop p)) ac J bG J eK J J J J J (by omega) (by simp; omega) (jR _) (by rw [rL, wN]) J J ?_
  refine aI ac J J bG J aB J J<|aa J<|ab<|aw ?_
  refine aZ (α := Nat) (fun j => mk [(1, .v (.int .i64 p)), (2, .v (.int .i64 most)), (9, .v (.int .i64 ((p + cD d9 (b.drop p) : Nat) : Int))), (10, .v (.int .i64 (gD (((b.drop p).takeWhile d9).take j)))), (40, .v (cH ((b.drop p).takeWhile d9))), (41, .v (.int .i64 (((b.drop p).takeWhile d9).length : Nat))), (42, .v (.int .i64 j))] [] 0) (fun j => j ≤ ((b.drop p).takeWhile d9).length ∧ 0 ≤ gD (((b.drop p).takeWhile d9).take j) ∧ gD (((b.drop p).takeWhile d9).take j) ≤ 2147483647 ∧ (j = 0 ∨ gD (((b.drop p).takeWhile d9).take j) ≤ min most 2147483647)) (fun j => ((b.drop p).takeWhile d9).length - j) 0 ⟨Nat.zero_le _, by simp [gD], by simp [gD], .inl rfl⟩ (aL ⟨rfl, rfl, rfl, (fJ rfl (by simp [gD])), rfl, rfl, rfl, aj⟩ aj rfl rfl rfl rfl) ?_
  rintro j ⟨hj1, hj2, hj3, hj4⟩
  refine ag<|bj J (fun h43 => ?_) (fun h43 => ?_)
  ·refine ab<|ae<|ai J<|ao<|ak<|ae<|aw<|ag<|cj bG eK J (by omega) (ek (n := j) (by omega)) J ?_
   refine bu eK J<|af J<|ab<|ae ?_
   have hlt : j < ((b.drop p).takeWhile d9).length := by omega
   have hd := isD_iff.1 (vY (q := d9) (l := b.drop p) j _ (rB hlt))
   refine aF<|aa J<|dA J J J J (by omega) (by omega) J J ?_
   refine aa J ?_
   refine EZ J J J (IntWalk.u8_in _ ⟨by omega, by omega⟩) J J ?_
   refine fR ac J J eK bm J J (IntWalk.i64_in _ ⟨by omega, by omega⟩) J J ?_
   refine bh J (by omega) (by omega) J ?_
   refine af J<|ab<|ag<|aa J<|aa J<|Fm J J J J J J<|bW J J J J J (fun h55 => ?_) (fun h55 => ?_)
   ·refine ab<|ai J<|ag<|aa J<|af J<|af J<|af J<|ab<|am<|az (au (bR (az (au (an J J ?_)))))
    have hmono := qj (l := (b.drop p).takeWhile d9) (fun i x h => vY i x h) (n := ((b.drop p).takeWhile d9).length - (j + 1)) (i := j + 1) (by omega) (by rw [eS (by omega)]; omega)
    rw [show j + 1 + (((b.drop p).takeWhile d9).length - (j + 1)) = ((b.drop p).takeWhile d9).length by omega, List.take_of_length_le (Nat.le_refl _), eS (by omega)] at hmono
    have e : bK b p most = (0, p, 3) := by
     unfold bK
     rw [if_neg hgood, if_pos (by omega)]
    rw [e]
   ·refine ab<|ah J<|ao<|aH<|ak<|aF<|bh J (by omega) (by omega) J ?_
    refine aa J<|ar ?_
    exact aT (j + 1) ⟨by omega, by rw [eS (by omega)]; omega, by rw [eS (by omega)]; omega, .inr (by rw [eS (by omega)]; omega)⟩ (by omega) (aL ⟨rfl, rfl, rfl, (fJ rfl (by rw [eS (by omega)])), rfl, rfl, rfl, aj⟩ aj rfl rfl rfl rfl)
  ·refine ab<|ae<|ah J<|aO<|ba (a8 (aP ?_))
   refine ak<|ag<|aa J<|aa J<|af J<|af J<|af J<|ab<|am ?_
   refine an J J ?_
   have hi : j = ((b.drop p).takeWhile d9).length := by omega
   subst hi
   rw [List.take_of_length_le (Nat.le_refl _)] at hj4 ⊢
   have hz : ((b.drop p).takeWhile d9).length ≠ 0 := fun h => hgood (.inl h)
   have e : bK b p most = (gD ((b.drop p).takeWhile d9), p + cD d9 (b.drop p), 0) := by
    unfold bK
    rw [if_neg hgood, if_neg (by omega)]
   rw [e]
end Go.Vd
namespace Go.Vd
open Go.Proofs Go.RowKit
theorem Hh {b s : List UInt8} {p : Nat} (hl : p + s.length ≤ b.length) (h : ∀ i, i < s.length → b.getD (p + i) 0 = s.getD i 0) : eL b p s = true := by
 unfold eL
 rw [List.isPrefixOf_iff_prefix, List.prefix_iff_eq_take]
 refine List.ext_getElem (by simp; omega) fun i h1 h2 => ?_
 have := h i h1
 rw [List.getD_eq_getElem?_getD, List.getElem?_eq_getElem (by omega), List.getD_eq_getElem?_getD, List.getElem?_eq_getElem h1] at this
 simpa using this.symm
theorem c9 {b s : List UInt8} {p : Nat} (hp : p ≤ b.length) (h : eL b p s = true) : p + s.length ≤ b.length := by
 unfold eL at h
 rw [List.isPrefixOf_iff_prefix] at h
 have := h.length_le
 simp at this
 omega
theorem B9 {b s : List UInt8} {p i : Nat} (hp : p ≤ b.length) (h : eL b p s = true) (hi : i < s.length) : b.getD (p + i) 0 = s.getD i 0 := by
 have hl := c9 hp h
 unfold eL at h
 rw [List.isPrefixOf_iff_prefix, List.prefix_iff_eq_take] at h
 rw [h]
 simp [List.getD_eq_getElem?_getD, List.getElem?_take, hi, List.getElem?_drop]
theorem DZ {b s : List UInt8} {p : Nat} (hp : p ≤ b.length) (h : ¬ p + s.length ≤ b.length) : eL b p s = false := by
 cases hc : eL b p s with
 | false => rfl
 | true => exact absurd (c9 hp hc) h
theorem E9 {b s : List UInt8} {p i : Nat} (hp : p ≤ b.length) (hi : i < s.length) (h : b.getD (p + i) 0 ≠ s.getD i 0) : eL b p s = false := by
 cases hc : eL b p s with
 | false => rfl
 | true => exact absurd (B9 hp hc hi) h
theorem jS {s : List UInt8} {n : Nat} (h : n < s.length) : (bs s)[n]? = some (s.getD n 0) := by rw [zR, rB h]
theorem CQ (b s : List UInt8) (p : Nat) (h : p ≤ b.length) (hb : b.length ≤ 1000000000000) (hs : s.length ≤ 1000000000000) : dn 19 [cH b, .int .i64 p, .str (bs s)] (.tup [.int .i64 ((if eL b p s then p + s.length else p : Nat) : Int), .bool (eL b p s)]) := by
 refine bC ac (f := 19) (fn := Tryz.f19) (N := 46) (rs := [.tmp 6, .tmp 7]) (by kernel_rfl) rfl (by kernel_rfl) rfl rfl [(0, .v (cH b)), (1, .v (.int .i64 p)), (2, .v (.str (bs s)))] ⟨rfl, rfl, rfl, aj⟩ rfl rfl ?_
 intro B
 refine ag<|af J<|af J<|ab<|ae<|ag<|aa J<|iZ J J J (decide_eq_false (by omega)) J J ?_
 refine aa J<|aa J<|aa J<|aI ac J J bG J aB J J<|lI J J J (decide_eq_false (by omega)) J J ?_
 refine aJ J<|ab<|ah J<|ao<|ak<|ae<|ag<|aa J<|dc ac J J fH J J J<|aa J<|aI ac J J bG J aB J J<|aa J<|bX J J J J (by omega) (by omega) J J ?_
 refine bW J J J J J (fun h23 => ?_) (fun h23 => ?_)
 ·refine ab<|ai J<|ag<|aa J<|af J<|af J<|ab<|am<|au (an J J ?_)
  rw [DZ h (by omega)]; rfl
 ·refine ab<|ah J<|ao<|ak<|ae<|ag<|af J<|ab<|aw<|aZ (α := Nat) (fun j => mk [(0, .v (cH b)), (1, .v (.int .i64 p)), (2, .v (.str (bs s))), (8, .v (.int .i64 j))] [] 0) (fun j => j ≤ s.length ∧ ∀ i, i < j → b.getD (p + i) 0 = s.getD i 0) (fun j => s.length - j) 0 ⟨Nat.zero_le _, fun i h => absurd h (Nat.not_lt_zero i)⟩ (aL ⟨J, J, J, J, aj⟩ aj J J J J) ?_
  rintro j ⟨hj1, hj2⟩
  refine ae<|ag<|aa J<|aa J<|dc ac J J fH J J J<|bj J (fun h28 => ?_) (fun h28 => ?_)
  ·refine ab<|ai J<|ao<|ak<|ae<|aw<|ae<|aS (L := [([], []), ([], []), ([], []), ([], []), ([], []), ([], []), ([], []), ([], []), ([], []), ([], [])]) (by kernel_rfl) mixed (by kernel_rfl)<|aa J<|aa J<|aa J<|bh J (by omega) (by omega) J ?_
   refine cj bG eK J (by omega) (ek (n := p + j) (by omega)) J ?_
   refine bu eK J<|aa J<|aa J<|dR ac J J J fH J (by omega) (jS (n := j) (by omega)) J J ?_
   refine bt J J J J J (fun h40 => ?_) (fun h40 => ?_)
   ·refine ab<|ai J<|ag<|aa J<|af J<|af J<|ab<|am<|az (au (bR (az (au (an J J ?_)))))
    rw [E9 h (i := j) (by omega) (fun e => h40 (congrArg (fun c : UInt8 => (c.toNat : Int)) e))]; rfl
   ·refine ab<|ah J<|ao<|aH<|ak<|aF<|aa J<|bh J (by omega) (by omega) J ?_
    refine af J<|ar ?_
    exact aT (j + 1) ⟨by omega, fun i hi => (Nat.lt_succ_iff_lt_or_eq.1 hi).elim (hj2 i) (fun e => by subst e; exact jz (Classical.not_not.1 h40))⟩ (by omega) (aL ⟨J, J, J, J, aj⟩ aj J J J J)
  ·refine ab<|ah J<|aO<|ba (a8 (aP ?_))
   refine ak<|ag<|aa J<|aa J<|dc ac J J fH J J J<|bh J (by omega) (by omega) J ?_
   refine af J<|af J<|ab<|am ?_
   refine an J J ?_
   rw [Hh (by omega) (fun i hi => hj2 i (by omega))]; simp
theorem F8 (c : UInt8) : dn 50 [.int .u8 c.toNat] (.bool (d9 c)) := by
 refine bC ac (f := 50) (fn := Tryz.f50) (N := 9) (rs := [.tmp 2]) (by kernel_rfl) rfl (by kernel_rfl) rfl rfl [(0, .v (.int .u8 c.toNat))] ⟨rfl, aj⟩ rfl rfl ?_
 intro B
 refine ag<|af J<|ab<|ag<|aa J<|bY J J J J J (fun h4 => ?_) (fun h4 => ?_)
 ·refine aa J<|aa J<|lN J J J J J J<|aV J<|af J<|ab<|am ?_
  refine an J J ?_
  (simp_all [d9]; try omega)
 ·refine aa J<|al J<|al J<|aJ J<|af J<|ab<|am ?_
  refine an J J ?_
  (simp_all [d9]; try omega)
theorem BS {q : UInt8 → Bool} {b : List UInt8} {p j : Nat} (h : j < cD q (b.drop p)) : q (b.getD (p + j) 0) = true := by
 obtain ⟨c, h1, h2⟩ := tj q (b.drop p) j h
 rw [List.getElem?_drop] at h1
 rw [List.getD_eq_getElem?_getD, h1]; exact h2
theorem yQ {q : UInt8 → Bool} {b : List UInt8} {p : Nat} (h : p + cD q (b.drop p) < b.length) : q (b.getD (p + cD q (b.drop p)) 0) = false := by
 cases hc : q (b.getD (p + cD q (b.drop p)) 0) with
 | false => rfl
 | true =>
   exfalso
   generalize hl : b.drop p = l at *
   have h3 : l[cD q l]? = some (b.getD (p + cD q l) 0) := by rw [← hl, List.getElem?_drop]; exact rB (by rw [hl]; exact h)
   have h4 : ∀ l : List UInt8, ∀ c, l[cD q l]? = some c → q c = false := by
    intro l
    induction l with
    | nil => intro c h; simp at h
    | cons x l ih =>
      intro c h
      cases hx : q x with
      | false => simp [cD, List.takeWhile_cons, hx] at h; rw [← h]; exact hx
      | true => simp [cD, List.takeWhile_cons, hx] at h; exact ih c h
   rw [h4 l _ h3] at hc; cases hc
theorem vH {q : UInt8 → Bool} {b : List UInt8} {p j : Nat} (h : j < ((b.drop p).takeWhile q).length) : ((b.drop p).takeWhile q).getD j 0 = b.getD (p + j) 0 := by
 rw [em, List.getD_eq_getElem?_getD, List.getElem?_take, if_pos (show j < cD q (b.drop p) from h), List.getElem?_drop, List.getD_eq_getElem?_getD]
theorem uy {q : UInt8 → Bool} {b : List UInt8} {p j : Nat} (h1 : j ≤ cD q (b.drop p)) (h2 : q (b.getD (p + j) 0) = true) (h3 : p + j < b.length) : j < cD q (b.drop p) := by
 rcases Nat.lt_or_ge j (cD q (b.drop p)) with h | h
 ·exact h
 ·have e : j = cD q (b.drop p) := by omega
  subst e
  rw [yQ h3] at h2; cases h2
theorem rG {q : UInt8 → Bool} {b : List UInt8} {p j : Nat} (h0 : p ≤ b.length) (h1 : j ≤ cD q (b.drop p)) (h2 : b.length ≤ p + j ∨ q (b.getD (p + j) 0) = false) : cD q (b.drop p) = j := by
 rcases Nat.lt_or_ge j (cD q (b.drop p)) with h | h
 ·rcases h2 with h2 | h2
  ·have := fw q (b.drop p); simp at this; omega
  ·rw [BS h] at h2; cases h2
 ·omega
theorem fQ {b : List UInt8} {p j : Nat} (hp : p ≤ b.length) (h : cD d9 (b.drop p) = j) : (cD d9 (b.drop p) = 0 ∨ (b.drop p).head? = some 48 ∧ 1 < cD d9 (b.drop p)) ↔ (j = 0 ∨ ((b.getD p 0).toNat : Int) = 48 ∧ 1 < j) := by
 have hl := fw d9 (b.drop p)
 have hdl : (b.drop p).length = b.length - p := List.length_drop
 rw [h]
 by_cases h0 : j = 0
 ·simp [h0]
 ·rw [lw (by omega)]
  constructor
  ·rintro (hh | ⟨hh, hk⟩)
   ·exact .inl hh
   ·exact .inr ⟨by rw [Option.some.inj hh]; rfl, hk⟩
  ·rintro (hh | ⟨hh, hk⟩)
   ·exact .inl hh
   ·exact .inr ⟨congrArg some (jz hh), hk⟩
theorem Gs (b : List UInt8) (p : Nat) (most : Int) (h : p ≤ b.length) (hb : b.length ≤ 1000000000000) (hm : -1 ≤ most) (hm2 : most ≤ 1000000000000) : dn 27 [cH b, .int .i64 p, .int .i64 most] (xN (bK b p most)) := by
 refine bC ac (f := 27) (fn := Tryz.f27) (N := 71) (rs := [.tmp 6, .tmp 7, .tmp 8]) (by kernel_rfl) rfl (by kernel_rfl) rfl rfl [(0, .v (cH b)), (1, .v (.int .i64 p)), (2, .v (.int .i64 most))] ⟨rfl, rfl, rfl, aj⟩ rfl rfl ?_
 intro B
 have hrl := fw d9 (b.drop p)
 have hdl : (b.drop p).length = b.length - p := List.length_drop
 have hdr : ((b.drop p).takeWhile d9).length = cD d9 (b.drop p) := rfl
 refine ag<|af J<|af J<|af J<|ab<|ae<|ag<|aa J<|iZ J J J (decide_eq_false (by omega)) J J ?_
 refine aa J<|aa J<|aa J<|aI ac J J bG J aB J J<|lI J J J (decide_eq_false (by omega)) J J ?_
 refine aJ J<|ab<|ah J<|ao<|ak<|ag<|aa J<|af J<|ab<|ag<|af J<|ar ?_
 refine ak<|ag<|af J<|ab<|ae<|aw ?_
 refine aZ (α := Nat × Int × Bool) (fun ⟨j, n, g⟩ => mk [(0, .v (cH b)), (1, .v (.int .i64 p)), (2, .v (.int .i64 most)), (9, .v (.int .i64 ((p + j : Nat) : Int))), (10, .v (.int .i64 n)), (11, .v (.bool g))] [] 0) (fun ⟨j, n, g⟩ => j ≤ ((b.drop p).takeWhile d9).length ∧ 0 ≤ n ∧ n ≤ 2147483647 ∧ 0 ≤ gD (((b.drop p).takeWhile d9).take j) ∧ (g = false → n = gD (((b.drop p).takeWhile d9).take j) ∧ (j = 0 ∨ n ≤ min most 2147483647)) ∧ (g = true → min most 2147483647 < gD (((b.drop p).takeWhile d9).take j))) (fun ⟨j, n, g⟩ => ((b.drop p).takeWhile d9).length - j) ⟨0, 0, false⟩ ⟨Nat.zero_le _, by omega, by omega, by simp [gD], fun _ => ⟨by simp [gD], .inl rfl⟩, fun h => by cases h⟩ (aL ⟨rfl, rfl, rfl, rfl, rfl, rfl, aj⟩ aj rfl rfl rfl rfl) ?_
 rintro ⟨j, n, g⟩ ⟨hj1, hj2, hj3, hj4, hj5, hj6⟩
 refine ae<|ag<|aa J<|aa J<|aI ac J J bG J aB J J<|bj J (fun h24 => ?_) (fun h24 => ?_)
 ·refine aa J<|aa J<|aa J<|cj bG eK J (by omega) (ek (n := p + j) (by omega)) J ?_
  refine bu eK J<|ap [] (F8 (b.getD (p + j) 0)) J J J J J J aj (.inl J) J J J<|bf (fun h30 => ?_) (fun h30 => ?_)
  ·refine aV J<|ab<|ai J<|ao<|ak<|aw<|ae ?_
   have hlt : j < ((b.drop p).takeWhile d9).length := uy hj1 h30 (by omega)
   have hd := isD_iff.1 h30
   refine aF<|aa J<|dA J J J J (by omega) (by omega) J J ?_
   refine aa J<|aa J<|cj bG eK J (by omega) (ek (n := p + j) (by omega)) J ?_
   refine bu eK J ?_
   refine fR ac J J eK bm J J (IntWalk.i64_in _ ⟨by omega, by omega⟩) J J ?_
   refine bh J (by omega) (by omega) J ?_
   refine bX J J J J (by omega) (by omega) J J ?_
   refine af J<|ab<|ae<|ag<|aa J<|aa J<|bW J J J J J (fun h43 => ?_) (fun h43 => ?_)
   ·refine aa J<|al J<|al J<|aV J<|ab<|ai J<|ag<|af J<|ab<|aF<|af J<|ab ?_
    refine aF<|aa J<|bh J (by omega) (by omega) J ?_
    refine af J<|ar<|aH ?_
    exact aT ⟨j + 1, 0, true⟩ (by show _ ∧ _ ∧ _ ∧ _ ∧ _; simp only [eS hlt, vH hlt]; cases g <;> simp_all <;> omega) (by show ((b.drop p).takeWhile d9).length - (j + 1) < ((b.drop p).takeWhile d9).length - j; omega) (aL ⟨rfl, rfl, rfl, rfl, (fJ rfl (by rfl)), rfl, aj⟩ aj rfl rfl rfl rfl)
   ·refine aa J<|aa J<|bW J J J J J (fun h46 => ?_) (fun h46 => ?_)
    ·refine aJ J<|ab<|ai J<|ag<|af J<|ab<|aF<|af J<|ab<|aF<|aa J<|bh J (by omega) (by omega) J ?_
     refine af J<|ar<|aH ?_
     exact aT ⟨j + 1, 0, true⟩ (by show _ ∧ _ ∧ _ ∧ _ ∧ _; simp only [eS hlt, vH hlt]; cases g <;> simp_all <;> omega) (by show ((b.drop p).takeWhile d9).length - (j + 1) < ((b.drop p).takeWhile d9).length - j; omega) (aL ⟨rfl, rfl, rfl, rfl, (fJ rfl (by rfl)), rfl, aj⟩ aj rfl rfl rfl rfl)
    ·refine aJ J<|ab<|ah J<|ao<|ak<|aF<|aa J<|bh J (by omega) (by omega) J ?_
     refine af J<|ar<|aH ?_
     exact aT ⟨j + 1, n * 10 + ((b.getD (p + j) 0).toNat : Int) - 48, g⟩ (by show _ ∧ _ ∧ _ ∧ _ ∧ _; simp only [eS hlt, vH hlt]; cases g <;> simp_all <;> omega) (by show ((b.drop p).takeWhile d9).length - (j + 1) < ((b.drop p).takeWhile d9).length - j; omega) (aL ⟨rfl, rfl, rfl, rfl, (fJ rfl (by rfl)), rfl, aj⟩ aj rfl rfl rfl rfl)
  ·refine aV J<|ab<|ah J<|aO<|ba (a8 (aP ?_))
   refine ak<|ae<|ae ?_
   have hex : cD d9 (b.drop p) = j := rG h hj1 (by exact .inr h30)
   refine aF<|aa J<|aa J<|bc J J J J J (fun h52 => ?_) (fun h52 => ?_)
   ·refine aa J<|al J<|al J<|al J<|al J<|al J<|al J<|al J<|al J<|al J<|al J<|al J<|aV J<|ab<|ai J ?_
    refine ag<|aa J<|af J<|af J<|af J<|ab<|am<|au (an J J ?_)
    have ht : ((b.drop p).takeWhile d9).take j = (b.drop p).takeWhile d9 := List.take_of_length_le (by omega)
    rw [ht] at hj4 hj5 hj6
    unfold bK
    simp only [fQ h hex]
    rw [hex]
    rw [if_pos (by omega)]; done
   ·refine aa J<|aa J<|aa J<|cj bG eK J (by omega) (ek (n := p) (by omega)) J ?_
    refine bu eK J<|bc J J J J J (fun h58 => ?_) (fun h58 => ?_)
    ·refine aa J<|aa J<|aa J<|bX J J J J (by omega) (by omega) J J ?_
     refine bW J J J J J (fun h63 => ?_) (fun h63 => ?_)
     ·refine aV J<|aJ J<|ab<|ai J<|ag<|aa J<|af J<|af J<|af J<|ab<|am<|au (an J J ?_)
      have ht : ((b.drop p).takeWhile d9).take j = (b.drop p).takeWhile d9 := List.take_of_length_le (by omega)
      rw [ht] at hj4 hj5 hj6
      unfold bK
      simp only [fQ h hex]
      rw [hex]
      rw [if_pos (by omega)]; done
     ·refine aV J<|aJ J<|ab<|ah J<|ao<|ak<|ae<|ag<|aa J<|bf (fun h67 => ?_) (fun h67 => ?_)
      ·refine ab<|ai J<|ag<|aa J<|af J<|af J<|af J<|ab<|am<|au (an J J ?_)
       have ht : ((b.drop p).takeWhile d9).take j = (b.drop p).takeWhile d9 := List.take_of_length_le (by omega)
       rw [ht] at hj4 hj5 hj6
       unfold bK
       simp only [fQ h hex]
       rw [hex]
       rw [if_neg (by omega), if_pos (hj6 (by assumption))]; done
      ·refine ab<|ah J<|ao<|ak<|ag<|aa J<|aa J<|af J<|af J<|af J<|ab<|am ?_
       refine an J J ?_
       have ht : ((b.drop p).takeWhile d9).take j = (b.drop p).takeWhile d9 := List.take_of_length_le (by omega)
       rw [ht] at hj4 hj5 hj6
       unfold bK
       simp only [fQ h hex]
       rw [hex]
       first
        | (rw [if_pos (by omega)]; done)
        | (rw [if_neg (by omega), if_pos (hj6 (by assumption))]; done)
        | (obtain ⟨rfl, hk⟩ := hj5 (by assumption)
           rw [if_neg (by omega), if_neg (by omega)])
    ·refine aa J<|al J<|al J<|al J<|al J<|aJ J<|aJ J<|ab<|ah J<|ao<|ak<|ae<|ag<|aa J ?_
     refine bf (fun h67 => ?_) (fun h67 => ?_)
     ·refine ab<|ai J<|ag<|aa J<|af J<|af J<|af J<|ab<|am<|au (an J J ?_)
      have ht : ((b.drop p).takeWhile d9).take j = (b.drop p).takeWhile d9 := List.take_of_length_le (by omega)
      rw [ht] at hj4 hj5 hj6
      unfold bK
      simp only [fQ h hex]
      rw [hex]
      rw [if_neg (by omega), if_pos (hj6 (by assumption))]; done
     ·refine ab<|ah J<|ao<|ak<|ag<|aa J<|aa J<|af J<|af J<|af J<|ab<|am ?_
      refine an J J ?_
      have ht : ((b.drop p).takeWhile d9).take j = (b.drop p).takeWhile d9 := List.take_of_length_le (by omega)
      rw [ht] at hj4 hj5 hj6
      unfold bK
      simp only [fQ h hex]
      rw [hex]
      first
       | (rw [if_pos (by omega)]; done)
       | (rw [if_neg (by omega), if_pos (hj6 (by assumption))]; done)
       | (obtain ⟨rfl, hk⟩ := hj5 (by assumption)
          rw [if_neg (by omega), if_neg (by omega)])
 ·refine aa J<|al J<|al J<|al J<|al J<|al J<|aJ J<|ab<|ah J<|aO<|ba (a8 (aP ?_))
  refine ak<|ae<|ae ?_
  have hex : cD d9 (b.drop p) = j := rG h hj1 (by exact .inl (by omega))
  refine aF<|aa J<|aa J<|bc J J J J J (fun h52 => ?_) (fun h52 => ?_)
  ·refine aa J<|al J<|al J<|al J<|al J<|al J<|al J<|al J<|al J<|al J<|al J<|al J<|aV J<|ab<|ai J ?_
   refine ag<|aa J<|af J<|af J<|af J<|ab<|am<|au (an J J ?_)
   have ht : ((b.drop p).takeWhile d9).take j = (b.drop p).takeWhile d9 := List.take_of_length_le (by omega)
   rw [ht] at hj4 hj5 hj6
   unfold bK
   simp only [fQ h hex]
   rw [hex]
   rw [if_pos (by omega)]; done
  ·refine aa J<|aa J<|aa J<|cj bG eK J (by omega) (ek (n := p) (by omega)) J ?_
   refine bu eK J<|bc J J J J J (fun h58 => ?_) (fun h58 => ?_)
   ·refine aa J<|aa J<|aa J<|bX J J J J (by omega) (by omega) J J ?_
    refine bW J J J J J (fun h63 => ?_) (fun h63 => ?_)
    ·refine aV J<|aJ J<|ab<|ai J<|ag<|aa J<|af J<|af J<|af J<|ab<|am<|au (an J J ?_)
     have ht : ((b.drop p).takeWhile d9).take j = (b.drop p).takeWhile d9 := List.take_of_length_le (by omega)
     rw [ht] at hj4 hj5 hj6
     unfold bK
     simp only [fQ h hex]
     rw [hex]
     rw [if_pos (by omega)]; done
    ·refine aV J<|aJ J<|ab<|ah J<|ao<|ak<|ae<|ag<|aa J<|bf (fun h67 => ?_) (fun h67 => ?_)
     ·refine ab<|ai J<|ag<|aa J<|af J<|af J<|af J<|ab<|am<|au (an J J ?_)
      have ht : ((b.drop p).takeWhile d9).take j = (b.drop p).takeWhile d9 := List.take_of_length_le (by omega)
      rw [ht] at hj4 hj5 hj6
      unfold bK
      simp only [fQ h hex]
      rw [hex]
      rw [if_neg (by omega), if_pos (hj6 (by assumption))]; done
     ·refine ab<|ah J<|ao<|ak<|ag<|aa J<|aa J<|af J<|af J<|af J<|ab<|am ?_
      refine an J J ?_
      have ht : ((b.drop p).takeWhile d9).take j = (b.drop p).takeWhile d9 := List.take_of_length_le (by omega)
      rw [ht] at hj4 hj5 hj6
      unfold bK
      simp only [fQ h hex]
      rw [hex]
      first
       | (rw [if_pos (by omega)]; done)
       | (rw [if_neg (by omega), if_pos (hj6 (by assumption))]; done)
       | (obtain ⟨rfl, hk⟩ := hj5 (by assumption)
          rw [if_neg (by omega), if_neg (by omega)])
   ·refine aa J<|al J<|al J<|al J<|al J<|aJ J<|aJ J<|ab<|ah J<|ao<|ak<|ae<|ag<|aa J ?_
    refine bf (fun h67 => ?_) (fun h67 => ?_)
    ·refine ab<|ai J<|ag<|aa J<|af J<|af J<|af J<|ab<|am<|au (an J J ?_)
     have ht : ((b.drop p).takeWhile d9).take j = (b.drop p).takeWhile d9 := List.take_of_length_le (by omega)
     rw [ht] at hj4 hj5 hj6
     unfold bK
     simp only [fQ h hex]
     rw [hex]
     rw [if_neg (by omega), if_pos (hj6 (by assumption))]; done
    ·refine ab<|ah J<|ao<|ak<|ag<|aa J<|aa J<|af J<|af J<|af J<|ab<|am ?_
     refine an J J ?_
     have ht : ((b.drop p).takeWhile d9).take j = (b.drop p).takeWhile d9 := List.take_of_length_le (by omega)
     rw [ht] at hj4 hj5 hj6
     unfold bK
     simp only [fQ h hex]
     rw [hex]
     first
      | (rw [if_pos (by omega)]; done)
      | (rw [if_neg (by omega), if_pos (hj6 (by assumption))]; done)
      | (obtain ⟨rfl, hk⟩ := hj5 (by assumption)
         rw [if_neg (by omega), if_neg (by omega)])
def fG (b : List UInt8) (p : Nat) (most : Int) : Int × Nat × Int :=
 if eL b p [45] = false then bK b (if eL b p [45] then p + 1 else p) most else if (bK b (if eL b p [45] then p + 1 else p) most).2.2 = 0 ∧ (bK b (if eL b p [45] then p + 1 else p) most).1 = 0 then (0, p, 2)
 else if (bK b (if eL b p [45] then p + 1 else p) most).2.2 ≠ 0 then (0, p, (bK b (if eL b p [45] then p + 1 else p) most).2.2) else (-(bK b (if eL b p [45] then p + 1 else p) most).1, (bK b (if eL b p [45] then p + 1 else p) most).2.1, 0)
theorem gv {b : List UInt8} {p : Nat} {most : Int} (h : p ≤ b.length) : p ≤ (bK b p most).2.1 ∧ (bK b p most).2.1 ≤ b.length := by
 have hl := fw d9 (b.drop p)
 have hdl : (b.drop p).length = b.length - p := List.length_drop
 unfold bK
 split
 ·exact ⟨Nat.le_refl _, h⟩
 ·split
  ·exact ⟨Nat.le_refl _, h⟩
  ·exact ⟨Nat.le_add_right _ _, by show p + _ ≤ _; omega⟩
theorem zK {b s : List UInt8} {p : Nat} (h : p ≤ b.length) : (if eL b p s then p + s.length else p) ≤ b.length := by
 split
 ·rename_i hw; exact c9 h hw
 ·exact h
theorem xS (b : List UInt8) (p : Nat) (most : Int) : (bK b p most).2.2 = 0 ∨ (bK b p most).2.2 = 2 ∨ (bK b p most).2.2 = 3 := by
 unfold bK; split
 ·exact .inr (.inl rfl)
 ·split
  ·exact .inr (.inr rfl)
  ·exact .inl rfl
theorem tC {l : List UInt8} (hl : ∀ (i : Nat) x, l[i]? = some x → d9 x = true) : 0 ≤ gD l := by
 have := qj hl (n := l.length) (i := 0) (by omega) (by simp [gD])
 simpa [gD] using this
theorem g7 (b : List UInt8) (p : Nat) (most : Int) : 0 ≤ (bK b p most).1 ∧ (bK b p most).1 ≤ 2147483647 ∧ ((bK b p most).2.2 = 0 → (bK b p most).1 ≤ most) ∧ ((bK b p most).2.2 = 0 → p < (bK b p most).2.1) := by
 have h0 := tC (l := (b.drop p).takeWhile d9) vY
 unfold bK
 split
 ·exact ⟨Int.le_refl _, (by show (0:Int) ≤ 2147483647; decide), (fun h => absurd h (by show ¬ (2:Int) = 0; decide)), (fun h => absurd h (by show ¬ (2:Int) = 0; decide))⟩
 ·rename_i hb
  split
  ·exact ⟨Int.le_refl _, (by show (0:Int) ≤ 2147483647; decide), (fun h => absurd h (by show ¬ (3:Int) = 0; decide)), (fun h => absurd h (by show ¬ (3:Int) = 0; decide))⟩
  ·rename_i h
   exact ⟨h0, (by show gD _ ≤ _; omega), (fun _ => by show gD _ ≤ _; omega), (fun _ => by show p < p + _; have : cD d9 (b.drop p) ≠ 0 := fun e => hb (.inl e); omega)⟩
theorem AC (b : List UInt8) (p : Nat) (most : Int) (h : p ≤ b.length) (hb : b.length ≤ 1000000000000) (hm : -1 ≤ most) (hm2 : most ≤ 1000000000000) : dn 146 [cH b, .int .i64 p, .int .i64 most] (xN (fG b p most)) := by
 refine bC ac (f := 146) (fn := Tryz.f146) (N := 54) (rs := [.tmp 6, .tmp 7, .tmp 8]) (by kernel_rfl) rfl (by kernel_rfl) rfl rfl [(0, .v (cH b)), (1, .v (.int .i64 p)), (2, .v (.int .i64 most))] ⟨rfl, rfl, rfl, aj⟩ rfl rfl ?_
 intro B
 have hq : (if eL b p [45] then p + 1 else p) ≤ b.length := zK (s := [45]) h
 have hv := g7 b (if eL b p [45] then p + 1 else p) most
 have hc := xS b (if eL b p [45] then p + 1 else p) most
 refine ag<|af J<|af J<|af J<|ab<|ae<|ag<|aa J<|aa J<|ap [] (rx b p h) J J J J J J aj (.inl J) J J J<|s9 (d' := .v (.bool true)) (congrArg (fun b => D.v (V.bool b)) J)<|bL J<|ar ?_
 refine ak<|ah J<|ao<|ak<|ag<|aa J<|aa J<|ap [] (o5 b [45] p h hb (by decide)) J J J J J J aj (.inl J) J J J ?_
 refine aa J<|aW J<|aW J<|bf (fun h23 => ?_) (fun h23 => ?_)
 ·refine af J<|af J<|ab<|ag<|aa J<|aa J<|aa J<|ap [] (mv b (if eL b p [45] then p + 1 else p) most hq hb hm hm2) J J J J J J aj (.inl J) J J J<|aa J<|aW J<|aW J<|aW J<|af J<|af J ?_
  refine af J<|ab<|ae<|aw<|ag<|aa J<|bL J<|af J<|ab<|ah J<|ag<|aa J ?_
  refine bc J J J J J (fun h40 => ?_) (fun h40 => ?_)
  ·refine aa J<|aa J<|bc J J J J J (fun h43 => ?_) (fun h43 => ?_)
   ·refine aV J<|af J<|ab<|ai J<|ag<|aa J<|af J<|af J<|af J<|ab<|am<|az (au (an J J ?_))
    unfold fG; simp_all; done
   ·refine aV J<|af J<|ab<|ah J<|ag<|aa J<|bt J J J J J (fun h48 => ?_) (fun h48 => ?_)
    ·refine af J<|ab<|ai J<|ag<|aa J<|aa J<|af J<|af J<|af J<|ab<|am<|az (au (an J J ?_))
     exfalso; omega
    ·refine af J<|ab<|ah J<|ao<|aH<|ak<|ag<|aa J<|kA J J J (by omega) (by omega) J J ?_
     refine aa J<|af J<|af J<|af J<|ab<|am ?_
     refine an J J ?_
     unfold fG; simp_all; done
  ·refine aa J<|al J<|al J<|aJ J<|af J<|ab<|ah J<|ag<|aa J<|bt J J J J J (fun h48 => ?_) (fun h48 => ?_)
   ·refine af J<|ab<|ai J<|ag<|aa J<|aa J<|af J<|af J<|af J<|ab<|am<|az (au (an J J ?_))
    unfold fG; simp_all; done
   ·refine af J<|ab<|ah J<|ao<|aH<|ak<|ag<|aa J<|kA J J J (by omega) (by omega) J J ?_
    refine aa J<|af J<|af J<|af J<|ab<|am ?_
    refine an J J ?_
    exfalso; omega
 ·refine af J<|af J<|ab<|ag<|aa J<|aa J<|aa J<|ap [] (mv b (if eL b p [45] then p + 1 else p) most hq hb hm hm2) J J J J J J aj (.inl J) J J J<|aa J<|aW J<|aW J<|aW J<|af J<|af J ?_
  refine af J<|ab<|ae<|aw<|ag<|aa J<|bL J<|af J<|ab<|ai J<|ag<|aa J ?_
  refine aa J<|aa J<|af J<|af J<|af J<|ab<|am<|az (au (an J J ?_))
  unfold fG; simp_all; done
end Go.Vd
namespace Go.Vd
open Go.Proofs Go.RowKit
structure At where
 p : Nat
 bad : Int
 deriving Inhabited, DecidableEq
abbrev eY (b : List UInt8) (x : At) : List V := [cH b, .int .i64 x.p, .int .i64 x.bad]
abbrev np (b : List UInt8) (x : At) : V := .agg (eY b x)
def bS (b : List UInt8) (x : At) (s : List UInt8) : At := if x.bad ≠ 0 then x else if eL b x.p s then ⟨x.p + s.length, 0⟩ else ⟨x.p, 2⟩
def ix (b : List UInt8) (x : At) (most : Int) : Int × At := if x.bad ≠ 0 then (0, x) else ((bK b x.p most).1, ⟨(bK b x.p most).2.1, (bK b x.p most).2.2⟩)
def vh (b : List UInt8) (x : At) : At := if x.bad = 0 ∧ x.p < b.length then ⟨x.p, 2⟩ else x
def cN (b : List UInt8) (x : At) (most : Int) (s : List UInt8) : Int × At := ((ix b x most).1, bS b (ix b x most).2 s)
theorem cE {b : List UInt8} {x : At} {s : List UInt8} (h : x.p ≤ b.length) : (bS b x s).p ≤ b.length := by
 unfold bS
 split
 ·exact h
 ·split
  ·rename_i hw; exact c9 h hw
  ·exact h
theorem re {b : List UInt8} {x : At} {most : Int} (h : x.p ≤ b.length) : (ix b x most).2.p ≤ b.length := by
 unfold ix
 split
 ·exact h
 ·exact (gv h).2
theorem numS_val {b : List UInt8} {x : At} {most : Int} : 0 ≤ (ix b x most).1 ∧ (ix b x most).1 ≤ 2147483647 ∧ ((ix b x most).2.bad = 0 → (ix b x most).1 ≤ most) := by
 unfold ix
 split
 ·rename_i h; exact ⟨Int.le_refl _, (by show (0:Int) ≤ 2147483647; decide), fun h' => absurd h' h⟩
 ·have := g7 b x.p most; exact ⟨this.1, this.2.1, this.2.2.1⟩
theorem cQ {b : List UInt8} {x : At} {most : Int} {s : List UInt8} (h : x.p ≤ b.length) : (cN b x most s).2.p ≤ b.length := cE (re h)
theorem EW (b : List UInt8) (x : At) : (vh b x).p = x.p := by unfold vh; split <;> rfl
def oF (n : Nat) : List UInt8 := if h : n < 10 then [UInt8.ofNat (48 + n)] else oF (n / 10) ++ [UInt8.ofNat (48 + n % 10)]
termination_by n
decreasing_by omega
def cy (n : Int) : List UInt8 := if n < 0 then 45 :: oF n.natAbs else oF n.toNat
theorem A0 : ∀ (k n : Nat), n < 10 ^ (k + 1) → (oF n).length ≤ k + 1 := by
 intro k
 induction k with
 | zero => intro n h; unfold oF; rw [dif_pos (by simpa using h)]; simp
 | succ k ih =>
   intro n h
   unfold oF
   split
   ·simp
   ·have := ih (n / 10) (by rw [Nat.div_lt_iff_lt_mul (by decide)]; rw [Nat.pow_succ] at h; exact h)
    simp; omega
theorem xf (n : Nat) (h : n ≤ 9223372036854775808) : (oF n).length ≤ 19 := A0 18 n (by omega)
theorem fP (n : Int) (h : -9223372036854775807 ≤ n) (h' : n ≤ 9223372036854775807) : (cy n).length ≤ 20 := by
 unfold cy
 split
 ·have := xf n.natAbs (by omega); simp; omega
 ·have := xf n.toNat (by omega); omega
theorem zJ {n : Int} (h0 : 0 ≤ n) (h : n < 10) : cy n = [UInt8.ofNat (48 + n.toNat)] := by
 unfold cy oF
 rw [if_neg (by omega), dif_pos (by omega)]
theorem xR {n : Int} (h : ¬ n < 10) : cy n = cy (n.tdiv 10) ++ [UInt8.ofNat (48 + (n.tmod 10).toNat)] := by
 have e1 : n.tdiv 10 = n / 10 := Int.tdiv_eq_ediv_of_nonneg (by omega)
 have e2 : n.tmod 10 = n % 10 := Int.tmod_eq_emod_of_nonneg (by omega)
 rw [e1, e2]
 unfold cy
 rw [if_neg (by omega), if_neg (by omega)]
 conv => lhs; unfold oF
 rw [dif_neg (by omega)]
 congr 3
 ·omega
 ·congr 2; omega
theorem lF (b s : List UInt8) (x : At) (h : x.p ≤ b.length) (hb : b.length ≤ 1000000000000) (hs : s.length ≤ 1000000000000) : dn 11 [np b x, .str (bs s)] (np b (bS b x s)) := by
 refine bC ac (f := 11) (fn := Tryz.f11) (N := 26) (rs := [.cell 4 49]) (by kernel_rfl) rfl (by kernel_rfl) rfl rfl [(0, .v (np b x)), (1, .v (.str (bs s)))] ⟨rfl, rfl, aj⟩ rfl rfl ?_
 intro B
 refine ag<|bE 2 [] J J J ⟨J, aj⟩ J J J<|bl (id := 4) aM J<|ab<|ae<|ag<|ax aM J<|aC bm J<|bt J J J J J (fun h9 => ?_) (fun h9 => ?_)
 ·refine ab<|ai J<|ag<|a7 aM J<|aR aM [] J aj J<|ab<|am<|au (an J J ?_)
  unfold bS
  simp_all
 ·refine ab<|ah J<|ao<|ak<|ag<|ax aM J<|aC bG J<|ax aM J<|aC bm J<|aa J<|ap [] (CQ b s x.p h hb hs) J J J J J J aj (.inl J) J J J<|aa J<|aW J<|aW J ?_
  refine bf (fun h19 => ?_) (fun h19 => ?_)
  ·refine af J<|af J<|ab<|ag<|aa J<|ax aM J<|aR bm [] J aj J<|ab<|ae<|ag<|aa J<|bL J ?_
   refine ab<|ah J<|ao<|ak<|ag<|a7 aM J<|aR aM [] J aj J<|ab<|am ?_
   refine an J J ?_
   unfold bS
   simp_all
  ·refine af J<|af J<|ab<|ag<|aa J<|ax aM J<|aR bm [] J aj J<|ab<|ae<|ag<|aa J<|bL J ?_
   refine ab<|ai J<|aF<|ax aM J<|aR bm [] J aj J<|ab<|ag<|a7 aM J<|aR aM [] J aj J<|ab<|am ?_
   refine an J J ?_
   unfold bS
   simp_all
theorem Cy (b : List UInt8) (x : At) (most : Int) (h : x.p ≤ b.length) (hb : b.length ≤ 1000000000000) (hm : -1 ≤ most) (hm2 : most ≤ 1000000000000) : dn 17 [np b x, .int .i64 most] (.tup [.int .i64 (ix b x most).1, np b (ix b x most).2]) := by
 refine bC ac (f := 17) (fn := Tryz.f17) (N := 29) (rs := [.tmp 4, .cell 5 49]) (by kernel_rfl) rfl (by kernel_rfl) rfl rfl [(0, .v (np b x)), (1, .v (.int .i64 most))] ⟨rfl, rfl, aj⟩ rfl rfl ?_
 intro B
 refine ag<|bE 2 [] J J J ⟨J, aj⟩ J J J<|af J<|bl (id := 5) aM J<|ab<|ae<|ag<|ax aM J<|aC bm J<|bt J J J J J (fun h11 => ?_) (fun h11 => ?_)
 ·refine ab<|ai J<|ae<|aS (L := [([2], []), ([], []), ([5], [5])]) (by kernel_rfl) mixed (by kernel_rfl)<|a7 aM J<|af J<|aR aM [] J aj J<|ab<|am<|au (an J J ?_)
  unfold ix
  simp_all
 ·refine ab<|ah J<|ao<|ak<|ag<|ax aM J<|aC bG J<|ax aM J<|aC bm J<|aa J<|ap [] (Gs b x.p most h hb hm hm2) J J J J J J aj (.inl J) J J J<|aa J<|aW J<|aW J ?_
  refine aW J<|af J<|af J<|af J<|ab<|ag<|aa J<|ax aM J<|aR bm [] J aj J<|ab<|ag<|aa J ?_
  refine ax aM J<|aR bm [] J aj J<|ab<|ae<|aS (L := [([], []), ([2], []), ([], []), ([5], [5])]) (by kernel_rfl) mixed (by kernel_rfl)<|aa J<|a7 aM J<|af J<|aR aM [] J aj J<|ab<|am ?_
  refine an J J ?_
  unfold ix
  simp_all
theorem HR (b : List UInt8) (x : At) : dn 20 [np b x] (np b (vh b x)) := by
 refine bC ac (f := 20) (fn := Tryz.f20) (N := 16) (rs := [.cell 2 49]) (by kernel_rfl) rfl (by kernel_rfl) rfl rfl [(0, .v (np b x))] ⟨rfl, aj⟩ rfl rfl ?_
 intro B
 refine ag<|bE 1 [] J J J ⟨J, aj⟩ J J J<|bl (id := 2) aM J<|ab<|ae<|ag<|ax aM J<|aC bm J<|bc J J J J J (fun h5 => ?_) (fun h5 => ?_)
 ·refine aa J<|ax aM J<|aC bm J<|ax aM J<|aC bG J<|aI ac J J bG J aB J J<|bj J (fun h12 => ?_) (fun h12 => ?_)
  ·refine aV J<|ab<|ai J<|aF<|ax aM J<|aR bm [] J aj J<|ab<|ag<|a7 aM J<|aR aM [] J aj J<|ab<|am ?_
   refine an J J ?_
   unfold vh
   rw [if_pos ⟨by omega, by omega⟩]; done
  ·refine aV J<|ab<|ah J<|ao<|ak<|ag<|a7 aM J<|aR aM [] J aj J<|ab<|am ?_
   refine an J J ?_
   unfold vh
   rw [if_neg (by omega)]; done
 ·refine aa J<|al J<|al J<|al J<|al J<|al J<|al J<|aJ J<|ab<|ah J<|ao<|ak<|ag<|a7 aM J ?_
  refine aR aM [] J aj J<|ab<|am ?_
  refine an J J ?_
  unfold vh
  rw [if_neg (by omega)]; done
theorem ju (b s : List UInt8) (x : At) (most : Int) (h : x.p ≤ b.length) (hb : b.length ≤ 1000000000000) (hm : -1 ≤ most) (hm2 : most ≤ 1000000000000) (hs : s.length ≤ 1000000000000) : dn 15 [np b x, .int .i64 most, .str (bs s)] (.tup [.int .i64 (cN b x most s).1, np b (cN b x most s).2]) := by
 refine bC ac (f := 15) (fn := Tryz.f15) (N := 20) (rs := [.tmp 6, .cell 7 49]) (by kernel_rfl) rfl (by kernel_rfl) rfl rfl [(0, .v (np b x)), (1, .v (.int .i64 most)), (2, .v (.str (bs s)))] ⟨rfl, rfl, rfl, aj⟩ rfl rfl ?_
 intro B
 refine ag<|bE 3 [] J J J ⟨J, aj⟩ J J J<|af J<|bl (id := 7) aM J<|ab<|ag<|a7 aM J<|aa J<|ap [] (Cy b x most h hb hm hm2) J J J J J J aj (.inl J) J J J<|aa J<|aW J<|aW J<|bl (id := 9) aM J ?_
 refine af J<|aR aM [] J aj J<|ab<|ag<|aa J<|a7 aM J<|aa J<|ap [] (lF b s (ix b x most).2 (re h) hb hs) J J J J J J aj (.inl J) J J J<|af J<|aR aM [] J aj J<|ab<|am ?_
 refine an J J ?_
 rfl
theorem Ad {r : Int} (h : 0 ≤ r) (h2 : r < 10) : jw ti5.size 1 ((fun x => V.int .u8 (48 + r) :: x) []) = [UInt8.ofNat (48 + r.toNat)].map bV := by
 have : ((UInt8.ofNat (48 + r.toNat)).toNat : Int) = 48 + r := by rw [UInt8.toNat_ofNat']; omega
 show [[V.int .u8 (48 + r)]] = [[V.int .u8 _]]
 rw [this]
def IV : Prop := ∀ n : Int, -9223372036854775807 ≤ n → n ≤ 9223372036854775807 → PCall Tryz.prog 5 [.int .i64 n] (.str (bs (cy n)))
theorem Dq (n : Int) (h1 : -9223372036854775807 ≤ n) (h2 : n ≤ 9223372036854775807) (ih : ∀ m : Int, -9223372036854775807 ≤ m → m ≤ 9223372036854775807 → (0 ≤ m ∧ (n < 0 ∨ m < n)) → PCall Tryz.prog 5 [.int .i64 m] (.str (bs (cy m)))) : dn 5 [.int .i64 n] (.str (bs (cy n))) := by
 refine bC ac (f := 5) (fn := Tryz.f5) (N := 24) (rs := [.tmp 2]) (by kernel_rfl) rfl (by kernel_rfl) rfl rfl [(0, .v (.int .i64 n))] ⟨rfl, aj⟩ rfl rfl ?_
 intro B
 have e1 : 0 ≤ n → n.tdiv 10 = n / 10 := fun h => Int.tdiv_eq_ediv_of_nonneg h
 have e2 : 0 ≤ n → n.tmod 10 = n % 10 := fun h => Int.tmod_eq_emod_of_nonneg h
 refine ag<|af J<|ab<|ae<|ag<|aa J<|bj J (fun h5 => ?_) (fun h5 => ?_)
 ·refine ab<|ai J<|ag<|aa J<|kA J J J (by omega) (by omega) J J ?_
  refine ap [] (ih (0 - n) (by omega) (by omega) (by omega)) J J J J J J aj (.inl J) J J J ?_
  refine gx J J J (by have := fP (0 - n) (by omega) (by omega); show 1 + _ ≤ _; omega) J J ?_
  refine af J<|ab<|am<|au (an J J ?_)
  rw [show cy n = 45 :: cy (0 - n) from by
   unfold cy; rw [if_pos (by omega), if_neg (by omega)]; congr 2; omega]
  rfl
 ·refine ab<|ah J<|ao<|ak<|ag<|aa J<|yO J J J (by decide) J J J ?_
  refine bh J (by omega) (by omega) J ?_
  refine fR ac J J bm eK J J (IntWalk.u8_in _ ⟨by omega, by omega⟩) J J ?_
  refine Dh (es := [UInt8.ofNat (48 + (n.tmod 10).toNat)].map bV) [] ac J bG J eK J aj J J J J (Ad (by omega) (by omega)) J J J ?_
  refine gV ac J bG fH J eK J J J J J<|af J<|ab<|ae<|ag<|aa J<|bj J (fun h17 => ?_) (fun h17 => ?_)
  ·refine ab<|ai J<|ag<|aa J<|af J<|ab<|am<|au (an J J ?_)
   rw [zJ (by omega) (by omega), show n.tmod 10 = n from by rw [e2 (by omega)]; omega]
  ·refine ab<|ah J<|ao<|ak<|ag<|aa J ?_
   refine l8 J J J (by decide) (IntWalk.i64_in _ ⟨by omega, by omega⟩) J J ?_
   refine ap [] (ih (n.tdiv 10) (by omega) (by omega) (by omega)) J J J J J J aj (.inl J) J J J ?_
   refine aa J ?_
   refine gx J J J (by have := fP (n.tdiv 10) (by omega) (by omega); show _ + 1 ≤ _; omega) J J ?_
   refine af J<|ab<|am ?_
   refine an J J ?_
   rw [xR (n := n) (by omega)]
theorem HG (n : Int) (h1 : -9223372036854775807 ≤ n) (h2 : n ≤ 9223372036854775807) : dn 5 [.int .i64 n] (.str (bs (cy n))) := by
 have pos : ∀ k : Nat, ∀ n : Int, 0 ≤ n → n < k → n ≤ 9223372036854775807 → PCall Tryz.prog 5 [.int .i64 n] (.str (bs (cy n))) := by
  intro k
  induction k with
  | zero => intro n h h'; omega
  | succ k ih => intro n h h' h2; exact Dq n (by omega) h2 fun m a b c => ih m c.1 (by omega) b
 exact Dq n h1 h2 fun m a b c => pos (m.toNat + 1) m c.1 (by omega) b
theorem y7 (n : Int) (s : List UInt8) (h1 : -1000000000000 ≤ n) (h2 : n ≤ 1000000000000) (hs : s.length ≤ 1000000000000) : dn 12 [.int .i64 n, .str (bs s)] (.str (bs (cy n ++ s))) := by
 refine bC ac (f := 12) (fn := Tryz.f12) (N := 9) (rs := [.tmp 4]) (by kernel_rfl) rfl (by kernel_rfl) rfl rfl [(0, .v (.int .i64 n)), (1, .v (.str (bs s)))] ⟨rfl, rfl, aj⟩ rfl rfl ?_
 intro B
 refine ag<|af J<|ab<|ag<|aa J<|ap [] (HG n (by omega) (by omega)) J J J J J J aj (.inl J) J J J ?_
 refine aa J ?_
 refine gx J J J (by have := fP n (by omega) (by omega); omega) J J ?_
 refine af J<|ab<|am ?_
 refine an J J ?_
 rfl
theorem C6 (e : Int) : dn 56 [.int .i64 e] (.tup [.str (bs (if e = 0 then [111, 107, 10] else [])), .int .i64 e]) := by
 refine bC ac (f := 56) (fn := Tryz.f56) (N := 7) (rs := [.tmp 2, .tmp 3]) (by kernel_rfl) rfl (by kernel_rfl) rfl rfl [(0, .v (.int .i64 e))] ⟨rfl, aj⟩ rfl rfl ?_
 intro B
 refine ag<|af J<|af J<|ab<|ae<|ag<|aa J<|bt J J J J J (fun h5 => ?_) (fun h5 => ?_)
 ·refine ab<|ai J<|ag<|aa J<|af J<|af J<|ab<|am<|au (an J J ?_)
  (simp_all <;> rfl)
 ·refine ab<|ah J<|ao<|ak<|ag<|af J<|af J<|ab<|am ?_
  refine an J J ?_
  (simp_all <;> rfl)
theorem HE (s : List UInt8) (e : Int) : dn 51 [.str (bs s), .int .i64 e] (.tup [.str (bs (if e = 0 then s else [])), .int .i64 (if e = 0 then 0 else 3)]) := by
 refine bC ac (f := 51) (fn := Tryz.f51) (N := 9) (rs := [.tmp 4, .tmp 5]) (by kernel_rfl) rfl (by kernel_rfl) rfl rfl [(0, .v (.str (bs s))), (1, .v (.int .i64 e))] ⟨rfl, rfl, aj⟩ rfl rfl ?_
 intro B
 refine ag<|af J<|af J<|ab<|ae<|ag<|aa J<|bt J J J J J (fun h7 => ?_) (fun h7 => ?_)
 ·refine ab<|ai J<|ag<|af J<|af J<|ab<|am<|au (an J J ?_)
  (simp_all <;> rfl)
 ·refine ab<|ah J<|ao<|ak<|ag<|aa J<|af J<|af J<|ab<|am ?_
  refine an J J ?_
  (simp_all <;> rfl)
end Go.Vd
namespace Go.Vd
open Go.Proofs Go.RowKit
theorem Bn (s : ByteArray) (p k : Nat) : (s.extract p s.size).get! k = s.get! (p + k) := by
 show (s.extract p s.size).data[k]! = s.data[p + k]!
 rw [ByteArray.data_extract, show s.size = s.data.size from rfl]
 by_cases h : p + k < s.data.size
 ·have h2 : k < (s.data.extract p s.data.size).size := by rw [Array.size_extract]; omega
  rw [getElem!_pos (s.data.extract p s.data.size) k h2, getElem!_pos s.data (p + k) h, Array.getElem_extract]
 ·have h2 : ¬ k < (s.data.extract p s.data.size).size := by rw [Array.size_extract]; omega
  rw [getElem!_neg (s.data.extract p s.data.size) k h2, getElem!_neg s.data (p + k) h]
theorem vW (s : ByteArray) (p : Nat) (h : p < s.size) : Lib.decodeGo (s.extract p s.size) = Utf8.decode s p := by
 have hs : (s.extract p s.size).size = s.size - p := by simp
 unfold Lib.decodeGo
 rw [if_neg (by omega)]
 unfold Utf8.decode
 simp only [Bn, hs, Nat.zero_add]
 have e : ∀ k, decide (k < s.size - p) = decide (p + k < s.size) := fun k => by
  by_cases hk : k < s.size - p
  ·rw [decide_eq_true hk, decide_eq_true (by omega)]
  ·rw [decide_eq_false hk, decide_eq_false (by omega)]
 simp only [e, Nat.add_zero]
theorem lY (s : ByteArray) (p : Nat) (h : p < s.size) : 1 ≤ (Utf8.decode s p).2 := by
 by_cases ha : (s[p]'h).toNat < 128
 ·rw [decode_ascii s p h ha]; exact Nat.le_refl _
 ·exact (decode_high s p h (by omega)).2
theorem tH (s : ByteArray) (p : Nat) : (Utf8.decode s p).2 ≤ 4 := by
 simp only [Utf8.decode]
 repeat' split
 all_goals simp
def yG (d : Nat × Nat) : Bool := !(decide (d.1 < 32) || decide (d.1 = 127) || (decide (d.1 = 65533) && decide (d.2 = 1)))
theorem okR_iff {d : Nat × Nat} : yG d = true ↔ 32 ≤ d.1 ∧ d.1 ≠ 127 ∧ ¬ (d.1 = 65533 ∧ d.2 = 1) := by
 unfold yG
 simp only [Bool.not_eq_true', Bool.or_eq_false_iff, decide_eq_false_iff_not, Bool.and_eq_false_imp, decide_eq_true_eq]
 omega
theorem ze {d : Nat × Nat} (h : ¬ (32 ≤ d.1 ∧ d.1 ≠ 127 ∧ ¬ (d.1 = 65533 ∧ d.2 = 1))) : yG d = false := by
 rw [Bool.eq_false_iff]; exact fun h' => h (okR_iff.1 h')
def gI (s : ByteArray) : Nat → Nat → Nat → Option Nat
 | 0, _, m => some m
 | k + 1, p, m => if p < s.size then if yG (Utf8.decode s p) then gI s k (p + (Utf8.decode s p).2) (m + 1) else none else some m
def jD (s : ByteArray) : Bool := match gI s s.size 0 0 with
 | some m => decide (0 < m) && decide (m ≤ 40)
 | none => false
theorem qm {s : ByteArray} {k p m : Nat} (h : ¬ p < s.size) : gI s k p m = some m := by
 cases k with
 | zero => rfl
 | succ k => simp [gI, h]
def ItAt (s : ByteArray) (w w' : World) (p : Nat) : Prop := Below w.heap.size w w' ∧ w'.heap[w.heap.size]? = some (.stringIter s p)
theorem ItAt.next {s : ByteArray} {w w' : World} {p : Nat} (h : ItAt s w w' p) (hp : p < s.size) (P : Program) (ty : TypeId) :
 (Instr.next (.pointer (some ⟨w.heap.size, 0, none⟩)) true ty).run P w' = .ok (.tuple #[.bool true, .int .i64 p, .int .i32 (Utf8.decode s p).1]) (w'.putObj w.heap.size (.stringIter s (p + (Utf8.decode s p).2))) := by
 simp only [Instr.next, getObj, setObj, Sem.run_bind, Sem.run, h.2, Result.andThen, hp, if_true]
 simp [goInt, World.putObj, Sem.run, h.2]
theorem ItAt.stop {s : ByteArray} {w w' : World} {p : Nat} (h : ItAt s w w' p) (hp : ¬ p < s.size) (P : Program) (ty : TypeId) :
 (Instr.next (.pointer (some ⟨w.heap.size, 0, none⟩)) true ty).run P w' = .ok (.tuple #[.bool false]) w' := by
 simp [Instr.next, getObj, Sem.run, h.2, hp]
theorem ItAt.put {s : ByteArray} {w w' : World} {p q : Nat} (h : ItAt s w w' p) : ItAt s w (w'.putObj w.heap.size (.stringIter s q)) q := by
 have hlt : w.heap.size < w'.heap.size := (Array.getElem?_eq_some_iff.1 h.2).1
 refine ⟨⟨h.1.os, h.1.tape, h.1.output, by show w.heap.size ≤ _; simp [World.putObj]; exact h.1.size, fun b hb => ?_⟩, World.putObj_heap_same hlt⟩
 rw [World.putObj_heap_other (by omega)]; exact h.1.block b hb
theorem ItAt.call {s : ByteArray} {w w' w'' : World} {p : Nat} (h : ItAt s w w' p) (hb : Below w'.heap.size w' w'') : ItAt s w w'' p := by
 have hlt : w.heap.size < w'.heap.size := (Array.getElem?_eq_some_iff.1 h.2).1
 exact ⟨h.1.trans (hb.mono (by omega)), (hb.block _ hlt).trans h.2⟩
theorem ItAt.glob {s : ByteArray} {w w' : World} {p : Nat} (h : ItAt s w w' p) (hG : Glob w) : Glob w' :=
 hG.stays h.1.size fun g hg => h.1.block g (by have := hG.1; omega)
set_option maxRecDepth 1000000 in
set_option maxHeartbeats 4000000 in
theorem s8 (s : ByteArray) (w : World) (hG : Glob w) (hs : s.size ≤ 1000000000000) : Calls Tryz.prog 231 #[.string s] w fun e w' => e = .returned (.bool (jD s)) ∧ Below w.heap.size w w' := by
 go_enter Tryz.func231, Tryz.ntmps231
 go_wp2
 go_loopw [3] (fun n w' => ∃ (p k m : Nat), ItAt s w w' p ∧ n = .int .i64 m ∧ gI s k p m = gI s s.size 0 0 ∧ s.size ≤ p + k ∧ m ≤ p ∧ p ≤ s.size + 4) (fun _ w' => s.size - w'.iterPos w.heap.size)
 case atStart =>
  refine ⟨0, s.size, 0, ⟨?_, World.iter_heap w s 0⟩, rfl, rfl, by omega, by omega, by omega⟩
  exact (Below.refl _ w).alloc (Nat.le_refl _) _
 case round =>
  obtain ⟨p, k, m, hI, rfl, hc, hb, hm, hp4⟩ := hrel
  by_cases hp : p < s.size
  ·obtain ⟨k, rfl⟩ : ∃ k', k = k' + 1 := ⟨k - 1, by omega⟩
   have hstep : gI s (k + 1) p m = if yG (Utf8.decode s p) then gI s k (p + (Utf8.decode s p).2) (m + 1) else none := by simp [gI, hp]
   have hno : yG (Utf8.decode s p) = false → jD s = false := fun hk => by unfold jD; rw [← hc, hstep, if_neg (by rw [hk]; decide)]
   have hit : wr.iterPos w.heap.size = p := by simp [World.iterPos, hI.2]
   have hwd := lY s p hp
   have hw4 := tH s p
   have hnx : ∀ ty, (Instr.next (.pointer (some ⟨w.heap.size, 0, none⟩)) true ty).run Tryz.prog _ = _ := fun ty => hI.next hp Tryz.prog ty
   obtain ⟨w2, hw2, hI2⟩ : ∃ w2, wr.putObj w.heap.size (.stringIter s (p + (Utf8.decode s p).2)) = w2 ∧ ItAt s w w2 (p + (Utf8.decode s p).2) := ⟨_, rfl, hI.put⟩
   rw [hw2] at hnx
   clear hw2 hI
   have g1 : (0 : Int) ≤ (p : Int) := by omega
   have g2 : (p : Int) ≤ (s.size : Int) := by omega
   have hdc := vW s p hp
   have hTb := (hI2.glob hG).2.2.2
   go_wp2_with (go_at_call 282; refine (Tryz.utf8_DecodeRuneInString _ _ hTb).mono ?_; rintro e w' ⟨rfl, hb'⟩)
   all_goals have hI3 := hI2.call hb'
   all_goals have hit3 : w'.iterPos w.heap.size = p + (Utf8.decode s p).2 := by simp [World.iterPos, hI3.2]
   all_goals try simp only [beq_eq_false_iff_ne, beq_iff_eq, ne_eq] at *
   all_goals first
    | (go_ret
       exact ⟨by rw [hno (ze (by omega))]; rfl, hI3.1⟩)
    | (have hk : yG (Utf8.decode s p) = true := okR_iff.2 (by omega)
       rw [if_pos hk] at hstep
       exact ⟨⟨p + (Utf8.decode s p).2, k, m + 1, hI3, by rfl, by rw [← hstep]; exact hc, by omega, by omega, by omega⟩, by rw [hit, hit3]; omega⟩)
  ·have hnx : ∀ ty, (Instr.next (.pointer (some ⟨w.heap.size, 0, none⟩)) true ty).run Tryz.prog _ = _ := fun ty => hI.stop hp Tryz.prog ty
   have hv : jD s = (decide (0 < m) && decide (m ≤ 40)) := by unfold jD; rw [← hc, qm hp]
   go_wp2
   all_goals (go_ret; exact ⟨congrArg (fun b => Ending.returned (.bool b)) (by rw [hv, Bool.eq_iff_iff]; simp only [Bool.and_eq_true, decide_eq_true_eq, Bool.false_eq_true, false_iff]; omega), hI.1⟩)
end Go.Vd
namespace Go.Vd
open Go.Proofs Go.RowKit
theorem Ab (l : List UInt8) (hl : l.length ≤ 1000000000000) : dn 231 [.str (bs l)] (.bool (jD (bs l))) := by
 refine ⟨cJ (fn := Tryz.f231) (by kernel_rfl) rfl (by kernel_rfl), fun w im us hG hp => ?_⟩
 obtain ⟨u, rfl, hu⟩ := H2 hp
 cases hu.str_inv
 refine (s8 (bs l) w hG (by rw [cU]; exact hl)).mono ?_
 rintro e w' ⟨rfl, hb⟩
 exact ⟨_, rfl, hb, .bool _⟩
def du (c : UInt8) : Bool := c != 10
theorem xc : ∀ l : List UInt8, Lib.indexByte l 10 = if cD du l = l.length then -1 else (cD du l : Int)
 | [] => rfl
 | c :: l => by
   have ih := xc l
   unfold Lib.indexByte cD
   rw [List.takeWhile_cons]
   by_cases h : c = 10
   ·subst h; simp [du]
   ·have h1 : (c == 10) = false := by simp [h]
    have h2 : du c = true := by simp [du, h]
    rw [h1, h2, ih]
    simp only [Bool.false_eq_true, if_false, if_true, List.length_cons]
    have hle := fw du l
    rw [← cD]
    by_cases he : cD du l = l.length
    ·simp [he]
    ·have hm : ¬ ((cD du l : Int) = -1) := by omega
     simp [he, hm]
theorem Fb (l : List UInt8) : dn 296 [.str (bs l), .str (bs [10])] (.int .i64 (if cD du l = l.length then -1 else (cD du l : Int))) := by
 refine ⟨cJ (fn := Tryz.f296) (by kernel_rfl) rfl (by kernel_rfl), fun w im us hG hp => ?_⟩
 obtain ⟨u, v, rfl, hu, hv⟩ := GL hp
 cases hu.str_inv; cases hv.str_inv
 refine (Tryz.stringslite_Index_one (bs l) 10 w).mono ?_
 rintro e w' ⟨rfl, rfl⟩
 rw [od, xc]
 exact ⟨_, rfl, Below.refl _ _, .int _ _⟩
abbrev jA (l : List UInt8) : List UInt8 := l.takeWhile du
def Cs (l : List UInt8) : V := .tup [.str (bs (jA l)), .str (bs (l.drop (cD du l + 1))), .bool (decide (cD du l ≠ l.length))]
def dv (b : List UInt8) (p : Nat) : List UInt8 × Nat × Int := if jD (bs (jA (b.drop p))) then (jA (b.drop p), p + (jA (b.drop p)).length, 0) else ([], p, 2)
abbrev C3 (r : List UInt8 × Nat × Int) : V := .tup [.str (bs r.1), .int .i64 r.2.1, .int .i64 r.2.2]
theorem D9 (l : List UInt8) (hl : l.length ≤ 1000000000000) : dn 307 [.str (bs l), .str (bs [10])] (Cs l) := by
 refine bC ac (f := 307) (fn := Tryz.f307) (N := 23) (rs := [.tmp 4, .tmp 5, .tmp 6]) (by kernel_rfl) rfl (by kernel_rfl) rfl rfl [(0, .v (.str (bs l))), (1, .v (.str (bs [10])))] ⟨rfl, rfl, aj⟩ rfl rfl ?_
 intro B
 have hrl := fw du l
 refine ag<|af J<|af J<|af J<|ab<|ae<|ag<|aa J<|aa J<|ap [] (Fb l) J J J J J J aj (.inl J) J J J<|af J<|ab ?_
 refine ag<|aa J<|bY J J J J J (fun h12 => ?_) (fun h12 => ?_)
 ·refine ab<|ai J<|ae ?_
  have hne : ¬ cD du l = l.length := fun he => by rw [if_pos he] at h12; omega
  refine aS (L := [([], []), ([], []), ([], []), ([], []), ([], []), ([], []), ([], []), ([], []), ([], []), ([], []), ([], []), ([], [])]) (by kernel_rfl) mixed (by kernel_rfl)<|aa J<|aa J<|o6 (cD du l) ac J fH J J J (if_neg hne) hrl J J J<|aa J<|aa J<|aa J<|dc ac J J fH J J J ?_
  refine mA (z := ((cD du l + 1 : Nat) : Int)) J J J (by rw [if_neg hne]; rfl) (by omega) (by omega) J J ?_
  refine v8 (cD du l + 1) ac J fH J J J J (by omega) J J J ?_
  refine af J<|af J<|af J<|ab<|am<|au (an J J ?_)
  unfold Cs
  rw [decide_eq_true hne, show jA l = l.take (cD du l) from em _ _]
 ·refine ab<|ah J<|ao<|ak<|ag<|aa J<|af J<|af J<|af J<|ab<|am ?_
  refine an J J ?_
  have he : cD du l = l.length := by
   by_cases he : cD du l = l.length
   ·exact he
   ·rw [if_neg he] at h12; omega
  unfold Cs
  rw [show jA l = l.take (cD du l) from em _ _, he, List.take_of_length_le (Nat.le_refl _), List.drop_of_length_le (by omega)]
  simp
  rfl
theorem DL (l : List UInt8) (hl : l.length ≤ 1000000000000) : dn 275 [.str (bs l), .str (bs [10])] (Cs l) := by
 refine bC ac (f := 275) (fn := Tryz.f275) (N := 13) (rs := [.tmp 4, .tmp 5, .tmp 6]) (by kernel_rfl) rfl (by kernel_rfl) rfl rfl [(0, .v (.str (bs l))), (1, .v (.str (bs [10])))] ⟨rfl, rfl, aj⟩ rfl rfl ?_
 intro B
 refine ag<|af J<|af J<|af J<|ab<|ag<|aa J<|aa J<|ap [] (D9 l hl) J J J J J J aj (.inl J) J J J<|aW J<|aW J<|aW J<|af J ?_
 refine af J<|af J<|ab<|am ?_
 refine an J J ?_
 rfl
theorem rI (b : List UInt8) (p : Nat) : (jA (b.drop p)).length ≤ b.length - p := by
 have := fw du (b.drop p)
 rw [List.length_drop] at this; exact this
theorem D6 (b : List UInt8) (p : Nat) (h : p ≤ b.length) (hb : b.length ≤ 1000000000000) : dn 211 [cH b, .int .i64 p] (C3 (dv b p)) := by
 refine bC ac (f := 211) (fn := Tryz.f211) (N := 32) (rs := [.tmp 4, .tmp 5, .tmp 6]) (by kernel_rfl) rfl (by kernel_rfl) rfl rfl [(0, .v (cH b)), (1, .v (.int .i64 p))] ⟨rfl, rfl, aj⟩ rfl rfl ?_
 intro B
 have hll := rI b p
 refine ag<|af J<|af J<|af J<|ab<|ae<|ag<|aa J<|aa J<|ap [] (rx b p h) J J J J J J aj (.inl J) J J J<|s9 (d' := .v (.bool true)) (congrArg (fun b => D.v (V.bool b)) J)<|bL J<|ar ?_
 refine ak<|ah J<|ao<|ak<|ag<|aa J<|aa J ?_
 refine jc p ac J bG J eK J J J (by simpa using h) (jR _) ld J J ?_
 refine gV ac J bG fH J eK J J J J J ?_
 refine ap [] (DL (b.drop p) (by simp; omega)) J J J J J J aj (.inl rfl) J J J ?_
 refine aa J<|aW J<|aW J<|aW J<|af J<|af J<|af J<|ab<|ae<|ag<|aa J<|ap [] (Ab (jA (b.drop p)) (by omega)) J J J J J J aj (.inl J) J J J ?_
 refine bf (fun h24 => ?_) (fun h24 => ?_)
 ·refine bL J<|ab<|ah J<|ao<|ak<|ag<|aa J<|aa J<|aa J<|dc ac J J fH J J J<|bh J (by omega) (by omega) J ?_
  refine af J<|af J<|af J<|ab<|am ?_
  refine an J J ?_
  unfold dv
  rw [if_pos (by simp_all)]; rfl
 ·refine bL J<|ab<|ai J<|ag<|aa J<|af J<|af J<|af J<|ab<|am<|au (an J J ?_)
  unfold dv
  rw [if_neg (by simp_all)]; rfl
end Go.Vd
namespace Go.Vd
open Go.Proofs Go.RowKit
def gB (l : List UInt8) (k : Nat) : Int := ((l.getD k 0).toNat : Int)
def wH (l : List UInt8) (p : Nat) (c : Int) : Nat → Int
 | 0 => c
 | i + 1 => wH l p c i * 64 + gB l (p + (i + 1)) - 128
def ko (l : List UInt8) (p : Nat) : Nat := if Utf8.decode (bs l) p = (65533, 1) then 0 else (Utf8.decode (bs l) p).2
def cF (b : Int) (n c l : Int) : Prop := (n = 1 ∧ c = b ∧ l = 0 ∧ b < 128) ∨ (n = 2 ∧ c = b - 192 ∧ l = 128 ∧ 192 ≤ b ∧ b < 224) ∨ (n = 3 ∧ c = b - 224 ∧ l = 2048 ∧ 224 ≤ b ∧ b < 240) ∨ (n = 4 ∧ c = b - 240 ∧ l = 65536 ∧ 240 ≤ b ∧ b < 248)
def eT (l : List UInt8) (p k : Nat) : Prop := p + k < l.length ∧ 128 ≤ gB l (p + k) ∧ gB l (p + k) ≤ 191
theorem Hr (l : List UInt8) (k : Nat) : 0 ≤ gB l k ∧ gB l k < 256 := by
 have := (l.getD k 0).toNat_lt
 unfold gB; omega
theorem lh (l : List UInt8) (p : Nat) : Utf8.decode (bs l) p =
 (let at' (k : Nat) : Nat := (l.getD (p + k) 0).toNat
  let cont (k : Nat) : Bool := decide (p + k < l.length) && at' k / 64 == 2
  let b0 := at' 0
  if b0 < 0x80 then (b0, 1)
  else if b0 / 32 == 6 && cont 1 then
   let c := (b0 % 32) * 64 + at' 1 % 64
   if c ≥ 0x80 then (c, 2) else (65533, 1)
  else if b0 / 16 == 14 && cont 1 && cont 2 then
   let c := (b0 % 16) * 4096 + (at' 1 % 64) * 64 + at' 2 % 64
   if c ≥ 0x800 && Utf8.valid c then (c, 3) else (65533, 1)
  else if b0 / 8 == 30 && cont 1 && cont 2 && cont 3 then
   let c := (b0 % 8) * 262144 + (at' 1 % 64) * 4096 + (at' 2 % 64) * 64 + at' 3 % 64
   if c ≥ 0x10000 && Utf8.valid c then (c, 4) else (65533, 1)
  else (65533, 1)) := by
 unfold Utf8.decode
 simp only [wK, cU, Utf8.runeError]
theorem cont_iff {l : List UInt8} {p k : Nat} : (decide (p + k < l.length) && (l.getD (p + k) 0).toNat / 64 == 2) = true ↔ eT l p k := by
 unfold eT gB
 simp only [Bool.and_eq_true, decide_eq_true_eq, beq_iff_eq]
 omega
def I8 (c l : Int) : Prop := ¬ (c < l ∨ 1114111 < c ∨ 55296 ≤ c ∧ c < 57344)
theorem zI {l : List UInt8} {p : Nat} (h : 128 ≤ gB l p) (h2 : gB l p < 192 ∨ 248 ≤ gB l p) : Utf8.decode (bs l) p = (65533, 1) := by
 have g0 := (l.getD p 0).toNat_lt
 rw [lh]
 unfold gB at h h2
 simp only [Nat.add_zero]
 rw [if_neg (by omega), if_neg (by simp only [Bool.and_true, Bool.and_eq_true, beq_iff_eq, decide_eq_true_eq]; omega), if_neg (by simp only [Bool.and_true, Bool.and_eq_true, beq_iff_eq, decide_eq_true_eq]; omega), if_neg (by simp only [Bool.and_true, Bool.and_eq_true, beq_iff_eq, decide_eq_true_eq]; omega)]
theorem dQ {l : List UInt8} {p : Nat} (h : 128 ≤ gB l p) (h2 : gB l p < 192 ∨ 248 ≤ gB l p) : ko l p = 0 := by
 unfold ko; rw [zI h h2, if_pos rfl]
theorem Cv {l : List UInt8} {p k : Nat} {n c t : Int} (hh : cF (gB l p) n c t) (hk : 1 ≤ k) (hk2 : (k : Int) < n) (hc : ¬ eT l p k) : Utf8.decode (bs l) p = (65533, 1) := by
 have hf : (decide (p + k < l.length) && (l.getD (p + k) 0).toNat / 64 == 2) = false := by
  rw [Bool.eq_false_iff]; exact fun h => hc (cont_iff.1 h)
 rw [lh]
 unfold cF gB at hh
 simp only [Nat.add_zero]
 have hk3 : k = 1 ∨ k = 2 ∨ k = 3 := by omega
 rcases hh with ⟨h1, _, _, h2⟩ | ⟨h1, _, _, h2, h3⟩ | ⟨h1, _, _, h2, h3⟩ | ⟨h1, _, _, h2, h3⟩
 ·omega
 ·have : k = 1 := by omega
  subst this
  rw [if_neg (by omega)]
  simp only [hf, Bool.and_false, Bool.false_and, Bool.false_eq_true, if_false]
 ·rw [if_neg (by omega), if_neg (by simp only [Bool.and_true, Bool.and_eq_true, beq_iff_eq, decide_eq_true_eq]; omega)]
  rcases hk3 with rfl | rfl | rfl
  ·simp only [hf, Bool.and_false, Bool.false_and, Bool.false_eq_true, if_false]
  ·simp only [hf, Bool.and_false, Bool.false_and, Bool.false_eq_true, if_false]
  ·omega
 ·rw [if_neg (by omega), if_neg (by simp only [Bool.and_true, Bool.and_eq_true, beq_iff_eq, decide_eq_true_eq]; omega), if_neg (by simp only [Bool.and_true, Bool.and_eq_true, beq_iff_eq, decide_eq_true_eq]; omega)]
  rcases hk3 with rfl | rfl | rfl <;> simp only [hf, Bool.and_false, Bool.false_and, Bool.false_eq_true, if_false]
theorem ib {l : List UInt8} {p k : Nat} {n c t : Int} (hh : cF (gB l p) n c t) (hk : 1 ≤ k) (hk2 : (k : Int) < n) (hc : ¬ eT l p k) : ko l p = 0 := by
 unfold ko; rw [Cv hh hk hk2 hc, if_pos rfl]
def nV (c t : Int) : Prop := t ≤ c ∧ c ≤ 1114111 ∧ ¬ (55296 ≤ c ∧ c < 57344)
instance (c t : Int) : Decidable (nV c t) := by unfold nV; infer_instance
theorem BG {l : List UInt8} {p : Nat} {n c t : Int} (hh : cF (gB l p) n c t) (hc : ∀ k : Nat, 1 ≤ k → (k : Int) < n → eT l p k) :
 Utf8.decode (bs l) p = if nV (wH l p c (n.toNat - 1)) t then ((wH l p c (n.toNat - 1)).toNat, n.toNat) else (65533, 1) := by
 have g : ∀ k, (l.getD k 0).toNat < 256 := fun k => (l.getD k 0).toNat_lt
 rw [lh]
 unfold cF at hh
 rcases hh with ⟨rfl, rfl, rfl, h2⟩ | ⟨rfl, rfl, rfl, h2, h3⟩ | ⟨rfl, rfl, rfl, h2, h3⟩ | ⟨rfl, rfl, rfl, h2, h3⟩
 ·unfold gB at h2
  simp only [Nat.add_zero]
  rw [show wH l p (gB l p) (Int.toNat 1 - 1) = gB l p from rfl, show Int.toNat 1 = 1 from rfl]
  unfold gB
  rw [if_pos (by omega), if_pos (show nV _ _ from ⟨by omega, by omega, by omega⟩), Int.toNat_natCast]
 ·have c1 := hc 1 (by decide) (by decide)
  have f1 := cont_iff.2 c1
  have g0 := g p; have g1 := g (p + 1)
  unfold eT at c1
  unfold gB at h2 h3 c1
  simp only [Nat.add_zero, f1]
  rw [show wH l p (gB l p - 192) (Int.toNat 2 - 1) = (gB l p - 192) * 64 + gB l (p + 1) - 128 from rfl, show Int.toNat 2 = 2 from rfl]
  unfold gB
  clear g hc
  obtain ⟨x, hx⟩ : ∃ x, (l.getD p 0).toNat = x := ⟨_, rfl⟩
  simp only [hx] at *
  obtain ⟨y, hy⟩ : ∃ y, (l.getD (p + 1) 0).toNat = y := ⟨_, rfl⟩
  simp only [hy] at *
  rw [if_neg (by omega), if_pos (by simp only [Bool.and_true, Bool.and_eq_true, beq_iff_eq, decide_eq_true_eq]; omega)]
  generalize hv : x % 32 * 64 + y % 64 = v
  have hv2 : ((x : Int) - 192) * 64 + y - 128 = v := by omega
  rw [hv2]
  by_cases hok : 128 ≤ v
  ·rw [if_pos hok, if_pos (show nV _ _ from ⟨by omega, by omega, by omega⟩), Int.toNat_natCast]
  ·rw [if_neg hok, if_neg (show ¬ nV _ _ from fun h => by unfold nV at h; omega)]
 ·have c1 := hc 1 (by decide) (by decide)
  have c2 := hc 2 (by decide) (by decide)
  have f1 := cont_iff.2 c1; have f2 := cont_iff.2 c2
  have g0 := g p; have g1 := g (p + 1); have g2 := g (p + 2)
  unfold eT at c1 c2
  unfold gB at h2 h3 c1 c2
  simp only [Nat.add_zero, f1, f2]
  rw [show wH l p (gB l p - 224) (Int.toNat 3 - 1) = ((gB l p - 224) * 64 + gB l (p + 1) - 128) * 64 + gB l (p + 2) - 128 from rfl, show Int.toNat 3 = 3 from rfl]
  unfold gB Utf8.valid
  clear g hc
  obtain ⟨x, hx⟩ : ∃ x, (l.getD p 0).toNat = x := ⟨_, rfl⟩
  simp only [hx] at *
  obtain ⟨y, hy⟩ : ∃ y, (l.getD (p + 1) 0).toNat = y := ⟨_, rfl⟩
  simp only [hy] at *
  obtain ⟨z, hz⟩ : ∃ z, (l.getD (p + 2) 0).toNat = z := ⟨_, rfl⟩
  simp only [hz] at *
  rw [if_neg (by omega), if_neg (by simp only [Bool.and_true, Bool.and_eq_true, beq_iff_eq, decide_eq_true_eq]; omega), if_pos (by simp only [Bool.and_true, Bool.and_eq_true, beq_iff_eq, decide_eq_true_eq]; omega)]
  generalize hv : x % 16 * 4096 + y % 64 * 64 + z % 64 = v
  have hv2 : ((((x : Int) - 224) * 64 + y - 128) * 64 + z - 128) = v := by omega
  rw [hv2]
  by_cases hok : 2048 ≤ v ∧ v ≤ 1114111 ∧ ¬ (55296 ≤ v ∧ v < 57344)
  ·rw [if_pos (by simp only [Bool.and_eq_true, Bool.or_eq_true, decide_eq_true_eq]; omega), if_pos (show nV _ _ from ⟨by omega, by omega, by omega⟩), Int.toNat_natCast]
  ·rw [if_neg (by simp only [Bool.and_eq_true, Bool.or_eq_true, decide_eq_true_eq]; omega), if_neg (show ¬ nV _ _ from fun h => by unfold nV at h; omega)]
 ·have c1 := hc 1 (by decide) (by decide)
  have c2 := hc 2 (by decide) (by decide)
  have c3 := hc 3 (by decide) (by decide)
  have f1 := cont_iff.2 c1; have f2 := cont_iff.2 c2; have f3 := cont_iff.2 c3
  have g0 := g p; have g1 := g (p + 1); have g2 := g (p + 2); have g3 := g (p + 3)
  unfold eT at c1 c2 c3
  unfold gB at h2 h3 c1 c2 c3
  simp only [Nat.add_zero, f1, f2, f3]
  rw [show wH l p (gB l p - 240) (Int.toNat 4 - 1) = (((gB l p - 240) * 64 + gB l (p + 1) - 128) * 64 + gB l (p + 2) - 128) * 64 + gB l (p + 3) - 128 from rfl, show Int.toNat 4 = 4 from rfl]
  unfold gB Utf8.valid
  clear g hc
  obtain ⟨x, hx⟩ : ∃ x, (l.getD p 0).toNat = x := ⟨_, rfl⟩
  simp only [hx] at *
  obtain ⟨y, hy⟩ : ∃ y, (l.getD (p + 1) 0).toNat = y := ⟨_, rfl⟩
  simp only [hy] at *
  obtain ⟨z, hz⟩ : ∃ z, (l.getD (p + 2) 0).toNat = z := ⟨_, rfl⟩
  simp only [hz] at *
  obtain ⟨u, hu⟩ : ∃ u, (l.getD (p + 3) 0).toNat = u := ⟨_, rfl⟩
  simp only [hu] at *
  rw [if_neg (by omega), if_neg (by simp only [Bool.and_true, Bool.and_eq_true, beq_iff_eq, decide_eq_true_eq]; omega), if_neg (by simp only [Bool.and_true, Bool.and_eq_true, beq_iff_eq, decide_eq_true_eq]; omega), if_pos (by simp only [Bool.and_true, Bool.and_eq_true, beq_iff_eq, decide_eq_true_eq]; omega)]
  generalize hv : x % 8 * 262144 + y % 64 * 4096 + z % 64 * 64 + u % 64 = v
  have hv2 : (((((x : Int) - 240) * 64 + y - 128) * 64 + z - 128) * 64 + u - 128) = v := by omega
  rw [hv2]
  by_cases hok : 65536 ≤ v ∧ v ≤ 1114111 ∧ ¬ (55296 ≤ v ∧ v < 57344)
  ·rw [if_pos (by simp only [Bool.and_eq_true, Bool.or_eq_true, decide_eq_true_eq]; omega), if_pos (show nV _ _ from ⟨by omega, by omega, by omega⟩), Int.toNat_natCast]
  ·rw [if_neg (by simp only [Bool.and_eq_true, Bool.or_eq_true, decide_eq_true_eq]; omega), if_neg (show ¬ nV _ _ from fun h => by unfold nV at h; omega)]
theorem kG {l : List UInt8} {p : Nat} {n c t : Int} (hh : cF (gB l p) n c t) (hc : ∀ k : Nat, 1 ≤ k → (k : Int) < n → eT l p k) :
 ko l p = if nV (wH l p c (n.toNat - 1)) t then n.toNat else 0 := by
 unfold ko
 rw [BG hh hc]
 by_cases h : nV (wH l p c (n.toNat - 1)) t
 ·rw [if_pos h, if_pos h, if_neg]
  intro he
  have h1 := congrArg Prod.fst he
  have h2 := congrArg Prod.snd he
  simp only at h1 h2
  unfold cF gB at hh
  have : n = 1 := by omega
  subst this
  rcases hh with ⟨_, rfl, _, h3⟩ | ⟨h3, _⟩ | ⟨h3, _⟩ | ⟨h3, _⟩
  ·have : wH l p ((l.getD p 0).toNat : Int) (Int.toNat 1 - 1) = ((l.getD p 0).toNat : Int) := rfl
   rw [this] at h1; omega
  ·omega
  ·omega
  ·omega
 ·rw [if_neg h, if_neg h, if_pos rfl]
theorem tp {l : List UInt8} {p : Nat} {c : Int} {i : Nat} (h : 1 ≤ i) : wH l p c (i + 1 - 1) = wH l p c (i - 1) * 64 + gB l (p + i) - 128 := by
 obtain ⟨j, rfl⟩ : ∃ j, i = j + 1 := ⟨i - 1, by omega⟩
 rfl
def FU (v : Int) (i : Nat) : Prop := 0 ≤ v ∧ (i = 1 → v ≤ 255) ∧ (i = 2 → v ≤ 20000) ∧ (i = 3 → v ≤ 1300000) ∧ (i = 4 → v ≤ 90000000)
theorem Hm (l : List UInt8) (p : Nat) (h : p < l.length) (hl : l.length ≤ 1000000000000) : dn 90 [.str (bs l), .int .i64 p] (.int .i64 (ko l p : Nat)) := by
 refine bC ac (f := 90) (fn := Tryz.f90) (N := 92) (rs := [.tmp 4]) (by kernel_rfl) rfl (by kernel_rfl) rfl rfl [(0, .v (.str (bs l))), (1, .v (.int .i64 p))] ⟨rfl, rfl, aj⟩ rfl rfl ?_
 intro B
 have hu0 := (l.getD p 0).toNat_lt
 refine ag<|af J<|ab<|ag<|af J<|ab<|ag<|aa J<|aa J<|dR ac J J J fH J (by omega) (jS (n := p) (by omega)) J J ?_
 refine fR ac J J eK bm J J (IntWalk.i64_in _ ⟨by omega, by omega⟩) J J ?_
 refine af J<|ab<|ag<|af J<|ab<|gN (α := Int × Int × Int) (fun ⟨n, c, t⟩ => mk [(0, .v (.str (bs l))), (1, .v (.int .i64 p)), (5, .v (.int .i64 n)), (6, .v (.int .i64 c)), (7, .v (.int .i64 t))] [] 0) (fun ⟨n, c, t⟩ => cF (gB l p) n c t) ?_ ?_
 ·refine ag<|aa J<|bY J J J J J (fun h14 => ?_) (fun h14 => ?_)
  ·refine aa J<|aa J<|bj J (fun h17 => ?_) (fun h17 => ?_)
   ·refine aV J<|ab<|ai J<|ag<|af J<|ab<|ag<|aa J<|bX J J J J (by omega) (by omega) J J ?_
    refine af J<|ab<|aF<|af J<|ar ?_
    exact cX ⟨_, _, _⟩ (by show cF (gB l p) _ _ _; unfold cF gB; omega) (aL ⟨J, J, J, J, J, aj⟩ aj J J J J)
   ·refine aV J<|ab<|ah J<|ag<|aa J<|bY J J J J J (fun h22 => ?_) (fun h22 => ?_)
    ·refine aa J<|aa J<|bj J (fun h25 => ?_) (fun h25 => ?_)
     ·refine aV J<|ab<|ai J<|ag<|af J<|ab<|ag<|aa J<|bX J J J J (by omega) (by omega) J J ?_
      refine af J<|ab<|aF<|af J<|ar ?_
      exact cX ⟨_, _, _⟩ (by show cF (gB l p) _ _ _; unfold cF gB; omega) (aL ⟨J, J, J, J, J, aj⟩ aj J J J J)
     ·refine aV J<|ab<|ah J<|ag<|aa J<|bY J J J J J (fun h30 => ?_) (fun h30 => ?_)
      ·refine aa J<|aa J<|bj J (fun h33 => ?_) (fun h33 => ?_)
       ·refine aV J<|ab<|ai J<|ag<|af J<|ab<|ag<|aa J<|bX J J J J (by omega) (by omega) J J ?_
        refine af J<|ab<|aF<|af J<|ar ?_
        exact cX ⟨_, _, _⟩ (by show cF (gB l p) _ _ _; unfold cF gB; omega) (aL ⟨J, J, J, J, J, aj⟩ aj J J J J)
       ·refine aV J<|ab<|ah J<|ag<|aa J<|bY J J J J J (fun h38 => ?_) (fun h38 => ?_)
        ·refine ab<|ai J<|ag<|af J<|ab<|am<|au (an J J ?_)
         rw [dQ (by unfold gB; omega) (by unfold gB; omega)]; rfl
        ·refine ab<|ah J<|ao ?_
         exact cX ⟨_, _, _⟩ (by show cF (gB l p) _ _ _; unfold cF gB; omega) (aL ⟨J, J, J, J, J, aj⟩ aj J J J J)
      ·refine aa J<|al J<|al J<|aJ J<|ab<|ah J<|ag<|aa J<|bY J J J J J (fun h38 => ?_) (fun h38 => ?_)
       ·refine ab<|ai J<|ag<|af J<|ab<|am<|au (an J J ?_)
        rw [dQ (by unfold gB; omega) (by unfold gB; omega)]; rfl
       ·refine ab<|ah J<|ao ?_
        exact cX ⟨_, _, _⟩ (by show cF (gB l p) _ _ _; unfold cF gB; omega) (aL ⟨J, J, J, J, J, aj⟩ aj J J J J)
    ·refine aa J<|al J<|al J<|aJ J<|ab<|ah J<|ag<|aa J<|bY J J J J J (fun h30 => ?_) (fun h30 => ?_)
     ·refine aa J<|aa J<|bj J (fun h33 => ?_) (fun h33 => ?_)
      ·refine aV J<|ab<|ai J<|ag<|af J<|ab<|ag<|aa J<|bX J J J J (by omega) (by omega) J J ?_
       refine af J<|ab<|aF<|af J<|ar ?_
       exact cX ⟨_, _, _⟩ (by show cF (gB l p) _ _ _; unfold cF gB; omega) (aL ⟨J, J, J, J, J, aj⟩ aj J J J J)
      ·refine aV J<|ab<|ah J<|ag<|aa J<|bY J J J J J (fun h38 => ?_) (fun h38 => ?_)
       ·refine ab<|ai J<|ag<|af J<|ab<|am<|au (an J J ?_)
        rw [dQ (by unfold gB; omega) (by unfold gB; omega)]; rfl
       ·refine ab<|ah J<|ao ?_
        exact cX ⟨_, _, _⟩ (by show cF (gB l p) _ _ _; unfold cF gB; omega) (aL ⟨J, J, J, J, J, aj⟩ aj J J J J)
     ·refine aa J<|al J<|al J<|aJ J<|ab<|ah J<|ag<|aa J<|bY J J J J J (fun h38 => ?_) (fun h38 => ?_)
      ·refine ab<|ai J<|ag<|af J<|ab<|am<|au (an J J ?_)
       rw [dQ (by unfold gB; omega) (by unfold gB; omega)]; rfl
      ·refine ab<|ah J<|ao ?_
       exact cX ⟨_, _, _⟩ (by show cF (gB l p) _ _ _; unfold cF gB; omega) (aL ⟨J, J, J, J, J, aj⟩ aj J J J J)
  ·refine aa J<|al J<|al J<|aJ J<|ab<|ah J<|ag<|aa J<|bY J J J J J (fun h22 => ?_) (fun h22 => ?_)
   ·refine aa J<|aa J<|bj J (fun h25 => ?_) (fun h25 => ?_)
    ·refine aV J<|ab<|ai J<|ag<|af J<|ab<|ag<|aa J<|bX J J J J (by omega) (by omega) J J ?_
     refine af J<|ab<|aF<|af J<|ar ?_
     exact cX ⟨_, _, _⟩ (by show cF (gB l p) _ _ _; unfold cF gB; omega) (aL ⟨J, J, J, J, J, aj⟩ aj J J J J)
    ·refine aV J<|ab<|ah J<|ag<|aa J<|bY J J J J J (fun h30 => ?_) (fun h30 => ?_)
     ·refine aa J<|aa J<|bj J (fun h33 => ?_) (fun h33 => ?_)
      ·refine aV J<|ab<|ai J<|ag<|af J<|ab<|ag<|aa J<|bX J J J J (by omega) (by omega) J J ?_
       refine af J<|ab<|aF<|af J<|ar ?_
       exact cX ⟨_, _, _⟩ (by show cF (gB l p) _ _ _; unfold cF gB; omega) (aL ⟨J, J, J, J, J, aj⟩ aj J J J J)
      ·refine aV J<|ab<|ah J<|ag<|aa J<|bY J J J J J (fun h38 => ?_) (fun h38 => ?_)
       ·refine ab<|ai J<|ag<|af J<|ab<|am<|au (an J J ?_)
        rw [dQ (by unfold gB; omega) (by unfold gB; omega)]; rfl
       ·refine ab<|ah J<|ao ?_
        exact cX ⟨_, _, _⟩ (by show cF (gB l p) _ _ _; unfold cF gB; omega) (aL ⟨J, J, J, J, J, aj⟩ aj J J J J)
     ·refine aa J<|al J<|al J<|aJ J<|ab<|ah J<|ag<|aa J<|bY J J J J J (fun h38 => ?_) (fun h38 => ?_)
      ·refine ab<|ai J<|ag<|af J<|ab<|am<|au (an J J ?_)
       rw [dQ (by unfold gB; omega) (by unfold gB; omega)]; rfl
      ·refine ab<|ah J<|ao ?_
       exact cX ⟨_, _, _⟩ (by show cF (gB l p) _ _ _; unfold cF gB; omega) (aL ⟨J, J, J, J, J, aj⟩ aj J J J J)
   ·refine aa J<|al J<|al J<|aJ J<|ab<|ah J<|ag<|aa J<|bY J J J J J (fun h30 => ?_) (fun h30 => ?_)
    ·refine aa J<|aa J<|bj J (fun h33 => ?_) (fun h33 => ?_)
     ·refine aV J<|ab<|ai J<|ag<|af J<|ab<|ag<|aa J<|bX J J J J (by omega) (by omega) J J ?_
      refine af J<|ab<|aF<|af J<|ar ?_
      exact cX ⟨_, _, _⟩ (by show cF (gB l p) _ _ _; unfold cF gB; omega) (aL ⟨J, J, J, J, J, aj⟩ aj J J J J)
     ·refine aV J<|ab<|ah J<|ag<|aa J<|bY J J J J J (fun h38 => ?_) (fun h38 => ?_)
      ·refine ab<|ai J<|ag<|af J<|ab<|am<|au (an J J ?_)
       rw [dQ (by unfold gB; omega) (by unfold gB; omega)]; rfl
      ·refine ab<|ah J<|ao ?_
       exact cX ⟨_, _, _⟩ (by show cF (gB l p) _ _ _; unfold cF gB; omega) (aL ⟨J, J, J, J, J, aj⟩ aj J J J J)
    ·refine aa J<|al J<|al J<|aJ J<|ab<|ah J<|ag<|aa J<|bY J J J J J (fun h38 => ?_) (fun h38 => ?_)
     ·refine ab<|ai J<|ag<|af J<|ab<|am<|au (an J J ?_)
      rw [dQ (by unfold gB; omega) (by unfold gB; omega)]; rfl
     ·refine ab<|ah J<|ao ?_
      exact cX ⟨_, _, _⟩ (by show cF (gB l p) _ _ _; unfold cF gB; omega) (aL ⟨J, J, J, J, J, aj⟩ aj J J J J)
 ·rintro ⟨n, c, t⟩ hhd
  have hg0 := Hr l p
  have hnc : 1 ≤ n ∧ n ≤ 4 ∧ 0 ≤ c ∧ c ≤ 255 ∧ 0 ≤ t ∧ t ≤ 65536 := by (have h9 := hhd; unfold cF at h9; simp only at h9; omega)
  refine ae<|ag<|af J<|ab<|aw ?_
  refine aZ (α := Nat) (fun i => mk [(0, .v (.str (bs l))), (1, .v (.int .i64 p)), (5, .v (.int .i64 n)), (6, .v (.int .i64 (wH l p c (i - 1)))), (7, .v (.int .i64 t)), (8, .v (.int .i64 i))] [] 0) (fun i => 1 ≤ i ∧ (i : Int) ≤ n ∧ (∀ k : Nat, 1 ≤ k → k < i → eT l p k) ∧ FU (wH l p c (i - 1)) i) (fun i => (n - i).toNat) 1 ⟨Nat.le_refl _, by omega, fun k h1 h2 => by omega, by show FU c 1; unfold FU; omega⟩ (aL ⟨rfl, rfl, rfl, rfl, rfl, rfl, aj⟩ aj rfl rfl rfl rfl) ?_
  rintro i ⟨hi1, hi2, hi3, hi4⟩
  have hb := hi4
  unfold FU at hb
  refine ae<|ag<|aa J<|aa J<|bj J (fun h41 => ?_) (fun h41 => ?_)
  ·refine ab<|ai J<|ao<|ak<|ae<|aw<|ae<|ag<|aa J<|aa J<|dc ac J J fH J J J<|aa J<|bX J J J J (by omega) (by omega) J J ?_
   refine bY J J J J J (fun h49 => ?_) (fun h49 => ?_)
   ·refine aa J<|al J<|al J<|al J<|al J<|al J<|al J<|aV J<|aa J<|al J<|al J<|al J<|al J<|al J<|al J<|aV J ?_
    refine ab<|ai J<|ag<|af J<|ab<|am<|au (az (au (bR (az (au (an J J ?_))))))
    rw [ib hhd hi1 (by omega) (fun hc => by unfold eT gB at hc; omega)]; rfl
   ·refine aa J<|aa J<|aa J<|aa J<|bh J (by omega) (by omega) J ?_
    refine dR ac J J J fH J (by omega) (jS (n := p + i) (by omega)) J J ?_
    refine pF J J J J J (fun h56 => ?_) (fun h56 => ?_)
    ·refine aJ J<|aa J<|al J<|al J<|al J<|al J<|al J<|al J<|aV J<|ab<|ai J<|ag<|af J<|ar ?_
     refine ak<|am<|au (az (au (bR (az (au (an J J ?_))))))
     rw [ib hhd hi1 (by omega) (fun hc => by unfold eT gB at hc; omega)]; rfl
    ·refine aJ J<|aa J<|aa J<|aa J<|aa J<|bh J (by omega) (by omega) J ?_
     refine dR ac J J J fH J (by omega) (jS (n := p + i) (by omega)) J J ?_
     refine bW J J J J J (fun h64 => ?_) (fun h64 => ?_)
     ·refine aJ J<|ab<|ai J<|ag<|af J<|ab<|am<|au (az (au (bR (az (au (an J J ?_))))))
      rw [ib hhd hi1 (by omega) (fun hc => by unfold eT gB at hc; omega)]; rfl
     ·refine aJ J<|ab<|ah J<|ao<|ak ?_
      have hu := (l.getD (p + i) 0).toNat_lt
      refine aF<|aa J<|dA J J J J (by omega) (by omega) J J ?_
      refine aa J<|aa J<|aa J<|bh J (by omega) (by omega) J ?_
      refine dR ac J J J fH J (by omega) (jS (n := p + i) (by omega)) J J ?_
      refine fR ac J J eK bm J J (IntWalk.i64_in _ ⟨by omega, by omega⟩) J J ?_
      refine bh J (by omega) (by omega) J ?_
      refine bX J J J J (by omega) (by omega) J J ?_
      refine af J<|ar<|aH<|ak<|aF<|aa J<|bh J (by omega) (by omega) J ?_
      refine af J<|ar ?_
      exact aT (i + 1) ⟨by omega, by omega, fun k h1 h2 => (Nat.lt_succ_iff_lt_or_eq.1 h2).elim (hi3 k h1) (fun e => by subst e; exact ⟨by omega, by show _ ≤ ((_ : Nat) : Int); omega, by show ((_ : Nat) : Int) ≤ _; omega⟩), by rw [tp hi1]; unfold FU gB; omega⟩ (by omega) (aL ⟨rfl, rfl, rfl, (fJ rfl (by rw [tp hi1]; rfl)), rfl, rfl, aj⟩ aj rfl rfl rfl rfl)
  ·refine ab<|ah J<|aO<|ba (a8 (aP ?_))
   refine ak<|ae<|ag<|aa J<|aa J<|bj J (fun h78 => ?_) (fun h78 => ?_)
   ·refine aa J<|al J<|al J<|aV J<|aa J<|al J<|al J<|al J<|al J<|al J<|al J<|aV J<|ab<|ai J<|ae ?_
    refine aF<|af J<|ab<|am<|au (an J J ?_)
    first
     | (rw [dQ (by unfold gB; omega) (by unfold gB; omega)]; rfl)
     | (rw [ib hhd hi1 (by omega) (fun hc => by unfold eT gB at hc; omega)]; rfl)
     | (have hin : (i : Int) = n := by omega
        have hall := kG hhd (fun k h1 h2 => hi3 k h1 (by omega))
        rw [show n.toNat - 1 = i - 1 by omega] at hall
        first
         | (rw [if_neg (fun h => by unfold nV at h; omega)] at hall; rw [hall]; rfl)
         | (rw [if_pos (show nV _ _ from ⟨by omega, by omega, by omega⟩)] at hall
            rw [hall]; exact congrArg (V.int .i64) (by omega)))
   ·refine aa J<|aa J<|bW J J J J J (fun h81 => ?_) (fun h81 => ?_)
    ·refine aJ J<|aa J<|al J<|al J<|al J<|al J<|al J<|al J<|aV J<|ab<|ai J<|ag<|af J<|ar ?_
     refine ak<|am<|au (an J J ?_)
     first
      | (rw [dQ (by unfold gB; omega) (by unfold gB; omega)]; rfl)
      | (rw [ib hhd hi1 (by omega) (fun hc => by unfold eT gB at hc; omega)]; rfl)
      | (have hin : (i : Int) = n := by omega
         have hall := kG hhd (fun k h1 h2 => hi3 k h1 (by omega))
         rw [show n.toNat - 1 = i - 1 by omega] at hall
         first
          | (rw [if_neg (fun h => by unfold nV at h; omega)] at hall; rw [hall]; rfl)
          | (rw [if_pos (show nV _ _ from ⟨by omega, by omega, by omega⟩)] at hall
             rw [hall]; exact congrArg (V.int .i64) (by omega)))
    ·refine aJ J<|aa J<|aa J<|bY J J J J J (fun h85 => ?_) (fun h85 => ?_)
     ·refine aa J<|aa J<|bj J (fun h88 => ?_) (fun h88 => ?_)
      ·refine aV J<|aJ J<|ab<|ai J<|ag<|af J<|ab<|am<|au (an J J ?_)
       first
        | (rw [dQ (by unfold gB; omega) (by unfold gB; omega)]; rfl)
        | (rw [ib hhd hi1 (by omega) (fun hc => by unfold eT gB at hc; omega)]; rfl)
        | (have hin : (i : Int) = n := by omega
           have hall := kG hhd (fun k h1 h2 => hi3 k h1 (by omega))
           rw [show n.toNat - 1 = i - 1 by omega] at hall
           first
            | (rw [if_neg (fun h => by unfold nV at h; omega)] at hall; rw [hall]; rfl)
            | (rw [if_pos (show nV _ _ from ⟨by omega, by omega, by omega⟩)] at hall
               rw [hall]; exact congrArg (V.int .i64) (by omega)))
      ·refine aV J<|aJ J<|ab<|ah J<|ao<|ak<|ag<|aa J<|af J<|ab<|am ?_
       refine an J J ?_
       first
        | (rw [dQ (by unfold gB; omega) (by unfold gB; omega)]; rfl)
        | (rw [ib hhd hi1 (by omega) (fun hc => by unfold eT gB at hc; omega)]; rfl)
        | (have hin : (i : Int) = n := by omega
           have hall := kG hhd (fun k h1 h2 => hi3 k h1 (by omega))
           rw [show n.toNat - 1 = i - 1 by omega] at hall
           first
            | (rw [if_neg (fun h => by unfold nV at h; omega)] at hall; rw [hall]; rfl)
            | (rw [if_pos (show nV _ _ from ⟨by omega, by omega, by omega⟩)] at hall
               rw [hall]; exact congrArg (V.int .i64) (by omega)))
     ·refine aa J<|al J<|al J<|aJ J<|aJ J<|ab<|ah J<|ao<|ak<|ag<|aa J<|af J<|ab ?_
      refine am ?_
      refine an J J ?_
      first
       | (rw [dQ (by unfold gB; omega) (by unfold gB; omega)]; rfl)
       | (rw [ib hhd hi1 (by omega) (fun hc => by unfold eT gB at hc; omega)]; rfl)
       | (have hin : (i : Int) = n := by omega
          have hall := kG hhd (fun k h1 h2 => hi3 k h1 (by omega))
          rw [show n.toNat - 1 = i - 1 by omega] at hall
          first
           | (rw [if_neg (fun h => by unfold nV at h; omega)] at hall; rw [hall]; rfl)
           | (rw [if_pos (show nV _ _ from ⟨by omega, by omega, by omega⟩)] at hall
              rw [hall]; exact congrArg (V.int .i64) (by omega)))
end Go.Vd
namespace Go.Vd
open Go.Proofs Go.RowKit
theorem nh {l : List UInt8} {p : Nat} (h : gB l p < 128) : Utf8.decode (bs l) p = ((l.getD p 0).toNat, 1) := by
 rw [lh]
 unfold gB at h
 simp only [Nat.add_zero]
 rw [if_pos (by omega)]
theorem tg {l : List UInt8} {p : Nat} (h : p < l.length) (h2 : 128 ≤ gB l p) : 128 ≤ (Utf8.decode (bs l) p).1 := by
 have hp : p < (bs l).size := by rw [cU]; exact h
 refine (decode_high (bs l) p hp ?_).1
 have : (bs l)[p] = l.getD p 0 := by
  have h1 := zR l p
  rw [getElem?_pos (bs l) p hp, rB h] at h1
  exact Option.some.inj h1
 rw [this]; unfold gB at h2; omega
theorem rJ {l : List UInt8} {p : Nat} (h : ko l p = 0) (hp : p < l.length) : yG (Utf8.decode (bs l) p) = false := by
 have hd := lY (bs l) p (by rw [cU]; exact hp)
 unfold ko at h
 by_cases he : Utf8.decode (bs l) p = (65533, 1)
 ·rw [he]; rfl
 ·rw [if_neg he] at h; omega
theorem li {l : List UInt8} {p : Nat} (h : gB l p < 32 ∨ gB l p = 127) : yG (Utf8.decode (bs l) p) = false := by
 rw [nh (by omega)]
 refine ze ?_
 unfold gB at h
 simp only
 omega
theorem Cm {l : List UInt8} {p : Nat} (hp : p < l.length) (h : ¬ ko l p = 0) (h1 : ¬ gB l p < 32) (h2 : ¬ gB l p = 127) : yG (Utf8.decode (bs l) p) = true ∧ ko l p = (Utf8.decode (bs l) p).2 := by
 unfold ko at h ⊢
 have he : ¬ Utf8.decode (bs l) p = (65533, 1) := fun he => by rw [if_pos he] at h; exact h rfl
 rw [if_neg he]
 refine ⟨okR_iff.2 ⟨?_, ?_, fun hh => he (Prod.ext hh.1 hh.2)⟩, rfl⟩
 ·by_cases ha : gB l p < 128
  ·rw [nh ha]; unfold gB at h1; show 32 ≤ (l.getD p 0).toNat; omega
  ·have := tg hp (by omega); omega
 ·by_cases ha : gB l p < 128
  ·rw [nh ha]; unfold gB at h2; show ¬ (l.getD p 0).toNat = 127; omega
  ·have := tg hp (by omega); omega
theorem qV {l : List UInt8} {k p m : Nat} (hp : p < l.length) (hk : l.length ≤ p + k) : ∃ k', k = k' + 1 ∧ gI (bs l) k p m = if yG (Utf8.decode (bs l) p) then gI (bs l) k' (p + (Utf8.decode (bs l) p).2) (m + 1) else none := by
 obtain ⟨k', rfl⟩ : ∃ k', k = k' + 1 := ⟨k - 1, by omega⟩
 refine ⟨k', rfl, ?_⟩
 show (if p < (bs l).size then _ else _) = _
 rw [if_pos (by rw [cU]; exact hp)]
theorem iC {l : List UInt8} {k p m : Nat} (hc : gI (bs l) k p m = gI (bs l) (bs l).size 0 0) (hp : p < l.length) (hk : l.length ≤ p + k) (h : yG (Utf8.decode (bs l) p) = false) : jD (bs l) = false := by
 obtain ⟨k', rfl, hs⟩ := qV (m := m) hp hk
 unfold jD
 rw [← hc, hs, h]; rfl
theorem sV {l : List UInt8} {k p m : Nat} (hc : gI (bs l) k p m = gI (bs l) (bs l).size 0 0) (hp : ¬ p < l.length) : jD (bs l) = (decide (0 < m) && decide (m ≤ 40)) := by
 unfold jD
 rw [← hc, qm (by rw [cU]; exact hp)]
theorem wA {b : List UInt8} {p j : Nat} (h1 : j ≤ cD du (b.drop p)) (h2 : b.length ≤ p + j ∨ du (b.getD (p + j) 0) = false) (h0 : p ≤ b.length) : cD du (b.drop p) = j := rG h0 h1 h2
theorem ub (b : List UInt8) (p : Nat) : (b.take (p + cD du (b.drop p))).drop p = jA (b.drop p) := wN
theorem nl_iff {c : UInt8} : du c = true ↔ ¬ (c.toNat : Int) = 10 := by
 unfold du
 constructor
 ·intro h he; rw [jz (c := c) (d := 10) he] at h; cases h
 ·intro h; simp only [bne_iff_ne, ne_eq]; intro he; exact h (by rw [he]; rfl)
theorem Dj (l : List UInt8) (hl : l.length ≤ 1000000000000) : dn 49 [.str (bs l)] (.bool (jD (bs l))) := by
 refine bC ac (f := 49) (fn := Tryz.f49) (N := 38) (rs := [.tmp 2]) (by kernel_rfl) rfl (by kernel_rfl) rfl rfl [(0, .v (.str (bs l)))] ⟨rfl, aj⟩ rfl rfl ?_
 intro B
 refine ag<|af J<|ab<|ag<|af J<|ab<|ae<|ag<|af J<|ab ?_
 refine aw ?_
 refine aZ (α := Nat × Nat × Nat) (fun ⟨p, k, m⟩ => mk [(0, .v (.str (bs l))), (3, .v (.int .i64 m)), (4, .v (.int .i64 p))] [] 0) (fun ⟨p, k, m⟩ => gI (bs l) k p m = gI (bs l) (bs l).size 0 0 ∧ l.length ≤ p + k ∧ m ≤ p ∧ p ≤ l.length + 4) (fun ⟨p, k, m⟩ => l.length - p) ⟨0, (bs l).size, 0⟩ ⟨rfl, by have := cU l; show _ ≤ 0 + (bs l).size; omega, Nat.le_refl _, by show 0 ≤ _; omega⟩ (aL ⟨rfl, rfl, rfl, aj⟩ aj rfl rfl rfl rfl) ?_
 rintro ⟨p, k, m⟩ ⟨hc, hk, hm, hp4⟩
 refine ae<|ag<|aa J<|aa J<|dc ac J J fH J J J<|bj J (fun h9 => ?_) (fun h9 => ?_)
 ·refine ab<|ai J<|ao<|ak<|aw<|ag<|aa J<|aa J<|ap [] (Hm l p (by omega) hl) J J J J J J aj (.inl J) J J J ?_
  refine af J<|ab<|ae<|ag<|aa J<|bc J J J J J (fun h14 => ?_) (fun h14 => ?_)
  ·refine aa J<|al J<|al J<|al J<|al J<|aV J<|aa J<|al J<|al J<|al J<|al J<|aV J<|ab<|ai J<|ae ?_
   refine aF<|af J<|ab<|am<|au (az (bR (az (au (an J J ?_)))))
   rw [iC hc (by omega) hk (rJ (by omega) (by omega))]; done
  ·refine aa J<|aa J<|aa J<|dR ac J J J fH J (by omega) (jS (n := p) (by omega)) J J ?_
   refine pF J J J J J (fun h19 => ?_) (fun h19 => ?_)
   ·refine aJ J<|aa J<|al J<|al J<|al J<|al J<|aV J<|ab<|ai J<|ag<|af J<|ab<|am ?_
    refine au (az (bR (az (au (an J J ?_)))))
    rw [iC hc (by omega) hk (li (.inl h19))]; done
   ·refine aJ J<|aa J<|aa J<|aa J<|dR ac J J J fH J (by omega) (jS (n := p) (by omega)) J J ?_
    refine bc J J J J J (fun h25 => ?_) (fun h25 => ?_)
    ·refine aJ J<|ab<|ai J<|ag<|af J<|ab<|am<|au (az (bR (az (au (an J J ?_)))))
     rw [iC hc (by omega) hk (li (.inr h25))]; done
    ·refine aJ J<|ab<|ah J<|ao<|ak<|ae ?_
     have hok := Cm (l := l) (p := p) (by omega) (by omega) h19 h25
     have hwd := lY (bs l) p (by rw [cU]; omega)
     have hw4 := tH (bs l) p
     refine aF<|aa J<|aa J<|bh J (by omega) (by omega) J ?_
     refine af J<|ab<|aF<|aa J<|bh J (by omega) (by omega) J ?_
     refine af J<|ar<|aH ?_
     obtain ⟨k', hk', hst⟩ := qV (m := m) (by omega) hk
     have hke : k - 1 = k' := by omega
     rw [← hke] at hst
     exact aT ⟨p + (Utf8.decode (bs l) p).2, k - 1, m + 1⟩ ⟨by show gI (bs l) (k - 1) (p + _) (m + 1) = _; rw [← hc, hst, if_pos hok.1], by show _ ≤ p + _ + (k - 1); omega, by show m + 1 ≤ p + _; omega, by show p + _ ≤ _; omega⟩ (by show l.length - (p + (Utf8.decode (bs l) p).2) < l.length - p; omega) (aL ⟨rfl, rfl, (fJ rfl (by rw [hok.2]; rfl)), aj⟩ aj rfl rfl rfl rfl)
 ·refine ab<|ah J<|aO<|ba (a8 (aP ?_))
  refine ak<|ag<|aa J<|bY J J J J J (fun h33 => ?_) (fun h33 => ?_)
  ·refine aa J<|aa J<|lN J J J J J J<|aV J<|af J<|ab<|am ?_
   refine an J J ?_
   first
    | (rw [iC hc (by omega) hk (rJ (by omega) (by omega))]; done)
    | (rw [iC hc (by omega) hk (li (.inl h19))]; done)
    | (rw [iC hc (by omega) hk (li (.inr h25))]; done)
    | (rw [sV hc (by omega)]
       exact congrArg V.bool (by rw [Bool.eq_iff_iff]; simp only [Bool.and_eq_true, decide_eq_true_eq, Bool.false_eq_true, false_iff]; omega))
  ·refine aa J<|al J<|al J<|aJ J<|af J<|ab<|am ?_
   refine an J J ?_
   first
    | (rw [iC hc (by omega) hk (rJ (by omega) (by omega))]; done)
    | (rw [iC hc (by omega) hk (li (.inl h19))]; done)
    | (rw [iC hc (by omega) hk (li (.inr h25))]; done)
    | (rw [sV hc (by omega)]
       exact congrArg V.bool (by rw [Bool.eq_iff_iff]; simp only [Bool.and_eq_true, decide_eq_true_eq, Bool.false_eq_true, false_iff]; omega))
theorem Hv (b : List UInt8) (p : Nat) (h : p ≤ b.length) (hb : b.length ≤ 1000000000000) : dn 25 [cH b, .int .i64 p] (C3 (dv b p)) := by
 refine bC ac (f := 25) (fn := Tryz.f25) (N := 44) (rs := [.tmp 4, .tmp 5, .tmp 6]) (by kernel_rfl) rfl (by kernel_rfl) rfl rfl [(0, .v (cH b)), (1, .v (.int .i64 p))] ⟨rfl, rfl, aj⟩ rfl rfl ?_
 intro B
 have hll := rI b p
 have hrl := fw du (b.drop p)
 have hdl : (b.drop p).length = b.length - p := List.length_drop
 refine ag<|af J<|af J<|af J<|ab<|ae<|ag<|aa J<|iZ J J J (decide_eq_false (by omega)) J J ?_
 refine aa J<|aa J<|aa J<|aI ac J J bG J aB J J<|lI J J J (decide_eq_false (by omega)) J J ?_
 refine aJ J<|ab<|ah J<|ao<|ak<|ag<|aa J<|af J<|ab<|ae<|aw<|aZ (α := Nat) (fun j => mk [(0, .v (cH b)), (1, .v (.int .i64 p)), (7, .v (.int .i64 ((p + j : Nat) : Int)))] [] 0) (fun j => j ≤ cD du (b.drop p)) (fun j => cD du (b.drop p) - j) 0 (Nat.zero_le _) (aL ⟨J, J, J, aj⟩ aj J J J J) ?_
 rintro j hj1
 refine ae<|ag<|aa J<|aa J<|aI ac J J bG J aB J J<|bj J (fun h22 => ?_) (fun h22 => ?_)
 ·refine aa J<|aa J<|aa J<|cj bG eK J (by omega) (ek (n := p + j) (by omega)) J ?_
  refine bu eK J<|bt J J J J J (fun h28 => ?_) (fun h28 => ?_)
  ·refine aV J<|ab<|ai J<|ao<|ak<|aw ?_
   have hlt := uy hj1 (nl_iff.2 (by omega)) (by omega)
   refine aF<|aa J<|bh J (by omega) (by omega) J ?_
   refine af J<|ar<|aH ?_
   exact aT (j + 1) (by omega) (by omega) (aL ⟨J, J, J, aj⟩ aj J J J J)
  ·refine aV J<|ab<|ah J<|aO<|ba (a8 (aP ?_))
   refine ak<|ae ?_
   have hex : cD du (b.drop p) = j := wA hj1 (by exact .inr (by rw [Bool.eq_false_iff]; exact fun h => nl_iff.1 h (by omega))) h
   subst hex
   refine aF<|aa J<|aa J<|aa J ?_
   refine kH p (p + cD du (b.drop p)) ac J bG J eK J J J J J (by omega) (by simp; omega) (jR _) (by rw [rL, ub]) J J ?_
   refine gV ac J bG fH J eK J J J J J<|af J<|ab<|ag<|aa J<|ap [] (Dj (jA (b.drop p)) (by omega)) J J J J J J aj (.inl J) J J J ?_
   refine bf (fun h38 => ?_) (fun h38 => ?_)
   ·refine af J<|ab<|ae<|ag<|aa J<|bL J<|ab<|ah J<|ao<|ak<|ag<|aa J ?_
    refine aa J<|af J<|af J<|af J<|ab<|am ?_
    refine an J J ?_
    unfold dv
    rw [if_pos (by simp_all)]; rfl
   ·refine af J<|ab<|ae<|ag<|aa J<|bL J<|ab<|ai J<|ag<|aa J<|af J<|af J ?_
    refine af J<|ab<|am<|au (an J J ?_)
    unfold dv
    rw [if_neg (by simp_all)]; rfl
 ·refine aa J<|al J<|al J<|al J<|al J<|al J<|aJ J<|ab<|ah J<|aO<|ba (a8 (aP ?_))
  refine ak<|ae ?_
  have hex : cD du (b.drop p) = j := wA hj1 (by exact .inl (by omega)) h
  subst hex
  refine aF<|aa J<|aa J<|aa J ?_
  refine kH p (p + cD du (b.drop p)) ac J bG J eK J J J J J (by omega) (by simp; omega) (jR _) (by rw [rL, ub]) J J ?_
  refine gV ac J bG fH J eK J J J J J<|af J<|ab<|ag<|aa J<|ap [] (Dj (jA (b.drop p)) (by omega)) J J J J J J aj (.inl J) J J J ?_
  refine bf (fun h38 => ?_) (fun h38 => ?_)
  ·refine af J<|ab<|ae<|ag<|aa J<|bL J<|ab<|ah J<|ao<|ak<|ag<|aa J ?_
   refine aa J<|af J<|af J<|af J<|ab<|am ?_
   refine an J J ?_
   unfold dv
   rw [if_pos (by simp_all)]; rfl
  ·refine af J<|ab<|ae<|ag<|aa J<|bL J<|ab<|ai J<|ag<|aa J<|af J<|af J ?_
   refine af J<|ab<|am<|au (an J J ?_)
   unfold dv
   rw [if_neg (by simp_all)]; rfl
end Go.Vd
