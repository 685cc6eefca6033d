/- Proved here: what the functions with loops over a code tell, and that prod.Equal of the same code is true. Condition: the code is a row of instructions in memory. -/
import Derived.Test.YtpifpihfoaalgaaGreatDoorSameKind
set_option linter.unusedVariables false
set_option linter.unusedSimpArgs false
namespace Go.Proofs
open Go Go.Dp Go.Dp.Tr
theorem pre27 (E : Tr.KE) (g : Fun1) (K kr : Tr.KK' (N16 (N8 Value))) (kx : Nat → Tr.KK' (N16 (N8 Value))) (A : AS) :
  run (.obj (.cells g.cells 0 false) (.lit 1 (.split (.must (.obj (.cells g.cells 0 false) (.lit 1 (.must (.mustn (.split (.must (.obj (.cells g.cells 0 false) (.lit 1 (.must (.mustn (.split (.must (.obj (.cells g.cells 0 false) (.lit 1 (.must (.must (.obj (.cells g.cells 0 false) (.lit 1 (.must (.mustn (.split (.must (.obj (.cells g.cells 0 false) (.lit 1 (.must (.mustn (.split (.must (.obj (.cells g.cells 0 false) (.lit 1 (.must (.mustn (.split (.must (.obj (.cells g.cells 0 false) (.lit 1 (.must (.mustn (.split (.must (.obj (.cells g.cells 0 false) (.lit 1 (.must (.must (.mustn (.split (.must (.obj (.cells g.cells 0 false) (.lit 1 (.must (.must (.mustn (.split .stop (.obj (.cells g.cells 0 false) (.lit 1 .stop))))))))) (.mustn (.mustn (.mustn (.must (.lit 1 .stop)))))))))))) (.mustn (.mustn (.mustn (.must (.lit 6 .stop))))))))))) (.mustn (.mustn (.must (.lit 11 .stop)))))))))) (.mustn (.mustn (.must (.lit 15 .stop)))))))))) (.mustn (.mustn (.must (.lit 19 .stop)))))))))))))) (.mustn (.mustn (.mustn (.mustn (.must (.lit 23 .stop)))))))))))) (.mustn (.mustn (.must (.lit 29 .stop)))))))))) (.mustn (.mustn (.must (.lit 33 .stop)))))))
    ((Tr.kcode' Tryz.prog (std O128) 74 27 false (Code.seq ((bd Tryz.f27).at [0]) (Code.seq ((bd Tryz.f27).at [1, 0]) ((bd Tryz.f27).at [1, 1, 0, 0])))).f E K kr kx (((std O128).set 0).f (.agg ⟨g.cells⟩) (std O128).nil) A) =
  (.obj (Tr.hget (box A g.cells).heap A.next) (.cells g.cells 0 false) (.ite (Tr.qWant (.bool (Tr.qbyEq g.name [])) false)
 (.ite (Tr.qWant (.bool (Tr.qbyEq g.name [])) false) (.obj (Tr.hget (box A g.cells).heap A.next) (.cells g.cells 0 false) (.ite (Tr.qWant (.bool (Tr.qbyEq g.name [])) false) (.ite (Tr.qbyEq g.name []) .bad (.ite (Tr.qWant (.bool (Tr.qiLt g.params (Int.ofNat 0))) false)
 (.ite (Tr.qWant (.bool (Tr.qiLt g.params (Int.ofNat 0))) false) (.obj (Tr.hget (box A g.cells).heap A.next) (.cells g.cells 0 false) (.ite (Tr.qWant (.bool (Tr.qiLt g.params (Int.ofNat 0))) false) (.ite (Tr.qiLt g.params (Int.ofNat 0)) .bad (.ite (Tr.qWant (.bool (Tr.qiLt (Int.ofNat 6) g.params)) false)
 (.ite (Tr.qWant (.bool (Tr.qiLt (Int.ofNat 6) g.params)) false) (.obj (Tr.hget (box A g.cells).heap A.next) (.cells g.cells 0 false) (.ite (Tr.qWant (.bool (Tr.qiLt (Int.ofNat 6) g.params)) false) (.ite (Tr.qWant (.bool (Tr.qiLt (Int.ofNat 6) g.params)) false) (.obj (Tr.hget (box A g.cells).heap A.next) (.cells g.cells 0 false) (.ite (Tr.qWant (.bool (Tr.qiLt (Int.ofNat 6) g.params)) false) (.ite (Tr.qiLt (Int.ofNat 6) g.params) .bad (.ite (Tr.qWant (.bool (Tr.qiLt g.regs g.params)) false)
 (.ite (Tr.qWant (.bool (Tr.qiLt g.regs g.params)) false) (.obj (Tr.hget (box A g.cells).heap A.next) (.cells g.cells 0 false) (.ite (Tr.qWant (.bool (Tr.qiLt g.regs g.params)) false) (.ite (Tr.qiLt g.regs g.params) .bad (.ite (Tr.qWant (.bool (Tr.qiLt (Int.ofNat 4096) g.regs)) false)
 (.ite (Tr.qWant (.bool (Tr.qiLt (Int.ofNat 4096) g.regs)) false) (.obj (Tr.hget (box A g.cells).heap A.next) (.cells g.cells 0 false) (.ite (Tr.qWant (.bool (Tr.qiLt (Int.ofNat 4096) g.regs)) false) (.ite (Tr.qiLt (Int.ofNat 4096) g.regs) .bad (.ite (Tr.qWant (.bool (Tr.qiLt g.frame (Int.ofNat 0))) false)
 (.ite (Tr.qWant (.bool (Tr.qiLt g.frame (Int.ofNat 0))) false) (.obj (Tr.hget (box A g.cells).heap A.next) (.cells g.cells 0 false) (.ite (Tr.qWant (.bool (Tr.qiLt g.frame (Int.ofNat 0))) false) (.ite (Tr.qiLt g.frame (Int.ofNat 0)) .bad (.ite (Tr.qWant (.bool (Tr.qiLt (Int.ofNat 4096) g.frame)) false)
 (.ite (Tr.qWant (.bool (Tr.qiLt (Int.ofNat 4096) g.frame)) false) (.obj (Tr.hget (box A g.cells).heap A.next) (.cells g.cells 0 false) (.ite (Tr.qWant (.bool (Tr.qiLt (Int.ofNat 4096) g.frame)) false) (.ite (Tr.qWant (.bool (Tr.qiLt (Int.ofNat 4096) g.frame)) false) (.ite (Tr.qiLt (Int.ofNat 4096) g.frame) .bad (.ite (Tr.qWant (.bool (Tr.qiLt (Int.ofNat g.len) (Int.ofNat 1))) false)
 (.ite (Tr.qWant (.bool (Tr.qiLt (Int.ofNat g.len) (Int.ofNat 1))) false) (.obj (Tr.hget (box A g.cells).heap A.next) (.cells g.cells 0 false) (.ite (Tr.qWant (.bool (Tr.qiLt (Int.ofNat g.len) (Int.ofNat 1))) false) (.ite (Tr.qWant (.bool (Tr.qiLt (Int.ofNat g.len) (Int.ofNat 1))) false) (.ite (Tr.qiLt (Int.ofNat g.len) (Int.ofNat 1)) .bad (.ite (Tr.qiLt (Int.ofNat 8192) (Int.ofNat g.len))
 (.tree (kr (st (std O128) [(0, .agg (Array.mk g.cells)), (1, .pointer (some (Addr.mk A.next 0 none))), (2, .bool false), (5, .pointer (some (Addr.mk A.next (Nat.add 0 0) none))), (6, Value.string (ByteArray.mk (Array.mk g.name))), (7, .bool (Tr.qbyEq g.name [])), (8, .bool (Tr.qbyEq g.name [])), (9, .pointer (some (Addr.mk A.next (Nat.add 0 1) none))), (10, .int .i64 g.params), (11, .bool (Tr.qiLt g.params (Int.ofNat 0))), (12, .bool (Tr.qiLt g.params (Int.ofNat 0))), (13, .bool (Tr.qiLt g.params (Int.ofNat 0))), (14, .pointer (some (Addr.mk A.next (Nat.add 0 1) none))), (15, .int .i64 g.params), (16, .bool (Tr.qiLt (Int.ofNat 6) g.params)), (17, .bool (Tr.qiLt (Int.ofNat 6) g.params)), (18, .bool (Tr.qiLt (Int.ofNat 6) g.params)), (19, .pointer (some (Addr.mk A.next (Nat.add 0 2) none))), (20, .int .i64 g.regs), (21, .pointer (some (Addr.mk A.next (Nat.add 0 1) none))), (22, .int .i64 g.params), (23, .bool (Tr.qiLt g.regs g.params)), (24, .bool (Tr.qiLt g.regs g.params)), (25, .bool (Tr.qiLt g.regs g.params)), (26, .pointer (some (Addr.mk A.next (Nat.add 0 2) none))), (27, .int .i64 g.regs), (28, .bool (Tr.qiLt (Int.ofNat 4096) g.regs)), (29, .bool (Tr.qiLt (Int.ofNat 4096) g.regs)), (30, .bool (Tr.qiLt (Int.ofNat 4096) g.regs)), (31, .pointer (some (Addr.mk A.next (Nat.add 0 3) none))), (32, .int .i64 g.frame), (33, .bool (Tr.qiLt g.frame (Int.ofNat 0))), (34, .bool (Tr.qiLt g.frame (Int.ofNat 0))), (35, .bool (Tr.qiLt g.frame (Int.ofNat 0))), (36, .pointer (some (Addr.mk A.next (Nat.add 0 3) none))), (37, .int .i64 g.frame), (38, .bool (Tr.qiLt (Int.ofNat 4096) g.frame)), (39, .bool (Tr.qiLt (Int.ofNat 4096) g.frame)), (40, .bool (Tr.qiLt (Int.ofNat 4096) g.frame)), (41, .pointer (some (Addr.mk A.next (Nat.add 0 4) none))), (42, .slice (some (Addr.mk g.B g.o none)) g.len g.cap), (43, .int .i64 (Int.ofNat g.len)), (44, .bool (Tr.qiLt (Int.ofNat g.len) (Int.ofNat 1))), (45, .bool (Tr.qiLt (Int.ofNat g.len) (Int.ofNat 1))), (46, .bool (Tr.qiLt (Int.ofNat g.len) (Int.ofNat 1))), (47, .pointer (some (Addr.mk A.next (Nat.add 0 4) none))), (48, .slice (some (Addr.mk g.B g.o none)) g.len g.cap), (49, .int .i64 (Int.ofNat g.len)), (50, .bool (Tr.qiLt (Int.ofNat 8192) (Int.ofNat g.len))), (51, .bool (Tr.qiLt (Int.ofNat 8192) (Int.ofNat g.len)))] (std O128).nil) (box A g.cells)))
 (.obj (Tr.hget (box A g.cells).heap A.next) (.cells g.cells 0 false) (.tree (K (st (std O128) [(0, .agg (Array.mk g.cells)), (1, .pointer (some (Addr.mk A.next 0 none))), (2, .bool false), (5, .pointer (some (Addr.mk A.next (Nat.add 0 0) none))), (6, Value.string (ByteArray.mk (Array.mk g.name))), (7, .bool (Tr.qbyEq g.name [])), (8, .bool (Tr.qbyEq g.name [])), (9, .pointer (some (Addr.mk A.next (Nat.add 0 1) none))), (10, .int .i64 g.params), (11, .bool (Tr.qiLt g.params (Int.ofNat 0))), (12, .bool (Tr.qiLt g.params (Int.ofNat 0))), (13, .bool (Tr.qiLt g.params (Int.ofNat 0))), (14, .pointer (some (Addr.mk A.next (Nat.add 0 1) none))), (15, .int .i64 g.params), (16, .bool (Tr.qiLt (Int.ofNat 6) g.params)), (17, .bool (Tr.qiLt (Int.ofNat 6) g.params)), (18, .bool (Tr.qiLt (Int.ofNat 6) g.params)), (19, .pointer (some (Addr.mk A.next (Nat.add 0 2) none))), (20, .int .i64 g.regs), (21, .pointer (some (Addr.mk A.next (Nat.add 0 1) none))), (22, .int .i64 g.params), (23, .bool (Tr.qiLt g.regs g.params)), (24, .bool (Tr.qiLt g.regs g.params)), (25, .bool (Tr.qiLt g.regs g.params)), (26, .pointer (some (Addr.mk A.next (Nat.add 0 2) none))), (27, .int .i64 g.regs), (28, .bool (Tr.qiLt (Int.ofNat 4096) g.regs)), (29, .bool (Tr.qiLt (Int.ofNat 4096) g.regs)), (30, .bool (Tr.qiLt (Int.ofNat 4096) g.regs)), (31, .pointer (some (Addr.mk A.next (Nat.add 0 3) none))), (32, .int .i64 g.frame), (33, .bool (Tr.qiLt g.frame (Int.ofNat 0))), (34, .bool (Tr.qiLt g.frame (Int.ofNat 0))), (35, .bool (Tr.qiLt g.frame (Int.ofNat 0))), (36, .pointer (some (Addr.mk A.next (Nat.add 0 3) none))), (37, .int .i64 g.frame), (38, .bool (Tr.qiLt (Int.ofNat 4096) g.frame)), (39, .bool (Tr.qiLt (Int.ofNat 4096) g.frame)), (40, .bool (Tr.qiLt (Int.ofNat 4096) g.frame)), (41, .pointer (some (Addr.mk A.next (Nat.add 0 4) none))), (42, .slice (some (Addr.mk g.B g.o none)) g.len g.cap), (43, .int .i64 (Int.ofNat g.len)), (44, .bool (Tr.qiLt (Int.ofNat g.len) (Int.ofNat 1))), (45, .bool (Tr.qiLt (Int.ofNat g.len) (Int.ofNat 1))), (46, .bool (Tr.qiLt (Int.ofNat g.len) (Int.ofNat 1))), (47, .pointer (some (Addr.mk A.next (Nat.add 0 4) none))), (48, .slice (some (Addr.mk g.B g.o none)) g.len g.cap), (49, .int .i64 (Int.ofNat g.len)), (50, .bool (Tr.qiLt (Int.ofNat 8192) (Int.ofNat g.len))), (51, .bool (Tr.qiLt (Int.ofNat 8192) (Int.ofNat g.len))), (52, .pointer (some (Addr.mk A.next (Nat.add 0 4) none))), (53, .slice (some (Addr.mk g.B g.o none)) g.len g.cap), (54, .int .i64 (Int.ofNat g.len)), (55, .int .i64 (Int.ofNat 0))] (std O128).nil) (box A g.cells)))))) .bad) .bad)) .bad)
 (.ite (Tr.qWant (.bool (Tr.qiLt (Int.ofNat g.len) (Int.ofNat 1))) false) .bad (.ite (Tr.qWant (.bool (Tr.qiLt (Int.ofNat g.len) (Int.ofNat 1))) false) .bad (.ite (Tr.qWant (.bool (Tr.qiLt (Int.ofNat g.len) (Int.ofNat 1))) false) .bad (.ite (Tr.qiLt (Int.ofNat g.len) (Int.ofNat 1)) (.tree (kr (st (std O128) [(0, .agg (Array.mk g.cells)), (1, .pointer (some (Addr.mk A.next 0 none))), (2, .bool false), (5, .pointer (some (Addr.mk A.next (Nat.add 0 0) none))), (6, Value.string (ByteArray.mk (Array.mk g.name))), (7, .bool (Tr.qbyEq g.name [])), (8, .bool (Tr.qbyEq g.name [])), (9, .pointer (some (Addr.mk A.next (Nat.add 0 1) none))), (10, .int .i64 g.params), (11, .bool (Tr.qiLt g.params (Int.ofNat 0))), (12, .bool (Tr.qiLt g.params (Int.ofNat 0))), (13, .bool (Tr.qiLt g.params (Int.ofNat 0))), (14, .pointer (some (Addr.mk A.next (Nat.add 0 1) none))), (15, .int .i64 g.params), (16, .bool (Tr.qiLt (Int.ofNat 6) g.params)), (17, .bool (Tr.qiLt (Int.ofNat 6) g.params)), (18, .bool (Tr.qiLt (Int.ofNat 6) g.params)), (19, .pointer (some (Addr.mk A.next (Nat.add 0 2) none))), (20, .int .i64 g.regs), (21, .pointer (some (Addr.mk A.next (Nat.add 0 1) none))), (22, .int .i64 g.params), (23, .bool (Tr.qiLt g.regs g.params)), (24, .bool (Tr.qiLt g.regs g.params)), (25, .bool (Tr.qiLt g.regs g.params)), (26, .pointer (some (Addr.mk A.next (Nat.add 0 2) none))), (27, .int .i64 g.regs), (28, .bool (Tr.qiLt (Int.ofNat 4096) g.regs)), (29, .bool (Tr.qiLt (Int.ofNat 4096) g.regs)), (30, .bool (Tr.qiLt (Int.ofNat 4096) g.regs)), (31, .pointer (some (Addr.mk A.next (Nat.add 0 3) none))), (32, .int .i64 g.frame), (33, .bool (Tr.qiLt g.frame (Int.ofNat 0))), (34, .bool (Tr.qiLt g.frame (Int.ofNat 0))), (35, .bool (Tr.qiLt g.frame (Int.ofNat 0))), (36, .pointer (some (Addr.mk A.next (Nat.add 0 3) none))), (37, .int .i64 g.frame), (38, .bool (Tr.qiLt (Int.ofNat 4096) g.frame)), (39, .bool (Tr.qiLt (Int.ofNat 4096) g.frame)), (40, .bool (Tr.qiLt (Int.ofNat 4096) g.frame)), (41, .pointer (some (Addr.mk A.next (Nat.add 0 4) none))), (42, .slice (some (Addr.mk g.B g.o none)) g.len g.cap), (43, .int .i64 (Int.ofNat g.len)), (44, .bool (Tr.qiLt (Int.ofNat g.len) (Int.ofNat 1))), (45, .bool (Tr.qiLt (Int.ofNat g.len) (Int.ofNat 1))), (46, .bool (Tr.qiLt (Int.ofNat g.len) (Int.ofNat 1))), (51, .bool true)] (std O128).nil) (box A g.cells))) .bad)))))) .bad) .bad)) .bad)
 (.ite (Tr.qWant (.bool (Tr.qiLt (Int.ofNat 4096) g.frame)) false) .bad (.ite (Tr.qWant (.bool (Tr.qiLt (Int.ofNat 4096) g.frame)) false) .bad (.ite (Tr.qWant (.bool (Tr.qiLt (Int.ofNat 4096) g.frame)) false) .bad (.ite (Tr.qiLt (Int.ofNat 4096) g.frame) (.tree (kr (st (std O128) [(0, .agg (Array.mk g.cells)), (1, .pointer (some (Addr.mk A.next 0 none))), (2, .bool false), (5, .pointer (some (Addr.mk A.next (Nat.add 0 0) none))), (6, Value.string (ByteArray.mk (Array.mk g.name))), (7, .bool (Tr.qbyEq g.name [])), (8, .bool (Tr.qbyEq g.name [])), (9, .pointer (some (Addr.mk A.next (Nat.add 0 1) none))), (10, .int .i64 g.params), (11, .bool (Tr.qiLt g.params (Int.ofNat 0))), (12, .bool (Tr.qiLt g.params (Int.ofNat 0))), (13, .bool (Tr.qiLt g.params (Int.ofNat 0))), (14, .pointer (some (Addr.mk A.next (Nat.add 0 1) none))), (15, .int .i64 g.params), (16, .bool (Tr.qiLt (Int.ofNat 6) g.params)), (17, .bool (Tr.qiLt (Int.ofNat 6) g.params)), (18, .bool (Tr.qiLt (Int.ofNat 6) g.params)), (19, .pointer (some (Addr.mk A.next (Nat.add 0 2) none))), (20, .int .i64 g.regs), (21, .pointer (some (Addr.mk A.next (Nat.add 0 1) none))), (22, .int .i64 g.params), (23, .bool (Tr.qiLt g.regs g.params)), (24, .bool (Tr.qiLt g.regs g.params)), (25, .bool (Tr.qiLt g.regs g.params)), (26, .pointer (some (Addr.mk A.next (Nat.add 0 2) none))), (27, .int .i64 g.regs), (28, .bool (Tr.qiLt (Int.ofNat 4096) g.regs)), (29, .bool (Tr.qiLt (Int.ofNat 4096) g.regs)), (30, .bool (Tr.qiLt (Int.ofNat 4096) g.regs)), (31, .pointer (some (Addr.mk A.next (Nat.add 0 3) none))), (32, .int .i64 g.frame), (33, .bool (Tr.qiLt g.frame (Int.ofNat 0))), (34, .bool (Tr.qiLt g.frame (Int.ofNat 0))), (35, .bool (Tr.qiLt g.frame (Int.ofNat 0))), (36, .pointer (some (Addr.mk A.next (Nat.add 0 3) none))), (37, .int .i64 g.frame), (38, .bool (Tr.qiLt (Int.ofNat 4096) g.frame)), (39, .bool (Tr.qiLt (Int.ofNat 4096) g.frame)), (40, .bool (Tr.qiLt (Int.ofNat 4096) g.frame)), (45, .bool true), (46, .bool true), (51, .bool true)] (std O128).nil) (box A g.cells))) .bad)))))) .bad)) .bad)
 (.ite (Tr.qWant (.bool (Tr.qiLt g.frame (Int.ofNat 0))) false) .bad (.ite (Tr.qWant (.bool (Tr.qiLt g.frame (Int.ofNat 0))) false) .bad (.ite (Tr.qiLt g.frame (Int.ofNat 0)) (.tree (kr (st (std O128) [(0, .agg (Array.mk g.cells)), (1, .pointer (some (Addr.mk A.next 0 none))), (2, .bool false), (5, .pointer (some (Addr.mk A.next (Nat.add 0 0) none))), (6, Value.string (ByteArray.mk (Array.mk g.name))), (7, .bool (Tr.qbyEq g.name [])), (8, .bool (Tr.qbyEq g.name [])), (9, .pointer (some (Addr.mk A.next (Nat.add 0 1) none))), (10, .int .i64 g.params), (11, .bool (Tr.qiLt g.params (Int.ofNat 0))), (12, .bool (Tr.qiLt g.params (Int.ofNat 0))), (13, .bool (Tr.qiLt g.params (Int.ofNat 0))), (14, .pointer (some (Addr.mk A.next (Nat.add 0 1) none))), (15, .int .i64 g.params), (16, .bool (Tr.qiLt (Int.ofNat 6) g.params)), (17, .bool (Tr.qiLt (Int.ofNat 6) g.params)), (18, .bool (Tr.qiLt (Int.ofNat 6) g.params)), (19, .pointer (some (Addr.mk A.next (Nat.add 0 2) none))), (20, .int .i64 g.regs), (21, .pointer (some (Addr.mk A.next (Nat.add 0 1) none))), (22, .int .i64 g.params), (23, .bool (Tr.qiLt g.regs g.params)), (24, .bool (Tr.qiLt g.regs g.params)), (25, .bool (Tr.qiLt g.regs g.params)), (26, .pointer (some (Addr.mk A.next (Nat.add 0 2) none))), (27, .int .i64 g.regs), (28, .bool (Tr.qiLt (Int.ofNat 4096) g.regs)), (29, .bool (Tr.qiLt (Int.ofNat 4096) g.regs)), (30, .bool (Tr.qiLt (Int.ofNat 4096) g.regs)), (31, .pointer (some (Addr.mk A.next (Nat.add 0 3) none))), (32, .int .i64 g.frame), (33, .bool (Tr.qiLt g.frame (Int.ofNat 0))), (34, .bool (Tr.qiLt g.frame (Int.ofNat 0))), (35, .bool (Tr.qiLt g.frame (Int.ofNat 0))), (39, .bool true), (40, .bool true), (45, .bool true), (46, .bool true), (51, .bool true)] (std O128).nil) (box A g.cells))) .bad))))) .bad)) .bad)
 (.ite (Tr.qWant (.bool (Tr.qiLt (Int.ofNat 4096) g.regs)) false) .bad (.ite (Tr.qWant (.bool (Tr.qiLt (Int.ofNat 4096) g.regs)) false) .bad (.ite (Tr.qiLt (Int.ofNat 4096) g.regs) (.tree (kr (st (std O128) [(0, .agg (Array.mk g.cells)), (1, .pointer (some (Addr.mk A.next 0 none))), (2, .bool false), (5, .pointer (some (Addr.mk A.next (Nat.add 0 0) none))), (6, Value.string (ByteArray.mk (Array.mk g.name))), (7, .bool (Tr.qbyEq g.name [])), (8, .bool (Tr.qbyEq g.name [])), (9, .pointer (some (Addr.mk A.next (Nat.add 0 1) none))), (10, .int .i64 g.params), (11, .bool (Tr.qiLt g.params (Int.ofNat 0))), (12, .bool (Tr.qiLt g.params (Int.ofNat 0))), (13, .bool (Tr.qiLt g.params (Int.ofNat 0))), (14, .pointer (some (Addr.mk A.next (Nat.add 0 1) none))), (15, .int .i64 g.params), (16, .bool (Tr.qiLt (Int.ofNat 6) g.params)), (17, .bool (Tr.qiLt (Int.ofNat 6) g.params)), (18, .bool (Tr.qiLt (Int.ofNat 6) g.params)), (19, .pointer (some (Addr.mk A.next (Nat.add 0 2) none))), (20, .int .i64 g.regs), (21, .pointer (some (Addr.mk A.next (Nat.add 0 1) none))), (22, .int .i64 g.params), (23, .bool (Tr.qiLt g.regs g.params)), (24, .bool (Tr.qiLt g.regs g.params)), (25, .bool (Tr.qiLt g.regs g.params)), (26, .pointer (some (Addr.mk A.next (Nat.add 0 2) none))), (27, .int .i64 g.regs), (28, .bool (Tr.qiLt (Int.ofNat 4096) g.regs)), (29, .bool (Tr.qiLt (Int.ofNat 4096) g.regs)), (30, .bool (Tr.qiLt (Int.ofNat 4096) g.regs)), (34, .bool true), (35, .bool true), (39, .bool true), (40, .bool true), (45, .bool true), (46, .bool true), (51, .bool true)] (std O128).nil) (box A g.cells))) .bad))))) .bad)) .bad)
 (.ite (Tr.qWant (.bool (Tr.qiLt g.regs g.params)) false) .bad (.ite (Tr.qWant (.bool (Tr.qiLt g.regs g.params)) false) .bad (.ite (Tr.qiLt g.regs g.params) (.tree (kr (st (std O128) [(0, .agg (Array.mk g.cells)), (1, .pointer (some (Addr.mk A.next 0 none))), (2, .bool false), (5, .pointer (some (Addr.mk A.next (Nat.add 0 0) none))), (6, Value.string (ByteArray.mk (Array.mk g.name))), (7, .bool (Tr.qbyEq g.name [])), (8, .bool (Tr.qbyEq g.name [])), (9, .pointer (some (Addr.mk A.next (Nat.add 0 1) none))), (10, .int .i64 g.params), (11, .bool (Tr.qiLt g.params (Int.ofNat 0))), (12, .bool (Tr.qiLt g.params (Int.ofNat 0))), (13, .bool (Tr.qiLt g.params (Int.ofNat 0))), (14, .pointer (some (Addr.mk A.next (Nat.add 0 1) none))), (15, .int .i64 g.params), (16, .bool (Tr.qiLt (Int.ofNat 6) g.params)), (17, .bool (Tr.qiLt (Int.ofNat 6) g.params)), (18, .bool (Tr.qiLt (Int.ofNat 6) g.params)), (19, .pointer (some (Addr.mk A.next (Nat.add 0 2) none))), (20, .int .i64 g.regs), (21, .pointer (some (Addr.mk A.next (Nat.add 0 1) none))), (22, .int .i64 g.params), (23, .bool (Tr.qiLt g.regs g.params)), (24, .bool (Tr.qiLt g.regs g.params)), (25, .bool (Tr.qiLt g.regs g.params)), (29, .bool true), (30, .bool true), (34, .bool true), (35, .bool true), (39, .bool true), (40, .bool true), (45, .bool true), (46, .bool true), (51, .bool true)] (std O128).nil) (box A g.cells))) .bad))))) .bad)) .bad) .bad)) .bad)
 (.ite (Tr.qWant (.bool (Tr.qiLt (Int.ofNat 6) g.params)) false) .bad (.ite (Tr.qWant (.bool (Tr.qiLt (Int.ofNat 6) g.params)) false) .bad (.ite (Tr.qWant (.bool (Tr.qiLt (Int.ofNat 6) g.params)) false) .bad (.ite (Tr.qWant (.bool (Tr.qiLt (Int.ofNat 6) g.params)) false) .bad (.ite (Tr.qiLt (Int.ofNat 6) g.params) (.tree (kr (st (std O128) [(0, .agg (Array.mk g.cells)), (1, .pointer (some (Addr.mk A.next 0 none))), (2, .bool false), (5, .pointer (some (Addr.mk A.next (Nat.add 0 0) none))), (6, Value.string (ByteArray.mk (Array.mk g.name))), (7, .bool (Tr.qbyEq g.name [])), (8, .bool (Tr.qbyEq g.name [])), (9, .pointer (some (Addr.mk A.next (Nat.add 0 1) none))), (10, .int .i64 g.params), (11, .bool (Tr.qiLt g.params (Int.ofNat 0))), (12, .bool (Tr.qiLt g.params (Int.ofNat 0))), (13, .bool (Tr.qiLt g.params (Int.ofNat 0))), (14, .pointer (some (Addr.mk A.next (Nat.add 0 1) none))), (15, .int .i64 g.params), (16, .bool (Tr.qiLt (Int.ofNat 6) g.params)), (17, .bool (Tr.qiLt (Int.ofNat 6) g.params)), (18, .bool (Tr.qiLt (Int.ofNat 6) g.params)), (24, .bool true), (25, .bool true), (29, .bool true), (30, .bool true), (34, .bool true), (35, .bool true), (39, .bool true), (40, .bool true), (45, .bool true), (46, .bool true), (51, .bool true)] (std O128).nil) (box A g.cells))) .bad))))))) .bad)) .bad)
 (.ite (Tr.qWant (.bool (Tr.qiLt g.params (Int.ofNat 0))) false) .bad (.ite (Tr.qWant (.bool (Tr.qiLt g.params (Int.ofNat 0))) false) .bad (.ite (Tr.qiLt g.params (Int.ofNat 0)) (.tree (kr (st (std O128) [(0, .agg (Array.mk g.cells)), (1, .pointer (some (Addr.mk A.next 0 none))), (2, .bool false), (5, .pointer (some (Addr.mk A.next (Nat.add 0 0) none))), (6, Value.string (ByteArray.mk (Array.mk g.name))), (7, .bool (Tr.qbyEq g.name [])), (8, .bool (Tr.qbyEq g.name [])), (9, .pointer (some (Addr.mk A.next (Nat.add 0 1) none))), (10, .int .i64 g.params), (11, .bool (Tr.qiLt g.params (Int.ofNat 0))), (12, .bool (Tr.qiLt g.params (Int.ofNat 0))), (13, .bool (Tr.qiLt g.params (Int.ofNat 0))), (17, .bool true), (18, .bool true), (24, .bool true), (25, .bool true), (29, .bool true), (30, .bool true), (34, .bool true), (35, .bool true), (39, .bool true), (40, .bool true), (45, .bool true), (46, .bool true), (51, .bool true)] (std O128).nil) (box A g.cells))) .bad))))) .bad)) .bad)
 (.ite (Tr.qWant (.bool (Tr.qbyEq g.name [])) false) .bad (.ite (Tr.qWant (.bool (Tr.qbyEq g.name [])) false) .bad (.ite (Tr.qbyEq g.name []) (.tree (kr (st (std O128) [(0, .agg (Array.mk g.cells)), (1, .pointer (some (Addr.mk A.next 0 none))), (2, .bool false), (5, .pointer (some (Addr.mk A.next (Nat.add 0 0) none))), (6, Value.string (ByteArray.mk (Array.mk g.name))), (7, .bool (Tr.qbyEq g.name [])), (8, .bool (Tr.qbyEq g.name [])), (12, .bool true), (13, .bool true), (17, .bool true), (18, .bool true), (24, .bool true), (25, .bool true), (29, .bool true), (30, .bool true), (34, .bool true), (35, .bool true), (39, .bool true), (40, .bool true), (45, .bool true), (46, .bool true), (51, .bool true)] (std O128).nil) (box A g.cells))) .bad))))) := by kernel_rfl
theorem round27 (g : Fun1) (x : Ins) (p i : Nat) (cs : List Value) (z : Nat) (e : Bool) (t : (N16 (N8 Value))) (K kr : Tr.KK' (N16 (N8 Value))) (kx : Nat → Tr.KK' (N16 (N8 Value))) (A : AS) :
  run (.split (.must (.obj (.cells cs z e) (.given x.cells (.lit 1 (.obj (.cells zeroIns.cells 0 false) (.must (.obj (.cells x.cells 0 false) (.lit 1 (.obj (.cells g.cells 0 false) (.lit 1 (.must (.split .stop (.must .stop))))))))))))) .stop)
    ((Tr.kcode' Tryz.prog (std O128) 74 27 false ((bd Tryz.f27).at [1, 1, 0, 1, 0, 0])).f (Tr.kc Tryz.prog prims1 20) K kr kx (st (std O128) [(1, .pointer (some ⟨p, 0, none⟩)), (53, .slice (some ⟨g.B, g.o, none⟩) g.len g.cap), (54, .int .i64 (Int.ofNat g.len)), (55, .int .i64 (Int.ofNat i))] t) A) =
  (.ite (Tr.qiLt (Int.ofNat i) (Int.ofNat g.len))
 (.ite (Nat.ble (Nat.succ i) g.len) (.obj (Tr.hget A.heap g.B) (.cells cs z e) (.given cs (Nat.add g.o (Nat.mul i 15)) 15 x.cells (.obj (Tr.hget (box A zeroIns.cells).heap A.next) (.cells zeroIns.cells 0 false) (.ite (Nat.ble A.ro A.next) (.obj (Tr.hget (plus A x.cells).heap A.next) (.cells x.cells 0 false) (.obj (Tr.hget (plus A x.cells).heap p) (.cells g.cells 0 false) (.ite (Bool.not (Tr.qiLt g.regs (Int.ofNat 0))) (.ite (Bool.not (rightS x g.regs g.frame g.len))
 (.tree (kr (st (std O128) [(2, .bool false), (4, .pointer (some (Addr.mk A.next 0 none))), (56, .bool (Tr.qiLt (Int.ofNat i) (Int.ofNat g.len))), (57, .pointer (some (Addr.mk g.B (Nat.add g.o (Nat.mul i 15)) none))), (58, .agg (Array.mk x.cells)), (59, .agg (Array.mk x.cells)), (60, .agg (Array.mk g.cells)), (61, .bool (rightS x g.regs g.frame g.len)), (62, .bool !rightS x g.regs g.frame g.len)] (st (std O128) [(1, .pointer (some ⟨p, 0, none⟩)), (53, .slice (some ⟨g.B, g.o, none⟩) g.len g.cap), (54, .int .i64 (Int.ofNat g.len)), (55, .int .i64 (Int.ofNat i))] t)) (plus A x.cells)))
 (.ite (qIn64 (Tr.qiAdd (Int.ofNat i) (Int.ofNat 1))) (.tree (K (st (std O128) [(4, .pointer (some (Addr.mk A.next 0 none))), (55, .int .i64 (Tr.qiAdd (Int.ofNat i) (Int.ofNat 1))), (56, .bool (Tr.qiLt (Int.ofNat i) (Int.ofNat g.len))), (57, .pointer (some (Addr.mk g.B (Nat.add g.o (Nat.mul i 15)) none))), (58, .agg (Array.mk x.cells)), (59, .agg (Array.mk x.cells)), (60, .agg (Array.mk g.cells)), (61, .bool (rightS x g.regs g.frame g.len)), (62, .bool !rightS x g.regs g.frame g.len), (63, .int .i64 (Tr.qiAdd (Int.ofNat i) (Int.ofNat 1)))] (st (std O128) [(1, .pointer (some ⟨p, 0, none⟩)), (53, .slice (some ⟨g.B, g.o, none⟩) g.len g.cap), (54, .int .i64 (Int.ofNat g.len)), (55, .int .i64 (Int.ofNat i))] t)) (plus A x.cells))) .bad)) .bad))) .bad)))) .bad)
 (.tree (kx 0 (st (std O128) [(56, .bool (Tr.qiLt (Int.ofNat i) (Int.ofNat g.len)))] (st (std O128) [(1, .pointer (some ⟨p, 0, none⟩)), (53, .slice (some ⟨g.B, g.o, none⟩) g.len g.cap), (54, .int .i64 (Int.ofNat g.len)), (55, .int .i64 (Int.ofNat i))] t)) A))) := by kernel_rfl
theorem tail27 (E : Tr.KE) (g : Fun1) (m p : Nat) (k : Int) (cs : List Value) (z : Nat) (e : Bool) (t : (N16 (N8 Value))) (K kr : Tr.KK' (N16 (N8 Value))) (kx : Nat → Tr.KK' (N16 (N8 Value))) (A : AS) :
  run (.obj (.cells [Value.string (ByteArray.mk (Array.mk g.name)), .int .i64 g.params, .int .i64 g.regs, .int .i64 g.frame, .slice (some (Addr.mk g.B g.o none)) (Nat.succ m) g.cap] 0 false) (.lit 1 (.obj (.cells [Value.string (ByteArray.mk (Array.mk g.name)), .int .i64 g.params, .int .i64 g.regs, .int .i64 g.frame, .slice (some (Addr.mk g.B g.o none)) (Nat.succ m) g.cap] 0 false) (.lit 1 (.must (.must (.obj (.cells cs z e) (.given ([.int .i64 k]) .stop))))))))
    ((Tr.kcode' Tryz.prog (std O128) 74 27 false ((bd Tryz.f27).at [1, 1, 1])).f E K kr kx (st (std O128) [(1, .pointer (some ⟨p, 0, none⟩))] t) A) =
  (.obj (Tr.hget A.heap p) (.cells [Value.string (ByteArray.mk (Array.mk g.name)), .int .i64 g.params, .int .i64 g.regs, .int .i64 g.frame, .slice (some (Addr.mk g.B g.o none)) (Nat.succ m) g.cap] 0 false) (.obj (Tr.hget A.heap p) (.cells [Value.string (ByteArray.mk (Array.mk g.name)), .int .i64 g.params, .int .i64 g.regs, .int .i64 g.frame, .slice (some (Addr.mk g.B g.o none)) (Nat.succ m) g.cap] 0 false) (.ite (qIn64 (Tr.qiSub (Int.ofNat (Nat.succ m)) (Int.ofNat 1))) (.ite (Nat.ble (Nat.succ (Nat.sub (Nat.succ m) 1)) (Nat.succ m)) (.obj (Tr.hget A.heap g.B) (.cells cs z e) (.given cs (Nat.add (Nat.add g.o (Nat.mul (Nat.sub (Nat.succ m) 1) 15)) 0) 1 ([.int .i64 k]) (.tree (kr (st (std O128) [(2, .bool !Tr.qiLt k (Int.ofNat 11)), (64, .pointer (some (Addr.mk p (Nat.add 0 4) none))), (65, .slice (some (Addr.mk g.B g.o none)) (Nat.succ m) g.cap), (66, .pointer (some (Addr.mk p (Nat.add 0 4) none))), (67, .slice (some (Addr.mk g.B g.o none)) (Nat.succ m) g.cap), (68, .int .i64 (Int.ofNat (Nat.succ m))), (69, .int .i64 (Tr.qiSub (Int.ofNat (Nat.succ m)) (Int.ofNat 1))), (70, .pointer (some (Addr.mk g.B (Nat.add g.o (Nat.mul (Nat.sub (Nat.succ m) 1) 15)) none))), (71, .pointer (some (Addr.mk g.B (Nat.add (Nat.add g.o (Nat.mul (Nat.sub (Nat.succ m) 1) 15)) 0) none))), (72, .int .i64 k), (73, .bool !Tr.qiLt k (Int.ofNat 11))] (st (std O128) [(1, .pointer (some ⟨p, 0, none⟩))] t)) A)))) .bad) .bad))) := by kernel_rfl
theorem call27 (g : Fun1) (A : AS) : (Tr.kc Tryz.prog prims1 21).call 27 [.agg ⟨g.cells⟩] A .ret =
    (Tr.kcode' Tryz.prog (std O128) 74 27 false (bd Tryz.f27)).f (Tr.kc Tryz.prog prims1 20) ((Tr.kret Tryz.prog (std O128) [.tmp 2]).f .ret) ((Tr.kret Tryz.prog (std O128) [.tmp 2]).f .ret)
      (fun _ _ _ => Tr.failAt 102) (((std O128).set 0).f (.agg ⟨g.cells⟩) (std O128).nil) A := by
  have e : ∀ E args K, (Tr.kfn Tryz.prog prims1 27).f E args A K = (Tr.kbodyN Tryz.prog (std O128) 74 27 [.tmp 2] (bd Tryz.f27)).f E args A K := by
    intro E args K
    rw [show Tr.kfn Tryz.prog prims1 27 = Tr.kbodyN Tryz.prog (std O128) 74 27 [.tmp 2] (bd Tryz.f27) from by kernel_rfl]
  rw [kc_call, e, bodyN_eq]
  rfl
theorem code27 : bd Tryz.f27 = .seq ((bd Tryz.f27).at [0]) (.seq ((bd Tryz.f27).at [1, 0]) (.seq (.seq ((bd Tryz.f27).at [1, 1, 0, 0]) (.block 0 (.loop ((bd Tryz.f27).at [1, 1, 0, 1, 0, 0])))) ((bd Tryz.f27).at [1, 1, 1]))) := by kernel_rfl
theorem f27_loop (g : Fun1) (cs : List Value) (z : Nat) (e : Bool) (hc : okC cs g.o g.len = true) (hf : okF g = true) (p : Nat) (kn : Tr.KK' (N16 (N8 Value))) (kx : Nat → Tr.KK' (N16 (N8 Value)))
    (hk : ∀ t A, t = st (std O128) [(1, .pointer (some ⟨p, 0, none⟩))] t → (∀ j, j < g.len → rightS (insN cs g.o j) g.regs g.frame g.len = true) → Has A p (.cells g.cells 0 false) → Has A g.B (.cells cs z e) → Tells (.bool (rightF g cs)) (kx 0 t A).eval) :
    ∀ n k t A, k < n → (∃ i, i + k = g.len ∧ t = st (std O128) [(1, .pointer (some ⟨p, 0, none⟩)), (53, .slice (some ⟨g.B, g.o, none⟩) g.len g.cap), (54, .int .i64 (Int.ofNat g.len)), (55, .int .i64 (Int.ofNat i))] t ∧
        Has A p (.cells g.cells 0 false) ∧ Has A g.B (.cells cs z e) ∧ A.ro ≤ A.next ∧ ∀ j, j < i → rightS (insN cs g.o j) g.regs g.frame g.len = true) →
      Tells (.bool (rightF g cs)) (kloop (Tr.kcode' Tryz.prog (std O128) 74 27 false ((bd Tryz.f27).at [1, 1, 0, 1, 0, 0])).f (Tr.kc Tryz.prog prims1 20) ((Tr.kret Tryz.prog (std O128) [.tmp 2]).f .ret) kx n t A).eval := by
  refine loop_tells (I := fun k t A => ∃ i, i + k = g.len ∧ t = st (std O128) [(1, .pointer (some ⟨p, 0, none⟩)), (53, .slice (some ⟨g.B, g.o, none⟩) g.len g.cap), (54, .int .i64 (Int.ofNat g.len)), (55, .int .i64 (Int.ofNat i))] t ∧
        Has A p (.cells g.cells 0 false) ∧ Has A g.B (.cells cs z e) ∧ A.ro ≤ A.next ∧ ∀ j, j < i → rightS (insN cs g.o j) g.regs g.frame g.len = true) ?_
  rintro k t A K ⟨i, hi, ht, hp, hB, hro, hall⟩ ih
  rw [ht]
  refine tells_of (round27 g (insN cs g.o i) p i cs z e t K _ kx A) ?_
  have hreg : Tr.qiLt g.regs (Int.ofNat 0) = false := by
    have := okF_regs hf
    rw [qiLt_d]; exact decide_eq_false (by simp only [Int.ofNat_eq_natCast]; omega)
  simp only [Out.tells]
  refine ⟨fun hlt => ?_, fun hge => ?_⟩
  · have hlt : i < g.len := by
      rw [qiLt_d] at hlt
      simpa using hlt
    have h1 : Nat.ble (Nat.succ i) g.len = true := Nat.ble_eq_true_of_le hlt
    have h2 : Nat.ble A.ro A.next = true := Nat.ble_eq_true_of_le hro
    simp only [h1, h2, hreg, hB.1, okC_at hc hlt, (box_has A zeroIns.cells).1, (plus_has A _).1, (hp.plus _).1, in64 (Nat.lt_of_lt_of_le hlt (okC_le hc)), true_and, forall_const, Bool.not_false, Bool.true_eq_false, Bool.false_eq_true, false_implies, and_true]
    refine ⟨fun hr => ?_, fun hr => ?_⟩
    · have hr : rightS (insN cs g.o i) g.regs g.frame g.len = false := by simpa using hr
      have : rightF g cs = false := by
        unfold rightF
        have : (List.range g.len).all (fun j => rightS (insN cs g.o j) g.regs g.frame g.len) = false := by
          rw [List.all_eq_false]
          exact ⟨i, List.mem_range.2 hlt, by simp [hr]⟩
        rw [this]; simp
      rw [this]
      exact ret_tells (by kernel_rfl)
    · have hr : rightS (insN cs g.o i) g.regs g.frame g.len = true := by simpa using hr
      refine ih (g.len - (i + 1)) _ _ (by omega) ⟨i + 1, by omega, ?_, hp.plus _, hB.plus _, plus_ro hro _, ?_⟩
      · kernel_rfl
      · intro j hj
        rcases Nat.lt_succ_iff_lt_or_eq.1 hj with h | rfl
        · exact hall j h
        · exact hr
  · have hge : g.len ≤ i := by
      rw [qiLt_d] at hge
      simpa using hge
    exact hk _ A (by kernel_rfl) (fun j hj => hall j (by omega)) hp hB
theorem f27_tail (g : Fun1) (cs : List Value) (z : Nat) (e : Bool) (hc : okC cs g.o g.len = true) (hf : okF g = true) (p : Nat) (E : Tr.KE) (kn : Tr.KK' (N16 (N8 Value))) (kx : Nat → Tr.KK' (N16 (N8 Value)))
    (t : N16 (N8 Value)) (A : AS) (ht : t = st (std O128) [(1, .pointer (some ⟨p, 0, none⟩))] t) (hall : ∀ j, j < g.len → rightS (insN cs g.o j) g.regs g.frame g.len = true) (hp : Has A p (.cells g.cells 0 false)) (hB : Has A g.B (.cells cs z e)) :
    Tells (.bool (rightF g cs)) ((Tr.kcode' Tryz.prog (std O128) 74 27 false ((bd Tryz.f27).at [1, 1, 1])).f E kn ((Tr.kret Tryz.prog (std O128) [.tmp 2]).f .ret) kx t A).eval := by
  have h1 : 1 ≤ g.len := okF_len hf
  have hr : rightF g cs = !(Tr.qiLt (insN cs g.o (g.len - 1)).kind 11) := by
    unfold rightF
    have : (List.range g.len).all (fun j => rightS (insN cs g.o j) g.regs g.frame g.len) = true := by
      rw [List.all_eq_true]
      exact fun j hj => hall j (List.mem_range.1 hj)
    rw [hf, this, Bool.true_and, Bool.true_and]
  rw [hr, ht]
  obtain ⟨nm, ps, rs, fr, B, o, len, cap⟩ := g
  cases len with
  | zero => exact absurd (show 1 ≤ 0 from h1) (by decide)
  | succ m =>
    have hi := okC_at hc (Nat.lt_succ_self m)
    refine tells_of (tail27 E ⟨nm, ps, rs, fr, B, o, m + 1, cap⟩ m p (insN cs o m).kind cs z e t kn _ kx A) ?_
    have hle := okC_le hc
    refine ⟨hp.1, hp.1, fun _ => ⟨fun _ => ⟨hB.1, piece_one hi, ret_tells (by kernel_rfl)⟩, fun h => ?_⟩, fun h => ?_⟩
    · have : Nat.ble (Nat.succ m) (Nat.succ m) = true := Nat.ble_eq_true_of_le (Nat.le_refl _)
      exact absurd (this.symm.trans h) (by decide)
    · have : Nat.ble m 9223372036854775807 = true := Nat.ble_eq_true_of_le (by
        have hle : m + 1 ≤ 2 ^ 63 - 1 := hle
        omega)
      exact absurd (this.symm.trans h) (by decide)
theorem f27_tells (g : Fun1) (cs : List Value) (z : Nat) (e : Bool) (A : AS) (hB : Has A g.B (.cells cs z e)) (hc : okC cs g.o g.len = true) (hro : A.ro ≤ A.next) :
    Tells (.bool (rightF g cs)) ((Tr.kc Tryz.prog prims1 21).call 27 [.agg ⟨g.cells⟩] A .ret).eval := by
  rw [call27, code27, mid_eq]
  refine tells_of (pre27 _ g _ _ _ _) ?_
  simp only [Out.tells, (box_has A g.cells).1, true_and, wantT, wantF]
  cases h0 : Tr.qbyEq g.name []
  case true =>
    have h0' : Tr.qbyEq g.name [] = true := h0
    simp only [h0, Bool.not_true, Bool.not_false, Bool.true_eq_false, Bool.false_eq_true, false_implies, forall_const, true_and, and_true, implies_true]
    rw [show rightF g cs = false from by simp only [rightF, okF, h0']; rfl]
    exact ret_tells (by kernel_rfl)
  have h0' : Tr.qbyEq g.name [] = false := h0
  cases h1 : Tr.qiLt g.params (Int.ofNat 0)
  case true =>
    have h1' : Tr.qiLt g.params 0 = true := h1
    simp only [h1, Bool.not_true, Bool.not_false, Bool.true_eq_false, Bool.false_eq_true, false_implies, forall_const, true_and, and_true, implies_true]
    rw [show rightF g cs = false from by simp only [rightF, okF, h0', h1']; rfl]
    exact ret_tells (by kernel_rfl)
  have h1' : Tr.qiLt g.params 0 = false := h1
  cases h2 : Tr.qiLt (Int.ofNat 6) g.params
  case true =>
    have h2' : Tr.qiLt 6 g.params = true := h2
    simp only [h2, Bool.not_true, Bool.not_false, Bool.true_eq_false, Bool.false_eq_true, false_implies, forall_const, true_and, and_true, implies_true]
    rw [show rightF g cs = false from by simp only [rightF, okF, h0', h1', h2']; rfl]
    exact ret_tells (by kernel_rfl)
  have h2' : Tr.qiLt 6 g.params = false := h2
  cases h3 : Tr.qiLt g.regs g.params
  case true =>
    have h3' : Tr.qiLt g.regs g.params = true := h3
    simp only [h3, Bool.not_true, Bool.not_false, Bool.true_eq_false, Bool.false_eq_true, false_implies, forall_const, true_and, and_true, implies_true]
    rw [show rightF g cs = false from by simp only [rightF, okF, h0', h1', h2', h3']; rfl]
    exact ret_tells (by kernel_rfl)
  have h3' : Tr.qiLt g.regs g.params = false := h3
  cases h4 : Tr.qiLt (Int.ofNat 4096) g.regs
  case true =>
    have h4' : Tr.qiLt 4096 g.regs = true := h4
    simp only [h4, Bool.not_true, Bool.not_false, Bool.true_eq_false, Bool.false_eq_true, false_implies, forall_const, true_and, and_true, implies_true]
    rw [show rightF g cs = false from by simp only [rightF, okF, h0', h1', h2', h3', h4']; rfl]
    exact ret_tells (by kernel_rfl)
  have h4' : Tr.qiLt 4096 g.regs = false := h4
  cases h5 : Tr.qiLt g.frame (Int.ofNat 0)
  case true =>
    have h5' : Tr.qiLt g.frame 0 = true := h5
    simp only [h5, Bool.not_true, Bool.not_false, Bool.true_eq_false, Bool.false_eq_true, false_implies, forall_const, true_and, and_true, implies_true]
    rw [show rightF g cs = false from by simp only [rightF, okF, h0', h1', h2', h3', h4', h5']; rfl]
    exact ret_tells (by kernel_rfl)
  have h5' : Tr.qiLt g.frame 0 = false := h5
  cases h6 : Tr.qiLt (Int.ofNat 4096) g.frame
  case true =>
    have h6' : Tr.qiLt 4096 g.frame = true := h6
    simp only [h6, Bool.not_true, Bool.not_false, Bool.true_eq_false, Bool.false_eq_true, false_implies, forall_const, true_and, and_true, implies_true]
    rw [show rightF g cs = false from by simp only [rightF, okF, h0', h1', h2', h3', h4', h5', h6']; rfl]
    exact ret_tells (by kernel_rfl)
  have h6' : Tr.qiLt 4096 g.frame = false := h6
  cases h7 : Tr.qiLt (Int.ofNat g.len) (Int.ofNat 1)
  case true =>
    have h7' : Tr.qiLt g.len 1 = true := h7
    simp only [h7, Bool.not_true, Bool.not_false, Bool.true_eq_false, Bool.false_eq_true, false_implies, forall_const, true_and, and_true, implies_true]
    rw [show rightF g cs = false from by simp only [rightF, okF, h0', h1', h2', h3', h4', h5', h6', h7']; rfl]
    exact ret_tells (by kernel_rfl)
  have h7' : Tr.qiLt g.len 1 = false := h7
  cases h8 : Tr.qiLt (Int.ofNat 8192) (Int.ofNat g.len)
  case true =>
    have h8' : Tr.qiLt 8192 g.len = true := h8
    simp only [h8, Bool.not_true, Bool.not_false, Bool.true_eq_false, Bool.false_eq_true, false_implies, forall_const, true_and, and_true, implies_true]
    rw [show rightF g cs = false from by simp only [rightF, okF, h0', h1', h2', h3', h4', h5', h6', h7', h8']; rfl]
    exact ret_tells (by kernel_rfl)
  have h8' : Tr.qiLt 8192 g.len = false := h8
  simp only [h0, h1, h2, h3, h4, h5, h6, h7, h8, Bool.not_true, Bool.not_false, Bool.true_eq_false, Bool.false_eq_true, false_implies, forall_const, true_and, and_true, implies_true]
  have hf : okF g = true := by simp only [okF, h0', h1', h2', h3', h4', h5', h6', h7', h8']; rfl
  have hl : g.len < Tr.loopMost := by
    rw [qiLt_d] at h8'
    simp only [decide_eq_false_iff_not] at h8'
    show g.len < 100000000
    omega
  rw [mid_loop]
  refine f27_loop g cs z e hc hf A.next (fun _ _ => .fail 0) _ ?_ _ g.len _ _ hl ⟨0, by omega, by kernel_rfl, box_has A _, hB.box _, box_ro hro _, fun j hj => absurd hj (Nat.not_lt_zero _)⟩
  intro t A' ht hall hp hB'
  exact f27_tail g cs z e hc hf A.next _ _ _ t A' ht hall hp hB'
end Go.Proofs
namespace Go.Proofs
open Go Go.Dp Go.Dp.Tr
theorem pre17 (E : Tr.KE) (g : Fun1) (K kr : Tr.KK' (N16 (N8 Value))) (kx : Nat → Tr.KK' (N16 (N8 Value))) (A : AS) :
  run (.obj (.cells g.cells 0 false) (.lit 1 (.split (.must (.obj (.cells g.cells 0 false) (.lit 1 (.must (.mustn (.split (.must (.obj (.cells g.cells 0 false) (.lit 1 (.must (.mustn (.split (.must (.obj (.cells g.cells 0 false) (.lit 1 (.must (.must (.obj (.cells g.cells 0 false) (.lit 1 (.must (.mustn (.split (.must (.obj (.cells g.cells 0 false) (.lit 1 (.must (.mustn (.split (.must (.obj (.cells g.cells 0 false) (.lit 1 (.must (.mustn (.split (.must (.obj (.cells g.cells 0 false) (.lit 1 (.must (.mustn (.split (.must (.obj (.cells g.cells 0 false) (.lit 1 (.must (.must (.mustn (.split (.must (.obj (.cells g.cells 0 false) (.lit 1 (.must (.must (.mustn (.split .stop .stop))))))) (.mustn (.mustn (.mustn (.must (.lit 1 .stop)))))))))))) (.mustn (.mustn (.mustn (.must (.lit 6 .stop))))))))))) (.mustn (.mustn (.must (.lit 11 .stop)))))))))) (.mustn (.mustn (.must (.lit 15 .stop)))))))))) (.mustn (.mustn (.must (.lit 19 .stop)))))))))))))) (.mustn (.mustn (.mustn (.mustn (.must (.lit 23 .stop)))))))))))) (.mustn (.mustn (.must (.lit 29 .stop)))))))))) (.mustn (.mustn (.must (.lit 33 .stop)))))))
    ((Tr.kcode' Tryz.prog (std O128) 77 17 false (Code.seq ((bd Tryz.f17).at [0]) (Code.seq ((bd Tryz.f17).at [1, 0]) ((bd Tryz.f17).at [1, 1, 0, 0])))).f E K kr kx (((std O128).set 0).f (.agg ⟨g.cells⟩) (std O128).nil) A) =
  (.obj (Tr.hget (box A g.cells).heap A.next) (.cells g.cells 0 false) (.ite (Tr.qWant (.bool (Tr.qiEq (Int.ofNat (Tr.llen g.name)) (Int.ofNat 0))) false)
 (.ite (Tr.qWant (.bool (Tr.qiEq (Int.ofNat (Tr.llen g.name)) (Int.ofNat 0))) false) (.obj (Tr.hget (box A g.cells).heap A.next) (.cells g.cells 0 false) (.ite (Tr.qWant (.bool (Tr.qiEq (Int.ofNat (Tr.llen g.name)) (Int.ofNat 0))) false) (.ite (Tr.qiEq (Int.ofNat (Tr.llen g.name)) (Int.ofNat 0)) .bad (.ite (Tr.qWant (.bool (Tr.qiLt g.params (Int.ofNat 0))) false)
 (.ite (Tr.qWant (.bool (Tr.qiLt g.params (Int.ofNat 0))) false) (.obj (Tr.hget (box A g.cells).heap A.next) (.cells g.cells 0 false) (.ite (Tr.qWant (.bool (Tr.qiLt g.params (Int.ofNat 0))) false) (.ite (Tr.qiLt g.params (Int.ofNat 0)) .bad (.ite (Tr.qWant (.bool (Tr.qiLt (Int.ofNat 6) g.params)) false)
 (.ite (Tr.qWant (.bool (Tr.qiLt (Int.ofNat 6) g.params)) false) (.obj (Tr.hget (box A g.cells).heap A.next) (.cells g.cells 0 false) (.ite (Tr.qWant (.bool (Tr.qiLt (Int.ofNat 6) g.params)) false) (.ite (Tr.qWant (.bool (Tr.qiLt (Int.ofNat 6) g.params)) false) (.obj (Tr.hget (box A g.cells).heap A.next) (.cells g.cells 0 false) (.ite (Tr.qWant (.bool (Tr.qiLt (Int.ofNat 6) g.params)) false) (.ite (Tr.qiLt (Int.ofNat 6) g.params) .bad (.ite (Tr.qWant (.bool (Tr.qiLt g.regs g.params)) false)
 (.ite (Tr.qWant (.bool (Tr.qiLt g.regs g.params)) false) (.obj (Tr.hget (box A g.cells).heap A.next) (.cells g.cells 0 false) (.ite (Tr.qWant (.bool (Tr.qiLt g.regs g.params)) false) (.ite (Tr.qiLt g.regs g.params) .bad (.ite (Tr.qWant (.bool (Tr.qiLt (Int.ofNat 4096) g.regs)) false)
 (.ite (Tr.qWant (.bool (Tr.qiLt (Int.ofNat 4096) g.regs)) false) (.obj (Tr.hget (box A g.cells).heap A.next) (.cells g.cells 0 false) (.ite (Tr.qWant (.bool (Tr.qiLt (Int.ofNat 4096) g.regs)) false) (.ite (Tr.qiLt (Int.ofNat 4096) g.regs) .bad (.ite (Tr.qWant (.bool (Tr.qiLt g.frame (Int.ofNat 0))) false)
 (.ite (Tr.qWant (.bool (Tr.qiLt g.frame (Int.ofNat 0))) false) (.obj (Tr.hget (box A g.cells).heap A.next) (.cells g.cells 0 false) (.ite (Tr.qWant (.bool (Tr.qiLt g.frame (Int.ofNat 0))) false) (.ite (Tr.qiLt g.frame (Int.ofNat 0)) .bad (.ite (Tr.qWant (.bool (Tr.qiLt (Int.ofNat 4096) g.frame)) false)
 (.ite (Tr.qWant (.bool (Tr.qiLt (Int.ofNat 4096) g.frame)) false) (.obj (Tr.hget (box A g.cells).heap A.next) (.cells g.cells 0 false) (.ite (Tr.qWant (.bool (Tr.qiLt (Int.ofNat 4096) g.frame)) false) (.ite (Tr.qWant (.bool (Tr.qiLt (Int.ofNat 4096) g.frame)) false) (.ite (Tr.qiLt (Int.ofNat 4096) g.frame) .bad (.ite (Tr.qWant (.bool (Tr.qiEq (Int.ofNat g.len) (Int.ofNat 0))) false)
 (.ite (Tr.qWant (.bool (Tr.qiEq (Int.ofNat g.len) (Int.ofNat 0))) false) (.obj (Tr.hget (box A g.cells).heap A.next) (.cells g.cells 0 false) (.ite (Tr.qWant (.bool (Tr.qiEq (Int.ofNat g.len) (Int.ofNat 0))) false) (.ite (Tr.qWant (.bool (Tr.qiEq (Int.ofNat g.len) (Int.ofNat 0))) false) (.ite (Tr.qiEq (Int.ofNat g.len) (Int.ofNat 0)) .bad (.ite (Tr.qiLt (Int.ofNat 8192) (Int.ofNat g.len))
 (.tree (kr (st (std O128) [(0, .agg (Array.mk g.cells)), (1, .pointer (some (Addr.mk A.next 0 none))), (2, .bool false), (4, .pointer (some (Addr.mk A.next (Nat.add 0 0) none))), (5, Value.string (ByteArray.mk (Array.mk g.name))), (6, .int .i64 (Int.ofNat (Tr.llen g.name))), (7, .bool (Tr.qiEq (Int.ofNat (Tr.llen g.name)) (Int.ofNat 0))), (8, .bool (Tr.qiEq (Int.ofNat (Tr.llen g.name)) (Int.ofNat 0))), (9, .pointer (some (Addr.mk A.next (Nat.add 0 1) none))), (10, .int .i64 g.params), (11, .bool (Tr.qiLt g.params (Int.ofNat 0))), (12, .bool (Tr.qiLt g.params (Int.ofNat 0))), (13, .bool (Tr.qiLt g.params (Int.ofNat 0))), (14, .pointer (some (Addr.mk A.next (Nat.add 0 1) none))), (15, .int .i64 g.params), (16, .bool (Tr.qiLt (Int.ofNat 6) g.params)), (17, .bool (Tr.qiLt (Int.ofNat 6) g.params)), (18, .bool (Tr.qiLt (Int.ofNat 6) g.params)), (19, .pointer (some (Addr.mk A.next (Nat.add 0 2) none))), (20, .int .i64 g.regs), (21, .pointer (some (Addr.mk A.next (Nat.add 0 1) none))), (22, .int .i64 g.params), (23, .bool (Tr.qiLt g.regs g.params)), (24, .bool (Tr.qiLt g.regs g.params)), (25, .bool (Tr.qiLt g.regs g.params)), (26, .pointer (some (Addr.mk A.next (Nat.add 0 2) none))), (27, .int .i64 g.regs), (28, .bool (Tr.qiLt (Int.ofNat 4096) g.regs)), (29, .bool (Tr.qiLt (Int.ofNat 4096) g.regs)), (30, .bool (Tr.qiLt (Int.ofNat 4096) g.regs)), (31, .pointer (some (Addr.mk A.next (Nat.add 0 3) none))), (32, .int .i64 g.frame), (33, .bool (Tr.qiLt g.frame (Int.ofNat 0))), (34, .bool (Tr.qiLt g.frame (Int.ofNat 0))), (35, .bool (Tr.qiLt g.frame (Int.ofNat 0))), (36, .pointer (some (Addr.mk A.next (Nat.add 0 3) none))), (37, .int .i64 g.frame), (38, .bool (Tr.qiLt (Int.ofNat 4096) g.frame)), (39, .bool (Tr.qiLt (Int.ofNat 4096) g.frame)), (40, .bool (Tr.qiLt (Int.ofNat 4096) g.frame)), (41, .pointer (some (Addr.mk A.next (Nat.add 0 4) none))), (42, .slice (some (Addr.mk g.B g.o none)) g.len g.cap), (43, .int .i64 (Int.ofNat g.len)), (44, .bool (Tr.qiEq (Int.ofNat g.len) (Int.ofNat 0))), (45, .bool (Tr.qiEq (Int.ofNat g.len) (Int.ofNat 0))), (46, .bool (Tr.qiEq (Int.ofNat g.len) (Int.ofNat 0))), (47, .pointer (some (Addr.mk A.next (Nat.add 0 4) none))), (48, .slice (some (Addr.mk g.B g.o none)) g.len g.cap), (49, .int .i64 (Int.ofNat g.len)), (50, .bool (Tr.qiLt (Int.ofNat 8192) (Int.ofNat g.len))), (51, .bool (Tr.qiLt (Int.ofNat 8192) (Int.ofNat g.len)))] (std O128).nil) (box A g.cells)))
 (.tree (K (st (std O128) [(0, .agg (Array.mk g.cells)), (1, .pointer (some (Addr.mk A.next 0 none))), (2, .bool false), (3, .int .i64 (Int.ofNat 0)), (4, .pointer (some (Addr.mk A.next (Nat.add 0 0) none))), (5, Value.string (ByteArray.mk (Array.mk g.name))), (6, .int .i64 (Int.ofNat (Tr.llen g.name))), (7, .bool (Tr.qiEq (Int.ofNat (Tr.llen g.name)) (Int.ofNat 0))), (8, .bool (Tr.qiEq (Int.ofNat (Tr.llen g.name)) (Int.ofNat 0))), (9, .pointer (some (Addr.mk A.next (Nat.add 0 1) none))), (10, .int .i64 g.params), (11, .bool (Tr.qiLt g.params (Int.ofNat 0))), (12, .bool (Tr.qiLt g.params (Int.ofNat 0))), (13, .bool (Tr.qiLt g.params (Int.ofNat 0))), (14, .pointer (some (Addr.mk A.next (Nat.add 0 1) none))), (15, .int .i64 g.params), (16, .bool (Tr.qiLt (Int.ofNat 6) g.params)), (17, .bool (Tr.qiLt (Int.ofNat 6) g.params)), (18, .bool (Tr.qiLt (Int.ofNat 6) g.params)), (19, .pointer (some (Addr.mk A.next (Nat.add 0 2) none))), (20, .int .i64 g.regs), (21, .pointer (some (Addr.mk A.next (Nat.add 0 1) none))), (22, .int .i64 g.params), (23, .bool (Tr.qiLt g.regs g.params)), (24, .bool (Tr.qiLt g.regs g.params)), (25, .bool (Tr.qiLt g.regs g.params)), (26, .pointer (some (Addr.mk A.next (Nat.add 0 2) none))), (27, .int .i64 g.regs), (28, .bool (Tr.qiLt (Int.ofNat 4096) g.regs)), (29, .bool (Tr.qiLt (Int.ofNat 4096) g.regs)), (30, .bool (Tr.qiLt (Int.ofNat 4096) g.regs)), (31, .pointer (some (Addr.mk A.next (Nat.add 0 3) none))), (32, .int .i64 g.frame), (33, .bool (Tr.qiLt g.frame (Int.ofNat 0))), (34, .bool (Tr.qiLt g.frame (Int.ofNat 0))), (35, .bool (Tr.qiLt g.frame (Int.ofNat 0))), (36, .pointer (some (Addr.mk A.next (Nat.add 0 3) none))), (37, .int .i64 g.frame), (38, .bool (Tr.qiLt (Int.ofNat 4096) g.frame)), (39, .bool (Tr.qiLt (Int.ofNat 4096) g.frame)), (40, .bool (Tr.qiLt (Int.ofNat 4096) g.frame)), (41, .pointer (some (Addr.mk A.next (Nat.add 0 4) none))), (42, .slice (some (Addr.mk g.B g.o none)) g.len g.cap), (43, .int .i64 (Int.ofNat g.len)), (44, .bool (Tr.qiEq (Int.ofNat g.len) (Int.ofNat 0))), (45, .bool (Tr.qiEq (Int.ofNat g.len) (Int.ofNat 0))), (46, .bool (Tr.qiEq (Int.ofNat g.len) (Int.ofNat 0))), (47, .pointer (some (Addr.mk A.next (Nat.add 0 4) none))), (48, .slice (some (Addr.mk g.B g.o none)) g.len g.cap), (49, .int .i64 (Int.ofNat g.len)), (50, .bool (Tr.qiLt (Int.ofNat 8192) (Int.ofNat g.len))), (51, .bool (Tr.qiLt (Int.ofNat 8192) (Int.ofNat g.len)))] (std O128).nil) (box A g.cells))))) .bad) .bad)) .bad)
 (.ite (Tr.qWant (.bool (Tr.qiEq (Int.ofNat g.len) (Int.ofNat 0))) false) .bad (.ite (Tr.qWant (.bool (Tr.qiEq (Int.ofNat g.len) (Int.ofNat 0))) false) .bad (.ite (Tr.qWant (.bool (Tr.qiEq (Int.ofNat g.len) (Int.ofNat 0))) false) .bad (.ite (Tr.qiEq (Int.ofNat g.len) (Int.ofNat 0)) (.tree (kr (st (std O128) [(0, .agg (Array.mk g.cells)), (1, .pointer (some (Addr.mk A.next 0 none))), (2, .bool false), (4, .pointer (some (Addr.mk A.next (Nat.add 0 0) none))), (5, Value.string (ByteArray.mk (Array.mk g.name))), (6, .int .i64 (Int.ofNat (Tr.llen g.name))), (7, .bool (Tr.qiEq (Int.ofNat (Tr.llen g.name)) (Int.ofNat 0))), (8, .bool (Tr.qiEq (Int.ofNat (Tr.llen g.name)) (Int.ofNat 0))), (9, .pointer (some (Addr.mk A.next (Nat.add 0 1) none))), (10, .int .i64 g.params), (11, .bool (Tr.qiLt g.params (Int.ofNat 0))), (12, .bool (Tr.qiLt g.params (Int.ofNat 0))), (13, .bool (Tr.qiLt g.params (Int.ofNat 0))), (14, .pointer (some (Addr.mk A.next (Nat.add 0 1) none))), (15, .int .i64 g.params), (16, .bool (Tr.qiLt (Int.ofNat 6) g.params)), (17, .bool (Tr.qiLt (Int.ofNat 6) g.params)), (18, .bool (Tr.qiLt (Int.ofNat 6) g.params)), (19, .pointer (some (Addr.mk A.next (Nat.add 0 2) none))), (20, .int .i64 g.regs), (21, .pointer (some (Addr.mk A.next (Nat.add 0 1) none))), (22, .int .i64 g.params), (23, .bool (Tr.qiLt g.regs g.params)), (24, .bool (Tr.qiLt g.regs g.params)), (25, .bool (Tr.qiLt g.regs g.params)), (26, .pointer (some (Addr.mk A.next (Nat.add 0 2) none))), (27, .int .i64 g.regs), (28, .bool (Tr.qiLt (Int.ofNat 4096) g.regs)), (29, .bool (Tr.qiLt (Int.ofNat 4096) g.regs)), (30, .bool (Tr.qiLt (Int.ofNat 4096) g.regs)), (31, .pointer (some (Addr.mk A.next (Nat.add 0 3) none))), (32, .int .i64 g.frame), (33, .bool (Tr.qiLt g.frame (Int.ofNat 0))), (34, .bool (Tr.qiLt g.frame (Int.ofNat 0))), (35, .bool (Tr.qiLt g.frame (Int.ofNat 0))), (36, .pointer (some (Addr.mk A.next (Nat.add 0 3) none))), (37, .int .i64 g.frame), (38, .bool (Tr.qiLt (Int.ofNat 4096) g.frame)), (39, .bool (Tr.qiLt (Int.ofNat 4096) g.frame)), (40, .bool (Tr.qiLt (Int.ofNat 4096) g.frame)), (41, .pointer (some (Addr.mk A.next (Nat.add 0 4) none))), (42, .slice (some (Addr.mk g.B g.o none)) g.len g.cap), (43, .int .i64 (Int.ofNat g.len)), (44, .bool (Tr.qiEq (Int.ofNat g.len) (Int.ofNat 0))), (45, .bool (Tr.qiEq (Int.ofNat g.len) (Int.ofNat 0))), (46, .bool (Tr.qiEq (Int.ofNat g.len) (Int.ofNat 0))), (51, .bool true)] (std O128).nil) (box A g.cells))) .bad)))))) .bad) .bad)) .bad)
 (.ite (Tr.qWant (.bool (Tr.qiLt (Int.ofNat 4096) g.frame)) false) .bad (.ite (Tr.qWant (.bool (Tr.qiLt (Int.ofNat 4096) g.frame)) false) .bad (.ite (Tr.qWant (.bool (Tr.qiLt (Int.ofNat 4096) g.frame)) false) .bad (.ite (Tr.qiLt (Int.ofNat 4096) g.frame) (.tree (kr (st (std O128) [(0, .agg (Array.mk g.cells)), (1, .pointer (some (Addr.mk A.next 0 none))), (2, .bool false), (4, .pointer (some (Addr.mk A.next (Nat.add 0 0) none))), (5, Value.string (ByteArray.mk (Array.mk g.name))), (6, .int .i64 (Int.ofNat (Tr.llen g.name))), (7, .bool (Tr.qiEq (Int.ofNat (Tr.llen g.name)) (Int.ofNat 0))), (8, .bool (Tr.qiEq (Int.ofNat (Tr.llen g.name)) (Int.ofNat 0))), (9, .pointer (some (Addr.mk A.next (Nat.add 0 1) none))), (10, .int .i64 g.params), (11, .bool (Tr.qiLt g.params (Int.ofNat 0))), (12, .bool (Tr.qiLt g.params (Int.ofNat 0))), (13, .bool (Tr.qiLt g.params (Int.ofNat 0))), (14, .pointer (some (Addr.mk A.next (Nat.add 0 1) none))), (15, .int .i64 g.params), (16, .bool (Tr.qiLt (Int.ofNat 6) g.params)), (17, .bool (Tr.qiLt (Int.ofNat 6) g.params)), (18, .bool (Tr.qiLt (Int.ofNat 6) g.params)), (19, .pointer (some (Addr.mk A.next (Nat.add 0 2) none))), (20, .int .i64 g.regs), (21, .pointer (some (Addr.mk A.next (Nat.add 0 1) none))), (22, .int .i64 g.params), (23, .bool (Tr.qiLt g.regs g.params)), (24, .bool (Tr.qiLt g.regs g.params)), (25, .bool (Tr.qiLt g.regs g.params)), (26, .pointer (some (Addr.mk A.next (Nat.add 0 2) none))), (27, .int .i64 g.regs), (28, .bool (Tr.qiLt (Int.ofNat 4096) g.regs)), (29, .bool (Tr.qiLt (Int.ofNat 4096) g.regs)), (30, .bool (Tr.qiLt (Int.ofNat 4096) g.regs)), (31, .pointer (some (Addr.mk A.next (Nat.add 0 3) none))), (32, .int .i64 g.frame), (33, .bool (Tr.qiLt g.frame (Int.ofNat 0))), (34, .bool (Tr.qiLt g.frame (Int.ofNat 0))), (35, .bool (Tr.qiLt g.frame (Int.ofNat 0))), (36, .pointer (some (Addr.mk A.next (Nat.add 0 3) none))), (37, .int .i64 g.frame), (38, .bool (Tr.qiLt (Int.ofNat 4096) g.frame)), (39, .bool (Tr.qiLt (Int.ofNat 4096) g.frame)), (40, .bool (Tr.qiLt (Int.ofNat 4096) g.frame)), (45, .bool true), (46, .bool true), (51, .bool true)] (std O128).nil) (box A g.cells))) .bad)))))) .bad)) .bad)
 (.ite (Tr.qWant (.bool (Tr.qiLt g.frame (Int.ofNat 0))) false) .bad (.ite (Tr.qWant (.bool (Tr.qiLt g.frame (Int.ofNat 0))) false) .bad (.ite (Tr.qiLt g.frame (Int.ofNat 0)) (.tree (kr (st (std O128) [(0, .agg (Array.mk g.cells)), (1, .pointer (some (Addr.mk A.next 0 none))), (2, .bool false), (4, .pointer (some (Addr.mk A.next (Nat.add 0 0) none))), (5, Value.string (ByteArray.mk (Array.mk g.name))), (6, .int .i64 (Int.ofNat (Tr.llen g.name))), (7, .bool (Tr.qiEq (Int.ofNat (Tr.llen g.name)) (Int.ofNat 0))), (8, .bool (Tr.qiEq (Int.ofNat (Tr.llen g.name)) (Int.ofNat 0))), (9, .pointer (some (Addr.mk A.next (Nat.add 0 1) none))), (10, .int .i64 g.params), (11, .bool (Tr.qiLt g.params (Int.ofNat 0))), (12, .bool (Tr.qiLt g.params (Int.ofNat 0))), (13, .bool (Tr.qiLt g.params (Int.ofNat 0))), (14, .pointer (some (Addr.mk A.next (Nat.add 0 1) none))), (15, .int .i64 g.params), (16, .bool (Tr.qiLt (Int.ofNat 6) g.params)), (17, .bool (Tr.qiLt (Int.ofNat 6) g.params)), (18, .bool (Tr.qiLt (Int.ofNat 6) g.params)), (19, .pointer (some (Addr.mk A.next (Nat.add 0 2) none))), (20, .int .i64 g.regs), (21, .pointer (some (Addr.mk A.next (Nat.add 0 1) none))), (22, .int .i64 g.params), (23, .bool (Tr.qiLt g.regs g.params)), (24, .bool (Tr.qiLt g.regs g.params)), (25, .bool (Tr.qiLt g.regs g.params)), (26, .pointer (some (Addr.mk A.next (Nat.add 0 2) none))), (27, .int .i64 g.regs), (28, .bool (Tr.qiLt (Int.ofNat 4096) g.regs)), (29, .bool (Tr.qiLt (Int.ofNat 4096) g.regs)), (30, .bool (Tr.qiLt (Int.ofNat 4096) g.regs)), (31, .pointer (some (Addr.mk A.next (Nat.add 0 3) none))), (32, .int .i64 g.frame), (33, .bool (Tr.qiLt g.frame (Int.ofNat 0))), (34, .bool (Tr.qiLt g.frame (Int.ofNat 0))), (35, .bool (Tr.qiLt g.frame (Int.ofNat 0))), (39, .bool true), (40, .bool true), (45, .bool true), (46, .bool true), (51, .bool true)] (std O128).nil) (box A g.cells))) .bad))))) .bad)) .bad)
 (.ite (Tr.qWant (.bool (Tr.qiLt (Int.ofNat 4096) g.regs)) false) .bad (.ite (Tr.qWant (.bool (Tr.qiLt (Int.ofNat 4096) g.regs)) false) .bad (.ite (Tr.qiLt (Int.ofNat 4096) g.regs) (.tree (kr (st (std O128) [(0, .agg (Array.mk g.cells)), (1, .pointer (some (Addr.mk A.next 0 none))), (2, .bool false), (4, .pointer (some (Addr.mk A.next (Nat.add 0 0) none))), (5, Value.string (ByteArray.mk (Array.mk g.name))), (6, .int .i64 (Int.ofNat (Tr.llen g.name))), (7, .bool (Tr.qiEq (Int.ofNat (Tr.llen g.name)) (Int.ofNat 0))), (8, .bool (Tr.qiEq (Int.ofNat (Tr.llen g.name)) (Int.ofNat 0))), (9, .pointer (some (Addr.mk A.next (Nat.add 0 1) none))), (10, .int .i64 g.params), (11, .bool (Tr.qiLt g.params (Int.ofNat 0))), (12, .bool (Tr.qiLt g.params (Int.ofNat 0))), (13, .bool (Tr.qiLt g.params (Int.ofNat 0))), (14, .pointer (some (Addr.mk A.next (Nat.add 0 1) none))), (15, .int .i64 g.params), (16, .bool (Tr.qiLt (Int.ofNat 6) g.params)), (17, .bool (Tr.qiLt (Int.ofNat 6) g.params)), (18, .bool (Tr.qiLt (Int.ofNat 6) g.params)), (19, .pointer (some (Addr.mk A.next (Nat.add 0 2) none))), (20, .int .i64 g.regs), (21, .pointer (some (Addr.mk A.next (Nat.add 0 1) none))), (22, .int .i64 g.params), (23, .bool (Tr.qiLt g.regs g.params)), (24, .bool (Tr.qiLt g.regs g.params)), (25, .bool (Tr.qiLt g.regs g.params)), (26, .pointer (some (Addr.mk A.next (Nat.add 0 2) none))), (27, .int .i64 g.regs), (28, .bool (Tr.qiLt (Int.ofNat 4096) g.regs)), (29, .bool (Tr.qiLt (Int.ofNat 4096) g.regs)), (30, .bool (Tr.qiLt (Int.ofNat 4096) g.regs)), (34, .bool true), (35, .bool true), (39, .bool true), (40, .bool true), (45, .bool true), (46, .bool true), (51, .bool true)] (std O128).nil) (box A g.cells))) .bad))))) .bad)) .bad)
 (.ite (Tr.qWant (.bool (Tr.qiLt g.regs g.params)) false) .bad (.ite (Tr.qWant (.bool (Tr.qiLt g.regs g.params)) false) .bad (.ite (Tr.qiLt g.regs g.params) (.tree (kr (st (std O128) [(0, .agg (Array.mk g.cells)), (1, .pointer (some (Addr.mk A.next 0 none))), (2, .bool false), (4, .pointer (some (Addr.mk A.next (Nat.add 0 0) none))), (5, Value.string (ByteArray.mk (Array.mk g.name))), (6, .int .i64 (Int.ofNat (Tr.llen g.name))), (7, .bool (Tr.qiEq (Int.ofNat (Tr.llen g.name)) (Int.ofNat 0))), (8, .bool (Tr.qiEq (Int.ofNat (Tr.llen g.name)) (Int.ofNat 0))), (9, .pointer (some (Addr.mk A.next (Nat.add 0 1) none))), (10, .int .i64 g.params), (11, .bool (Tr.qiLt g.params (Int.ofNat 0))), (12, .bool (Tr.qiLt g.params (Int.ofNat 0))), (13, .bool (Tr.qiLt g.params (Int.ofNat 0))), (14, .pointer (some (Addr.mk A.next (Nat.add 0 1) none))), (15, .int .i64 g.params), (16, .bool (Tr.qiLt (Int.ofNat 6) g.params)), (17, .bool (Tr.qiLt (Int.ofNat 6) g.params)), (18, .bool (Tr.qiLt (Int.ofNat 6) g.params)), (19, .pointer (some (Addr.mk A.next (Nat.add 0 2) none))), (20, .int .i64 g.regs), (21, .pointer (some (Addr.mk A.next (Nat.add 0 1) none))), (22, .int .i64 g.params), (23, .bool (Tr.qiLt g.regs g.params)), (24, .bool (Tr.qiLt g.regs g.params)), (25, .bool (Tr.qiLt g.regs g.params)), (29, .bool true), (30, .bool true), (34, .bool true), (35, .bool true), (39, .bool true), (40, .bool true), (45, .bool true), (46, .bool true), (51, .bool true)] (std O128).nil) (box A g.cells))) .bad))))) .bad)) .bad) .bad)) .bad)
 (.ite (Tr.qWant (.bool (Tr.qiLt (Int.ofNat 6) g.params)) false) .bad (.ite (Tr.qWant (.bool (Tr.qiLt (Int.ofNat 6) g.params)) false) .bad (.ite (Tr.qWant (.bool (Tr.qiLt (Int.ofNat 6) g.params)) false) .bad (.ite (Tr.qWant (.bool (Tr.qiLt (Int.ofNat 6) g.params)) false) .bad (.ite (Tr.qiLt (Int.ofNat 6) g.params) (.tree (kr (st (std O128) [(0, .agg (Array.mk g.cells)), (1, .pointer (some (Addr.mk A.next 0 none))), (2, .bool false), (4, .pointer (some (Addr.mk A.next (Nat.add 0 0) none))), (5, Value.string (ByteArray.mk (Array.mk g.name))), (6, .int .i64 (Int.ofNat (Tr.llen g.name))), (7, .bool (Tr.qiEq (Int.ofNat (Tr.llen g.name)) (Int.ofNat 0))), (8, .bool (Tr.qiEq (Int.ofNat (Tr.llen g.name)) (Int.ofNat 0))), (9, .pointer (some (Addr.mk A.next (Nat.add 0 1) none))), (10, .int .i64 g.params), (11, .bool (Tr.qiLt g.params (Int.ofNat 0))), (12, .bool (Tr.qiLt g.params (Int.ofNat 0))), (13, .bool (Tr.qiLt g.params (Int.ofNat 0))), (14, .pointer (some (Addr.mk A.next (Nat.add 0 1) none))), (15, .int .i64 g.params), (16, .bool (Tr.qiLt (Int.ofNat 6) g.params)), (17, .bool (Tr.qiLt (Int.ofNat 6) g.params)), (18, .bool (Tr.qiLt (Int.ofNat 6) g.params)), (24, .bool true), (25, .bool true), (29, .bool true), (30, .bool true), (34, .bool true), (35, .bool true), (39, .bool true), (40, .bool true), (45, .bool true), (46, .bool true), (51, .bool true)] (std O128).nil) (box A g.cells))) .bad))))))) .bad)) .bad)
 (.ite (Tr.qWant (.bool (Tr.qiLt g.params (Int.ofNat 0))) false) .bad (.ite (Tr.qWant (.bool (Tr.qiLt g.params (Int.ofNat 0))) false) .bad (.ite (Tr.qiLt g.params (Int.ofNat 0)) (.tree (kr (st (std O128) [(0, .agg (Array.mk g.cells)), (1, .pointer (some (Addr.mk A.next 0 none))), (2, .bool false), (4, .pointer (some (Addr.mk A.next (Nat.add 0 0) none))), (5, Value.string (ByteArray.mk (Array.mk g.name))), (6, .int .i64 (Int.ofNat (Tr.llen g.name))), (7, .bool (Tr.qiEq (Int.ofNat (Tr.llen g.name)) (Int.ofNat 0))), (8, .bool (Tr.qiEq (Int.ofNat (Tr.llen g.name)) (Int.ofNat 0))), (9, .pointer (some (Addr.mk A.next (Nat.add 0 1) none))), (10, .int .i64 g.params), (11, .bool (Tr.qiLt g.params (Int.ofNat 0))), (12, .bool (Tr.qiLt g.params (Int.ofNat 0))), (13, .bool (Tr.qiLt g.params (Int.ofNat 0))), (17, .bool true), (18, .bool true), (24, .bool true), (25, .bool true), (29, .bool true), (30, .bool true), (34, .bool true), (35, .bool true), (39, .bool true), (40, .bool true), (45, .bool true), (46, .bool true), (51, .bool true)] (std O128).nil) (box A g.cells))) .bad))))) .bad)) .bad)
 (.ite (Tr.qWant (.bool (Tr.qiEq (Int.ofNat (Tr.llen g.name)) (Int.ofNat 0))) false) .bad (.ite (Tr.qWant (.bool (Tr.qiEq (Int.ofNat (Tr.llen g.name)) (Int.ofNat 0))) false) .bad (.ite (Tr.qiEq (Int.ofNat (Tr.llen g.name)) (Int.ofNat 0)) (.tree (kr (st (std O128) [(0, .agg (Array.mk g.cells)), (1, .pointer (some (Addr.mk A.next 0 none))), (2, .bool false), (4, .pointer (some (Addr.mk A.next (Nat.add 0 0) none))), (5, Value.string (ByteArray.mk (Array.mk g.name))), (6, .int .i64 (Int.ofNat (Tr.llen g.name))), (7, .bool (Tr.qiEq (Int.ofNat (Tr.llen g.name)) (Int.ofNat 0))), (8, .bool (Tr.qiEq (Int.ofNat (Tr.llen g.name)) (Int.ofNat 0))), (12, .bool true), (13, .bool true), (17, .bool true), (18, .bool true), (24, .bool true), (25, .bool true), (29, .bool true), (30, .bool true), (34, .bool true), (35, .bool true), (39, .bool true), (40, .bool true), (45, .bool true), (46, .bool true), (51, .bool true)] (std O128).nil) (box A g.cells))) .bad))))) := by kernel_rfl
theorem round17 (g : Fun1) (x : Ins) (p i : Nat) (cs : List Value) (z : Nat) (e : Bool) (t : (N16 (N8 Value))) (K kr : Tr.KK' (N16 (N8 Value))) (kx : Nat → Tr.KK' (N16 (N8 Value))) (A : AS) :
  run (.obj (.cells g.cells 0 false) (.lit 1 (.split (.must (.obj (.cells g.cells 0 false) (.lit 1 (.must (.must (.obj (.cells cs z e) (.given x.cells (.must (.obj (.cells g.cells 0 false) (.lit 1 (.must (.must (.must (.split .stop (.must .stop))))))))))))))) .stop)))
    ((Tr.kcode' Tryz.prog (std O128) 77 17 false ((bd Tryz.f17).at [1, 1, 0, 1, 0, 0])).f (Tr.kc Tryz.prog prims1 20) K kr kx (st (std O128) [(1, .pointer (some ⟨p, 0, none⟩)), (3, .int .i64 (Int.ofNat i))] t) A) =
  (.obj (Tr.hget A.heap p) (.cells g.cells 0 false) (.ite (Tr.qiLt (Int.ofNat i) (Int.ofNat g.len))
 (.ite (Nat.ble (Nat.succ p) (AS.next A) && true) (.obj (Tr.hget A.heap p) (.cells g.cells 0 false) (.ite (Nat.ble (Nat.succ i) g.len) (.ite (Nat.ble (Nat.succ g.B) (AS.next A) && true) (.obj (Tr.hget A.heap g.B) (.cells cs z e) (.given cs (Nat.add g.o (Nat.mul i 15)) 15 x.cells (.ite (Nat.ble (Nat.succ p) (AS.next A) && true) (.obj (Tr.hget A.heap p) (.cells g.cells 0 false) (.ite (Nat.ble (Nat.succ g.B) (AS.next A) && true && true) (.ite (Bool.not (Tr.qiLt g.regs (Int.ofNat 0))) (.ite (Nat.ble (AS.next A) (AS.next A)) (.ite (Bool.not (rightS x g.regs g.frame g.len))
 (.tree (kr (st (std O128) [(2, .bool false), (52, .int .i64 (Int.ofNat i)), (53, .pointer (some (Addr.mk p (Nat.add 0 4) none))), (54, .slice (some (Addr.mk g.B g.o none)) g.len g.cap), (55, .int .i64 (Int.ofNat g.len)), (56, .bool (Tr.qiLt (Int.ofNat i) (Int.ofNat g.len))), (59, .pointer (some (Addr.mk p (Nat.add 0 4) none))), (60, .slice (some (Addr.mk g.B g.o none)) g.len g.cap), (61, .int .i64 (Int.ofNat i)), (62, .pointer (some (Addr.mk g.B (Nat.add g.o (Nat.mul i 15)) none))), (63, .agg (Array.mk x.cells)), (64, .agg (Array.mk g.cells)), (65, .bool (rightS x g.regs g.frame g.len)), (66, .bool !rightS x g.regs g.frame g.len)] (st (std O128) [(1, .pointer (some ⟨p, 0, none⟩)), (3, .int .i64 (Int.ofNat i))] t)) A))
 (.ite (qIn64 (Tr.qiAdd (Int.ofNat i) (Int.ofNat 1))) (.tree (K (st (std O128) [(3, .int .i64 (Tr.qiAdd (Int.ofNat i) (Int.ofNat 1))), (52, .int .i64 (Int.ofNat i)), (53, .pointer (some (Addr.mk p (Nat.add 0 4) none))), (54, .slice (some (Addr.mk g.B g.o none)) g.len g.cap), (55, .int .i64 (Int.ofNat g.len)), (56, .bool (Tr.qiLt (Int.ofNat i) (Int.ofNat g.len))), (57, .int .i64 (Int.ofNat i)), (58, .int .i64 (Tr.qiAdd (Int.ofNat i) (Int.ofNat 1))), (59, .pointer (some (Addr.mk p (Nat.add 0 4) none))), (60, .slice (some (Addr.mk g.B g.o none)) g.len g.cap), (61, .int .i64 (Int.ofNat i)), (62, .pointer (some (Addr.mk g.B (Nat.add g.o (Nat.mul i 15)) none))), (63, .agg (Array.mk x.cells)), (64, .agg (Array.mk g.cells)), (65, .bool (rightS x g.regs g.frame g.len)), (66, .bool !rightS x g.regs g.frame g.len)] (st (std O128) [(1, .pointer (some ⟨p, 0, none⟩)), (3, .int .i64 (Int.ofNat i))] t)) A)) .bad)) .bad) .bad) .bad)) .bad))) .bad) .bad)) .bad)
 (.tree (kx 0 (st (std O128) [(52, .int .i64 (Int.ofNat i)), (53, .pointer (some (Addr.mk p (Nat.add 0 4) none))), (54, .slice (some (Addr.mk g.B g.o none)) g.len g.cap), (55, .int .i64 (Int.ofNat g.len)), (56, .bool (Tr.qiLt (Int.ofNat i) (Int.ofNat g.len)))] (st (std O128) [(1, .pointer (some ⟨p, 0, none⟩)), (3, .int .i64 (Int.ofNat i))] t)) A)))) := by kernel_rfl
theorem tail17 (E : Tr.KE) (g : Fun1) (m p : Nat) (k : Int) (cs : List Value) (z : Nat) (e : Bool) (t : (N16 (N8 Value))) (K kr : Tr.KK' (N16 (N8 Value))) (kx : Nat → Tr.KK' (N16 (N8 Value))) (A : AS) :
  run (.obj (.cells [Value.string (ByteArray.mk (Array.mk g.name)), .int .i64 g.params, .int .i64 g.regs, .int .i64 g.frame, .slice (some (Addr.mk g.B g.o none)) (Nat.succ m) g.cap] 0 false) (.lit 1 (.obj (.cells [Value.string (ByteArray.mk (Array.mk g.name)), .int .i64 g.params, .int .i64 g.regs, .int .i64 g.frame, .slice (some (Addr.mk g.B g.o none)) (Nat.succ m) g.cap] 0 false) (.lit 1 (.must (.must (.obj (.cells cs z e) (.given ([.int .i64 k]) .stop))))))))
    ((Tr.kcode' Tryz.prog (std O128) 77 17 false ((bd Tryz.f17).at [1, 1, 1])).f E K kr kx (st (std O128) [(1, .pointer (some ⟨p, 0, none⟩))] t) A) =
  (.obj (Tr.hget A.heap p) (.cells [Value.string (ByteArray.mk (Array.mk g.name)), .int .i64 g.params, .int .i64 g.regs, .int .i64 g.frame, .slice (some (Addr.mk g.B g.o none)) (Nat.succ m) g.cap] 0 false) (.obj (Tr.hget A.heap p) (.cells [Value.string (ByteArray.mk (Array.mk g.name)), .int .i64 g.params, .int .i64 g.regs, .int .i64 g.frame, .slice (some (Addr.mk g.B g.o none)) (Nat.succ m) g.cap] 0 false) (.ite (qIn64 (Tr.qiSub (Int.ofNat (Nat.succ m)) (Int.ofNat 1))) (.ite (Nat.ble (Nat.succ (Nat.sub (Nat.succ m) 1)) (Nat.succ m)) (.obj (Tr.hget A.heap g.B) (.cells cs z e) (.given cs (Nat.add (Nat.add g.o (Nat.mul (Nat.sub (Nat.succ m) 1) 15)) 0) 1 ([.int .i64 k]) (.tree (kr (st (std O128) [(2, .bool !Tr.qiLt k (Int.ofNat 11)), (67, .pointer (some (Addr.mk p (Nat.add 0 4) none))), (68, .slice (some (Addr.mk g.B g.o none)) (Nat.succ m) g.cap), (69, .pointer (some (Addr.mk p (Nat.add 0 4) none))), (70, .slice (some (Addr.mk g.B g.o none)) (Nat.succ m) g.cap), (71, .int .i64 (Int.ofNat (Nat.succ m))), (72, .int .i64 (Tr.qiSub (Int.ofNat (Nat.succ m)) (Int.ofNat 1))), (73, .pointer (some (Addr.mk g.B (Nat.add g.o (Nat.mul (Nat.sub (Nat.succ m) 1) 15)) none))), (74, .pointer (some (Addr.mk g.B (Nat.add (Nat.add g.o (Nat.mul (Nat.sub (Nat.succ m) 1) 15)) 0) none))), (75, .int .i64 k), (76, .bool !Tr.qiLt k (Int.ofNat 11))] (st (std O128) [(1, .pointer (some ⟨p, 0, none⟩))] t)) A)))) .bad) .bad))) := by kernel_rfl
theorem call17 (g : Fun1) (A : AS) : (Tr.kc Tryz.prog prims1 21).call 17 [.agg ⟨g.cells⟩] A .ret =
    (Tr.kcode' Tryz.prog (std O128) 77 17 false (bd Tryz.f17)).f (Tr.kc Tryz.prog prims1 20) ((Tr.kret Tryz.prog (std O128) [.tmp 2]).f .ret) ((Tr.kret Tryz.prog (std O128) [.tmp 2]).f .ret)
      (fun _ _ _ => Tr.failAt 102) (((std O128).set 0).f (.agg ⟨g.cells⟩) (std O128).nil) A := by
  have e : ∀ E args K, (Tr.kfn Tryz.prog prims1 17).f E args A K = (Tr.kbodyN Tryz.prog (std O128) 77 17 [.tmp 2] (bd Tryz.f17)).f E args A K := by
    intro E args K
    rw [show Tr.kfn Tryz.prog prims1 17 = Tr.kbodyN Tryz.prog (std O128) 77 17 [.tmp 2] (bd Tryz.f17) from by kernel_rfl]
  rw [kc_call, e, bodyN_eq]
  rfl
theorem code17 : bd Tryz.f17 = .seq ((bd Tryz.f17).at [0]) (.seq ((bd Tryz.f17).at [1, 0]) (.seq (.seq ((bd Tryz.f17).at [1, 1, 0, 0]) (.block 0 (.loop ((bd Tryz.f17).at [1, 1, 0, 1, 0, 0])))) ((bd Tryz.f17).at [1, 1, 1]))) := by kernel_rfl
theorem f17_loop (g : Fun1) (cs : List Value) (z : Nat) (e : Bool) (hc : okC cs g.o g.len = true) (hf : okF g = true) (p : Nat) (kn : Tr.KK' (N16 (N8 Value))) (kx : Nat → Tr.KK' (N16 (N8 Value)))
    (hk : ∀ t A, t = st (std O128) [(1, .pointer (some ⟨p, 0, none⟩))] t → (∀ j, j < g.len → rightS (insN cs g.o j) g.regs g.frame g.len = true) → Has A p (.cells g.cells 0 false) → Has A g.B (.cells cs z e) → Tells (.bool (rightF g cs)) (kx 0 t A).eval) :
    ∀ n k t A, k < n → (∃ i, i + k = g.len ∧ t = st (std O128) [(1, .pointer (some ⟨p, 0, none⟩)), (3, .int .i64 (Int.ofNat i))] t ∧
        Has A p (.cells g.cells 0 false) ∧ Has A g.B (.cells cs z e) ∧ A.ro ≤ A.next ∧ ∀ j, j < i → rightS (insN cs g.o j) g.regs g.frame g.len = true) →
      Tells (.bool (rightF g cs)) (kloop (Tr.kcode' Tryz.prog (std O128) 77 17 false ((bd Tryz.f17).at [1, 1, 0, 1, 0, 0])).f (Tr.kc Tryz.prog prims1 20) ((Tr.kret Tryz.prog (std O128) [.tmp 2]).f .ret) kx n t A).eval := by
  refine loop_tells (I := fun k t A => ∃ i, i + k = g.len ∧ t = st (std O128) [(1, .pointer (some ⟨p, 0, none⟩)), (3, .int .i64 (Int.ofNat i))] t ∧
        Has A p (.cells g.cells 0 false) ∧ Has A g.B (.cells cs z e) ∧ A.ro ≤ A.next ∧ ∀ j, j < i → rightS (insN cs g.o j) g.regs g.frame g.len = true) ?_
  rintro k t A K ⟨i, hi, ht, hp, hB, hro, hall⟩ ih
  rw [ht]
  refine tells_of (round17 g (insN cs g.o i) p i cs z e t K _ kx A) ?_
  have hreg : Tr.qiLt g.regs (Int.ofNat 0) = false := by
    have := okF_regs hf
    rw [qiLt_d]; exact decide_eq_false (by simp only [Int.ofNat_eq_natCast]; omega)
  have hp1 : Nat.ble (Nat.succ p) (AS.next A) = true := Nat.ble_eq_true_of_le hp.2
  have hB1 : Nat.ble (Nat.succ g.B) (AS.next A) = true := Nat.ble_eq_true_of_le hB.2
  have hn1 : Nat.ble (AS.next A) (AS.next A) = true := Nat.ble_eq_true_of_le (Nat.le_refl _)
  simp only [Out.tells, hp.1, true_and]
  refine ⟨fun hlt => ?_, fun hge => ?_⟩
  · have hlt : i < g.len := by
      rw [qiLt_d] at hlt
      simpa using hlt
    have h1 : Nat.ble (Nat.succ i) g.len = true := Nat.ble_eq_true_of_le hlt
    simp only [h1, hp1, hB1, hn1, hreg, hB.1, okC_at hc hlt, in64 (Nat.lt_of_lt_of_le hlt (okC_le hc)), true_and, forall_const, Bool.and_true, Bool.not_false, Bool.true_eq_false, Bool.false_eq_true, false_implies, and_true]
    refine ⟨fun hr => ?_, fun hr => ?_⟩
    · have hr : rightS (insN cs g.o i) g.regs g.frame g.len = false := by simpa using hr
      have : rightF g cs = false := by
        unfold rightF
        have : (List.range g.len).all (fun j => rightS (insN cs g.o j) g.regs g.frame g.len) = false := by
          rw [List.all_eq_false]
          exact ⟨i, List.mem_range.2 hlt, by simp [hr]⟩
        rw [this]; simp
      rw [this]
      exact ret_tells (by kernel_rfl)
    · have hr : rightS (insN cs g.o i) g.regs g.frame g.len = true := by simpa using hr
      refine ih (g.len - (i + 1)) _ _ (by omega) ⟨i + 1, by omega, ?_, hp, hB, hro, ?_⟩
      · kernel_rfl
      · intro j hj
        rcases Nat.lt_succ_iff_lt_or_eq.1 hj with h | rfl
        · exact hall j h
        · exact hr
  · have hge : g.len ≤ i := by
      rw [qiLt_d] at hge
      simpa using hge
    exact hk _ A (by kernel_rfl) (fun j hj => hall j (by omega)) hp hB
theorem f17_tail (g : Fun1) (cs : List Value) (z : Nat) (e : Bool) (hc : okC cs g.o g.len = true) (hf : okF g = true) (p : Nat) (E : Tr.KE) (kn : Tr.KK' (N16 (N8 Value))) (kx : Nat → Tr.KK' (N16 (N8 Value)))
    (t : N16 (N8 Value)) (A : AS) (ht : t = st (std O128) [(1, .pointer (some ⟨p, 0, none⟩))] t) (hall : ∀ j, j < g.len → rightS (insN cs g.o j) g.regs g.frame g.len = true) (hp : Has A p (.cells g.cells 0 false)) (hB : Has A g.B (.cells cs z e)) :
    Tells (.bool (rightF g cs)) ((Tr.kcode' Tryz.prog (std O128) 77 17 false ((bd Tryz.f17).at [1, 1, 1])).f E kn ((Tr.kret Tryz.prog (std O128) [.tmp 2]).f .ret) kx t A).eval := by
  have h1 : 1 ≤ g.len := okF_len hf
  have hr : rightF g cs = !(Tr.qiLt (insN cs g.o (g.len - 1)).kind 11) := by
    unfold rightF
    have : (List.range g.len).all (fun j => rightS (insN cs g.o j) g.regs g.frame g.len) = true := by
      rw [List.all_eq_true]
      exact fun j hj => hall j (List.mem_range.1 hj)
    rw [hf, this, Bool.true_and, Bool.true_and]
  rw [hr, ht]
  obtain ⟨nm, ps, rs, fr, B, o, len, cap⟩ := g
  cases len with
  | zero => exact absurd (show 1 ≤ 0 from h1) (by decide)
  | succ m =>
    have hi := okC_at hc (Nat.lt_succ_self m)
    refine tells_of (tail17 E ⟨nm, ps, rs, fr, B, o, m + 1, cap⟩ m p (insN cs o m).kind cs z e t kn _ kx A) ?_
    have hle := okC_le hc
    refine ⟨hp.1, hp.1, fun _ => ⟨fun _ => ⟨hB.1, piece_one hi, ret_tells (by kernel_rfl)⟩, fun h => ?_⟩, fun h => ?_⟩
    · have : Nat.ble (Nat.succ m) (Nat.succ m) = true := Nat.ble_eq_true_of_le (Nat.le_refl _)
      exact absurd (this.symm.trans h) (by decide)
    · have : Nat.ble m 9223372036854775807 = true := Nat.ble_eq_true_of_le (by
        have hle : m + 1 ≤ 2 ^ 63 - 1 := hle
        omega)
      exact absurd (this.symm.trans h) (by decide)
theorem f17_tells (g : Fun1) (cs : List Value) (z : Nat) (e : Bool) (A : AS) (hB : Has A g.B (.cells cs z e)) (hc : okC cs g.o g.len = true) (hro : A.ro ≤ A.next) :
    Tells (.bool (rightF g cs)) ((Tr.kc Tryz.prog prims1 21).call 17 [.agg ⟨g.cells⟩] A .ret).eval := by
  rw [call17, code17, mid_eq]
  refine tells_of (pre17 _ g _ _ _ _) ?_
  simp only [Out.tells, (box_has A g.cells).1, true_and, wantT, wantF, len_name]
  simp only [len_none]
  cases h0 : Tr.qbyEq g.name []
  case true =>
    have h0' : Tr.qbyEq g.name [] = true := h0
    simp only [h0, Bool.not_true, Bool.not_false, Bool.true_eq_false, Bool.false_eq_true, false_implies, forall_const, true_and, and_true, implies_true]
    rw [show rightF g cs = false from by simp only [rightF, okF, h0']; rfl]
    exact ret_tells (by kernel_rfl)
  have h0' : Tr.qbyEq g.name [] = false := h0
  cases h1 : Tr.qiLt g.params (Int.ofNat 0)
  case true =>
    have h1' : Tr.qiLt g.params 0 = true := h1
    simp only [h1, Bool.not_true, Bool.not_false, Bool.true_eq_false, Bool.false_eq_true, false_implies, forall_const, true_and, and_true, implies_true]
    rw [show rightF g cs = false from by simp only [rightF, okF, h0', h1']; rfl]
    exact ret_tells (by kernel_rfl)
  have h1' : Tr.qiLt g.params 0 = false := h1
  cases h2 : Tr.qiLt (Int.ofNat 6) g.params
  case true =>
    have h2' : Tr.qiLt 6 g.params = true := h2
    simp only [h2, Bool.not_true, Bool.not_false, Bool.true_eq_false, Bool.false_eq_true, false_implies, forall_const, true_and, and_true, implies_true]
    rw [show rightF g cs = false from by simp only [rightF, okF, h0', h1', h2']; rfl]
    exact ret_tells (by kernel_rfl)
  have h2' : Tr.qiLt 6 g.params = false := h2
  cases h3 : Tr.qiLt g.regs g.params
  case true =>
    have h3' : Tr.qiLt g.regs g.params = true := h3
    simp only [h3, Bool.not_true, Bool.not_false, Bool.true_eq_false, Bool.false_eq_true, false_implies, forall_const, true_and, and_true, implies_true]
    rw [show rightF g cs = false from by simp only [rightF, okF, h0', h1', h2', h3']; rfl]
    exact ret_tells (by kernel_rfl)
  have h3' : Tr.qiLt g.regs g.params = false := h3
  cases h4 : Tr.qiLt (Int.ofNat 4096) g.regs
  case true =>
    have h4' : Tr.qiLt 4096 g.regs = true := h4
    simp only [h4, Bool.not_true, Bool.not_false, Bool.true_eq_false, Bool.false_eq_true, false_implies, forall_const, true_and, and_true, implies_true]
    rw [show rightF g cs = false from by simp only [rightF, okF, h0', h1', h2', h3', h4']; rfl]
    exact ret_tells (by kernel_rfl)
  have h4' : Tr.qiLt 4096 g.regs = false := h4
  cases h5 : Tr.qiLt g.frame (Int.ofNat 0)
  case true =>
    have h5' : Tr.qiLt g.frame 0 = true := h5
    simp only [h5, Bool.not_true, Bool.not_false, Bool.true_eq_false, Bool.false_eq_true, false_implies, forall_const, true_and, and_true, implies_true]
    rw [show rightF g cs = false from by simp only [rightF, okF, h0', h1', h2', h3', h4', h5']; rfl]
    exact ret_tells (by kernel_rfl)
  have h5' : Tr.qiLt g.frame 0 = false := h5
  cases h6 : Tr.qiLt (Int.ofNat 4096) g.frame
  case true =>
    have h6' : Tr.qiLt 4096 g.frame = true := h6
    simp only [h6, Bool.not_true, Bool.not_false, Bool.true_eq_false, Bool.false_eq_true, false_implies, forall_const, true_and, and_true, implies_true]
    rw [show rightF g cs = false from by simp only [rightF, okF, h0', h1', h2', h3', h4', h5', h6']; rfl]
    exact ret_tells (by kernel_rfl)
  have h6' : Tr.qiLt 4096 g.frame = false := h6
  cases h7 : Tr.qiLt (Int.ofNat g.len) (Int.ofNat 1)
  case true =>
    have h7' : Tr.qiLt g.len 1 = true := h7
    simp only [h7, Bool.not_true, Bool.not_false, Bool.true_eq_false, Bool.false_eq_true, false_implies, forall_const, true_and, and_true, implies_true]
    rw [show rightF g cs = false from by simp only [rightF, okF, h0', h1', h2', h3', h4', h5', h6', h7']; rfl]
    exact ret_tells (by kernel_rfl)
  have h7' : Tr.qiLt g.len 1 = false := h7
  cases h8 : Tr.qiLt (Int.ofNat 8192) (Int.ofNat g.len)
  case true =>
    have h8' : Tr.qiLt 8192 g.len = true := h8
    simp only [h8, Bool.not_true, Bool.not_false, Bool.true_eq_false, Bool.false_eq_true, false_implies, forall_const, true_and, and_true, implies_true]
    rw [show rightF g cs = false from by simp only [rightF, okF, h0', h1', h2', h3', h4', h5', h6', h7', h8']; rfl]
    exact ret_tells (by kernel_rfl)
  have h8' : Tr.qiLt 8192 g.len = false := h8
  simp only [h0, h1, h2, h3, h4, h5, h6, h7, h8, Bool.not_true, Bool.not_false, Bool.true_eq_false, Bool.false_eq_true, false_implies, forall_const, true_and, and_true, implies_true]
  have hf : okF g = true := by simp only [okF, h0', h1', h2', h3', h4', h5', h6', h7', h8']; rfl
  have hl : g.len < Tr.loopMost := by
    rw [qiLt_d] at h8'
    simp only [decide_eq_false_iff_not] at h8'
    show g.len < 100000000
    omega
  rw [mid_loop]
  refine f17_loop g cs z e hc hf A.next (fun _ _ => .fail 0) _ ?_ _ g.len _ _ hl ⟨0, by omega, by kernel_rfl, box_has A _, hB.box _, box_ro hro _, fun j hj => absurd hj (Nat.not_lt_zero _)⟩
  intro t A' ht hall hp hB'
  exact f17_tail g cs z e hc hf A.next _ _ _ t A' ht hall hp hB'
end Go.Proofs
namespace Go.Proofs
open Go Go.Dp Go.Dp.Tr
theorem pre9 (E : Tr.KE) (g : Fun1) (K kr : Tr.KK' (N8 (N8 Value))) (kx : Nat → Tr.KK' (N8 (N8 Value))) (A : AS) :
  run (.obj (.cells g.cells 0 false) (.lit 1 (.split (.must (.obj (.cells g.cells 0 false) (.lit 1 (.must (.must (.mustn (.split (.must (.obj (.cells g.cells 0 false) (.lit 1 (.must (.must (.split (.must (.obj (.cells g.cells 0 false) (.lit 1 (.must (.must (.must (.mustn (.split .stop (.obj (.cells g.cells 0 false) (.lit 1 .stop)))))))))) (.mustn (.mustn (.must (.mustn (.mustn (.lit 1 (.obj (.cells g.cells 0 false) (.lit 1 .stop)))))))))))))) (.mustn (.mustn (.mustn (.lit 3 (.mustn (.must (.lit 1 .stop)))))))))))))) (.mustn (.mustn (.mustn (.must (.lit 10 .stop))))))))
    ((Tr.kcode' Tryz.prog (std O64) 37 9 false (Code.seq ((bd Tryz.f9).at [0]) (Code.seq ((bd Tryz.f9).at [1, 0]) ((bd Tryz.f9).at [1, 1, 0, 0])))).f E K kr kx (((std O64).set 0).f (.agg ⟨g.cells⟩) (std O64).nil) A) =
  (.obj (Tr.hget (box A g.cells).heap A.next) (.cells g.cells 0 false) (.ite (Tr.qWant (.bool (Tr.qiLt (Int.ofNat 50) (Int.ofNat (Tr.llen g.name)))) false)
 (.ite (Tr.qWant (.bool (Tr.qiLt (Int.ofNat 50) (Int.ofNat (Tr.llen g.name)))) false) (.obj (Tr.hget (box A g.cells).heap A.next) (.cells g.cells 0 false) (.ite (Tr.qWant (.bool (Tr.qiLt (Int.ofNat 50) (Int.ofNat (Tr.llen g.name)))) false) (.ite (Tr.qWant (.bool (Tr.qiLt (Int.ofNat 50) (Int.ofNat (Tr.llen g.name)))) false) (.ite (Tr.qiLt (Int.ofNat 50) (Int.ofNat (Tr.llen g.name))) .bad (.ite (Tr.qWant (.bool (Tr.qiLt (Int.ofNat 60) (Int.ofNat g.len))) false)
 (.ite (Tr.qWant (.bool (Tr.qiLt (Int.ofNat 60) (Int.ofNat g.len))) false) (.obj (Tr.hget (box A g.cells).heap A.next) (.cells g.cells 0 false) (.ite (Tr.qWant (.bool (Tr.qiLt (Int.ofNat 60) (Int.ofNat g.len))) false) (.ite (Tr.qWant (.bool (Tr.qiLt (Int.ofNat 60) (Int.ofNat g.len))) false) (.ite (Tr.qWant (.bool (Tr.qiLt (Int.ofNat 40) g.regs)) true)
 (.ite (Tr.qWant (.bool (Tr.qiLt (Int.ofNat 40) g.regs)) true) (.obj (Tr.hget (box A g.cells).heap A.next) (.cells g.cells 0 false) (.ite (Tr.qWant (.bool (Tr.qiLt (Int.ofNat 40) g.regs)) true) (.ite (Tr.qWant (.bool (Tr.qiLt (Int.ofNat 60) (Int.ofNat g.len))) false) (.ite (Tr.qiLt (Int.ofNat 40) g.regs) (.ite (Tr.qiLt (Int.ofNat 60) (Int.ofNat g.len)) .bad (.ite (Bool.not (Tr.qiLt (Int.ofNat 4096) g.regs))
 (.tree (kr (st (std O64) [(0, .agg (Array.mk g.cells)), (1, .pointer (some (Addr.mk A.next 0 none))), (2, .bool false), (5, .pointer (some (Addr.mk A.next (Nat.add 0 0) none))), (6, Value.string (ByteArray.mk (Array.mk g.name))), (7, .int .i64 (Int.ofNat (Tr.llen g.name))), (8, .bool (Tr.qiLt (Int.ofNat 50) (Int.ofNat (Tr.llen g.name)))), (9, .bool (Tr.qiLt (Int.ofNat 50) (Int.ofNat (Tr.llen g.name)))), (10, .pointer (some (Addr.mk A.next (Nat.add 0 4) none))), (11, .slice (some (Addr.mk g.B g.o none)) g.len g.cap), (12, .int .i64 (Int.ofNat g.len)), (13, .bool (Tr.qiLt (Int.ofNat 60) (Int.ofNat g.len))), (14, .bool (Tr.qiLt (Int.ofNat 60) (Int.ofNat g.len))), (15, .bool (Tr.qiLt (Int.ofNat 60) (Int.ofNat g.len))), (16, .pointer (some (Addr.mk A.next (Nat.add 0 2) none))), (17, .int .i64 g.regs), (18, .bool (Tr.qiLt (Int.ofNat 40) g.regs)), (19, .bool (Tr.qiLt (Int.ofNat 40) g.regs)), (20, .pointer (some (Addr.mk A.next (Nat.add 0 2) none))), (21, .int .i64 g.regs), (22, .bool !Tr.qiLt (Int.ofNat 4096) g.regs), (23, .bool !Tr.qiLt (Int.ofNat 4096) g.regs), (24, .bool !Tr.qiLt (Int.ofNat 4096) g.regs)] (std O64).nil) (box A g.cells)))
 (.obj (Tr.hget (box A g.cells).heap A.next) (.cells g.cells 0 false) (.tree (K (st (std O64) [(0, .agg (Array.mk g.cells)), (1, .pointer (some (Addr.mk A.next 0 none))), (2, .bool false), (5, .pointer (some (Addr.mk A.next (Nat.add 0 0) none))), (6, Value.string (ByteArray.mk (Array.mk g.name))), (7, .int .i64 (Int.ofNat (Tr.llen g.name))), (8, .bool (Tr.qiLt (Int.ofNat 50) (Int.ofNat (Tr.llen g.name)))), (9, .bool (Tr.qiLt (Int.ofNat 50) (Int.ofNat (Tr.llen g.name)))), (10, .pointer (some (Addr.mk A.next (Nat.add 0 4) none))), (11, .slice (some (Addr.mk g.B g.o none)) g.len g.cap), (12, .int .i64 (Int.ofNat g.len)), (13, .bool (Tr.qiLt (Int.ofNat 60) (Int.ofNat g.len))), (14, .bool (Tr.qiLt (Int.ofNat 60) (Int.ofNat g.len))), (15, .bool (Tr.qiLt (Int.ofNat 60) (Int.ofNat g.len))), (16, .pointer (some (Addr.mk A.next (Nat.add 0 2) none))), (17, .int .i64 g.regs), (18, .bool (Tr.qiLt (Int.ofNat 40) g.regs)), (19, .bool (Tr.qiLt (Int.ofNat 40) g.regs)), (20, .pointer (some (Addr.mk A.next (Nat.add 0 2) none))), (21, .int .i64 g.regs), (22, .bool !Tr.qiLt (Int.ofNat 4096) g.regs), (23, .bool !Tr.qiLt (Int.ofNat 4096) g.regs), (24, .bool !Tr.qiLt (Int.ofNat 4096) g.regs), (25, .pointer (some (Addr.mk A.next (Nat.add 0 4) none))), (26, .slice (some (Addr.mk g.B g.o none)) g.len g.cap), (27, .int .i64 (Int.ofNat g.len)), (28, .int .i64 (Int.ofNat 0))] (std O64).nil) (box A g.cells)))))) .bad) .bad) .bad)) .bad)
 (.ite (Tr.qWant (.bool (Tr.qiLt (Int.ofNat 40) g.regs)) true) .bad (.ite (Tr.qWant (.bool (Tr.qiLt (Int.ofNat 40) g.regs)) true) .bad (.ite (Tr.qWant (.bool (Tr.qiLt (Int.ofNat 60) (Int.ofNat g.len))) false) (.ite (Tr.qiLt (Int.ofNat 40) g.regs) .bad (.ite (Tr.qiLt (Int.ofNat 60) (Int.ofNat g.len)) .bad (.obj (Tr.hget (box A g.cells).heap A.next) (.cells g.cells 0 false) (.tree (K (st (std O64) [(0, .agg (Array.mk g.cells)), (1, .pointer (some (Addr.mk A.next 0 none))), (2, .bool false), (5, .pointer (some (Addr.mk A.next (Nat.add 0 0) none))), (6, Value.string (ByteArray.mk (Array.mk g.name))), (7, .int .i64 (Int.ofNat (Tr.llen g.name))), (8, .bool (Tr.qiLt (Int.ofNat 50) (Int.ofNat (Tr.llen g.name)))), (9, .bool (Tr.qiLt (Int.ofNat 50) (Int.ofNat (Tr.llen g.name)))), (10, .pointer (some (Addr.mk A.next (Nat.add 0 4) none))), (11, .slice (some (Addr.mk g.B g.o none)) g.len g.cap), (12, .int .i64 (Int.ofNat g.len)), (13, .bool (Tr.qiLt (Int.ofNat 60) (Int.ofNat g.len))), (14, .bool (Tr.qiLt (Int.ofNat 60) (Int.ofNat g.len))), (15, .bool (Tr.qiLt (Int.ofNat 60) (Int.ofNat g.len))), (16, .pointer (some (Addr.mk A.next (Nat.add 0 2) none))), (17, .int .i64 g.regs), (18, .bool (Tr.qiLt (Int.ofNat 40) g.regs)), (19, .bool (Tr.qiLt (Int.ofNat 40) g.regs)), (23, .bool false), (24, .bool false), (25, .pointer (some (Addr.mk A.next (Nat.add 0 4) none))), (26, .slice (some (Addr.mk g.B g.o none)) g.len g.cap), (27, .int .i64 (Int.ofNat g.len)), (28, .int .i64 (Int.ofNat 0))] (std O64).nil) (box A g.cells)))))) .bad)))) .bad) .bad)) .bad)
 (.ite (Tr.qWant (.bool (Tr.qiLt (Int.ofNat 60) (Int.ofNat g.len))) false) .bad (.ite (Tr.qWant (.bool (Tr.qiLt (Int.ofNat 60) (Int.ofNat g.len))) false) .bad (.ite (Tr.qWant (.bool (Tr.qiLt (Int.ofNat 60) (Int.ofNat g.len))) false) .bad (.ite (Tr.qWant (.bool (Tr.qiLt (Int.ofNat 60) (Int.ofNat g.len))) false) .bad (.ite (Tr.qiLt (Int.ofNat 60) (Int.ofNat g.len)) (.tree (kr (st (std O64) [(0, .agg (Array.mk g.cells)), (1, .pointer (some (Addr.mk A.next 0 none))), (2, .bool false), (5, .pointer (some (Addr.mk A.next (Nat.add 0 0) none))), (6, Value.string (ByteArray.mk (Array.mk g.name))), (7, .int .i64 (Int.ofNat (Tr.llen g.name))), (8, .bool (Tr.qiLt (Int.ofNat 50) (Int.ofNat (Tr.llen g.name)))), (9, .bool (Tr.qiLt (Int.ofNat 50) (Int.ofNat (Tr.llen g.name)))), (10, .pointer (some (Addr.mk A.next (Nat.add 0 4) none))), (11, .slice (some (Addr.mk g.B g.o none)) g.len g.cap), (12, .int .i64 (Int.ofNat g.len)), (13, .bool (Tr.qiLt (Int.ofNat 60) (Int.ofNat g.len))), (14, .bool (Tr.qiLt (Int.ofNat 60) (Int.ofNat g.len))), (15, .bool (Tr.qiLt (Int.ofNat 60) (Int.ofNat g.len))), (24, .bool true)] (std O64).nil) (box A g.cells))) .bad))))))) .bad) .bad)) .bad)
 (.ite (Tr.qWant (.bool (Tr.qiLt (Int.ofNat 50) (Int.ofNat (Tr.llen g.name)))) false) .bad (.ite (Tr.qWant (.bool (Tr.qiLt (Int.ofNat 50) (Int.ofNat (Tr.llen g.name)))) false) .bad (.ite (Tr.qWant (.bool (Tr.qiLt (Int.ofNat 50) (Int.ofNat (Tr.llen g.name)))) false) .bad (.ite (Tr.qiLt (Int.ofNat 50) (Int.ofNat (Tr.llen g.name))) (.tree (kr (st (std O64) [(0, .agg (Array.mk g.cells)), (1, .pointer (some (Addr.mk A.next 0 none))), (2, .bool false), (5, .pointer (some (Addr.mk A.next (Nat.add 0 0) none))), (6, Value.string (ByteArray.mk (Array.mk g.name))), (7, .int .i64 (Int.ofNat (Tr.llen g.name))), (8, .bool (Tr.qiLt (Int.ofNat 50) (Int.ofNat (Tr.llen g.name)))), (9, .bool (Tr.qiLt (Int.ofNat 50) (Int.ofNat (Tr.llen g.name)))), (14, .bool true), (15, .bool true), (24, .bool true)] (std O64).nil) (box A g.cells))) .bad)))))) := by kernel_rfl
theorem round9 (E : Tr.KE) (g : Fun1) (x : Ins) (i : Nat) (cs : List Value) (z : Nat) (e : Bool) (t : (N8 (N8 Value))) (K kr : Tr.KK' (N8 (N8 Value))) (kx : Nat → Tr.KK' (N8 (N8 Value))) (A : AS) :
  run (.split (.must (.obj (.cells cs z e) (.given x.cells (.lit 1 (.obj (.cells zeroIns.cells 0 false) (.must (.obj (.cells x.cells 0 false) (.lit 1 (.split .stop (.must .stop)))))))))) .stop)
    ((Tr.kcode' Tryz.prog (std O64) 37 9 false ((bd Tryz.f9).at [1, 1, 0, 1, 0, 0])).f E K kr kx (st (std O64) [(26, .slice (some ⟨g.B, g.o, none⟩) g.len g.cap), (27, .int .i64 (Int.ofNat g.len)), (28, .int .i64 (Int.ofNat i))] t) A) =
  (.ite (Tr.qiLt (Int.ofNat i) (Int.ofNat g.len))
 (.ite (Nat.ble (Nat.succ i) g.len) (.obj (Tr.hget A.heap g.B) (.cells cs z e) (.given cs (Nat.add g.o (Nat.mul i 15)) 15 x.cells (.obj (Tr.hget (box A zeroIns.cells).heap A.next) (.cells zeroIns.cells 0 false) (.ite (Nat.ble A.ro A.next) (.obj (Tr.hget (plus A x.cells).heap A.next) (.cells x.cells 0 false) (.ite (Tr.qiLt (Int.ofNat 50) (Int.ofNat (Tr.llen x.text)))
 (.tree (kr (st (std O64) [(2, .bool false), (4, .pointer (some (Addr.mk A.next 0 none))), (29, .bool (Tr.qiLt (Int.ofNat i) (Int.ofNat g.len))), (30, .pointer (some (Addr.mk g.B (Nat.add g.o (Nat.mul i 15)) none))), (31, .agg (Array.mk x.cells)), (32, .pointer (some (Addr.mk A.next (Nat.add 0 6) none))), (33, Value.string (ByteArray.mk (Array.mk x.text))), (34, .int .i64 (Int.ofNat (Tr.llen x.text))), (35, .bool (Tr.qiLt (Int.ofNat 50) (Int.ofNat (Tr.llen x.text))))] (st (std O64) [(26, .slice (some ⟨g.B, g.o, none⟩) g.len g.cap), (27, .int .i64 (Int.ofNat g.len)), (28, .int .i64 (Int.ofNat i))] t)) (plus A x.cells)))
 (.ite (qIn64 (Tr.qiAdd (Int.ofNat i) (Int.ofNat 1))) (.tree (K (st (std O64) [(4, .pointer (some (Addr.mk A.next 0 none))), (28, .int .i64 (Tr.qiAdd (Int.ofNat i) (Int.ofNat 1))), (29, .bool (Tr.qiLt (Int.ofNat i) (Int.ofNat g.len))), (30, .pointer (some (Addr.mk g.B (Nat.add g.o (Nat.mul i 15)) none))), (31, .agg (Array.mk x.cells)), (32, .pointer (some (Addr.mk A.next (Nat.add 0 6) none))), (33, Value.string (ByteArray.mk (Array.mk x.text))), (34, .int .i64 (Int.ofNat (Tr.llen x.text))), (35, .bool (Tr.qiLt (Int.ofNat 50) (Int.ofNat (Tr.llen x.text)))), (36, .int .i64 (Tr.qiAdd (Int.ofNat i) (Int.ofNat 1)))] (st (std O64) [(26, .slice (some ⟨g.B, g.o, none⟩) g.len g.cap), (27, .int .i64 (Int.ofNat g.len)), (28, .int .i64 (Int.ofNat i))] t)) (plus A x.cells))) .bad))) .bad)))) .bad)
 (.tree (kx 0 (st (std O64) [(29, .bool (Tr.qiLt (Int.ofNat i) (Int.ofNat g.len)))] (st (std O64) [(26, .slice (some ⟨g.B, g.o, none⟩) g.len g.cap), (27, .int .i64 (Int.ofNat g.len)), (28, .int .i64 (Int.ofNat i))] t)) A))) := by kernel_rfl
theorem tail9 (E : Tr.KE) (t : (N8 (N8 Value))) (K kr : Tr.KK' (N8 (N8 Value))) (kx : Nat → Tr.KK' (N8 (N8 Value))) (A : AS) :
  run .stop
    ((Tr.kcode' Tryz.prog (std O64) 37 9 false ((bd Tryz.f9).at [1, 1, 1])).f E K kr kx t A) =
  (.tree (kr (st (std O64) [(2, .bool true)] t) A)) := by kernel_rfl
theorem call9 (prims : FuncId → Option TP) (hp : prims 9 = none) (n : Nat) (g : Fun1) (A : AS) : (Tr.kc Tryz.prog prims (n + 1)).call 9 [.agg ⟨g.cells⟩] A .ret =
    (Tr.kcode' Tryz.prog (std O64) 37 9 false (bd Tryz.f9)).f (Tr.kc Tryz.prog prims n) ((Tr.kret Tryz.prog (std O64) [.tmp 2]).f .ret) ((Tr.kret Tryz.prog (std O64) [.tmp 2]).f .ret)
      (fun _ _ _ => Tr.failAt 102) (((std O64).set 0).f (.agg ⟨g.cells⟩) (std O64).nil) A := by
  have e0 : Tr.kfn Tryz.prog prims 9 = Tr.kfn Tryz.prog noTP 9 := by unfold Tr.kfn; rw [hp]; rfl
  have e : ∀ E args K, (Tr.kfn Tryz.prog prims 9).f E args A K = (Tr.kbodyN Tryz.prog (std O64) 37 9 [.tmp 2] (bd Tryz.f9)).f E args A K := by
    intro E args K
    rw [e0, show Tr.kfn Tryz.prog noTP 9 = Tr.kbodyN Tryz.prog (std O64) 37 9 [.tmp 2] (bd Tryz.f9) from by kernel_rfl]
  rw [kc_call, e, bodyN_eq]
  rfl
theorem code9 : bd Tryz.f9 = .seq ((bd Tryz.f9).at [0]) (.seq ((bd Tryz.f9).at [1, 0]) (.seq (.seq ((bd Tryz.f9).at [1, 1, 0, 0]) (.block 0 (.loop ((bd Tryz.f9).at [1, 1, 0, 1, 0, 0])))) ((bd Tryz.f9).at [1, 1, 1]))) := by kernel_rfl
theorem f9_loop (E : Tr.KE) (g : Fun1) (cs : List Value) (z : Nat) (e : Bool) (hc : okC cs g.o g.len = true) (hf : smallP g = true) (kx : Nat → Tr.KK' (N8 (N8 Value)))
    (hk : ∀ t A, (∀ j, j < g.len → longT cs g.o j = false) → Tells (.bool (smallF g cs)) (kx 0 t A).eval) :
    ∀ n k t A, k < n → (∃ i, i + k = g.len ∧ t = st (std O64) [(26, .slice (some ⟨g.B, g.o, none⟩) g.len g.cap), (27, .int .i64 (Int.ofNat g.len)), (28, .int .i64 (Int.ofNat i))] t ∧
        Has A g.B (.cells cs z e) ∧ A.ro ≤ A.next ∧ ∀ j, j < i → longT cs g.o j = false) →
      Tells (.bool (smallF g cs)) (kloop (Tr.kcode' Tryz.prog (std O64) 37 9 false ((bd Tryz.f9).at [1, 1, 0, 1, 0, 0])).f E ((Tr.kret Tryz.prog (std O64) [.tmp 2]).f .ret) kx n t A).eval := by
  refine loop_tells (I := fun k t A => ∃ i, i + k = g.len ∧ t = st (std O64) [(26, .slice (some ⟨g.B, g.o, none⟩) g.len g.cap), (27, .int .i64 (Int.ofNat g.len)), (28, .int .i64 (Int.ofNat i))] t ∧
        Has A g.B (.cells cs z e) ∧ A.ro ≤ A.next ∧ ∀ j, j < i → longT cs g.o j = false) ?_
  rintro k t A K ⟨i, hi, ht, hB, hro, hall⟩ ih
  rw [ht]
  refine tells_of (round9 E g (insN cs g.o i) i cs z e t K _ kx A) ?_
  simp only [Out.tells]
  refine ⟨fun hlt => ?_, fun hge => ?_⟩
  · have hlt : i < g.len := by
      rw [qiLt_d] at hlt
      simpa using hlt
    have h1 : Nat.ble (Nat.succ i) g.len = true := Nat.ble_eq_true_of_le hlt
    have h2 : Nat.ble A.ro A.next = true := Nat.ble_eq_true_of_le hro
    simp only [h1, h2, hB.1, okC_at hc hlt, (box_has A zeroIns.cells).1, (plus_has A _).1, in64 (Nat.lt_of_lt_of_le hlt (okC_le hc)), true_and, forall_const, Bool.true_eq_false, Bool.false_eq_true, false_implies, and_true]
    refine ⟨fun hr => ?_, fun hr => ?_⟩
    · have : smallF g cs = false := by
        unfold smallF
        have : (List.range g.len).all (fun j => !(longT cs g.o j)) = false := by
          rw [List.all_eq_false]
          refine ⟨i, List.mem_range.2 hlt, ?_⟩
          show ¬ (!(longT cs g.o i)) = true
          rw [show longT cs g.o i = true from hr]
          decide
        rw [this]; simp
      rw [this]
      exact ret_tells (by kernel_rfl)
    · refine ih (g.len - (i + 1)) _ _ (by omega) ⟨i + 1, by omega, ?_, hB.plus _, plus_ro hro _, ?_⟩
      · kernel_rfl
      · intro j hj
        rcases Nat.lt_succ_iff_lt_or_eq.1 hj with h | rfl
        · exact hall j h
        · exact hr
  · have hge : g.len ≤ i := by
      rw [qiLt_d] at hge
      simpa using hge
    exact hk _ A (fun j hj => hall j (by omega))
theorem f9_tells (prims : FuncId → Option TP) (hpr : prims 9 = none) (n : Nat) (g : Fun1) (cs : List Value) (z : Nat) (e : Bool) (A : AS) (hB : Has A g.B (.cells cs z e)) (hc : okC cs g.o g.len = true) (hro : A.ro ≤ A.next) :
    Tells (.bool (smallF g cs)) ((Tr.kc Tryz.prog prims (n + 1)).call 9 [.agg ⟨g.cells⟩] A .ret).eval := by
  rw [call9 prims hpr n, code9, mid_eq]
  refine tells_of (pre9 _ g _ _ _ _) ?_
  simp only [Out.tells, (box_has A g.cells).1, true_and, wantT, wantF]
  have key : smallP g = true → ∀ t, t = st (std O64) [(26, .slice (some ⟨g.B, g.o, none⟩) g.len g.cap), (27, .int .i64 (Int.ofNat g.len)), (28, .int .i64 (Int.ofNat 0))] t →
      Tells (.bool (smallF g cs)) ((Tr.kcode' Tryz.prog (std O64) 37 9 false (.block 0 (.loop ((bd Tryz.f9).at [1, 1, 0, 1, 0, 0])))).f (Tr.kc Tryz.prog prims n)
        ((Tr.kcode' Tryz.prog (std O64) 37 9 false ((bd Tryz.f9).at [1, 1, 1])).f (Tr.kc Tryz.prog prims n) ((Tr.kret Tryz.prog (std O64) [.tmp 2]).f .ret) ((Tr.kret Tryz.prog (std O64) [.tmp 2]).f .ret) (fun _ _ _ => Tr.failAt 102))
        ((Tr.kret Tryz.prog (std O64) [.tmp 2]).f .ret) (fun _ _ _ => Tr.failAt 102) t (box A g.cells)).eval := by
    intro hf t ht
    have hl : g.len < Tr.loopMost := by
      have := hf
      unfold smallP at this
      simp only [Bool.and_eq_true, Bool.not_eq_true', qiLt_d, decide_eq_false_iff_not, Int.ofNat_eq_natCast] at this
      show g.len < 100000000
      omega
    rw [mid_loop]
    refine f9_loop _ g cs z e hc hf _ ?_ _ g.len _ _ hl ⟨0, by omega, ht, hB.box _, box_ro hro _, fun j hj => absurd hj (Nat.not_lt_zero _)⟩
    intro t A' hall
    have : smallF g cs = true := by
      unfold smallF
      rw [hf, Bool.true_and, List.all_eq_true]
      intro j hj
      rw [hall j (List.mem_range.1 hj)]; rfl
    rw [this]
    refine tells_of (tail9 _ t _ _ _ A') ?_
    exact ret_tells (by kernel_rfl)
  cases h0 : Tr.qiLt (Int.ofNat 50) (Int.ofNat (Tr.llen g.name))
  case true =>
    simp only [h0, Bool.not_true, Bool.not_false, Bool.true_eq_false, Bool.false_eq_true, false_implies, forall_const, true_and, and_true, implies_true]
    rw [show smallF g cs = false from by simp only [smallF, smallP, h0]; rfl]
    exact ret_tells (by kernel_rfl)
  cases h1 : Tr.qiLt (Int.ofNat 60) (Int.ofNat g.len)
  case true =>
    simp only [h0, h1, Bool.not_true, Bool.not_false, Bool.true_eq_false, Bool.false_eq_true, false_implies, forall_const, true_and, and_true, implies_true]
    rw [show smallF g cs = false from by simp only [smallF, smallP, h0, h1]; rfl]
    exact ret_tells (by kernel_rfl)
  cases h2 : Tr.qiLt (Int.ofNat 40) g.regs
  case false =>
    simp only [h0, h1, h2, Bool.not_true, Bool.not_false, Bool.true_eq_false, Bool.false_eq_true, false_implies, forall_const, true_and, and_true, implies_true]
    exact key (by simp only [smallP, h0, h1, h2]; rfl) _ (by kernel_rfl)
  cases h3 : Tr.qiLt (Int.ofNat 4096) g.regs
  case false =>
    simp only [h0, h1, h2, h3, Bool.not_true, Bool.not_false, Bool.true_eq_false, Bool.false_eq_true, false_implies, forall_const, true_and, and_true, implies_true]
    rw [show smallF g cs = false from by simp only [smallF, smallP, h0, h1, h2, h3]; rfl]
    exact ret_tells (by kernel_rfl)
  simp only [h0, h1, h2, h3, Bool.not_true, Bool.not_false, Bool.true_eq_false, Bool.false_eq_true, false_implies, forall_const, true_and, and_true, implies_true]
  exact key (by simp only [smallP, h0, h1, h2, h3]; rfl) _ (by kernel_rfl)
end Go.Proofs
namespace Go.Proofs
open Go Go.Dp Go.Dp.Tr
theorem pre62 (E : Tr.KE) (B o len cap Q : Nat) (K kr : Tr.KK' (N8 (N8 Value))) (kx : Nat → Tr.KK' (N8 (N8 Value))) (A : AS) :
  run .stop
    ((Tr.kcode' Tryz.prog (std O64) 19 62 false (Code.seq ((bd Tryz.f62).at [0]) ((bd Tryz.f62).at [1, 0, 0]))).f E K kr kx (st (std O64) [(1, .func (.func 39) ⟨[]⟩ ⟨[.pointer (some ⟨Q, 0, none⟩)]⟩), (0, .slice (some ⟨B, o, none⟩) len cap)] (std O64).nil) A) =
  (.tree (K (st (std O64) [(0, .slice (some (Addr.mk B o none)) len cap), (1, Value.func (Fn.func 39) (Array.mk []) (Array.mk [.pointer (some (Addr.mk Q 0 none))])), (4, .int .i64 (Int.ofNat 0)), (6, .slice (some (Addr.mk B o none)) len cap), (7, .int .i64 (Int.ofNat len)), (8, .int .i64 (Int.ofNat 0))] (std O64).nil) A)) := by kernel_rfl
theorem round62_16 (x : Ins) (B o len cap Q R i : Nat) (cs ps : List Value) (z zq zr : Nat) (e eq er : Bool) (t : (N8 (N8 Value))) (K kr : Tr.KK' (N8 (N8 Value))) (kx : Nat → Tr.KK' (N8 (N8 Value))) (A : AS) :
  run (.split (.must (.obj (.cells cs z e) (.given x.cells (.lit 1 (.must (.obj (.cells x.cells 0 false) (.lit 1 (.split (.must (.obj (.cells [.pointer (some (Addr.mk R 0 none))] zq eq) (.lit 1 (.must (.must (.must (.must (.obj (.cells ps zr er) (.given ([Value.func (Fn.func 16) (Array.mk []) (Array.mk [])]) (.must (.must (.must (.obj (.cells x.cells 0 false) (.lit 1 (.must (.lit 2 (.must (.must (.must (.lit 1 (.must .stop))))))))))))))))))))) (.mustn (.mustn (.mustn (.mustn (.mustn (.mustn (.mustn (.mustn (.lit 1 (.must .stop)))))))))))))))))) .stop)
    ((Tr.kcode' Tryz.prog (std O64) 19 62 false ((bd Tryz.f62).at [1, 0, 1, 0, 0])).f (Tr.kc Tryz.prog noTP 20) K kr kx (st (std O64) [(0, .slice (some ⟨B, o, none⟩) len cap), (1, .func (.func 39) ⟨[]⟩ ⟨[.pointer (some ⟨Q, 0, none⟩)]⟩), (7, .int .i64 (Int.ofNat len)), (8, .int .i64 (Int.ofNat i))] t) A) =
  (.ite (Tr.qiLt (Int.ofNat i) (Int.ofNat len))
 (.ite (Nat.ble (Nat.succ i) len) (.obj (Tr.hget A.heap B) (.cells cs z e) (.given cs (Nat.add o (Nat.mul i 15)) 15 x.cells (.ite (Nat.ble A.next A.next && true) (.obj (Tr.hget (box A x.cells).heap A.next) (.cells x.cells 0 false) (.ite (Tr.qWant (.bool (Tr.qiEq x.kind (Int.ofNat 8))) true)
 (.ite (Nat.ble Q A.next && true) (.obj (Tr.hget (box A x.cells).heap Q) (.cells [.pointer (some (Addr.mk R 0 none))] zq eq) (.ite (Tr.qWant (.bool (Tr.qiEq x.kind (Int.ofNat 8))) true) (.ite (Tr.qWant (.bool (Tr.qiEq x.kind (Int.ofNat 8))) true) (.ite (Tr.qWant (.bool (Tr.qiEq x.kind (Int.ofNat 8))) true) (.ite (Nat.ble R A.next && true) (.obj (Tr.hget (box A x.cells).heap R) (.cells ps zr er) (.given ps (Nat.add 0 10) 1 ([Value.func (Fn.func 16) (Array.mk []) (Array.mk [])]) (.ite (Tr.qWant (.bool (Tr.qiEq x.kind (Int.ofNat 8))) true) (.ite (Tr.qWant (.bool (Tr.qiEq x.kind (Int.ofNat 8))) true) (.ite (Nat.ble A.next A.next && true) (.obj (Tr.hget (box A x.cells).heap A.next) (.cells x.cells 0 false) (.ite (Tr.qWant (.bool (Tr.qiEq x.kind (Int.ofNat 8))) true) (.ite (Nat.ble (AS.next (box A x.cells)) (AS.next (box A x.cells))) (.ite (Tr.qWant (.bool (Tr.qiEq x.kind (Int.ofNat 8))) true) (.ite (Tr.qiEq x.kind (Int.ofNat 8)) (.ite (qIn64 (Tr.qiAdd (Int.ofNat i) (Int.ofNat 1))) (.tree (K (st (std O64) [(5, .int .i64 (Int.ofNat i)), (8, .int .i64 (Tr.qiAdd (Int.ofNat i) (Int.ofNat 1))), (9, .bool (Tr.qiLt (Int.ofNat i) (Int.ofNat len))), (10, .int .i64 (Int.ofNat i)), (11, Value.func (Fn.func 39) (Array.mk []) (Array.mk [.pointer (some (Addr.mk Q 0 none))])), (12, .slice (some (Addr.mk B o none)) len cap), (13, .int .i64 (Int.ofNat i)), (14, .pointer (some (Addr.mk B (Nat.add o (Nat.mul i 15)) none))), (15, .agg (Array.mk x.cells)), (16, .bool !true), (18, .int .i64 (Tr.qiAdd (Int.ofNat i) (Int.ofNat 1)))] (st (std O64) [(0, .slice (some ⟨B, o, none⟩) len cap), (1, .func (.func 39) ⟨[]⟩ ⟨[.pointer (some ⟨Q, 0, none⟩)]⟩), (7, .int .i64 (Int.ofNat len)), (8, .int .i64 (Int.ofNat i))] t)) (box A x.cells))) .bad) .bad) .bad) .bad) .bad)) .bad) .bad) .bad))) .bad) .bad) .bad) .bad)) .bad)
 (.ite (Tr.qWant (.bool (Tr.qiEq x.kind (Int.ofNat 8))) true) .bad (.ite (Tr.qWant (.bool (Tr.qiEq x.kind (Int.ofNat 8))) true) .bad (.ite (Tr.qWant (.bool (Tr.qiEq x.kind (Int.ofNat 8))) true) .bad (.ite (Tr.qWant (.bool (Tr.qiEq x.kind (Int.ofNat 8))) true) .bad (.ite (Tr.qWant (.bool (Tr.qiEq x.kind (Int.ofNat 8))) true) .bad (.ite (Tr.qWant (.bool (Tr.qiEq x.kind (Int.ofNat 8))) true) .bad (.ite (Tr.qWant (.bool (Tr.qiEq x.kind (Int.ofNat 8))) true) .bad (.ite (Tr.qiEq x.kind (Int.ofNat 8)) .bad (.ite (qIn64 (Tr.qiAdd (Int.ofNat i) (Int.ofNat 1))) (.tree (K (st (std O64) [(5, .int .i64 (Int.ofNat i)), (8, .int .i64 (Tr.qiAdd (Int.ofNat i) (Int.ofNat 1))), (9, .bool (Tr.qiLt (Int.ofNat i) (Int.ofNat len))), (10, .int .i64 (Int.ofNat i)), (11, Value.func (Fn.func 39) (Array.mk []) (Array.mk [.pointer (some (Addr.mk Q 0 none))])), (12, .slice (some (Addr.mk B o none)) len cap), (13, .int .i64 (Int.ofNat i)), (14, .pointer (some (Addr.mk B (Nat.add o (Nat.mul i 15)) none))), (15, .agg (Array.mk x.cells)), (16, .bool false), (18, .int .i64 (Tr.qiAdd (Int.ofNat i) (Int.ofNat 1)))] (st (std O64) [(0, .slice (some ⟨B, o, none⟩) len cap), (1, .func (.func 39) ⟨[]⟩ ⟨[.pointer (some ⟨Q, 0, none⟩)]⟩), (7, .int .i64 (Int.ofNat len)), (8, .int .i64 (Int.ofNat i))] t)) (box A x.cells))) .bad))))))))))) .bad))) .bad)
 (.tree (kx 0 (st (std O64) [(9, .bool (Tr.qiLt (Int.ofNat i) (Int.ofNat len)))] (st (std O64) [(0, .slice (some ⟨B, o, none⟩) len cap), (1, .func (.func 39) ⟨[]⟩ ⟨[.pointer (some ⟨Q, 0, none⟩)]⟩), (7, .int .i64 (Int.ofNat len)), (8, .int .i64 (Int.ofNat i))] t)) A))) := by kernel_rfl
theorem round62_13 (x : Ins) (B o len cap Q R i : Nat) (cs ps : List Value) (z zq zr : Nat) (e eq er : Bool) (t : (N8 (N8 Value))) (K kr : Tr.KK' (N8 (N8 Value))) (kx : Nat → Tr.KK' (N8 (N8 Value))) (A : AS) :
  run (.split (.must (.obj (.cells cs z e) (.given x.cells (.lit 1 (.must (.obj (.cells x.cells 0 false) (.lit 1 (.split (.must (.obj (.cells [.pointer (some (Addr.mk R 0 none))] zq eq) (.lit 1 (.must (.must (.must (.must (.obj (.cells ps zr er) (.given ([Value.func (Fn.func 13) (Array.mk []) (Array.mk [])]) (.must (.must (.must (.obj (.cells x.cells 0 false) (.lit 1 (.must (.lit 2 (.must (.must (.must (.lit 1 .stop)))))))))))))))))))) (.mustn (.mustn (.mustn (.mustn (.mustn (.mustn (.mustn (.mustn (.lit 1 (.must .stop)))))))))))))))))) .stop)
    ((Tr.kcode' Tryz.prog (std O64) 19 62 false ((bd Tryz.f62).at [1, 0, 1, 0, 0])).f (Tr.kc Tryz.prog noTP 20) K kr kx (st (std O64) [(0, .slice (some ⟨B, o, none⟩) len cap), (1, .func (.func 39) ⟨[]⟩ ⟨[.pointer (some ⟨Q, 0, none⟩)]⟩), (7, .int .i64 (Int.ofNat len)), (8, .int .i64 (Int.ofNat i))] t) A) =
  (.ite (Tr.qiLt (Int.ofNat i) (Int.ofNat len))
 (.ite (Nat.ble (Nat.succ i) len) (.obj (Tr.hget A.heap B) (.cells cs z e) (.given cs (Nat.add o (Nat.mul i 15)) 15 x.cells (.ite (Nat.ble A.next A.next && true) (.obj (Tr.hget (box A x.cells).heap A.next) (.cells x.cells 0 false) (.ite (Tr.qWant (.bool (Tr.qiEq x.kind (Int.ofNat 8))) true)
 (.ite (Nat.ble Q A.next && true) (.obj (Tr.hget (box A x.cells).heap Q) (.cells [.pointer (some (Addr.mk R 0 none))] zq eq) (.ite (Tr.qWant (.bool (Tr.qiEq x.kind (Int.ofNat 8))) true) (.ite (Tr.qWant (.bool (Tr.qiEq x.kind (Int.ofNat 8))) true) (.ite (Tr.qWant (.bool (Tr.qiEq x.kind (Int.ofNat 8))) true) (.ite (Nat.ble R A.next && true) (.obj (Tr.hget (box A x.cells).heap R) (.cells ps zr er) (.given ps (Nat.add 0 10) 1 ([Value.func (Fn.func 13) (Array.mk []) (Array.mk [])]) (.ite (Tr.qWant (.bool (Tr.qiEq x.kind (Int.ofNat 8))) true) (.ite (Tr.qWant (.bool (Tr.qiEq x.kind (Int.ofNat 8))) true) (.ite (Nat.ble A.next A.next && true) (.obj (Tr.hget (box A x.cells).heap A.next) (.cells x.cells 0 false) (.ite (Tr.qWant (.bool (Tr.qiEq x.kind (Int.ofNat 8))) true) (.ite (Nat.ble (AS.next (box A x.cells)) (AS.next (box A x.cells))) (.ite (Tr.qWant (.bool (Tr.qiEq x.kind (Int.ofNat 8))) true) (.ite (Tr.qiEq x.kind (Int.ofNat 8)) (.tree (kr (st (std O64) [(4, .int .i64 (Int.ofNat i)), (5, .int .i64 (Int.ofNat i)), (9, .bool (Tr.qiLt (Int.ofNat i) (Int.ofNat len))), (10, .int .i64 (Int.ofNat i)), (11, Value.func (Fn.func 39) (Array.mk []) (Array.mk [.pointer (some (Addr.mk Q 0 none))])), (12, .slice (some (Addr.mk B o none)) len cap), (13, .int .i64 (Int.ofNat i)), (14, .pointer (some (Addr.mk B (Nat.add o (Nat.mul i 15)) none))), (15, .agg (Array.mk x.cells)), (16, .bool !false), (17, .int .i64 (Int.ofNat i))] (st (std O64) [(0, .slice (some ⟨B, o, none⟩) len cap), (1, .func (.func 39) ⟨[]⟩ ⟨[.pointer (some ⟨Q, 0, none⟩)]⟩), (7, .int .i64 (Int.ofNat len)), (8, .int .i64 (Int.ofNat i))] t)) (box A x.cells))) .bad) .bad) .bad) .bad)) .bad) .bad) .bad))) .bad) .bad) .bad) .bad)) .bad)
 (.ite (Tr.qWant (.bool (Tr.qiEq x.kind (Int.ofNat 8))) true) .bad (.ite (Tr.qWant (.bool (Tr.qiEq x.kind (Int.ofNat 8))) true) .bad (.ite (Tr.qWant (.bool (Tr.qiEq x.kind (Int.ofNat 8))) true) .bad (.ite (Tr.qWant (.bool (Tr.qiEq x.kind (Int.ofNat 8))) true) .bad (.ite (Tr.qWant (.bool (Tr.qiEq x.kind (Int.ofNat 8))) true) .bad (.ite (Tr.qWant (.bool (Tr.qiEq x.kind (Int.ofNat 8))) true) .bad (.ite (Tr.qWant (.bool (Tr.qiEq x.kind (Int.ofNat 8))) true) .bad (.ite (Tr.qiEq x.kind (Int.ofNat 8)) .bad (.ite (qIn64 (Tr.qiAdd (Int.ofNat i) (Int.ofNat 1))) (.tree (K (st (std O64) [(5, .int .i64 (Int.ofNat i)), (8, .int .i64 (Tr.qiAdd (Int.ofNat i) (Int.ofNat 1))), (9, .bool (Tr.qiLt (Int.ofNat i) (Int.ofNat len))), (10, .int .i64 (Int.ofNat i)), (11, Value.func (Fn.func 39) (Array.mk []) (Array.mk [.pointer (some (Addr.mk Q 0 none))])), (12, .slice (some (Addr.mk B o none)) len cap), (13, .int .i64 (Int.ofNat i)), (14, .pointer (some (Addr.mk B (Nat.add o (Nat.mul i 15)) none))), (15, .agg (Array.mk x.cells)), (16, .bool false), (18, .int .i64 (Tr.qiAdd (Int.ofNat i) (Int.ofNat 1)))] (st (std O64) [(0, .slice (some ⟨B, o, none⟩) len cap), (1, .func (.func 39) ⟨[]⟩ ⟨[.pointer (some ⟨Q, 0, none⟩)]⟩), (7, .int .i64 (Int.ofNat len)), (8, .int .i64 (Int.ofNat i))] t)) (box A x.cells))) .bad))))))))))) .bad))) .bad)
 (.tree (kx 0 (st (std O64) [(9, .bool (Tr.qiLt (Int.ofNat i) (Int.ofNat len)))] (st (std O64) [(0, .slice (some ⟨B, o, none⟩) len cap), (1, .func (.func 39) ⟨[]⟩ ⟨[.pointer (some ⟨Q, 0, none⟩)]⟩), (7, .int .i64 (Int.ofNat len)), (8, .int .i64 (Int.ofNat i))] t)) A))) := by kernel_rfl
theorem tail62 (E : Tr.KE) (t : (N8 (N8 Value))) (K kr : Tr.KK' (N8 (N8 Value))) (kx : Nat → Tr.KK' (N8 (N8 Value))) (A : AS) :
  run .stop
    ((Tr.kcode' Tryz.prog (std O64) 19 62 false ((bd Tryz.f62).at [1, 1])).f E K kr kx t A) =
  (.tree (kr (st (std O64) [(4, .int .i64 (Int.negSucc 0))] t) A)) := by kernel_rfl
theorem call62 (B o len cap Q : Nat) (A : AS) : (Tr.kc Tryz.prog noTP 21).call 62 [.slice (some ⟨B, o, none⟩) len cap, .func (.func 39) ⟨[]⟩ ⟨[.pointer (some ⟨Q, 0, none⟩)]⟩] A .ret =
    (Tr.kcode' Tryz.prog (std O64) 19 62 false (bd Tryz.f62)).f (Tr.kc Tryz.prog noTP 20) ((Tr.kret Tryz.prog (std O64) [.tmp 4]).f .ret) ((Tr.kret Tryz.prog (std O64) [.tmp 4]).f .ret)
      (fun _ _ _ => Tr.failAt 102) (st (std O64) [(1, .func (.func 39) ⟨[]⟩ ⟨[.pointer (some ⟨Q, 0, none⟩)]⟩), (0, .slice (some ⟨B, o, none⟩) len cap)] (std O64).nil) A := by
  have e : ∀ E args K, (Tr.kfn Tryz.prog noTP 62).f E args A K = (Tr.kbodyN Tryz.prog (std O64) 19 62 [.tmp 4] (bd Tryz.f62)).f E args A K := by
    intro E args K
    rw [show Tr.kfn Tryz.prog noTP 62 = Tr.kbodyN Tryz.prog (std O64) 19 62 [.tmp 4] (bd Tryz.f62) from by kernel_rfl]
  rw [kc_call, e, bodyN_eq]
  exact enter2 (N := 17) (fun _ => rfl) (fun _ => rfl)
theorem code62 : bd Tryz.f62 = .seq ((bd Tryz.f62).at [0]) (.seq (.seq ((bd Tryz.f62).at [1, 0, 0]) (.block 0 (.loop ((bd Tryz.f62).at [1, 0, 1, 0, 0])))) ((bd Tryz.f62).at [1, 1])) := by kernel_rfl
theorem f62_loop13 (B o len cap Q R : Nat) (cs ps : List Value) (z zq zr : Nat) (e eq er : Bool) (hc : okC cs o len = true) (hps : piece ps (Nat.add 0 10) 1 = some [.func (.func 13) ⟨[]⟩ ⟨[]⟩]) (kx : Nat → Tr.KK' (N8 (N8 Value)))
    (hk : ∀ t A, (∀ j, j < len → isCall cs o j = false) → Tells (.int .i64 (idxN cs o len)) (kx 0 t A).eval) :
    ∀ n k t A, k < n → (∃ i, i + k = len ∧ t = st (std O64) [(0, .slice (some ⟨B, o, none⟩) len cap), (1, .func (.func 39) ⟨[]⟩ ⟨[.pointer (some ⟨Q, 0, none⟩)]⟩), (7, .int .i64 (Int.ofNat len)), (8, .int .i64 (Int.ofNat i))] t ∧ Has A B (.cells cs z e) ∧ Has A Q (.cells [.pointer (some ⟨R, 0, none⟩)] zq eq) ∧ Has A R (.cells ps zr er) ∧ A.ro ≤ A.next ∧ ∀ j, j < i → isCall cs o j = false) →
      Tells (.int .i64 (idxN cs o len)) (kloop (Tr.kcode' Tryz.prog (std O64) 19 62 false ((bd Tryz.f62).at [1, 0, 1, 0, 0])).f (Tr.kc Tryz.prog noTP 20) ((Tr.kret Tryz.prog (std O64) [.tmp 4]).f .ret) kx n t A).eval := by
  refine loop_tells (I := fun k t A => ∃ i, i + k = len ∧ t = st (std O64) [(0, .slice (some ⟨B, o, none⟩) len cap), (1, .func (.func 39) ⟨[]⟩ ⟨[.pointer (some ⟨Q, 0, none⟩)]⟩), (7, .int .i64 (Int.ofNat len)), (8, .int .i64 (Int.ofNat i))] t ∧ Has A B (.cells cs z e) ∧ Has A Q (.cells [.pointer (some ⟨R, 0, none⟩)] zq eq) ∧ Has A R (.cells ps zr er) ∧ A.ro ≤ A.next ∧ ∀ j, j < i → isCall cs o j = false) ?_
  rintro k t A K ⟨i, hi, ht, hB, hQ, hR, hro, hall⟩ ih
  rw [ht]
  refine tells_of (round62_13 (insN cs o i) B o len cap Q R i cs ps z zq zr e eq er t K _ kx A) ?_
  have hQ1 : Nat.ble Q A.next = true := Nat.ble_eq_true_of_le (Nat.le_of_lt hQ.2)
  have hR1 : Nat.ble R A.next = true := Nat.ble_eq_true_of_le (Nat.le_of_lt hR.2)
  have hn1 : Nat.ble A.next A.next = true := Nat.ble_eq_true_of_le (Nat.le_refl _)
  have hn2 : Nat.ble (AS.next (box A (insN cs o i).cells)) (AS.next (box A (insN cs o i).cells)) = true := Nat.ble_eq_true_of_le (Nat.le_refl _)
  simp only [Out.tells]
  refine ⟨fun hlt => ?_, fun hge => ?_⟩
  · have hlt : i < len := by
      rw [qiLt_d] at hlt
      simpa using hlt
    have h1 : Nat.ble (Nat.succ i) len = true := Nat.ble_eq_true_of_le hlt
    simp only [h1, hn1, hn2, hQ1, hR1, hB.1, okC_at hc hlt, (box_has A _).1, (hQ.box _).1, (hR.box _).1, hps, wantT, in64 (Nat.lt_of_lt_of_le hlt (okC_le hc)), true_and, forall_const, Bool.and_true, Bool.true_eq_false, Bool.false_eq_true, false_implies, and_true]
    cases h8 : Tr.qiEq (insN cs o i).kind (Int.ofNat 8)
    · simp only [true_and, forall_const, Bool.true_eq_false, Bool.false_eq_true, false_implies, and_true]
      refine ih (len - (i + 1)) _ _ (by omega) ⟨i + 1, by omega, ?_, hB.box _, hQ.box _, hR.box _, box_ro hro _, ?_⟩
      · kernel_rfl
      · intro j hj
        rcases Nat.lt_succ_iff_lt_or_eq.1 hj with h | rfl
        · exact hall j h
        · exact h8
    · simp only [true_and, forall_const, Bool.true_eq_false, Bool.false_eq_true, false_implies, and_true]
      rw [idxN_at hlt h8 hall]
      exact ret_tells (by kernel_rfl)
  · have hge : len ≤ i := by
      rw [qiLt_d] at hge
      simpa using hge
    exact hk _ A (fun j hj => hall j (by omega))
theorem f62_loop16 (B o len cap Q R : Nat) (cs ps : List Value) (z zq zr : Nat) (e eq er : Bool) (hc : okC cs o len = true) (hps : piece ps (Nat.add 0 10) 1 = some [.func (.func 16) ⟨[]⟩ ⟨[]⟩]) (kx : Nat → Tr.KK' (N8 (N8 Value)))
    (hk : ∀ t A, Tells (.int .i64 (Int.negSucc 0)) (kx 0 t A).eval) :
    ∀ n k t A, k < n → (∃ i, i + k = len ∧ t = st (std O64) [(0, .slice (some ⟨B, o, none⟩) len cap), (1, .func (.func 39) ⟨[]⟩ ⟨[.pointer (some ⟨Q, 0, none⟩)]⟩), (7, .int .i64 (Int.ofNat len)), (8, .int .i64 (Int.ofNat i))] t ∧ Has A B (.cells cs z e) ∧ Has A Q (.cells [.pointer (some ⟨R, 0, none⟩)] zq eq) ∧ Has A R (.cells ps zr er) ∧ A.ro ≤ A.next) →
      Tells (.int .i64 (Int.negSucc 0)) (kloop (Tr.kcode' Tryz.prog (std O64) 19 62 false ((bd Tryz.f62).at [1, 0, 1, 0, 0])).f (Tr.kc Tryz.prog noTP 20) ((Tr.kret Tryz.prog (std O64) [.tmp 4]).f .ret) kx n t A).eval := by
  refine loop_tells (I := fun k t A => ∃ i, i + k = len ∧ t = st (std O64) [(0, .slice (some ⟨B, o, none⟩) len cap), (1, .func (.func 39) ⟨[]⟩ ⟨[.pointer (some ⟨Q, 0, none⟩)]⟩), (7, .int .i64 (Int.ofNat len)), (8, .int .i64 (Int.ofNat i))] t ∧ Has A B (.cells cs z e) ∧ Has A Q (.cells [.pointer (some ⟨R, 0, none⟩)] zq eq) ∧ Has A R (.cells ps zr er) ∧ A.ro ≤ A.next) ?_
  rintro k t A K ⟨i, hi, ht, hB, hQ, hR, hro⟩ ih
  rw [ht]
  refine tells_of (round62_16 (insN cs o i) B o len cap Q R i cs ps z zq zr e eq er t K _ kx A) ?_
  have hQ1 : Nat.ble Q A.next = true := Nat.ble_eq_true_of_le (Nat.le_of_lt hQ.2)
  have hR1 : Nat.ble R A.next = true := Nat.ble_eq_true_of_le (Nat.le_of_lt hR.2)
  have hn1 : Nat.ble A.next A.next = true := Nat.ble_eq_true_of_le (Nat.le_refl _)
  have hn2 : Nat.ble (AS.next (box A (insN cs o i).cells)) (AS.next (box A (insN cs o i).cells)) = true := Nat.ble_eq_true_of_le (Nat.le_refl _)
  simp only [Out.tells]
  refine ⟨fun hlt => ?_, fun hge => ?_⟩
  · have hlt : i < len := by
      rw [qiLt_d] at hlt
      simpa using hlt
    have h1 : Nat.ble (Nat.succ i) len = true := Nat.ble_eq_true_of_le hlt
    simp only [h1, hn1, hn2, hQ1, hR1, hB.1, okC_at hc hlt, (box_has A _).1, (hQ.box _).1, (hR.box _).1, hps, wantT, in64 (Nat.lt_of_lt_of_le hlt (okC_le hc)), true_and, forall_const, Bool.and_true, Bool.true_eq_false, Bool.false_eq_true, false_implies, and_true]
    cases h8 : Tr.qiEq (insN cs o i).kind (Int.ofNat 8)
    · simp only [true_and, forall_const, Bool.true_eq_false, Bool.false_eq_true, false_implies, and_true]
      refine ih (len - (i + 1)) _ _ (by omega) ⟨i + 1, by omega, ?_, hB.box _, hQ.box _, hR.box _, box_ro hro _⟩
      · kernel_rfl
    · simp only [true_and, forall_const, Bool.true_eq_false, Bool.false_eq_true, false_implies, and_true]
      refine ih (len - (i + 1)) _ _ (by omega) ⟨i + 1, by omega, ?_, hB.box _, hQ.box _, hR.box _, box_ro hro _⟩
      kernel_rfl
  · have hge : len ≤ i := by
      rw [qiLt_d] at hge
      simpa using hge
    exact hk _ A
theorem f62_tells13 (B o len cap Q R : Nat) (cs ps : List Value) (z zq zr : Nat) (e eq er : Bool) (A : AS) (hB : Has A B (.cells cs z e)) (hQ : Has A Q (.cells [.pointer (some ⟨R, 0, none⟩)] zq eq)) (hR : Has A R (.cells ps zr er))
    (hc : okC cs o len = true) (hl : len < Tr.loopMost) (hps : piece ps (Nat.add 0 10) 1 = some [.func (.func 13) ⟨[]⟩ ⟨[]⟩]) (hro : A.ro ≤ A.next) :
    Tells (.int .i64 (idxN cs o len)) ((Tr.kc Tryz.prog noTP 21).call 62 [.slice (some ⟨B, o, none⟩) len cap, .func (.func 39) ⟨[]⟩ ⟨[.pointer (some ⟨Q, 0, none⟩)]⟩] A .ret).eval := by
  rw [call62, code62, mid2_eq]
  refine tells_of (pre62 _ B o len cap Q _ _ _ A) ?_
  simp only [Out.tells]
  rw [mid_loop]
  refine f62_loop13 B o len cap Q R cs ps z zq zr e eq er hc hps _ ?_ _ len _ _ hl ⟨0, by omega, by kernel_rfl, hB, hQ, hR, hro, fun j hj => absurd hj (Nat.not_lt_zero _)⟩
  intro t A' hall
  rw [idxN_none hall]
  refine tells_of (tail62 _ t _ _ _ A') ?_
  exact ret_tells (by kernel_rfl)
theorem f62_tells16 (B o len cap Q R : Nat) (cs ps : List Value) (z zq zr : Nat) (e eq er : Bool) (A : AS) (hB : Has A B (.cells cs z e)) (hQ : Has A Q (.cells [.pointer (some ⟨R, 0, none⟩)] zq eq)) (hR : Has A R (.cells ps zr er))
    (hc : okC cs o len = true) (hl : len < Tr.loopMost) (hps : piece ps (Nat.add 0 10) 1 = some [.func (.func 16) ⟨[]⟩ ⟨[]⟩]) (hro : A.ro ≤ A.next) :
    Tells (.int .i64 (Int.negSucc 0)) ((Tr.kc Tryz.prog noTP 21).call 62 [.slice (some ⟨B, o, none⟩) len cap, .func (.func 39) ⟨[]⟩ ⟨[.pointer (some ⟨Q, 0, none⟩)]⟩] A .ret).eval := by
  rw [call62, code62, mid2_eq]
  refine tells_of (pre62 _ B o len cap Q _ _ _ A) ?_
  simp only [Out.tells]
  rw [mid_loop]
  refine f62_loop16 B o len cap Q R cs ps z zq zr e eq er hc hps _ ?_ _ len _ _ hl ⟨0, by omega, by kernel_rfl, hB, hQ, hR, hro⟩
  intro t A'
  refine tells_of (tail62 _ t _ _ _ A') ?_
  exact ret_tells (by kernel_rfl)
end Go.Proofs
namespace Go.Proofs
open Go Go.Dp Go.Dp.Tr
theorem pre29 (E : Tr.KE) (B o C u len cap cap' : Nat) (K kr : Tr.KK' (N8 (N8 Value))) (kx : Nat → Tr.KK' (N8 (N8 Value))) (A : AS) :
  run (.split .stop .stop)
    ((Tr.kcode' Tryz.prog (std O64) 26 29 false (Code.seq ((bd Tryz.f29).at [0]) (Code.seq ((bd Tryz.f29).at [1, 0]) ((bd Tryz.f29).at [1, 1, 0, 0])))).f E K kr kx (st (std O64) [(1, .slice (some ⟨C, u, none⟩) len cap'), (0, .slice (some ⟨B, o, none⟩) len cap)] (std O64).nil) A) =
  (.ite (Bool.not (Tr.qiEq (Int.ofNat len) (Int.ofNat len)))
 (.tree (kr (st (std O64) [(0, .slice (some (Addr.mk B o none)) len cap), (1, .slice (some (Addr.mk C u none)) len cap'), (4, .bool false), (6, .slice (some (Addr.mk B o none)) len cap), (7, .int .i64 (Int.ofNat len)), (8, .slice (some (Addr.mk C u none)) len cap'), (9, .int .i64 (Int.ofNat len)), (10, .bool !Tr.qiEq (Int.ofNat len) (Int.ofNat len))] (std O64).nil) A))
 (.tree (K (st (std O64) [(0, .slice (some (Addr.mk B o none)) len cap), (1, .slice (some (Addr.mk C u none)) len cap'), (4, .bool false), (6, .slice (some (Addr.mk B o none)) len cap), (7, .int .i64 (Int.ofNat len)), (8, .slice (some (Addr.mk C u none)) len cap'), (9, .int .i64 (Int.ofNat len)), (10, .bool !Tr.qiEq (Int.ofNat len) (Int.ofNat len)), (11, .slice (some (Addr.mk B o none)) len cap), (12, .int .i64 (Int.ofNat len)), (13, .int .i64 (Int.ofNat 0))] (std O64).nil) A))) := by kernel_rfl
theorem round29 (E : Tr.KE) (x : Ins) (B o C u len cap cap' i : Nat) (cs ds : List Value) (z zd : Nat) (e ed : Bool) (t : (N8 (N8 Value))) (K kr : Tr.KK' (N8 (N8 Value))) (kx : Nat → Tr.KK' (N8 (N8 Value))) (A : AS) :
  run (.split (.must (.must (.obj (.cells cs z e) (.given x.cells (.must (.must (.obj (.cells ds zd ed) (.given x.cells (.split .stop (.must .stop)))))))))) .stop)
    ((Tr.kcode' Tryz.prog (std O64) 26 29 false ((bd Tryz.f29).at [1, 1, 0, 1, 0, 0])).f E K kr kx (st (std O64) [(0, .slice (some ⟨B, o, none⟩) len cap), (1, .slice (some ⟨C, u, none⟩) len cap'), (12, .int .i64 (Int.ofNat len)), (13, .int .i64 (Int.ofNat i))] t) A) =
  (.ite (Tr.qiLt (Int.ofNat i) (Int.ofNat len))
 (.ite (Nat.ble (Nat.succ i) len) (.ite (Nat.ble (Nat.succ B) (AS.next A) && true) (.obj (Tr.hget A.heap B) (.cells cs z e) (.given cs (Nat.add o (Nat.mul i 15)) 15 x.cells (.ite (Nat.ble (Nat.succ i) len) (.ite (Nat.ble (Nat.succ C) (AS.next A) && true) (.obj (Tr.hget A.heap C) (.cells ds zd ed) (.given ds (Nat.add u (Nat.mul i 15)) 15 x.cells (.ite (Bool.not (x.kind == x.kind && (x.op == x.op && (x.dst == x.dst && (x.a == x.a && (x.b == x.b && (x.n == x.n && (ByteArray.mk (Array.mk x.text) == ByteArray.mk (Array.mk x.text) && (x.g0 == x.g0 && (x.g1 == x.g1 && (x.g2 == x.g2 && (x.g3 == x.g3 && (x.g4 == x.g4 && (x.g5 == x.g5 && true))))) && (x.tt == x.tt && (x.els == x.els && true)))))))))))
 (.tree (kr (st (std O64) [(4, .bool false), (5, .int .i64 (Int.ofNat i)), (14, .bool (Tr.qiLt (Int.ofNat i) (Int.ofNat len))), (15, .int .i64 (Int.ofNat i)), (16, .slice (some (Addr.mk B o none)) len cap), (17, .int .i64 (Int.ofNat i)), (18, .pointer (some (Addr.mk B (Nat.add o (Nat.mul i 15)) none))), (19, .agg (Array.mk x.cells)), (20, .slice (some (Addr.mk C u none)) len cap'), (21, .int .i64 (Int.ofNat i)), (22, .pointer (some (Addr.mk C (Nat.add u (Nat.mul i 15)) none))), (23, .agg (Array.mk x.cells)), (24, .bool !(x.kind == x.kind && (x.op == x.op && (x.dst == x.dst && (x.a == x.a && (x.b == x.b && (x.n == x.n && (ByteArray.mk (Array.mk x.text) == ByteArray.mk (Array.mk x.text) && (x.g0 == x.g0 && (x.g1 == x.g1 && (x.g2 == x.g2 && (x.g3 == x.g3 && (x.g4 == x.g4 && (x.g5 == x.g5 && true))))) && (x.tt == x.tt && (x.els == x.els && true)))))))))))] (st (std O64) [(0, .slice (some ⟨B, o, none⟩) len cap), (1, .slice (some ⟨C, u, none⟩) len cap'), (12, .int .i64 (Int.ofNat len)), (13, .int .i64 (Int.ofNat i))] t)) A))
 (.ite (qIn64 (Tr.qiAdd (Int.ofNat i) (Int.ofNat 1))) (.tree (K (st (std O64) [(5, .int .i64 (Int.ofNat i)), (13, .int .i64 (Tr.qiAdd (Int.ofNat i) (Int.ofNat 1))), (14, .bool (Tr.qiLt (Int.ofNat i) (Int.ofNat len))), (15, .int .i64 (Int.ofNat i)), (16, .slice (some (Addr.mk B o none)) len cap), (17, .int .i64 (Int.ofNat i)), (18, .pointer (some (Addr.mk B (Nat.add o (Nat.mul i 15)) none))), (19, .agg (Array.mk x.cells)), (20, .slice (some (Addr.mk C u none)) len cap'), (21, .int .i64 (Int.ofNat i)), (22, .pointer (some (Addr.mk C (Nat.add u (Nat.mul i 15)) none))), (23, .agg (Array.mk x.cells)), (24, .bool !(x.kind == x.kind && (x.op == x.op && (x.dst == x.dst && (x.a == x.a && (x.b == x.b && (x.n == x.n && (ByteArray.mk (Array.mk x.text) == ByteArray.mk (Array.mk x.text) && (x.g0 == x.g0 && (x.g1 == x.g1 && (x.g2 == x.g2 && (x.g3 == x.g3 && (x.g4 == x.g4 && (x.g5 == x.g5 && true))))) && (x.tt == x.tt && (x.els == x.els && true))))))))))), (25, .int .i64 (Tr.qiAdd (Int.ofNat i) (Int.ofNat 1)))] (st (std O64) [(0, .slice (some ⟨B, o, none⟩) len cap), (1, .slice (some ⟨C, u, none⟩) len cap'), (12, .int .i64 (Int.ofNat len)), (13, .int .i64 (Int.ofNat i))] t)) A)) .bad)))) .bad) .bad))) .bad) .bad)
 (.tree (kx 0 (st (std O64) [(14, .bool (Tr.qiLt (Int.ofNat i) (Int.ofNat len)))] (st (std O64) [(0, .slice (some ⟨B, o, none⟩) len cap), (1, .slice (some ⟨C, u, none⟩) len cap'), (12, .int .i64 (Int.ofNat len)), (13, .int .i64 (Int.ofNat i))] t)) A))) := by kernel_rfl
theorem tail29 (E : Tr.KE) (t : (N8 (N8 Value))) (K kr : Tr.KK' (N8 (N8 Value))) (kx : Nat → Tr.KK' (N8 (N8 Value))) (A : AS) :
  run .stop
    ((Tr.kcode' Tryz.prog (std O64) 26 29 false ((bd Tryz.f29).at [1, 1, 1])).f E K kr kx t A) =
  (.tree (kr (st (std O64) [(4, .bool true)] t) A)) := by kernel_rfl
theorem call29 (prims : FuncId → Option TP) (hp : prims 29 = none) (n : Nat) (B o C u len cap cap' : Nat) (A : AS) : (Tr.kc Tryz.prog prims (n + 1)).call 29 [.slice (some ⟨B, o, none⟩) len cap, .slice (some ⟨C, u, none⟩) len cap'] A .ret =
    (Tr.kcode' Tryz.prog (std O64) 26 29 false (bd Tryz.f29)).f (Tr.kc Tryz.prog prims n) ((Tr.kret Tryz.prog (std O64) [.tmp 4]).f .ret) ((Tr.kret Tryz.prog (std O64) [.tmp 4]).f .ret)
      (fun _ _ _ => Tr.failAt 102) (st (std O64) [(1, .slice (some ⟨C, u, none⟩) len cap'), (0, .slice (some ⟨B, o, none⟩) len cap)] (std O64).nil) A := by
  have e0 : Tr.kfn Tryz.prog prims 29 = Tr.kfn Tryz.prog noTP 29 := by unfold Tr.kfn; rw [hp]; rfl
  have e : ∀ E args K, (Tr.kfn Tryz.prog prims 29).f E args A K = (Tr.kbodyN Tryz.prog (std O64) 26 29 [.tmp 4] (bd Tryz.f29)).f E args A K := by
    intro E args K
    rw [e0, show Tr.kfn Tryz.prog noTP 29 = Tr.kbodyN Tryz.prog (std O64) 26 29 [.tmp 4] (bd Tryz.f29) from by kernel_rfl]
  rw [kc_call, e, bodyN_eq]
  exact enter2 (N := 24) (fun _ => rfl) (fun _ => rfl)
theorem code29 : bd Tryz.f29 = .seq ((bd Tryz.f29).at [0]) (.seq ((bd Tryz.f29).at [1, 0]) (.seq (.seq ((bd Tryz.f29).at [1, 1, 0, 0]) (.block 0 (.loop ((bd Tryz.f29).at [1, 1, 0, 1, 0, 0])))) ((bd Tryz.f29).at [1, 1, 1]))) := by kernel_rfl
theorem f29_loop (E : Tr.KE) (B o C u len cap cap' : Nat) (cs ds : List Value) (z zd : Nat) (e ed : Bool) (hc : okC cs o len = true) (hd : okC ds u len = true) (hs : ∀ j, j < len → insN ds u j = insN cs o j) (kx : Nat → Tr.KK' (N8 (N8 Value)))
    (hk : ∀ t A, Tells (.bool true) (kx 0 t A).eval) :
    ∀ n k t A, k < n → (∃ i, i + k = len ∧ t = st (std O64) [(0, .slice (some ⟨B, o, none⟩) len cap), (1, .slice (some ⟨C, u, none⟩) len cap'), (12, .int .i64 (Int.ofNat len)), (13, .int .i64 (Int.ofNat i))] t ∧ Has A B (.cells cs z e) ∧ Has A C (.cells ds zd ed)) →
      Tells (.bool true) (kloop (Tr.kcode' Tryz.prog (std O64) 26 29 false ((bd Tryz.f29).at [1, 1, 0, 1, 0, 0])).f E ((Tr.kret Tryz.prog (std O64) [.tmp 4]).f .ret) kx n t A).eval := by
  refine loop_tells (I := fun k t A => ∃ i, i + k = len ∧ t = st (std O64) [(0, .slice (some ⟨B, o, none⟩) len cap), (1, .slice (some ⟨C, u, none⟩) len cap'), (12, .int .i64 (Int.ofNat len)), (13, .int .i64 (Int.ofNat i))] t ∧ Has A B (.cells cs z e) ∧ Has A C (.cells ds zd ed)) ?_
  rintro k t A K ⟨i, hi, ht, hB, hC⟩ ih
  rw [ht]
  refine tells_of (round29 E (insN cs o i) B o C u len cap cap' i cs ds z zd e ed t K _ kx A) ?_
  have hB1 : Nat.ble (Nat.succ B) (AS.next A) = true := Nat.ble_eq_true_of_le hB.2
  have hC1 : Nat.ble (Nat.succ C) (AS.next A) = true := Nat.ble_eq_true_of_le hC.2
  simp only [Out.tells]
  refine ⟨fun hlt => ?_, fun hge => ?_⟩
  · have hlt : i < len := by
      rw [qiLt_d] at hlt
      simpa using hlt
    have h1 : Nat.ble (Nat.succ i) len = true := Nat.ble_eq_true_of_le hlt
    have hd1 := okC_at hd hlt
    rw [hs i hlt] at hd1
    simp only [h1, hB1, hC1, hB.1, hC.1, okC_at hc hlt, hd1, in64 (Nat.lt_of_lt_of_le hlt (okC_le hc)), self_bytes, beq_self_eq_true, Bool.not_true, true_and, forall_const, Bool.and_true, Bool.true_eq_false, Bool.false_eq_true, false_implies, and_true]
    refine ih (len - (i + 1)) _ _ (by omega) ⟨i + 1, by omega, ?_, hB, hC⟩
    kernel_rfl
  · exact hk _ A
theorem f29_tells (prims : FuncId → Option TP) (hpr : prims 29 = none) (n : Nat) (B o C u len cap cap' : Nat) (cs ds : List Value) (z zd : Nat) (e ed : Bool) (A : AS) (hB : Has A B (.cells cs z e)) (hC : Has A C (.cells ds zd ed))
    (hc : okC cs o len = true) (hd : okC ds u len = true) (hs : ∀ j, j < len → insN ds u j = insN cs o j) (hl : len < Tr.loopMost) :
    Tells (.bool true) ((Tr.kc Tryz.prog prims (n + 1)).call 29 [.slice (some ⟨B, o, none⟩) len cap, .slice (some ⟨C, u, none⟩) len cap'] A .ret).eval := by
  rw [call29 prims hpr n, code29, mid_eq]
  refine tells_of (pre29 _ B o C u len cap cap' _ _ _ A) ?_
  have : Tr.qiEq (Int.ofNat len) (Int.ofNat len) = true := by rw [qiEq_d]; exact decide_eq_true rfl
  simp only [Out.tells, this, Bool.not_true, Bool.false_eq_true, false_implies, true_and, forall_const]
  rw [mid_loop]
  refine f29_loop _ B o C u len cap cap' cs ds z zd e ed hc hd hs _ ?_ _ len _ _ hl ⟨0, by omega, by kernel_rfl, hB, hC⟩
  intro t A'
  refine tells_of (tail29 _ t _ _ _ A') ?_
  exact ret_tells (by kernel_rfl)
end Go.Proofs
namespace Go.Proofs
open Go Go.Dp Go.Dp.Tr
theorem run24 (g : Fun1) (cs : List Value) (z : Nat) (e : Bool) (K : Value → AS → Tree) (A : AS) :
  run (.obj (.cells g.cells 0 false) (.lit 1 (.opt (ANext.value (.slice (some ⟨Nat.succ (Nat.succ A.next), 0, none⟩) g.len g.len), cl2 A g) (.obj (.cells g.cells 0 false) (.lit 1 (.opt (ANext.value (.int .i64 (Int.ofNat g.len)), cl3 A g cs) (.obj (.cells g.cells 0 false) (.must (.obj (.cells (cloneF A g).cells 0 false) (.lit 2 (.obj (.cells zeroFn 0 false) (.must (.obj (.cells (cloneF A g).cells 0 false) (.lit 1 .stop))))))))))))))
    ((Tr.kc Tryz.prog noTP 20).call 24 [.agg ⟨g.cells⟩] A K) =
  (.obj (Tr.hget (cl1 A g).heap A.next) (.cells g.cells 0 false) (.opt ((aMakeSlice Tryz.prog (cl1 A g) 22 (.int .i64 (Int.ofNat g.len)) (.int .i64 (Int.ofNat g.len))).map fun q => (ANext.value q.1, q.2)) (ANext.value (.slice (some ⟨Nat.succ (Nat.succ A.next), 0, none⟩) g.len g.len), cl2 A g) (.obj (Tr.hget (cl2 A g).heap A.next) (.cells g.cells 0 false) (.opt ((aCopy Tryz.prog (cl2 A g) #[22, 22] (.slice (some ⟨Nat.succ (Nat.succ A.next), 0, none⟩) g.len g.len) (.slice (some ⟨g.B, g.o, none⟩) g.len g.cap)).map fun q => (ANext.value q.1, q.2)) (ANext.value (.int .i64 (Int.ofNat g.len)), cl3 A g cs) (.obj (Tr.hget (cl3 A g cs).heap A.next) (.cells g.cells 0 false) (.ite (Nat.ble A.ro A.next) (.obj (Tr.hget (cl4 A g cs).heap A.next) (.cells (cloneF A g).cells 0 false) (.obj (Tr.hget (cl4 A g cs).heap (Nat.succ A.next)) (.cells zeroFn 0 false) (.ite (Nat.ble A.ro (Nat.succ A.next)) (.obj (Tr.hget (cl5 A g cs).heap (Nat.succ A.next)) (.cells (cloneF A g).cells 0 false) (.tree (K (.agg (Array.mk (cloneF A g).cells)) (cl5 A g cs)))) .bad))) .bad)))))) := by kernel_rfl
theorem piece_ok {cs l : List Value} {o n : Nat} (h : piece cs o n = some l) : (cs.drop o).take n = l ∧ l.length = n := by
  unfold piece at h
  simp only at h
  split at h
  · rename_i hl
    simp only [Option.some.injEq] at h
    subst h
    exact ⟨rfl, by simpa using hl⟩
  · cases h
theorem piece_mk {cs l : List Value} {o n : Nat} (h : (cs.drop o).take n = l) (hl : l.length = n) : piece cs o n = some l := by
  unfold piece
  simp only [h, hl, beq_self_eq_true, if_true]
theorem okC_mono {cs : List Value} {o n m : Nat} (h : okC cs o n = true) (hm : m ≤ n) : okC cs o m = true := by
  unfold okC at h ⊢
  simp only [Bool.and_eq_true, decide_eq_true_eq, List.all_eq_true, List.mem_range] at h ⊢
  exact ⟨by omega, fun j hj => h.2 j (by omega)⟩
theorem cut_eq {cs : List Value} {o : Nat} : ∀ {n : Nat}, okC cs o n = true → cut cs o n = (List.range n).flatMap fun j => (insN cs o j).cells
  | 0, _ => by simp [cut]
  | n + 1, h => by
    have ih := cut_eq (okC_mono h (Nat.le_succ n))
    obtain ⟨h1, h2⟩ := piece_ok (okC_at h (Nat.lt_succ_self n))
    rw [List.range_succ, List.flatMap_append, ← ih]
    unfold cut
    have e : (n + 1) * 15 = n * 15 + 15 := by omega
    rw [e, List.take_add, List.drop_drop]
    have h1 : (cs.drop (o + n * 15)).take 15 = (insN cs o n).cells := h1
    rw [h1]
    simp
theorem cells_len (x : Ins) : x.cells.length = 15 := rfl
theorem cut_len {cs : List Value} {o n : Nat} (h : okC cs o n = true) : (cut cs o n).length = n * 15 := by
  rw [cut_eq h]
  clear h
  induction n with
  | zero => rfl
  | succ n ih => rw [List.range_succ, List.flatMap_append, List.length_append, ih]; simp [cells_len]; omega
theorem cells_one (x : Ins) : x.cells.all Value.oneCell' = true := rfl
theorem cut_one {cs : List Value} {o n : Nat} (h : okC cs o n = true) : (cut cs o n).all Value.oneCell' = true := by
  rw [cut_eq h, List.all_eq_true]
  intro v hv
  obtain ⟨j, _, hj⟩ := List.mem_flatMap.1 hv
  exact List.all_eq_true.1 (cells_one _) v hj
theorem cut_at {cs : List Value} {o n j : Nat} (h : okC cs o n = true) (hj : j < n) : insAt (cut cs o n) 0 j = some (insN cs o j) := by
  obtain ⟨h1, h2⟩ := piece_ok (okC_at h hj)
  have h1 : (cs.drop (o + j * 15)).take 15 = (insN cs o j).cells := h1
  have : piece (cut cs o n) (0 + j * 15) 15 = some (insN cs o j).cells := by
    refine piece_mk ?_ (cells_len _)
    unfold cut
    rw [List.drop_take, List.drop_drop, List.take_take, Nat.zero_add]
    have : min 15 (n * 15 - j * 15) = 15 := by omega
    rw [this]
    exact h1
  unfold insAt
  rw [this]
  exact insOf_cells _
theorem cut_insN {cs : List Value} {o n j : Nat} (h : okC cs o n = true) (hj : j < n) : insN (cut cs o n) 0 j = insN cs o j := by
  unfold insN
  rw [cut_at h hj]
  rfl
theorem cut_ok {cs : List Value} {o n : Nat} (h : okC cs o n = true) : okC (cut cs o n) 0 n = true := by
  have hle := okC_le h
  unfold okC
  simp only [Bool.and_eq_true, decide_eq_true_eq, List.all_eq_true, List.mem_range]
  exact ⟨hle, fun j hj => by rw [cut_at h hj]; rfl⟩
theorem splice_whole {zs vs : List Value} (h : vs.length = zs.length) : splice zs 0 vs = vs := by
  simp [splice, h]
theorem zeros_len (n : Nat) : (zeros n).length = n * 15 := by simp [zeros, pattern]
theorem boxZ_new (A : AS) (cs : List Value) (z : Nat) : boxZ A cs z = A.new (.cells cs z false) := by
  unfold boxZ AS.new
  rw [Tr.hset_eq]
theorem under22 : Tryz.prog.underlying 22 = some (.slice 49) := by kernel_rfl
theorem info49 : Tryz.prog.info? 49 = some Tryz.t49 := by kernel_rfl
theorem zero49 : Tryz.t49.zero = some (.agg ⟨zeroIns.cells⟩) := by kernel_rfl
theorem size49 : Tryz.t49.size = 15 := by kernel_rfl
theorem bytes49 : Nat.ble Tryz.t49.bytes 1000 = true := by kernel_rfl
theorem make_eq (A : AS) {n : Nat} (hn : n ≤ 100000) : aMakeSlice Tryz.prog A 22 (.int .i64 (Int.ofNat n)) (.int .i64 (Int.ofNat n)) = some (.slice (some ⟨A.next, 0, none⟩) n n, boxZ A (zeros n) 15) := by
  have hb : Nat.ble (Tryz.t49.bytes * n) (2 ^ 47) = true := by
    refine Nat.ble_eq_true_of_le ?_
    have := Nat.le_of_ble_eq_true bytes49
    calc Tryz.t49.bytes * n ≤ 1000 * 100000 := Nat.mul_le_mul this hn
      _ ≤ 2 ^ 47 := by decide
  have h0 : decide ((0 : Int) ≤ Int.ofNat n) = true := decide_eq_true (Int.natCast_nonneg n)
  have h1 : decide ((Int.ofNat n : Int) ≤ Int.ofNat n) = true := decide_eq_true (Int.le_refl _)
  have h2 : decide ((Int.ofNat n : Int) ≤ (2 : Int) ^ 40) = true := decide_eq_true (by simp only [Int.ofNat_eq_natCast]; omega)
  have hf : flat (.agg ⟨zeroIns.cells⟩) = true := rfl
  have ht : (Int.ofNat n).toNat = n := rfl
  simp only [aMakeSlice, under22, info49, zero49, size49, hf, h0, h1, h2, ht, hb, Bool.and_self, if_true, boxZ_new]
  rfl
theorem copy_eq {A : AS} {C B o n cap : Nat} {cs : List Value} {z : Nat} {e : Bool} (hC : A.get C = some (.cells (zeros n) 15 false)) (hB : A.get B = some (.cells cs z e)) (hc : okC cs o n = true) (hr : A.ro ≤ C) :
    aCopy Tryz.prog A #[22, 22] (.slice (some ⟨C, 0, none⟩) n n) (.slice (some ⟨B, o, none⟩) n cap) = some (.int .i64 (Int.ofNat n), A.put C (some (.cells (cut cs o n) 15 false))) := by
  have hs : tSize Tryz.prog 49 = some 15 := by
    unfold tSize
    rw [info49]
    exact congrArg some size49
  have hp : piece cs o (n * 15) = some (cut cs o n) := piece_mk rfl (cut_len hc)
  have hm : Nat.min n n = n := Nat.min_self n
  have h1 : Nat.ble A.ro C = true := Nat.ble_eq_true_of_le hr
  have h2 : Nat.ble (0 + (cut cs o n).length) (zeros n).length = true := Nat.ble_eq_true_of_le (by rw [cut_len hc, zeros_len]; omega)
  have h3 : splice (zeros n) 0 (cut cs o n) = cut cs o n := splice_whole (by rw [cut_len hc, zeros_len])
  have ha : (#[22, 22] : Array TypeId)[0]? = some 22 := rfl
  simp only [aCopy, ha, under22, hs, lenA, firstOf, hm, hB, hp, storeAll, hC, h1, h2, cut_one hc, Bool.and_self, if_true, h3]
  rfl
theorem clone_eval (g : Fun1) (cs : List Value) (z : Nat) (e : Bool) (A : AS) (hB : Has A g.B (.cells cs z e)) (hc : okC cs g.o g.len = true) (hro : A.ro ≤ A.next) (hl : g.len ≤ 100000) :
    Tree.eval ((Tr.kc Tryz.prog noTP 20).call 24 [.agg ⟨g.cells⟩] A .ret) = some (.agg ⟨(cloneF A g).cells⟩, cl5 A g cs) := by
  have h := says_of (run24 g cs z e .ret A)
  have hb := hB.2
  have h1 : Tr.hget (cl1 A g).heap A.next = some (.cells g.cells 0 false) := by
    simp only [cl1, box, hget_hset]; rw [if_neg (by omega), if_pos trivial]
  have h3 : Tr.hget (cl2 A g).heap A.next = some (.cells g.cells 0 false) := by
    simp only [cl2, boxZ, cl1, box, hget_hset]; rw [if_neg (by omega), if_neg (by omega), if_pos trivial]
  have h5 : Tr.hget (cl3 A g cs).heap A.next = some (.cells g.cells 0 false) := by
    simp only [cl3, cl2, boxZ, cl1, box, hget_hset]; rw [if_neg (by omega), if_neg (by omega), if_neg (by omega), if_pos trivial]
  have h7 : Tr.hget (cl4 A g cs).heap A.next = some (.cells (cloneF A g).cells 0 false) := by
    simp only [cl4, hget_hset]; rw [if_pos trivial]
  have h8 : Tr.hget (cl4 A g cs).heap (Nat.succ A.next) = some (.cells zeroFn 0 false) := by
    simp only [cl4, cl3, cl2, boxZ, cl1, box, hget_hset]; rw [if_neg (by omega), if_neg (by omega), if_neg (by omega), if_pos trivial]
  have h10 : Tr.hget (cl5 A g cs).heap (Nat.succ A.next) = some (.cells (cloneF A g).cells 0 false) := by
    simp only [cl5, hget_hset]; rw [if_pos trivial]
  have hm : (aMakeSlice Tryz.prog (cl1 A g) 22 (.int .i64 (Int.ofNat g.len)) (.int .i64 (Int.ofNat g.len))).map (fun q => (ANext.value q.1, q.2)) = some (ANext.value (.slice (some ⟨Nat.succ (Nat.succ A.next), 0, none⟩) g.len g.len), cl2 A g) := by
    rw [make_eq _ hl]; rfl
  have hC : (cl2 A g).get (Nat.succ (Nat.succ A.next)) = some (.cells (zeros g.len) 15 false) := by
    show (cl2 A g).heap.get _ = _
    rw [← Tr.hget_eq]
    simp only [cl2, boxZ, cl1, box, hget_hset, if_true]
  have hB2 : (cl2 A g).get g.B = some (.cells cs z e) := by
    show (cl2 A g).heap.get _ = _
    rw [← Tr.hget_eq]
    simp only [cl2, boxZ, cl1, box, hget_hset]; rw [if_neg (by omega), if_neg (by omega), if_neg (by omega)]
    exact hB.1
  have hcp : (aCopy Tryz.prog (cl2 A g) #[22, 22] (.slice (some ⟨Nat.succ (Nat.succ A.next), 0, none⟩) g.len g.len) (.slice (some ⟨g.B, g.o, none⟩) g.len g.cap)).map (fun q => (ANext.value q.1, q.2)) = some (ANext.value (.int .i64 (Int.ofNat g.len)), cl3 A g cs) := by
    rw [copy_eq hC hB2 hc (by show A.ro ≤ _; omega)]
    have e1 : (cl2 A g).put (Nat.succ (Nat.succ A.next)) (some (.cells (cut cs g.o g.len) 15 false)) = cl3 A g cs := by
      unfold AS.put cl3
      rw [Tr.hset_eq]
      rfl
    rw [e1, Option.map_some]
  exact (((h h1 hm h3 hcp h5).1 (Nat.ble_eq_true_of_le hro) h7 h8).1 (Nat.ble_eq_true_of_le (by omega)) h10) _ rfl
end Go.Proofs
namespace Go.Proofs
open Go Go.Dp Go.Dp.Tr
noncomputable def cellsQ (A : AS) (B : Nat) (c : List Value → Nat → Bool → Tree) : Tree := Tr.qCells A B c
theorem cellsQ_ok {A : AS} {B : Nat} {c : List Value → Nat → Bool → Tree} {R : Value × AS} (h : Tree.eval (cellsQ A B c) = some R) : ∃ cs z e, A.get B = some (.cells cs z e) ∧ Tree.eval (c cs z e) = some R := Tr.qCells_ok h
theorem cellsQ_mk {A : AS} {B : Nat} {c : List Value → Nat → Bool → Tree} {cs : List Value} {z : Nat} {e : Bool} (h : A.get B = some (.cells cs z e)) : Tree.eval (cellsQ A B c) = Tree.eval (c cs z e) := by
  unfold cellsQ Tr.qCells
  have h : Tr.hget A.heap B = some (.cells cs z e) := by rw [Tr.hget_eq]; exact h
  rw [h]
  rfl
theorem node_mk {b : Bool} {y n : Tree} (h : b = true) : Tree.eval (.node b y n) = Tree.eval y := by rw [h]; rfl
theorem node_ok {b : Bool} {y : Tree} {k : Nat} {R : Value × AS} (h : Tree.eval (.node b y (.fail k)) = some R) : b = true ∧ Tree.eval y = some R := by
  cases b with
  | true => exact ⟨rfl, h⟩
  | false => cases h
noncomputable def codeQ (S : Fun1 → List Value → Bool) (args : List Value) (A : AS) (K : Value → AS → Tree) : Tree := match args with
  | [f] => match fnV f with
    | some g => cellsQ A g.B fun cs _ _ => .node (okC cs g.o g.len) (K (.bool (S g cs)) A) (.fail 310)
    | none => .fail 311
  | _ => .fail 312
theorem codeQ_ok {S : Fun1 → List Value → Bool} {args : List Value} {A : AS} {K : Value → AS → Tree} {R : Value × AS} (h : Tree.eval (codeQ S args A K) = some R) :
    ∃ (g : Fun1) (cs : List Value) (z : Nat) (e : Bool), args = [.agg ⟨g.cells⟩] ∧ A.get g.B = some (.cells cs z e) ∧ okC cs g.o g.len = true ∧ Tree.eval (K (.bool (S g cs)) A) = some R := by
  unfold codeQ at h
  split at h
  · rename_i f
    cases hf : fnV f with
    | none => rw [hf] at h; cases h
    | some g =>
      rw [hf] at h
      obtain ⟨cs, z, e, h1, h2⟩ := cellsQ_ok h
      obtain ⟨h3, h4⟩ := node_ok h2
      exact ⟨g, cs, z, e, by rw [fnV_ok hf], h1, h3, h4⟩
  · cases h
noncomputable def codeTP (S : Fun1 → List Value → Bool) : TP where
  q := codeQ S
  ok := fun args A K R h => by
    obtain ⟨g, cs, z, e, rfl, h1, h2, h3⟩ := codeQ_ok h
    refine ⟨_, A, ?_, h3⟩
    show Tree.eval (cellsQ A g.B fun cs _ _ => .node (okC cs g.o g.len) (.ret (.bool (S g cs)) A) (.fail 310)) = _
    rw [cellsQ_mk h1, node_mk h2]; rfl
theorem code_at {S : Fun1 → List Value → Bool} {prims : FuncId → Option TP} (hp : PrimOk Tryz.prog (primOf prims)) {n : Nat} {f : FuncId} (hb : hasBody Tryz.prog f = true)
    (ht : ∀ (g : Fun1) (cs : List Value) (z : Nat) (e : Bool) (A : AS), Has A g.B (.cells cs z e) → okC cs g.o g.len = true → A.ro ≤ A.next → Tells (.bool (S g cs)) ((Tr.kc Tryz.prog prims n).call f [.agg ⟨g.cells⟩] A .ret).eval) :
    PrimAt Tryz.prog f (fun args A => Tree.eval ((codeTP S).q args A .ret)) := by
  refine prim_run hp (by kernel_rfl) hb (n := n) fun args A A' v h => ?_
  obtain ⟨g, cs, z, e, rfl, h1, h2, h3⟩ := codeQ_ok (K := .ret) h
  have h3 : some (Value.bool (S g cs), A) = some (v, A') := h3
  simp only [Option.some.injEq, Prod.mk.injEq] at h3
  obtain ⟨rfl, rfl⟩ := h3
  refine ⟨rfl, rfl, fun hd => ht g cs z e A.fix ⟨?_, hd _ _ h1⟩ h2 (Nat.le_refl _)⟩
  show Tr.hget A.heap g.B = _
  rw [Tr.hget_eq]; exact h1
theorem f27_at : PrimAt Tryz.prog 27 (fun args A => Tree.eval ((codeTP rightF).q args A .ret)) := code_at prims1_ok (by kernel_rfl) fun g cs z e A hB hc hr => f27_tells g cs z e A hB hc hr
theorem f17_at : PrimAt Tryz.prog 17 (fun args A => Tree.eval ((codeTP rightF).q args A .ret)) := code_at prims1_ok (by kernel_rfl) fun g cs z e A hB hc hr => f17_tells g cs z e A hB hc hr
theorem f9_at : PrimAt Tryz.prog 9 (fun args A => Tree.eval ((codeTP smallF).q args A .ret)) := code_at noTP_ok (n := 20) (by kernel_rfl) fun g cs z e A hB hc hr => f9_tells noTP rfl 19 g cs z e A hB hc hr
def cloOf : Value → Option Nat
  | .func (.func f) ⟨[]⟩ ⟨[.pointer (some ⟨Q, 0, none⟩)]⟩ => match Nat.beq f 39 with
    | true => some Q
    | false => none
  | _ => none
theorem cloOf_ok {v : Value} {Q : Nat} (h : cloOf v = some Q) : v = .func (.func 39) ⟨[]⟩ ⟨[.pointer (some ⟨Q, 0, none⟩)]⟩ := by
  unfold cloOf at h
  split at h
  · split at h
    · rename_i hf
      have := Nat.eq_of_beq_eq_true hf
      subst this
      simp only [Option.some.injEq] at h
      subst h; rfl
    · cases h
  · cases h
def ptrOf : List Value → Option Nat
  | [.pointer (some ⟨R, 0, none⟩)] => some R
  | _ => none
theorem ptrOf_ok {l : List Value} {R : Nat} (h : ptrOf l = some R) : l = [.pointer (some ⟨R, 0, none⟩)] := by
  unfold ptrOf at h
  split at h
  · simp only [Option.some.injEq] at h; subst h; rfl
  · cases h
def trustOf : Option (List Value) → Option Bool
  | some [.func (.func f) ⟨[]⟩ ⟨[]⟩] => match Nat.beq f 16 with
    | true => some true
    | false => match Nat.beq f 13 with
      | true => some false
      | false => none
  | _ => none
theorem trustOf_ok {l : Option (List Value)} {b : Bool} (h : trustOf l = some b) : (b = true ∧ l = some [.func (.func 16) ⟨[]⟩ ⟨[]⟩]) ∨ (b = false ∧ l = some [.func (.func 13) ⟨[]⟩ ⟨[]⟩]) := by
  unfold trustOf at h
  split at h
  · split at h
    · rename_i hf
      have := Nat.eq_of_beq_eq_true hf
      subst this
      simp only [Option.some.injEq] at h
      exact .inl ⟨h.symm, rfl⟩
    · split at h
      · rename_i hf
        have := Nat.eq_of_beq_eq_true hf
        subst this
        simp only [Option.some.injEq] at h
        exact .inr ⟨h.symm, rfl⟩
      · cases h
  · cases h
noncomputable def idxV (b : Bool) (cs : List Value) (o n : Nat) : Value := .int .i64 (Bool.rec (motive := fun _ => Int) (idxN cs o n) (Int.negSucc 0) b)
noncomputable def idxQ (args : List Value) (A : AS) (K : Value → AS → Tree) : Tree := match args with
  | [s, c] => match slcOf s, cloOf c with
    | some (B, o, n, _), some Q => cellsQ A Q fun qs _ _ => match ptrOf qs with
      | some R => cellsQ A R fun ps _ _ => match trustOf (piece ps 10 1) with
        | some b => cellsQ A B fun cs _ _ => .node (okC cs o n && Nat.ble (Nat.succ n) Tr.loopMost) (K (idxV b cs o n) A) (.fail 320)
        | none => .fail 321
      | none => .fail 322
    | _, _ => .fail 323
  | _ => .fail 324
theorem idxQ_ok {args : List Value} {A : AS} {K : Value → AS → Tree} {R' : Value × AS} (h : Tree.eval (idxQ args A K) = some R') :
    ∃ (B o n cap Q R : Nat) (cs ps : List Value) (z zq zr : Nat) (e eq er b : Bool), args = [.slice (some ⟨B, o, none⟩) n cap, .func (.func 39) ⟨[]⟩ ⟨[.pointer (some ⟨Q, 0, none⟩)]⟩] ∧ A.get B = some (.cells cs z e) ∧
      A.get Q = some (.cells [.pointer (some ⟨R, 0, none⟩)] zq eq) ∧ A.get R = some (.cells ps zr er) ∧ trustOf (piece ps 10 1) = some b ∧ okC cs o n = true ∧ n < Tr.loopMost ∧ Tree.eval (K (idxV b cs o n) A) = some R' := by
  unfold idxQ at h
  split at h
  · rename_i s c
    cases hs : slcOf s with
    | none => rw [hs] at h; cases h
    | some x =>
      obtain ⟨B, o, n, cap⟩ := x
      cases hcl : cloOf c with
      | none => rw [hs, hcl] at h; cases h
      | some Q =>
        rw [hs, hcl] at h
        obtain ⟨qs, zq, eq, h1, h⟩ := cellsQ_ok h
        cases hq : ptrOf qs with
        | none => rw [hq] at h; cases h
        | some R =>
          rw [hq] at h
          obtain ⟨ps, zr, er, h2, h⟩ := cellsQ_ok h
          cases ht : trustOf (piece ps 10 1) with
          | none => rw [ht] at h; cases h
          | some b =>
            rw [ht] at h
            obtain ⟨cs, z, e, h3, h⟩ := cellsQ_ok h
            obtain ⟨h4, h5⟩ := node_ok h
            simp only [Bool.and_eq_true] at h4
            rw [ptrOf_ok hq] at h1
            exact ⟨B, o, n, cap, Q, R, cs, ps, z, zq, zr, e, eq, er, b, by rw [slcOf_ok hs, cloOf_ok hcl], h3, h1, h2, ht, h4.1, Nat.le_of_ble_eq_true h4.2, h5⟩
  · cases h
theorem idxQ_mk {B o n cap Q R : Nat} {cs ps : List Value} {z zq zr : Nat} {e eq er b : Bool} {A : AS} {K : Value → AS → Tree} (h1 : A.get B = some (.cells cs z e)) (h2 : A.get Q = some (.cells [.pointer (some ⟨R, 0, none⟩)] zq eq)) (h3 : A.get R = some (.cells ps zr er))
    (ht : trustOf (piece ps 10 1) = some b) (hc : okC cs o n = true) (hl : n < Tr.loopMost) :
    Tree.eval (idxQ [.slice (some ⟨B, o, none⟩) n cap, .func (.func 39) ⟨[]⟩ ⟨[.pointer (some ⟨Q, 0, none⟩)]⟩] A K) = Tree.eval (K (idxV b cs o n) A) := by
  show Tree.eval (cellsQ A Q fun qs _ _ => match ptrOf qs with
      | some R => cellsQ A R fun ps _ _ => match trustOf (piece ps 10 1) with
        | some b => cellsQ A B fun cs _ _ => .node (okC cs o n && Nat.ble (Nat.succ n) Tr.loopMost) (K (idxV b cs o n) A) (.fail 320)
        | none => .fail 321
      | none => .fail 322) = _
  rw [cellsQ_mk h2]
  show Tree.eval (cellsQ A R fun ps _ _ => match trustOf (piece ps 10 1) with
        | some b => cellsQ A B fun cs _ _ => .node (okC cs o n && Nat.ble (Nat.succ n) Tr.loopMost) (K (idxV b cs o n) A) (.fail 320)
        | none => .fail 321) = _
  rw [cellsQ_mk h3, ht]
  show Tree.eval (cellsQ A B fun cs _ _ => .node (okC cs o n && Nat.ble (Nat.succ n) Tr.loopMost) (K (idxV b cs o n) A) (.fail 320)) = _
  rw [cellsQ_mk h1, node_mk (by rw [hc, Nat.ble_eq_true_of_le hl]; rfl)]
noncomputable def idxTP : TP where
  q := idxQ
  ok := fun args A K R' h => by
    obtain ⟨B, o, n, cap, Q, R, cs, ps, z, zq, zr, e, eq, er, b, rfl, h1, h2, h3, ht, hc, hl, h4⟩ := idxQ_ok h
    exact ⟨_, A, (idxQ_mk h1 h2 h3 ht hc hl).trans rfl, h4⟩
theorem f62_at : PrimAt Tryz.prog 62 (fun args A => Tree.eval (idxTP.q args A .ret)) := by
  refine prim_run noTP_ok (by kernel_rfl) (by kernel_rfl) (n := 21) fun args A A' v h => ?_
  obtain ⟨B, o, n, cap, Q, R, cs, ps, z, zq, zr, e, eq, er, b, rfl, h1, h2, h3, ht, hc, hl, h4⟩ := idxQ_ok (K := .ret) h
  have h4 : some (idxV b cs o n, A) = some (v, A') := h4
  simp only [Option.some.injEq, Prod.mk.injEq] at h4
  obtain ⟨rfl, rfl⟩ := h4
  refine ⟨rfl, rfl, fun hd => ?_⟩
  have k : ∀ {B o}, A.get B = some o → Has A.fix B o := fun {B o} h => ⟨by show Tr.hget A.heap B = _; rw [Tr.hget_eq]; exact h, hd _ _ h⟩
  rcases trustOf_ok ht with ⟨rfl, hp⟩ | ⟨rfl, hp⟩
  · exact f62_tells16 B o n cap Q R cs ps z zq zr e eq er A.fix (k h1) (k h2) (k h3) hc hl hp (Nat.le_refl _)
  · exact f62_tells13 B o n cap Q R cs ps z zq zr e eq er A.fix (k h1) (k h2) (k h3) hc hl hp (Nat.le_refl _)
noncomputable def sameC (cs ds : List Value) (o u n : Nat) : Bool := (List.range n).all fun j => @decide (insN ds u j = insN cs o j) (Classical.propDecidable _)
theorem sameC_ok {cs ds : List Value} {o u n : Nat} (h : sameC cs ds o u n = true) : ∀ j, j < n → insN ds u j = insN cs o j := by
  unfold sameC at h
  rw [List.all_eq_true] at h
  exact fun j hj => @of_decide_eq_true _ (Classical.propDecidable _) (h j (List.mem_range.2 hj))
theorem sameC_mk {cs ds : List Value} {o u n : Nat} (h : ∀ j, j < n → insN ds u j = insN cs o j) : sameC cs ds o u n = true := by
  unfold sameC
  rw [List.all_eq_true]
  exact fun j hj => @decide_eq_true _ (Classical.propDecidable _) (h j (List.mem_range.1 hj))
noncomputable def eqQ (args : List Value) (A : AS) (K : Value → AS → Tree) : Tree := match args with
  | [s, t] => match slcOf s, slcOf t with
    | some (B, o, n, _), some (C, u, m, _) => cellsQ A B fun cs _ _ => cellsQ A C fun ds _ _ =>
        .node (Nat.beq m n && (okC cs o n && (okC ds u n && (sameC cs ds o u n && Nat.ble (Nat.succ n) Tr.loopMost)))) (K (.bool true) A) (.fail 330)
    | _, _ => .fail 331
  | _ => .fail 332
theorem eqQ_ok {args : List Value} {A : AS} {K : Value → AS → Tree} {R : Value × AS} (h : Tree.eval (eqQ args A K) = some R) :
    ∃ (B o n cap C u cap' : Nat) (cs ds : List Value) (z zd : Nat) (e ed : Bool), args = [.slice (some ⟨B, o, none⟩) n cap, .slice (some ⟨C, u, none⟩) n cap'] ∧ A.get B = some (.cells cs z e) ∧ A.get C = some (.cells ds zd ed) ∧
      okC cs o n = true ∧ okC ds u n = true ∧ sameC cs ds o u n = true ∧ n < Tr.loopMost ∧ Tree.eval (K (.bool true) A) = some R := by
  unfold eqQ at h
  split at h
  · rename_i s t
    cases hs : slcOf s with
    | none => rw [hs] at h; cases h
    | some x =>
      obtain ⟨B, o, n, cap⟩ := x
      cases ht : slcOf t with
      | none => rw [hs, ht] at h; cases h
      | some y =>
        obtain ⟨C, u, m, cap'⟩ := y
        rw [hs, ht] at h
        obtain ⟨cs, z, e, h1, h⟩ := cellsQ_ok h
        obtain ⟨ds, zd, ed, h2, h⟩ := cellsQ_ok h
        obtain ⟨h3, h4⟩ := node_ok h
        simp only [Bool.and_eq_true] at h3
        obtain ⟨hm, k1, k2, k3, k4⟩ := h3
        have := Nat.eq_of_beq_eq_true hm
        subst this
        exact ⟨B, o, m, cap, C, u, cap', cs, ds, z, zd, e, ed, by rw [slcOf_ok hs, slcOf_ok ht], h1, h2, k1, k2, k3, Nat.le_of_ble_eq_true k4, h4⟩
  · cases h
theorem eqQ_mk {B o n cap C u cap' : Nat} {cs ds : List Value} {z zd : Nat} {e ed : Bool} {A : AS} {K : Value → AS → Tree} (h1 : A.get B = some (.cells cs z e)) (h2 : A.get C = some (.cells ds zd ed))
    (hc : okC cs o n = true) (hd : okC ds u n = true) (hs : sameC cs ds o u n = true) (hl : n < Tr.loopMost) :
    Tree.eval (eqQ [.slice (some ⟨B, o, none⟩) n cap, .slice (some ⟨C, u, none⟩) n cap'] A K) = Tree.eval (K (.bool true) A) := by
  show Tree.eval (cellsQ A B fun cs _ _ => cellsQ A C fun ds _ _ =>
        .node (Nat.beq n n && (okC cs o n && (okC ds u n && (sameC cs ds o u n && Nat.ble (Nat.succ n) Tr.loopMost)))) (K (.bool true) A) (.fail 330)) = _
  rw [cellsQ_mk h1, cellsQ_mk h2, node_mk (by rw [hc, hd, hs, Nat.ble_eq_true_of_le hl, Nat.beq_refl]; rfl)]
noncomputable def eqTP : TP where
  q := eqQ
  ok := fun args A K R h => by
    obtain ⟨B, o, n, cap, C, u, cap', cs, ds, z, zd, e, ed, rfl, h1, h2, hc, hd, hs, hl, h4⟩ := eqQ_ok h
    exact ⟨_, A, (eqQ_mk h1 h2 hc hd hs hl).trans rfl, h4⟩
theorem f29_at : PrimAt Tryz.prog 29 (fun args A => Tree.eval (eqTP.q args A .ret)) := by
  refine prim_run noTP_ok (by kernel_rfl) (by kernel_rfl) (n := 20) fun args A A' v h => ?_
  obtain ⟨B, o, n, cap, C, u, cap', cs, ds, z, zd, e, ed, rfl, h1, h2, hc, hd, hs, hl, h4⟩ := eqQ_ok (K := .ret) h
  have h4 : some (Value.bool true, A) = some (v, A') := h4
  simp only [Option.some.injEq, Prod.mk.injEq] at h4
  obtain ⟨rfl, rfl⟩ := h4
  refine ⟨rfl, rfl, fun hdom => ?_⟩
  have k : ∀ {B o}, A.get B = some o → Has A.fix B o := fun {B o} h => ⟨by show Tr.hget A.heap B = _; rw [Tr.hget_eq]; exact h, hdom _ _ h⟩
  exact f29_tells noTP rfl 19 B o C u n cap cap' cs ds z zd e ed A.fix (k h1) (k h2) hc hd (sameC_ok hs) hl
noncomputable def cloneQ (args : List Value) (A : AS) (K : Value → AS → Tree) : Tree := match args with
  | [f] => match fnV f with
    | some g => cellsQ A g.B fun cs _ _ => .node (okC cs g.o g.len && (Nat.ble g.len 100000 && (Nat.ble A.ro A.next && Nat.ble (Nat.succ g.B) A.next))) (K (.agg ⟨(cloneF A g).cells⟩) (cl5 A g cs)) (.fail 340)
    | none => .fail 341
  | _ => .fail 342
theorem cloneQ_ok {args : List Value} {A : AS} {K : Value → AS → Tree} {R : Value × AS} (h : Tree.eval (cloneQ args A K) = some R) :
    ∃ (g : Fun1) (cs : List Value) (z : Nat) (e : Bool), args = [.agg ⟨g.cells⟩] ∧ A.get g.B = some (.cells cs z e) ∧ okC cs g.o g.len = true ∧ g.len ≤ 100000 ∧ A.ro ≤ A.next ∧ g.B < A.next ∧ Tree.eval (K (.agg ⟨(cloneF A g).cells⟩) (cl5 A g cs)) = some R := by
  unfold cloneQ at h
  split at h
  · rename_i f
    cases hf : fnV f with
    | none => rw [hf] at h; cases h
    | some g =>
      rw [hf] at h
      obtain ⟨cs, z, e, h1, h2⟩ := cellsQ_ok h
      obtain ⟨h3, h4⟩ := node_ok h2
      simp only [Bool.and_eq_true] at h3
      obtain ⟨k1, k2, k3, k4⟩ := h3
      exact ⟨g, cs, z, e, by rw [fnV_ok hf], h1, k1, Nat.le_of_ble_eq_true k2, Nat.le_of_ble_eq_true k3, Nat.le_of_ble_eq_true k4, h4⟩
  · cases h
theorem cloneQ_mk {g : Fun1} {cs : List Value} {z : Nat} {e : Bool} {A : AS} {K : Value → AS → Tree} (h1 : A.get g.B = some (.cells cs z e)) (hc : okC cs g.o g.len = true) (hl : g.len ≤ 100000) (hr : A.ro ≤ A.next) (hB : g.B < A.next) :
    Tree.eval (cloneQ [.agg ⟨g.cells⟩] A K) = Tree.eval (K (.agg ⟨(cloneF A g).cells⟩) (cl5 A g cs)) := by
  show Tree.eval (cellsQ A g.B fun cs _ _ => .node (okC cs g.o g.len && (Nat.ble g.len 100000 && (Nat.ble A.ro A.next && Nat.ble (Nat.succ g.B) A.next))) (K (.agg ⟨(cloneF A g).cells⟩) (cl5 A g cs)) (.fail 340)) = _
  rw [cellsQ_mk h1, node_mk (by rw [hc, Nat.ble_eq_true_of_le hl, Nat.ble_eq_true_of_le hr, Nat.ble_eq_true_of_le hB]; rfl)]
noncomputable def cloneTP : TP where
  q := cloneQ
  ok := fun args A K R h => by
    obtain ⟨g, cs, z, e, rfl, h1, h2, h3, h4, h5, h6⟩ := cloneQ_ok h
    exact ⟨_, _, (cloneQ_mk h1 h2 h3 h4 h5).trans rfl, h6⟩
theorem f24_at : PrimAt Tryz.prog 24 (fun args A => Tree.eval (cloneTP.q args A .ret)) := by
  intro args A A' v h e' w args' hi hg ha
  obtain ⟨g, cs, z, e, rfl, h1, h2, h3, h4, h5, h6⟩ := cloneQ_ok (K := .ret) h
  have h6 : some (Value.agg ⟨(cloneF A g).cells⟩, cl5 A g cs) = some (v, A') := h6
  have hB : Has A g.B (.cells cs z e) := ⟨by rw [Tr.hget_eq]; exact h1, h5⟩
  exact calls_of noTP_ok (by kernel_rfl) (by kernel_rfl) hi hg ha ((clone_eval g cs z e A hB h2 h4 h3).trans h6)
end Go.Proofs
namespace Go.Proofs
open Go Go.Dp Go.Dp.Tr
theorem primOk_of {prims : FuncId → Option TP} (h : ∀ f q, prims f = some q → PrimAt Tryz.prog f (fun args A => Tree.eval (q.q args A .ret))) : PrimOk Tryz.prog (primOf prims) := by
  intro f p hp
  unfold primOf at hp
  split at hp
  · rename_i q hq
    simp only [Option.some.injEq] at hp
    subst hp
    exact h f q hq
  · cases hp
noncomputable def prims2 (f : FuncId) : Option TP :=
  match Nat.beq f 27 with
  | true => some (codeTP rightF)
  | false => match Nat.beq f 62 with
    | true => some idxTP
    | false => match Nat.beq f 29 with
      | true => some eqTP
      | false => none
theorem prims2_ok : PrimOk Tryz.prog (primOf prims2) := primOk_of fun f q hq => by
  unfold prims2 at hq
  split at hq
  · rename_i hf
    have := Nat.eq_of_beq_eq_true hf
    subst this
    simp only [Option.some.injEq] at hq
    subst hq; exact f27_at
  · split at hq
    · rename_i hf
      have := Nat.eq_of_beq_eq_true hf
      subst this
      simp only [Option.some.injEq] at hq
      subst hq; exact f62_at
    · split at hq
      · rename_i hf
        have := Nat.eq_of_beq_eq_true hf
        subst this
        simp only [Option.some.injEq] at hq
        subst hq; exact f29_at
      · cases hq
end Go.Proofs
namespace Go.Proofs
open Go Go.Dp Go.Dp.Tr
def g2 (g : Fun1) (C u cap' : Nat) : Fun1 := { g with B := C, o := u, cap := cap' }
noncomputable def e12h1 (g : Fun1) (C : Nat) (u : Nat) (cap' : Nat) (A : AS) : Trie AObj := Tr.hset (box A g.cells).heap (Nat.succ A.next) (some (.cells (g2 g C u cap').cells 0 false))
noncomputable def e12h2 (g : Fun1) (C : Nat) (u : Nat) (cap' : Nat) (A : AS) : Trie AObj := Trie.set (e12h1 g C u cap' A) (Nat.succ (Nat.succ A.next)) (some (AObj.map [] 0))
noncomputable def e12h3 (g : Fun1) (C : Nat) (u : Nat) (cap' : Nat) (fuel : Int) (A : AS) : Trie AObj := Tr.hset (e12h2 g C u cap' A) (Nat.succ (Nat.succ (Nat.succ A.next))) (some (.cells [Value.string (ByteArray.mk (Array.mk g.name)), .int .i64 g.params, .int .i64 g.regs, .int .i64 g.frame, .slice (some (Addr.mk g.B g.o none)) g.len g.cap, Value.string (ByteArray.mk (Array.mk g.name)), .int .i64 g.params, .int .i64 g.regs, .int .i64 g.frame, .slice (some (Addr.mk C u none)) g.len cap', Value.func (Fn.func 16) (Array.mk []) (Array.mk []), .int .i64 fuel, .int .i64 (Int.ofNat 0), .pointer none, Value.map (some (Nat.succ (Nat.succ A.next))), .slice none 0 0] 0 false))
noncomputable def e12h4 (g : Fun1) (C : Nat) (u : Nat) (cap' : Nat) (fuel : Int) (A : AS) : Trie AObj := Tr.hset (e12h3 g C u cap' fuel A) (Nat.succ (Nat.succ (Nat.succ (Nat.succ A.next)))) (some (.cells [.pointer (some (Addr.mk (Nat.succ (Nat.succ (Nat.succ A.next))) 0 none))] 0 false))
noncomputable def e12h5 (g : Fun1) (C : Nat) (u : Nat) (cap' : Nat) (fuel : Int) (A : AS) : Trie AObj := Tr.hset (e12h4 g C u cap' fuel A) (Nat.succ (Nat.succ (Nat.succ (Nat.succ (Nat.succ A.next))))) (some (.cells g.cells 0 false))
noncomputable def e12h6 (g : Fun1) (C : Nat) (u : Nat) (cap' : Nat) (fuel : Int) (A : AS) : Trie AObj := Tr.hset (e12h5 g C u cap' fuel A) (Nat.succ (Nat.succ (Nat.succ (Nat.succ (Nat.succ (Nat.succ A.next)))))) (some (.cells [.pointer (some (Addr.mk (Nat.succ (Nat.succ (Nat.succ A.next))) 0 none))] 0 false))
noncomputable def e12h7 (g : Fun1) (C : Nat) (u : Nat) (cap' : Nat) (fuel : Int) (A : AS) : Trie AObj := Tr.hset (e12h6 g C u cap' fuel A) (Nat.succ (Nat.succ (Nat.succ (Nat.succ (Nat.succ (Nat.succ (Nat.succ A.next))))))) (some (.cells (g2 g C u cap').cells 0 false))
noncomputable def e12h8 (g : Fun1) (C : Nat) (u : Nat) (cap' : Nat) (fuel : Int) (A : AS) : Trie AObj := Tr.hset (e12h2 g C u cap' A) (Nat.succ (Nat.succ (Nat.succ A.next))) (some (.cells [Value.string (ByteArray.mk (Array.mk g.name)), .int .i64 g.params, .int .i64 g.regs, .int .i64 g.frame, .slice (some (Addr.mk g.B g.o none)) g.len g.cap, Value.string (ByteArray.mk (Array.mk g.name)), .int .i64 g.params, .int .i64 g.regs, .int .i64 g.frame, .slice (some (Addr.mk C u none)) g.len cap', Value.func (Fn.func 13) (Array.mk []) (Array.mk []), .int .i64 fuel, .int .i64 (Int.ofNat 0), .pointer none, Value.map (some (Nat.succ (Nat.succ A.next))), .slice none 0 0] 0 false))
noncomputable def e12h9 (g : Fun1) (C : Nat) (u : Nat) (cap' : Nat) (fuel : Int) (A : AS) : Trie AObj := Tr.hset (e12h8 g C u cap' fuel A) (Nat.succ (Nat.succ (Nat.succ (Nat.succ A.next)))) (some (.cells [.pointer (some (Addr.mk (Nat.succ (Nat.succ (Nat.succ A.next))) 0 none))] 0 false))
noncomputable def e12h10 (g : Fun1) (C : Nat) (u : Nat) (cap' : Nat) (fuel : Int) (A : AS) : Trie AObj := Tr.hset (e12h9 g C u cap' fuel A) (Nat.succ (Nat.succ (Nat.succ (Nat.succ (Nat.succ A.next))))) (some (.cells g.cells 0 false))
noncomputable def e12h11 (g : Fun1) (C : Nat) (u : Nat) (cap' : Nat) (fuel : Int) (A : AS) : Trie AObj := Tr.hset (e12h10 g C u cap' fuel A) (Nat.succ (Nat.succ (Nat.succ (Nat.succ (Nat.succ (Nat.succ A.next)))))) (some (.cells [.pointer (some (Addr.mk (Nat.succ (Nat.succ (Nat.succ A.next))) 0 none))] 0 false))
noncomputable def e12h12 (g : Fun1) (C : Nat) (u : Nat) (cap' : Nat) (fuel : Int) (A : AS) : Trie AObj := Tr.hset (e12h11 g C u cap' fuel A) (Nat.succ (Nat.succ (Nat.succ (Nat.succ (Nat.succ (Nat.succ (Nat.succ A.next))))))) (some (.cells (g2 g C u cap').cells 0 false))
noncomputable def e12h13 (g : Fun1) (C : Nat) (u : Nat) (cap' : Nat) (A : AS) : Trie AObj := Tr.hset (e12h2 g C u cap' A) (Nat.succ (Nat.succ (Nat.succ A.next))) (some (.cells [Value.string (ByteArray.mk (Array.mk g.name)), .int .i64 g.params, .int .i64 g.regs, .int .i64 g.frame, .slice (some (Addr.mk g.B g.o none)) g.len g.cap, Value.string (ByteArray.mk (Array.mk g.name)), .int .i64 g.params, .int .i64 g.regs, .int .i64 g.frame, .slice (some (Addr.mk C u none)) g.len cap', Value.func (Fn.func 16) (Array.mk []) (Array.mk []), .int .i64 (Int.ofNat 1000000), .int .i64 (Int.ofNat 0), .pointer none, Value.map (some (Nat.succ (Nat.succ A.next))), .slice none 0 0] 0 false))
noncomputable def e12h14 (g : Fun1) (C : Nat) (u : Nat) (cap' : Nat) (A : AS) : Trie AObj := Tr.hset (e12h13 g C u cap' A) (Nat.succ (Nat.succ (Nat.succ (Nat.succ A.next)))) (some (.cells [.pointer (some (Addr.mk (Nat.succ (Nat.succ (Nat.succ A.next))) 0 none))] 0 false))
noncomputable def e12h15 (g : Fun1) (C : Nat) (u : Nat) (cap' : Nat) (A : AS) : Trie AObj := Tr.hset (e12h14 g C u cap' A) (Nat.succ (Nat.succ (Nat.succ (Nat.succ (Nat.succ A.next))))) (some (.cells g.cells 0 false))
noncomputable def e12h16 (g : Fun1) (C : Nat) (u : Nat) (cap' : Nat) (A : AS) : Trie AObj := Tr.hset (e12h15 g C u cap' A) (Nat.succ (Nat.succ (Nat.succ (Nat.succ (Nat.succ (Nat.succ A.next)))))) (some (.cells [.pointer (some (Addr.mk (Nat.succ (Nat.succ (Nat.succ A.next))) 0 none))] 0 false))
noncomputable def e12h17 (g : Fun1) (C : Nat) (u : Nat) (cap' : Nat) (A : AS) : Trie AObj := Tr.hset (e12h16 g C u cap' A) (Nat.succ (Nat.succ (Nat.succ (Nat.succ (Nat.succ (Nat.succ (Nat.succ A.next))))))) (some (.cells (g2 g C u cap').cells 0 false))
noncomputable def e12h18 (g : Fun1) (C : Nat) (u : Nat) (cap' : Nat) (A : AS) : Trie AObj := Tr.hset (e12h2 g C u cap' A) (Nat.succ (Nat.succ (Nat.succ A.next))) (some (.cells [Value.string (ByteArray.mk (Array.mk g.name)), .int .i64 g.params, .int .i64 g.regs, .int .i64 g.frame, .slice (some (Addr.mk g.B g.o none)) g.len g.cap, Value.string (ByteArray.mk (Array.mk g.name)), .int .i64 g.params, .int .i64 g.regs, .int .i64 g.frame, .slice (some (Addr.mk C u none)) g.len cap', Value.func (Fn.func 13) (Array.mk []) (Array.mk []), .int .i64 (Int.ofNat 1000000), .int .i64 (Int.ofNat 0), .pointer none, Value.map (some (Nat.succ (Nat.succ A.next))), .slice none 0 0] 0 false))
noncomputable def e12h19 (g : Fun1) (C : Nat) (u : Nat) (cap' : Nat) (A : AS) : Trie AObj := Tr.hset (e12h18 g C u cap' A) (Nat.succ (Nat.succ (Nat.succ (Nat.succ A.next)))) (some (.cells [.pointer (some (Addr.mk (Nat.succ (Nat.succ (Nat.succ A.next))) 0 none))] 0 false))
noncomputable def e12h20 (g : Fun1) (C : Nat) (u : Nat) (cap' : Nat) (A : AS) : Trie AObj := Tr.hset (e12h19 g C u cap' A) (Nat.succ (Nat.succ (Nat.succ (Nat.succ (Nat.succ A.next))))) (some (.cells g.cells 0 false))
noncomputable def e12h21 (g : Fun1) (C : Nat) (u : Nat) (cap' : Nat) (A : AS) : Trie AObj := Tr.hset (e12h20 g C u cap' A) (Nat.succ (Nat.succ (Nat.succ (Nat.succ (Nat.succ (Nat.succ A.next)))))) (some (.cells [.pointer (some (Addr.mk (Nat.succ (Nat.succ (Nat.succ A.next))) 0 none))] 0 false))
noncomputable def e12h22 (g : Fun1) (C : Nat) (u : Nat) (cap' : Nat) (A : AS) : Trie AObj := Tr.hset (e12h21 g C u cap' A) (Nat.succ (Nat.succ (Nat.succ (Nat.succ (Nat.succ (Nat.succ (Nat.succ A.next))))))) (some (.cells (g2 g C u cap').cells 0 false))
theorem run12_nil (g : Fun1) (C u cap' : Nat) (fuel : Int) (cs ds : List Value) (z zd : Nat) (e ed : Bool) (A : AS) :
  run (.obj (.cells g.cells 0 false) (.lit 1 (.obj (.cells cs z e) (.must (.split (.obj (.cells (g2 g C u cap').cells 0 false) (.lit 1 (.must (.obj (.cells ds zd ed) (.must (.must (.mustn (.split (.must (.obj (.cells g.cells 0 false) (.lit 1 (.must (.must (.obj (.cells (g2 g C u cap').cells 0 false) (.lit 1 (.must (.mustn (.split (.must (.obj (.cells g.cells 0 false) (.lit 1 (.must (.must (.obj (.cells (g2 g C u cap').cells 0 false) (.lit 1 (.must (.mustn (.split (.must (.lit 1 (.mustn (.lit 1 .done)))) (.mustn (.must (.lit 1 .done))))))))))))) (.mustn (.mustn (.mustn (.mustn (.must (.lit 4 .done)))))))))))))))) (.mustn (.mustn (.mustn (.mustn (.must (.lit 10 .done)))))))))))))) (.mustn (.mustn (.must (.lit 16 .done)))))))))
    ((Tr.kc Tryz.prog prims2 20).call 12 [.agg ⟨g.cells⟩, .agg ⟨Fun1.cells { g with B := C, o := u, cap := cap' }⟩, .nilFunc, .int .i64 fuel] A .ret) =
  (.obj (Tr.hget (e12h1 g C u cap' A) A.next) (.cells g.cells 0 false) (.obj (Tr.hget (e12h1 g C u cap' A) g.B) (.cells cs z e) (.ite (okC cs g.o g.len) (.ite (Tr.qWant (.bool (Bool.not (rightF g cs))) false)
 (.obj (Tr.hget (e12h1 g C u cap' A) (Nat.succ A.next)) (.cells (g2 g C u cap').cells 0 false) (.ite (Tr.qWant (.bool (Bool.not (rightF g cs))) false) (.obj (Tr.hget (e12h1 g C u cap' A) C) (.cells ds zd ed) (.ite (okC ds u g.len) (.ite (Tr.qWant (.bool (Bool.not (rightF g cs))) false) (.ite (Bool.not (rightF g cs)) .bad (.ite (Tr.qWant (.bool (Bool.not (rightF (g2 g C u cap') ds))) false)
 (.ite (Tr.qWant (.bool (Bool.not (rightF (g2 g C u cap') ds))) false) (.obj (Tr.hget (e12h1 g C u cap' A) A.next) (.cells g.cells 0 false) (.ite (Tr.qWant (.bool (Bool.not (rightF (g2 g C u cap') ds))) false) (.ite (Tr.qWant (.bool (Bool.not (rightF (g2 g C u cap') ds))) false) (.obj (Tr.hget (e12h1 g C u cap' A) (Nat.succ A.next)) (.cells (g2 g C u cap').cells 0 false) (.ite (Tr.qWant (.bool (Bool.not (rightF (g2 g C u cap') ds))) false) (.ite (Bool.not (rightF (g2 g C u cap') ds)) .bad (.ite (Tr.qWant (.bool (Bool.not (Tr.qiEq g.params g.params))) false)
 (.ite (Tr.qWant (.bool (Bool.not (Tr.qiEq g.params g.params))) false) (.obj (Tr.hget (e12h1 g C u cap' A) A.next) (.cells g.cells 0 false) (.ite (Tr.qWant (.bool (Bool.not (Tr.qiEq g.params g.params))) false) (.ite (Tr.qWant (.bool (Bool.not (Tr.qiEq g.params g.params))) false) (.obj (Tr.hget (e12h1 g C u cap' A) (Nat.succ A.next)) (.cells (g2 g C u cap').cells 0 false) (.ite (Tr.qWant (.bool (Bool.not (Tr.qiEq g.params g.params))) false) (.ite (Bool.not (Tr.qiEq g.params g.params)) .bad (.ite (Tr.qWant (.bool (Bool.not (Tr.qiEq g.frame g.frame))) false)
 (.ite (Tr.qWant (.bool (Bool.not (Tr.qiEq g.frame g.frame))) false) (.ite (Bool.not (Tr.qiEq g.frame g.frame)) .bad (.ret (.bool false))) .bad)
 (.ite (Tr.qWant (.bool (Bool.not (Tr.qiEq g.frame g.frame))) false) .bad (.ite (Bool.not (Tr.qiEq g.frame g.frame)) (.ret (.bool false)) .bad)))) .bad)) .bad) .bad)) .bad)
 (.ite (Tr.qWant (.bool (Bool.not (Tr.qiEq g.params g.params))) false) .bad (.ite (Tr.qWant (.bool (Bool.not (Tr.qiEq g.params g.params))) false) .bad (.ite (Tr.qWant (.bool (Bool.not (Tr.qiEq g.params g.params))) false) .bad (.ite (Tr.qWant (.bool (Bool.not (Tr.qiEq g.params g.params))) false) .bad (.ite (Bool.not (Tr.qiEq g.params g.params)) (.ret (.bool false)) .bad))))))) .bad)) .bad) .bad)) .bad)
 (.ite (Tr.qWant (.bool (Bool.not (rightF (g2 g C u cap') ds))) false) .bad (.ite (Tr.qWant (.bool (Bool.not (rightF (g2 g C u cap') ds))) false) .bad (.ite (Tr.qWant (.bool (Bool.not (rightF (g2 g C u cap') ds))) false) .bad (.ite (Tr.qWant (.bool (Bool.not (rightF (g2 g C u cap') ds))) false) .bad (.ite (Bool.not (rightF (g2 g C u cap') ds)) (.ret (.bool false)) .bad))))))) .bad) .bad)) .bad))
 (.ite (Tr.qWant (.bool (Bool.not (rightF g cs))) false) .bad (.ite (Tr.qWant (.bool (Bool.not (rightF g cs))) false) .bad (.ite (Bool.not (rightF g cs)) (.ret (.bool false)) .bad)))) .bad))) := by kernel_rfl
theorem run12_all (g : Fun1) (C u cap' : Nat) (fuel : Int) (cs ds : List Value) (z zd : Nat) (e ed : Bool) (A : AS) :
  run (.obj (.cells g.cells 0 false) (.lit 1 (.obj (.cells cs z e) (.must (.split (.obj (.cells (g2 g C u cap').cells 0 false) (.lit 1 (.must (.obj (.cells ds zd ed) (.must (.must (.mustn (.split (.must (.obj (.cells g.cells 0 false) (.lit 1 (.must (.must (.obj (.cells (g2 g C u cap').cells 0 false) (.lit 1 (.must (.mustn (.split (.must (.obj (.cells g.cells 0 false) (.lit 1 (.must (.must (.obj (.cells (g2 g C u cap').cells 0 false) (.lit 1 (.must (.mustn (.split (.must (.lit 1 (.mustn (.lit 1 (.obj (.cells g.cells 0 false) (.lit 1 (.obj (.cells (g2 g C u cap').cells 0 false) (.lit 1 (.split (.lit 6 (.obj (.cells g.cells 0 false) (.lit 1 (.obj (.cells g.cells 0 false) (.lit 1 (.obj (.cells [.pointer (some (Addr.mk (Nat.succ (Nat.succ (Nat.succ A.next))) 0 none))] 0 false) (.obj (.cells [Value.string (ByteArray.mk (Array.mk g.name)), .int .i64 g.params, .int .i64 g.regs, .int .i64 g.frame, .slice (some (Addr.mk g.B g.o none)) g.len g.cap, Value.string (ByteArray.mk (Array.mk g.name)), .int .i64 g.params, .int .i64 g.regs, .int .i64 g.frame, .slice (some (Addr.mk C u none)) g.len cap', Value.func (Fn.func 16) (Array.mk []) (Array.mk []), .int .i64 (Int.ofNat 1000000), .int .i64 (Int.ofNat 0), .pointer none, Value.map (some (Nat.succ (Nat.succ A.next))), .slice none 0 0] 0 false) (.obj (.cells cs z e) (.must (.lit 2 (.obj (.cells (g2 g C u cap').cells 0 false) (.lit 2 (.obj (.cells (g2 g C u cap').cells 0 false) (.lit 1 (.obj (.cells [.pointer (some (Addr.mk (Nat.succ (Nat.succ (Nat.succ A.next))) 0 none))] 0 false) (.obj (.cells [Value.string (ByteArray.mk (Array.mk g.name)), .int .i64 g.params, .int .i64 g.regs, .int .i64 g.frame, .slice (some (Addr.mk g.B g.o none)) g.len g.cap, Value.string (ByteArray.mk (Array.mk g.name)), .int .i64 g.params, .int .i64 g.regs, .int .i64 g.frame, .slice (some (Addr.mk C u none)) g.len cap', Value.func (Fn.func 16) (Array.mk []) (Array.mk []), .int .i64 (Int.ofNat 1000000), .int .i64 (Int.ofNat 0), .pointer none, Value.map (some (Nat.succ (Nat.succ A.next))), .slice none 0 0] 0 false) (.obj (.cells ds zd ed) (.must (.lit 2 (.obj (.cells g.cells 0 false) (.lit 1 (.obj (.cells (g2 g C u cap').cells 0 false) (.lit 1 (.obj (.cells cs z e) (.obj (.cells ds zd ed) (.must (.lit 1 .done))))))))))))))))))))))))))) (.lit 6 (.obj (.cells g.cells 0 false) (.lit 1 (.obj (.cells g.cells 0 false) (.lit 1 (.obj (.cells [.pointer (some (Addr.mk (Nat.succ (Nat.succ (Nat.succ A.next))) 0 none))] 0 false) (.obj (.cells [Value.string (ByteArray.mk (Array.mk g.name)), .int .i64 g.params, .int .i64 g.regs, .int .i64 g.frame, .slice (some (Addr.mk g.B g.o none)) g.len g.cap, Value.string (ByteArray.mk (Array.mk g.name)), .int .i64 g.params, .int .i64 g.regs, .int .i64 g.frame, .slice (some (Addr.mk C u none)) g.len cap', Value.func (Fn.func 16) (Array.mk []) (Array.mk []), .int .i64 fuel, .int .i64 (Int.ofNat 0), .pointer none, Value.map (some (Nat.succ (Nat.succ A.next))), .slice none 0 0] 0 false) (.obj (.cells cs z e) (.must (.lit 2 (.obj (.cells (g2 g C u cap').cells 0 false) (.lit 2 (.obj (.cells (g2 g C u cap').cells 0 false) (.lit 1 (.obj (.cells [.pointer (some (Addr.mk (Nat.succ (Nat.succ (Nat.succ A.next))) 0 none))] 0 false) (.obj (.cells [Value.string (ByteArray.mk (Array.mk g.name)), .int .i64 g.params, .int .i64 g.regs, .int .i64 g.frame, .slice (some (Addr.mk g.B g.o none)) g.len g.cap, Value.string (ByteArray.mk (Array.mk g.name)), .int .i64 g.params, .int .i64 g.regs, .int .i64 g.frame, .slice (some (Addr.mk C u none)) g.len cap', Value.func (Fn.func 16) (Array.mk []) (Array.mk []), .int .i64 fuel, .int .i64 (Int.ofNat 0), .pointer none, Value.map (some (Nat.succ (Nat.succ A.next))), .slice none 0 0] 0 false) (.obj (.cells ds zd ed) (.must (.lit 2 (.obj (.cells g.cells 0 false) (.lit 1 (.obj (.cells (g2 g C u cap').cells 0 false) (.lit 1 (.obj (.cells cs z e) (.obj (.cells ds zd ed) (.must (.lit 1 .done)))))))))))))))))))))))))))))))))))) (.mustn (.must (.lit 1 .done))))))))))))) (.mustn (.mustn (.mustn (.mustn (.must (.lit 4 .done)))))))))))))))) (.mustn (.mustn (.mustn (.mustn (.must (.lit 10 .done)))))))))))))) (.mustn (.mustn (.must (.lit 16 .done)))))))))
    ((Tr.kc Tryz.prog prims2 20).call 12 [.agg ⟨g.cells⟩, .agg ⟨Fun1.cells { g with B := C, o := u, cap := cap' }⟩, .func (.func 16) ⟨[]⟩ ⟨[]⟩, .int .i64 fuel] A .ret) =
  (.obj (Tr.hget (e12h1 g C u cap' A) A.next) (.cells g.cells 0 false) (.obj (Tr.hget (e12h1 g C u cap' A) g.B) (.cells cs z e) (.ite (okC cs g.o g.len) (.ite (Tr.qWant (.bool (Bool.not (rightF g cs))) false)
 (.obj (Tr.hget (e12h1 g C u cap' A) (Nat.succ A.next)) (.cells (g2 g C u cap').cells 0 false) (.ite (Tr.qWant (.bool (Bool.not (rightF g cs))) false) (.obj (Tr.hget (e12h1 g C u cap' A) C) (.cells ds zd ed) (.ite (okC ds u g.len) (.ite (Tr.qWant (.bool (Bool.not (rightF g cs))) false) (.ite (Bool.not (rightF g cs)) .bad (.ite (Tr.qWant (.bool (Bool.not (rightF (g2 g C u cap') ds))) false)
 (.ite (Tr.qWant (.bool (Bool.not (rightF (g2 g C u cap') ds))) false) (.obj (Tr.hget (e12h1 g C u cap' A) A.next) (.cells g.cells 0 false) (.ite (Tr.qWant (.bool (Bool.not (rightF (g2 g C u cap') ds))) false) (.ite (Tr.qWant (.bool (Bool.not (rightF (g2 g C u cap') ds))) false) (.obj (Tr.hget (e12h1 g C u cap' A) (Nat.succ A.next)) (.cells (g2 g C u cap').cells 0 false) (.ite (Tr.qWant (.bool (Bool.not (rightF (g2 g C u cap') ds))) false) (.ite (Bool.not (rightF (g2 g C u cap') ds)) .bad (.ite (Tr.qWant (.bool (Bool.not (Tr.qiEq g.params g.params))) false)
 (.ite (Tr.qWant (.bool (Bool.not (Tr.qiEq g.params g.params))) false) (.obj (Tr.hget (e12h1 g C u cap' A) A.next) (.cells g.cells 0 false) (.ite (Tr.qWant (.bool (Bool.not (Tr.qiEq g.params g.params))) false) (.ite (Tr.qWant (.bool (Bool.not (Tr.qiEq g.params g.params))) false) (.obj (Tr.hget (e12h1 g C u cap' A) (Nat.succ A.next)) (.cells (g2 g C u cap').cells 0 false) (.ite (Tr.qWant (.bool (Bool.not (Tr.qiEq g.params g.params))) false) (.ite (Bool.not (Tr.qiEq g.params g.params)) .bad (.ite (Tr.qWant (.bool (Bool.not (Tr.qiEq g.frame g.frame))) false)
 (.ite (Tr.qWant (.bool (Bool.not (Tr.qiEq g.frame g.frame))) false) (.ite (Bool.not (Tr.qiEq g.frame g.frame)) .bad (.obj (Tr.hget (e12h1 g C u cap' A) A.next) (.cells g.cells 0 false) (.obj (Tr.hget (e12h1 g C u cap' A) (Nat.succ A.next)) (.cells (g2 g C u cap').cells 0 false) (.ite (Tr.qiLt (Int.ofNat 1000000) fuel)
 (.obj (Tr.hget (e12h13 g C u cap' A) A.next) (.cells g.cells 0 false) (.obj (Tr.hget (e12h15 g C u cap' A) (Nat.succ (Nat.succ (Nat.succ (Nat.succ (Nat.succ A.next)))))) (.cells g.cells 0 false) (.obj (Tr.hget (e12h15 g C u cap' A) (Nat.succ (Nat.succ (Nat.succ (Nat.succ A.next))))) (.cells [.pointer (some (Addr.mk (Nat.succ (Nat.succ (Nat.succ A.next))) 0 none))] 0 false) (.obj (Tr.hget (e12h15 g C u cap' A) (Nat.succ (Nat.succ (Nat.succ A.next)))) (.cells [Value.string (ByteArray.mk (Array.mk g.name)), .int .i64 g.params, .int .i64 g.regs, .int .i64 g.frame, .slice (some (Addr.mk g.B g.o none)) g.len g.cap, Value.string (ByteArray.mk (Array.mk g.name)), .int .i64 g.params, .int .i64 g.regs, .int .i64 g.frame, .slice (some (Addr.mk C u none)) g.len cap', Value.func (Fn.func 16) (Array.mk []) (Array.mk []), .int .i64 (Int.ofNat 1000000), .int .i64 (Int.ofNat 0), .pointer none, Value.map (some (Nat.succ (Nat.succ A.next))), .slice none 0 0] 0 false) (.obj (Tr.hget (e12h15 g C u cap' A) g.B) (.cells cs z e) (.ite (okC cs g.o g.len && Nat.ble (Nat.succ g.len) Tr.loopMost) (.obj (Tr.hget (e12h15 g C u cap' A) (Nat.succ A.next)) (.cells (g2 g C u cap').cells 0 false) (.obj (Tr.hget (e12h17 g C u cap' A) (Nat.succ (Nat.succ (Nat.succ (Nat.succ (Nat.succ (Nat.succ (Nat.succ A.next)))))))) (.cells (g2 g C u cap').cells 0 false) (.obj (Tr.hget (e12h17 g C u cap' A) (Nat.succ (Nat.succ (Nat.succ (Nat.succ (Nat.succ (Nat.succ A.next))))))) (.cells [.pointer (some (Addr.mk (Nat.succ (Nat.succ (Nat.succ A.next))) 0 none))] 0 false) (.obj (Tr.hget (e12h17 g C u cap' A) (Nat.succ (Nat.succ (Nat.succ A.next)))) (.cells [Value.string (ByteArray.mk (Array.mk g.name)), .int .i64 g.params, .int .i64 g.regs, .int .i64 g.frame, .slice (some (Addr.mk g.B g.o none)) g.len g.cap, Value.string (ByteArray.mk (Array.mk g.name)), .int .i64 g.params, .int .i64 g.regs, .int .i64 g.frame, .slice (some (Addr.mk C u none)) g.len cap', Value.func (Fn.func 16) (Array.mk []) (Array.mk []), .int .i64 (Int.ofNat 1000000), .int .i64 (Int.ofNat 0), .pointer none, Value.map (some (Nat.succ (Nat.succ A.next))), .slice none 0 0] 0 false) (.obj (Tr.hget (e12h17 g C u cap' A) C) (.cells ds zd ed) (.ite (okC ds u g.len && Nat.ble (Nat.succ g.len) Tr.loopMost) (.obj (Tr.hget (e12h17 g C u cap' A) A.next) (.cells g.cells 0 false) (.obj (Tr.hget (e12h17 g C u cap' A) (Nat.succ A.next)) (.cells (g2 g C u cap').cells 0 false) (.obj (Tr.hget (e12h17 g C u cap' A) g.B) (.cells cs z e) (.obj (Tr.hget (e12h17 g C u cap' A) C) (.cells ds zd ed) (.ite (Nat.beq g.len g.len && (okC cs g.o g.len && (okC ds u g.len && (sameC cs ds g.o u g.len && Nat.ble (Nat.succ g.len) Tr.loopMost)))) (.ret (.bool true)) .bad))))) .bad)))))) .bad))))))
 (.obj (Tr.hget (e12h3 g C u cap' fuel A) A.next) (.cells g.cells 0 false) (.obj (Tr.hget (e12h5 g C u cap' fuel A) (Nat.succ (Nat.succ (Nat.succ (Nat.succ (Nat.succ A.next)))))) (.cells g.cells 0 false) (.obj (Tr.hget (e12h5 g C u cap' fuel A) (Nat.succ (Nat.succ (Nat.succ (Nat.succ A.next))))) (.cells [.pointer (some (Addr.mk (Nat.succ (Nat.succ (Nat.succ A.next))) 0 none))] 0 false) (.obj (Tr.hget (e12h5 g C u cap' fuel A) (Nat.succ (Nat.succ (Nat.succ A.next)))) (.cells [Value.string (ByteArray.mk (Array.mk g.name)), .int .i64 g.params, .int .i64 g.regs, .int .i64 g.frame, .slice (some (Addr.mk g.B g.o none)) g.len g.cap, Value.string (ByteArray.mk (Array.mk g.name)), .int .i64 g.params, .int .i64 g.regs, .int .i64 g.frame, .slice (some (Addr.mk C u none)) g.len cap', Value.func (Fn.func 16) (Array.mk []) (Array.mk []), .int .i64 fuel, .int .i64 (Int.ofNat 0), .pointer none, Value.map (some (Nat.succ (Nat.succ A.next))), .slice none 0 0] 0 false) (.obj (Tr.hget (e12h5 g C u cap' fuel A) g.B) (.cells cs z e) (.ite (okC cs g.o g.len && Nat.ble (Nat.succ g.len) Tr.loopMost) (.obj (Tr.hget (e12h5 g C u cap' fuel A) (Nat.succ A.next)) (.cells (g2 g C u cap').cells 0 false) (.obj (Tr.hget (e12h7 g C u cap' fuel A) (Nat.succ (Nat.succ (Nat.succ (Nat.succ (Nat.succ (Nat.succ (Nat.succ A.next)))))))) (.cells (g2 g C u cap').cells 0 false) (.obj (Tr.hget (e12h7 g C u cap' fuel A) (Nat.succ (Nat.succ (Nat.succ (Nat.succ (Nat.succ (Nat.succ A.next))))))) (.cells [.pointer (some (Addr.mk (Nat.succ (Nat.succ (Nat.succ A.next))) 0 none))] 0 false) (.obj (Tr.hget (e12h7 g C u cap' fuel A) (Nat.succ (Nat.succ (Nat.succ A.next)))) (.cells [Value.string (ByteArray.mk (Array.mk g.name)), .int .i64 g.params, .int .i64 g.regs, .int .i64 g.frame, .slice (some (Addr.mk g.B g.o none)) g.len g.cap, Value.string (ByteArray.mk (Array.mk g.name)), .int .i64 g.params, .int .i64 g.regs, .int .i64 g.frame, .slice (some (Addr.mk C u none)) g.len cap', Value.func (Fn.func 16) (Array.mk []) (Array.mk []), .int .i64 fuel, .int .i64 (Int.ofNat 0), .pointer none, Value.map (some (Nat.succ (Nat.succ A.next))), .slice none 0 0] 0 false) (.obj (Tr.hget (e12h7 g C u cap' fuel A) C) (.cells ds zd ed) (.ite (okC ds u g.len && Nat.ble (Nat.succ g.len) Tr.loopMost) (.obj (Tr.hget (e12h7 g C u cap' fuel A) A.next) (.cells g.cells 0 false) (.obj (Tr.hget (e12h7 g C u cap' fuel A) (Nat.succ A.next)) (.cells (g2 g C u cap').cells 0 false) (.obj (Tr.hget (e12h7 g C u cap' fuel A) g.B) (.cells cs z e) (.obj (Tr.hget (e12h7 g C u cap' fuel A) C) (.cells ds zd ed) (.ite (Nat.beq g.len g.len && (okC cs g.o g.len && (okC ds u g.len && (sameC cs ds g.o u g.len && Nat.ble (Nat.succ g.len) Tr.loopMost)))) (.ret (.bool true)) .bad))))) .bad)))))) .bad)))))))))) .bad)
 (.ite (Tr.qWant (.bool (Bool.not (Tr.qiEq g.frame g.frame))) false) .bad (.ite (Bool.not (Tr.qiEq g.frame g.frame)) (.ret (.bool false)) .bad)))) .bad)) .bad) .bad)) .bad)
 (.ite (Tr.qWant (.bool (Bool.not (Tr.qiEq g.params g.params))) false) .bad (.ite (Tr.qWant (.bool (Bool.not (Tr.qiEq g.params g.params))) false) .bad (.ite (Tr.qWant (.bool (Bool.not (Tr.qiEq g.params g.params))) false) .bad (.ite (Tr.qWant (.bool (Bool.not (Tr.qiEq g.params g.params))) false) .bad (.ite (Bool.not (Tr.qiEq g.params g.params)) (.ret (.bool false)) .bad))))))) .bad)) .bad) .bad)) .bad)
 (.ite (Tr.qWant (.bool (Bool.not (rightF (g2 g C u cap') ds))) false) .bad (.ite (Tr.qWant (.bool (Bool.not (rightF (g2 g C u cap') ds))) false) .bad (.ite (Tr.qWant (.bool (Bool.not (rightF (g2 g C u cap') ds))) false) .bad (.ite (Tr.qWant (.bool (Bool.not (rightF (g2 g C u cap') ds))) false) .bad (.ite (Bool.not (rightF (g2 g C u cap') ds)) (.ret (.bool false)) .bad))))))) .bad) .bad)) .bad))
 (.ite (Tr.qWant (.bool (Bool.not (rightF g cs))) false) .bad (.ite (Tr.qWant (.bool (Bool.not (rightF g cs))) false) .bad (.ite (Bool.not (rightF g cs)) (.ret (.bool false)) .bad)))) .bad))) := by kernel_rfl
theorem run12_none (g : Fun1) (C u cap' : Nat) (fuel : Int) (cs ds : List Value) (z zd : Nat) (e ed : Bool) (A : AS) :
  run (.obj (.cells g.cells 0 false) (.lit 1 (.obj (.cells cs z e) (.must (.split (.obj (.cells (g2 g C u cap').cells 0 false) (.lit 1 (.must (.obj (.cells ds zd ed) (.must (.must (.mustn (.split (.must (.obj (.cells g.cells 0 false) (.lit 1 (.must (.must (.obj (.cells (g2 g C u cap').cells 0 false) (.lit 1 (.must (.mustn (.split (.must (.obj (.cells g.cells 0 false) (.lit 1 (.must (.must (.obj (.cells (g2 g C u cap').cells 0 false) (.lit 1 (.must (.mustn (.split (.must (.lit 1 (.mustn (.lit 1 (.obj (.cells g.cells 0 false) (.lit 1 (.obj (.cells (g2 g C u cap').cells 0 false) (.lit 1 (.split (.lit 6 (.obj (.cells g.cells 0 false) (.lit 1 (.obj (.cells g.cells 0 false) (.lit 1 (.obj (.cells [.pointer (some (Addr.mk (Nat.succ (Nat.succ (Nat.succ A.next))) 0 none))] 0 false) (.obj (.cells [Value.string (ByteArray.mk (Array.mk g.name)), .int .i64 g.params, .int .i64 g.regs, .int .i64 g.frame, .slice (some (Addr.mk g.B g.o none)) g.len g.cap, Value.string (ByteArray.mk (Array.mk g.name)), .int .i64 g.params, .int .i64 g.regs, .int .i64 g.frame, .slice (some (Addr.mk C u none)) g.len cap', Value.func (Fn.func 13) (Array.mk []) (Array.mk []), .int .i64 (Int.ofNat 1000000), .int .i64 (Int.ofNat 0), .pointer none, Value.map (some (Nat.succ (Nat.succ A.next))), .slice none 0 0] 0 false) (.obj (.cells cs z e) (.must (.split (.must (.obj (.cells (g2 g C u cap').cells 0 false) (.lit 1 (.must (.obj (.cells (g2 g C u cap').cells 0 false) (.lit 1 (.obj (.cells [.pointer (some (Addr.mk (Nat.succ (Nat.succ (Nat.succ A.next))) 0 none))] 0 false) (.obj (.cells [Value.string (ByteArray.mk (Array.mk g.name)), .int .i64 g.params, .int .i64 g.regs, .int .i64 g.frame, .slice (some (Addr.mk g.B g.o none)) g.len g.cap, Value.string (ByteArray.mk (Array.mk g.name)), .int .i64 g.params, .int .i64 g.regs, .int .i64 g.frame, .slice (some (Addr.mk C u none)) g.len cap', Value.func (Fn.func 13) (Array.mk []) (Array.mk []), .int .i64 (Int.ofNat 1000000), .int .i64 (Int.ofNat 0), .pointer none, Value.map (some (Nat.succ (Nat.succ A.next))), .slice none 0 0] 0 false) (.obj (.cells ds zd ed) (.must (.mustn (.split .done (.obj (.cells g.cells 0 false) (.lit 1 (.obj (.cells (g2 g C u cap').cells 0 false) (.lit 1 (.obj (.cells cs z e) (.obj (.cells ds zd ed) (.must (.lit 1 .done)))))))))))))))))))) (.mustn (.mustn (.must (.lit 1 .done)))))))))))))) (.lit 6 (.obj (.cells g.cells 0 false) (.lit 1 (.obj (.cells g.cells 0 false) (.lit 1 (.obj (.cells [.pointer (some (Addr.mk (Nat.succ (Nat.succ (Nat.succ A.next))) 0 none))] 0 false) (.obj (.cells [Value.string (ByteArray.mk (Array.mk g.name)), .int .i64 g.params, .int .i64 g.regs, .int .i64 g.frame, .slice (some (Addr.mk g.B g.o none)) g.len g.cap, Value.string (ByteArray.mk (Array.mk g.name)), .int .i64 g.params, .int .i64 g.regs, .int .i64 g.frame, .slice (some (Addr.mk C u none)) g.len cap', Value.func (Fn.func 13) (Array.mk []) (Array.mk []), .int .i64 fuel, .int .i64 (Int.ofNat 0), .pointer none, Value.map (some (Nat.succ (Nat.succ A.next))), .slice none 0 0] 0 false) (.obj (.cells cs z e) (.must (.split (.must (.obj (.cells (g2 g C u cap').cells 0 false) (.lit 1 (.must (.obj (.cells (g2 g C u cap').cells 0 false) (.lit 1 (.obj (.cells [.pointer (some (Addr.mk (Nat.succ (Nat.succ (Nat.succ A.next))) 0 none))] 0 false) (.obj (.cells [Value.string (ByteArray.mk (Array.mk g.name)), .int .i64 g.params, .int .i64 g.regs, .int .i64 g.frame, .slice (some (Addr.mk g.B g.o none)) g.len g.cap, Value.string (ByteArray.mk (Array.mk g.name)), .int .i64 g.params, .int .i64 g.regs, .int .i64 g.frame, .slice (some (Addr.mk C u none)) g.len cap', Value.func (Fn.func 13) (Array.mk []) (Array.mk []), .int .i64 fuel, .int .i64 (Int.ofNat 0), .pointer none, Value.map (some (Nat.succ (Nat.succ A.next))), .slice none 0 0] 0 false) (.obj (.cells ds zd ed) (.must (.mustn (.split .done (.obj (.cells g.cells 0 false) (.lit 1 (.obj (.cells (g2 g C u cap').cells 0 false) (.lit 1 (.obj (.cells cs z e) (.obj (.cells ds zd ed) (.must (.lit 1 .done)))))))))))))))))))) (.mustn (.mustn (.must (.lit 1 .done))))))))))))))))))))))) (.mustn (.must (.lit 1 .done))))))))))))) (.mustn (.mustn (.mustn (.mustn (.must (.lit 4 .done)))))))))))))))) (.mustn (.mustn (.mustn (.mustn (.must (.lit 10 .done)))))))))))))) (.mustn (.mustn (.must (.lit 16 .done)))))))))
    ((Tr.kc Tryz.prog prims2 20).call 12 [.agg ⟨g.cells⟩, .agg ⟨Fun1.cells { g with B := C, o := u, cap := cap' }⟩, .func (.func 13) ⟨[]⟩ ⟨[]⟩, .int .i64 fuel] A .ret) =
  (.obj (Tr.hget (e12h1 g C u cap' A) A.next) (.cells g.cells 0 false) (.obj (Tr.hget (e12h1 g C u cap' A) g.B) (.cells cs z e) (.ite (okC cs g.o g.len) (.ite (Tr.qWant (.bool (Bool.not (rightF g cs))) false)
 (.obj (Tr.hget (e12h1 g C u cap' A) (Nat.succ A.next)) (.cells (g2 g C u cap').cells 0 false) (.ite (Tr.qWant (.bool (Bool.not (rightF g cs))) false) (.obj (Tr.hget (e12h1 g C u cap' A) C) (.cells ds zd ed) (.ite (okC ds u g.len) (.ite (Tr.qWant (.bool (Bool.not (rightF g cs))) false) (.ite (Bool.not (rightF g cs)) .bad (.ite (Tr.qWant (.bool (Bool.not (rightF (g2 g C u cap') ds))) false)
 (.ite (Tr.qWant (.bool (Bool.not (rightF (g2 g C u cap') ds))) false) (.obj (Tr.hget (e12h1 g C u cap' A) A.next) (.cells g.cells 0 false) (.ite (Tr.qWant (.bool (Bool.not (rightF (g2 g C u cap') ds))) false) (.ite (Tr.qWant (.bool (Bool.not (rightF (g2 g C u cap') ds))) false) (.obj (Tr.hget (e12h1 g C u cap' A) (Nat.succ A.next)) (.cells (g2 g C u cap').cells 0 false) (.ite (Tr.qWant (.bool (Bool.not (rightF (g2 g C u cap') ds))) false) (.ite (Bool.not (rightF (g2 g C u cap') ds)) .bad (.ite (Tr.qWant (.bool (Bool.not (Tr.qiEq g.params g.params))) false)
 (.ite (Tr.qWant (.bool (Bool.not (Tr.qiEq g.params g.params))) false) (.obj (Tr.hget (e12h1 g C u cap' A) A.next) (.cells g.cells 0 false) (.ite (Tr.qWant (.bool (Bool.not (Tr.qiEq g.params g.params))) false) (.ite (Tr.qWant (.bool (Bool.not (Tr.qiEq g.params g.params))) false) (.obj (Tr.hget (e12h1 g C u cap' A) (Nat.succ A.next)) (.cells (g2 g C u cap').cells 0 false) (.ite (Tr.qWant (.bool (Bool.not (Tr.qiEq g.params g.params))) false) (.ite (Bool.not (Tr.qiEq g.params g.params)) .bad (.ite (Tr.qWant (.bool (Bool.not (Tr.qiEq g.frame g.frame))) false)
 (.ite (Tr.qWant (.bool (Bool.not (Tr.qiEq g.frame g.frame))) false) (.ite (Bool.not (Tr.qiEq g.frame g.frame)) .bad (.obj (Tr.hget (e12h1 g C u cap' A) A.next) (.cells g.cells 0 false) (.obj (Tr.hget (e12h1 g C u cap' A) (Nat.succ A.next)) (.cells (g2 g C u cap').cells 0 false) (.ite (Tr.qiLt (Int.ofNat 1000000) fuel)
 (.obj (Tr.hget (e12h18 g C u cap' A) A.next) (.cells g.cells 0 false) (.obj (Tr.hget (e12h20 g C u cap' A) (Nat.succ (Nat.succ (Nat.succ (Nat.succ (Nat.succ A.next)))))) (.cells g.cells 0 false) (.obj (Tr.hget (e12h20 g C u cap' A) (Nat.succ (Nat.succ (Nat.succ (Nat.succ A.next))))) (.cells [.pointer (some (Addr.mk (Nat.succ (Nat.succ (Nat.succ A.next))) 0 none))] 0 false) (.obj (Tr.hget (e12h20 g C u cap' A) (Nat.succ (Nat.succ (Nat.succ A.next)))) (.cells [Value.string (ByteArray.mk (Array.mk g.name)), .int .i64 g.params, .int .i64 g.regs, .int .i64 g.frame, .slice (some (Addr.mk g.B g.o none)) g.len g.cap, Value.string (ByteArray.mk (Array.mk g.name)), .int .i64 g.params, .int .i64 g.regs, .int .i64 g.frame, .slice (some (Addr.mk C u none)) g.len cap', Value.func (Fn.func 13) (Array.mk []) (Array.mk []), .int .i64 (Int.ofNat 1000000), .int .i64 (Int.ofNat 0), .pointer none, Value.map (some (Nat.succ (Nat.succ A.next))), .slice none 0 0] 0 false) (.obj (Tr.hget (e12h20 g C u cap' A) g.B) (.cells cs z e) (.ite (okC cs g.o g.len && Nat.ble (Nat.succ g.len) Tr.loopMost) (.ite (Tr.qWant (.bool (Bool.not (Tr.qiLt (idxN cs g.o g.len) (Int.ofNat 0)))) false)
 (.ite (Tr.qWant (.bool (Bool.not (Tr.qiLt (idxN cs g.o g.len) (Int.ofNat 0)))) false) (.obj (Tr.hget (e12h20 g C u cap' A) (Nat.succ A.next)) (.cells (g2 g C u cap').cells 0 false) (.ite (Tr.qWant (.bool (Bool.not (Tr.qiLt (idxN cs g.o g.len) (Int.ofNat 0)))) false) (.obj (Tr.hget (e12h22 g C u cap' A) (Nat.succ (Nat.succ (Nat.succ (Nat.succ (Nat.succ (Nat.succ (Nat.succ A.next)))))))) (.cells (g2 g C u cap').cells 0 false) (.obj (Tr.hget (e12h22 g C u cap' A) (Nat.succ (Nat.succ (Nat.succ (Nat.succ (Nat.succ (Nat.succ A.next))))))) (.cells [.pointer (some (Addr.mk (Nat.succ (Nat.succ (Nat.succ A.next))) 0 none))] 0 false) (.obj (Tr.hget (e12h22 g C u cap' A) (Nat.succ (Nat.succ (Nat.succ A.next)))) (.cells [Value.string (ByteArray.mk (Array.mk g.name)), .int .i64 g.params, .int .i64 g.regs, .int .i64 g.frame, .slice (some (Addr.mk g.B g.o none)) g.len g.cap, Value.string (ByteArray.mk (Array.mk g.name)), .int .i64 g.params, .int .i64 g.regs, .int .i64 g.frame, .slice (some (Addr.mk C u none)) g.len cap', Value.func (Fn.func 13) (Array.mk []) (Array.mk []), .int .i64 (Int.ofNat 1000000), .int .i64 (Int.ofNat 0), .pointer none, Value.map (some (Nat.succ (Nat.succ A.next))), .slice none 0 0] 0 false) (.obj (Tr.hget (e12h22 g C u cap' A) C) (.cells ds zd ed) (.ite (okC ds u g.len && Nat.ble (Nat.succ g.len) Tr.loopMost) (.ite (Bool.not (Tr.qiLt (idxN cs g.o g.len) (Int.ofNat 0))) .bad (.ite (Bool.not (Tr.qiLt (idxN ds u g.len) (Int.ofNat 0)))
 (.ret (.bool false))
 (.obj (Tr.hget (e12h22 g C u cap' A) A.next) (.cells g.cells 0 false) (.obj (Tr.hget (e12h22 g C u cap' A) (Nat.succ A.next)) (.cells (g2 g C u cap').cells 0 false) (.obj (Tr.hget (e12h22 g C u cap' A) g.B) (.cells cs z e) (.obj (Tr.hget (e12h22 g C u cap' A) C) (.cells ds zd ed) (.ite (Nat.beq g.len g.len && (okC cs g.o g.len && (okC ds u g.len && (sameC cs ds g.o u g.len && Nat.ble (Nat.succ g.len) Tr.loopMost)))) (.ret (.bool true)) .bad))))))) .bad))))) .bad)) .bad)
 (.ite (Tr.qWant (.bool (Bool.not (Tr.qiLt (idxN cs g.o g.len) (Int.ofNat 0)))) false) .bad (.ite (Tr.qWant (.bool (Bool.not (Tr.qiLt (idxN cs g.o g.len) (Int.ofNat 0)))) false) .bad (.ite (Bool.not (Tr.qiLt (idxN cs g.o g.len) (Int.ofNat 0))) (.ret (.bool false)) .bad)))) .bad))))))
 (.obj (Tr.hget (e12h8 g C u cap' fuel A) A.next) (.cells g.cells 0 false) (.obj (Tr.hget (e12h10 g C u cap' fuel A) (Nat.succ (Nat.succ (Nat.succ (Nat.succ (Nat.succ A.next)))))) (.cells g.cells 0 false) (.obj (Tr.hget (e12h10 g C u cap' fuel A) (Nat.succ (Nat.succ (Nat.succ (Nat.succ A.next))))) (.cells [.pointer (some (Addr.mk (Nat.succ (Nat.succ (Nat.succ A.next))) 0 none))] 0 false) (.obj (Tr.hget (e12h10 g C u cap' fuel A) (Nat.succ (Nat.succ (Nat.succ A.next)))) (.cells [Value.string (ByteArray.mk (Array.mk g.name)), .int .i64 g.params, .int .i64 g.regs, .int .i64 g.frame, .slice (some (Addr.mk g.B g.o none)) g.len g.cap, Value.string (ByteArray.mk (Array.mk g.name)), .int .i64 g.params, .int .i64 g.regs, .int .i64 g.frame, .slice (some (Addr.mk C u none)) g.len cap', Value.func (Fn.func 13) (Array.mk []) (Array.mk []), .int .i64 fuel, .int .i64 (Int.ofNat 0), .pointer none, Value.map (some (Nat.succ (Nat.succ A.next))), .slice none 0 0] 0 false) (.obj (Tr.hget (e12h10 g C u cap' fuel A) g.B) (.cells cs z e) (.ite (okC cs g.o g.len && Nat.ble (Nat.succ g.len) Tr.loopMost) (.ite (Tr.qWant (.bool (Bool.not (Tr.qiLt (idxN cs g.o g.len) (Int.ofNat 0)))) false)
 (.ite (Tr.qWant (.bool (Bool.not (Tr.qiLt (idxN cs g.o g.len) (Int.ofNat 0)))) false) (.obj (Tr.hget (e12h10 g C u cap' fuel A) (Nat.succ A.next)) (.cells (g2 g C u cap').cells 0 false) (.ite (Tr.qWant (.bool (Bool.not (Tr.qiLt (idxN cs g.o g.len) (Int.ofNat 0)))) false) (.obj (Tr.hget (e12h12 g C u cap' fuel A) (Nat.succ (Nat.succ (Nat.succ (Nat.succ (Nat.succ (Nat.succ (Nat.succ A.next)))))))) (.cells (g2 g C u cap').cells 0 false) (.obj (Tr.hget (e12h12 g C u cap' fuel A) (Nat.succ (Nat.succ (Nat.succ (Nat.succ (Nat.succ (Nat.succ A.next))))))) (.cells [.pointer (some (Addr.mk (Nat.succ (Nat.succ (Nat.succ A.next))) 0 none))] 0 false) (.obj (Tr.hget (e12h12 g C u cap' fuel A) (Nat.succ (Nat.succ (Nat.succ A.next)))) (.cells [Value.string (ByteArray.mk (Array.mk g.name)), .int .i64 g.params, .int .i64 g.regs, .int .i64 g.frame, .slice (some (Addr.mk g.B g.o none)) g.len g.cap, Value.string (ByteArray.mk (Array.mk g.name)), .int .i64 g.params, .int .i64 g.regs, .int .i64 g.frame, .slice (some (Addr.mk C u none)) g.len cap', Value.func (Fn.func 13) (Array.mk []) (Array.mk []), .int .i64 fuel, .int .i64 (Int.ofNat 0), .pointer none, Value.map (some (Nat.succ (Nat.succ A.next))), .slice none 0 0] 0 false) (.obj (Tr.hget (e12h12 g C u cap' fuel A) C) (.cells ds zd ed) (.ite (okC ds u g.len && Nat.ble (Nat.succ g.len) Tr.loopMost) (.ite (Bool.not (Tr.qiLt (idxN cs g.o g.len) (Int.ofNat 0))) .bad (.ite (Bool.not (Tr.qiLt (idxN ds u g.len) (Int.ofNat 0)))
 (.ret (.bool false))
 (.obj (Tr.hget (e12h12 g C u cap' fuel A) A.next) (.cells g.cells 0 false) (.obj (Tr.hget (e12h12 g C u cap' fuel A) (Nat.succ A.next)) (.cells (g2 g C u cap').cells 0 false) (.obj (Tr.hget (e12h12 g C u cap' fuel A) g.B) (.cells cs z e) (.obj (Tr.hget (e12h12 g C u cap' fuel A) C) (.cells ds zd ed) (.ite (Nat.beq g.len g.len && (okC cs g.o g.len && (okC ds u g.len && (sameC cs ds g.o u g.len && Nat.ble (Nat.succ g.len) Tr.loopMost)))) (.ret (.bool true)) .bad))))))) .bad))))) .bad)) .bad)
 (.ite (Tr.qWant (.bool (Bool.not (Tr.qiLt (idxN cs g.o g.len) (Int.ofNat 0)))) false) .bad (.ite (Tr.qWant (.bool (Bool.not (Tr.qiLt (idxN cs g.o g.len) (Int.ofNat 0)))) false) .bad (.ite (Bool.not (Tr.qiLt (idxN cs g.o g.len) (Int.ofNat 0))) (.ret (.bool false)) .bad)))) .bad)))))))))) .bad)
 (.ite (Tr.qWant (.bool (Bool.not (Tr.qiEq g.frame g.frame))) false) .bad (.ite (Bool.not (Tr.qiEq g.frame g.frame)) (.ret (.bool false)) .bad)))) .bad)) .bad) .bad)) .bad)
 (.ite (Tr.qWant (.bool (Bool.not (Tr.qiEq g.params g.params))) false) .bad (.ite (Tr.qWant (.bool (Bool.not (Tr.qiEq g.params g.params))) false) .bad (.ite (Tr.qWant (.bool (Bool.not (Tr.qiEq g.params g.params))) false) .bad (.ite (Tr.qWant (.bool (Bool.not (Tr.qiEq g.params g.params))) false) .bad (.ite (Bool.not (Tr.qiEq g.params g.params)) (.ret (.bool false)) .bad))))))) .bad)) .bad) .bad)) .bad)
 (.ite (Tr.qWant (.bool (Bool.not (rightF (g2 g C u cap') ds))) false) .bad (.ite (Tr.qWant (.bool (Bool.not (rightF (g2 g C u cap') ds))) false) .bad (.ite (Tr.qWant (.bool (Bool.not (rightF (g2 g C u cap') ds))) false) .bad (.ite (Tr.qWant (.bool (Bool.not (rightF (g2 g C u cap') ds))) false) .bad (.ite (Bool.not (rightF (g2 g C u cap') ds)) (.ret (.bool false)) .bad))))))) .bad) .bad)) .bad))
 (.ite (Tr.qWant (.bool (Bool.not (rightF g cs))) false) .bad (.ite (Tr.qWant (.bool (Bool.not (rightF g cs))) false) .bad (.ite (Bool.not (rightF g cs)) (.ret (.bool false)) .bad)))) .bad))) := by kernel_rfl
theorem rightF_same {g : Fun1} {cs ds : List Value} {C u cap' : Nat} (hf : sameC cs ds g.o u g.len = true) : rightF (g2 g C u cap') ds = rightF g cs := by
  have hs := sameC_ok hf
  have h0 : okF (g2 g C u cap') = okF g := rfl
  have h1 : (List.range g.len).all (fun j => rightS (insN ds u j) g.regs g.frame g.len) = (List.range g.len).all (fun j => rightS (insN cs g.o j) g.regs g.frame g.len) := by
    rw [Bool.eq_iff_iff, List.all_eq_true, List.all_eq_true]
    constructor
    · intro h j hj
      rw [← hs j (List.mem_range.1 hj)]; exact h j hj
    · intro h j hj
      rw [hs j (List.mem_range.1 hj)]; exact h j hj
  show (okF (g2 g C u cap') && ((List.range g.len).all (fun j => rightS (insN ds u j) g.regs g.frame g.len) && !(Tr.qiLt (insN ds u (g.len - 1)).kind 11))) = rightF g cs
  unfold rightF
  rw [h0, h1]
  cases hok : okF g with
  | false => rfl
  | true =>
    have hl := okF_len hok
    rw [hs (g.len - 1) (by omega)]
theorem idxN_same {g : Fun1} {cs ds : List Value} {u : Nat} (hf : sameC cs ds g.o u g.len = true) : idxN ds u g.len = idxN cs g.o g.len := by
  have hs := sameC_ok hf
  unfold idxN
  have : (List.range g.len).find? (isCall ds u) = (List.range g.len).find? (isCall cs g.o) := by
    refine find_cong fun j hj => ?_
    unfold isCall
    rw [hs j (List.mem_range.1 hj)]
  rw [this]
theorem qiEq_self (a : Int) : Tr.qiEq a a = true := by rw [qiEq_d]; exact decide_eq_true rfl
theorem f12_nil (g : Fun1) (C u cap' : Nat) (fuel : Int) (cs ds : List Value) (z zd : Nat) (e ed : Bool) (A : AS) (hB : Has A g.B (.cells cs z e)) (hC : Has A C (.cells ds zd ed)) (hc : okC cs g.o g.len = true) (hd : okC ds u g.len = true)
    (hs : sameC cs ds g.o u g.len = true) (hl : Nat.ble (Nat.succ g.len) Tr.loopMost = true) (hro : A.ro ≤ A.next) :
    Tells (.bool false) ((Tr.kc Tryz.prog prims2 20).call 12 [.agg ⟨g.cells⟩, .agg ⟨(g2 g C u cap').cells⟩, .nilFunc, .int .i64 fuel] A .ret).eval := by
  refine tells_of (run12_nil g C u cap' fuel cs ds z zd e ed A) ?_
  have hb := hB.2
  have hcc := hC.2
  have hr := rightF_same (C := C) (cap' := cap') hs
  have hi := idxN_same hs
  simp (disch := omega) only [Out.tells, box, e12h1, e12h2, e12h3, e12h4, e12h5, e12h6, e12h7, e12h8, e12h9, e12h10, e12h11, e12h12, e12h13, e12h14, e12h15, e12h16, e12h17, e12h18, e12h19, e12h20, e12h21, e12h22, hget_same, hget_ne, tget_same, tget_ne, hB.1, hC.1, hc, hd, hs, hl, hr, hi, qiEq_self, wantT, wantF, Bool.not_true, Bool.not_false, Bool.and_true, Bool.and_self, true_and, and_true, forall_const, Bool.true_eq_false, Bool.false_eq_true, false_implies, implies_true]
  cases rightF g cs <;> cases Tr.qiLt (idxN cs g.o g.len) (Int.ofNat 0) <;> cases Tr.qiLt (Int.ofNat 1000000) fuel <;> simp
theorem f12_all (g : Fun1) (C u cap' : Nat) (fuel : Int) (cs ds : List Value) (z zd : Nat) (e ed : Bool) (A : AS) (hB : Has A g.B (.cells cs z e)) (hC : Has A C (.cells ds zd ed)) (hc : okC cs g.o g.len = true) (hd : okC ds u g.len = true)
    (hs : sameC cs ds g.o u g.len = true) (hl : Nat.ble (Nat.succ g.len) Tr.loopMost = true) (hro : A.ro ≤ A.next) :
    Tells (.bool (rightF g cs)) ((Tr.kc Tryz.prog prims2 20).call 12 [.agg ⟨g.cells⟩, .agg ⟨(g2 g C u cap').cells⟩, .func (.func 16) ⟨[]⟩ ⟨[]⟩, .int .i64 fuel] A .ret).eval := by
  refine tells_of (run12_all g C u cap' fuel cs ds z zd e ed A) ?_
  have hb := hB.2
  have hcc := hC.2
  have hr := rightF_same (C := C) (cap' := cap') hs
  have hi := idxN_same hs
  simp (disch := omega) only [Out.tells, box, e12h1, e12h2, e12h3, e12h4, e12h5, e12h6, e12h7, e12h8, e12h9, e12h10, e12h11, e12h12, e12h13, e12h14, e12h15, e12h16, e12h17, e12h18, e12h19, e12h20, e12h21, e12h22, hget_same, hget_ne, tget_same, tget_ne, hB.1, hC.1, hc, hd, hs, hl, hr, hi, qiEq_self, wantT, wantF, Bool.not_true, Bool.not_false, Bool.and_true, Bool.and_self, true_and, and_true, forall_const, Bool.true_eq_false, Bool.false_eq_true, false_implies, implies_true]
  cases rightF g cs <;> cases Tr.qiLt (idxN cs g.o g.len) (Int.ofNat 0) <;> cases Tr.qiLt (Int.ofNat 1000000) fuel <;> simp
theorem f12_none (g : Fun1) (C u cap' : Nat) (fuel : Int) (cs ds : List Value) (z zd : Nat) (e ed : Bool) (A : AS) (hB : Has A g.B (.cells cs z e)) (hC : Has A C (.cells ds zd ed)) (hc : okC cs g.o g.len = true) (hd : okC ds u g.len = true)
    (hs : sameC cs ds g.o u g.len = true) (hl : Nat.ble (Nat.succ g.len) Tr.loopMost = true) (hro : A.ro ≤ A.next) :
    Tells (.bool (rightF g cs && Tr.qiLt (idxN cs g.o g.len) (Int.ofNat 0))) ((Tr.kc Tryz.prog prims2 20).call 12 [.agg ⟨g.cells⟩, .agg ⟨(g2 g C u cap').cells⟩, .func (.func 13) ⟨[]⟩ ⟨[]⟩, .int .i64 fuel] A .ret).eval := by
  refine tells_of (run12_none g C u cap' fuel cs ds z zd e ed A) ?_
  have hb := hB.2
  have hcc := hC.2
  have hr := rightF_same (C := C) (cap' := cap') hs
  have hi := idxN_same hs
  simp (disch := omega) only [Out.tells, box, e12h1, e12h2, e12h3, e12h4, e12h5, e12h6, e12h7, e12h8, e12h9, e12h10, e12h11, e12h12, e12h13, e12h14, e12h15, e12h16, e12h17, e12h18, e12h19, e12h20, e12h21, e12h22, hget_same, hget_ne, tget_same, tget_ne, hB.1, hC.1, hc, hd, hs, hl, hr, hi, qiEq_self, wantT, wantF, Bool.not_true, Bool.not_false, Bool.and_true, Bool.and_self, true_and, and_true, forall_const, Bool.true_eq_false, Bool.false_eq_true, false_implies, implies_true]
  cases rightF g cs <;> cases Tr.qiLt (idxN cs g.o g.len) (Int.ofNat 0) <;> cases Tr.qiLt (Int.ofNat 1000000) fuel <;> simp
end Go.Proofs
