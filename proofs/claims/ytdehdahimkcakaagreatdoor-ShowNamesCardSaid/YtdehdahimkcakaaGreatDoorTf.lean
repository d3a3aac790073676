/- PRINTED BY wip/tools/facts.py: what types are. -/
import Derived.Test.YtdehdahimkcakaaGreatDoorKit
set_option maxRecDepth 100000
namespace Go.Proofs.YtdehdahimkcakaaGreatDoor
open Go Ai
theorem eqf1n : bn .eql 1 .nilf .nilf = some (.bool true) := by kernel_rfl
theorem nef1n : bn .neq 1 .nilf .nilf = some (.bool false) := by kernel_rfl
theorem zf2 : zr 2 = some (.int .i64 0) := by kernel_rfl
theorem zf3 : zr 3 = some (.int .i64 0) := by kernel_rfl
theorem zf4 : zr 4 = some (.bool false) := by kernel_rfl
theorem eqf4 (a b : Bool) : bn .eql 4 (.bool a) (.bool b) = some (.bool (a == b)) := by kernel_rfl
theorem nef4 (a b : Bool) : bn .neq 4 (.bool a) (.bool b) = some (.bool !(a == b)) := by kernel_rfl
theorem zf5 : zr 5 = some (.int .u8 0) := by kernel_rfl
theorem zf6 : zr 6 = some (.int .u8 0) := by kernel_rfl
theorem zf7 : zr 7 = some (.agg [.int .i64 0, .int .i64 0, .bool false, .int .u8 0]) := by kernel_rfl
theorem bf7 (l : List (Nat × AV)) : bld 7 l = (fillA (fun i => [(0, 1), (1, 1), (2, 1), (3, 1)][i]?) [.int .i64 0, .int .i64 0, .bool false, .int .u8 0] l).map .agg := by kernel_rfl
theorem zf8 : zr 8 = some (.agg [.int .i64 0, .int .i64 0, .bool false, .int .u8 0]) := by kernel_rfl
theorem bf8 (l : List (Nat × AV)) : bld 8 l = (fillA (fun i => [(0, 1), (1, 1), (2, 1), (3, 1)][i]?) [.int .i64 0, .int .i64 0, .bool false, .int .u8 0] l).map .agg := by kernel_rfl
theorem zf9 : zr 9 = some (.str []) := by kernel_rfl
theorem ln9t (x : List UInt8) (id : Nat) (s : St) : bt .len #[9] [.str x] id s = some (.int .i64 x.length, s) := by kernel_rfl
theorem zf10 : zr 10 = some (.str []) := by kernel_rfl
theorem ln10t (x : List UInt8) (id : Nat) (s : St) : bt .len #[10] [.str x] id s = some (.int .i64 x.length, s) := by kernel_rfl
theorem zf11 : zr 11 = some (.str []) := by kernel_rfl
theorem ln11t (x : List UInt8) (id : Nat) (s : St) : bt .len #[11] [.str x] id s = some (.int .i64 x.length, s) := by kernel_rfl
theorem zf12 : zr 12 = some (.int .u64 0) := by kernel_rfl
theorem zf13 : zr 13 = some (.agg [.str [], .int .u64 0]) := by kernel_rfl
theorem bf13 (l : List (Nat × AV)) : bld 13 l = (fillA (fun i => [(0, 1), (1, 1)][i]?) [.str [], .int .u64 0] l).map .agg := by kernel_rfl
theorem zf14 : zr 14 = some (.agg [.str [], .int .u64 0]) := by kernel_rfl
theorem bf14 (l : List (Nat × AV)) : bld 14 l = (fillA (fun i => [(0, 1), (1, 1)][i]?) [.str [], .int .u64 0] l).map .agg := by kernel_rfl
theorem zf15 : zr 15 = some (.nilp) := by kernel_rfl
theorem eqf15n : bn .eql 15 .nilp .nilp = some (.bool true) := by kernel_rfl
theorem eqf15p (i o : Nat) : bn .eql 15 (.ptr i o) .nilp = some (.bool false) := by kernel_rfl
theorem eqf15l (c : List AV) (o : Nat) : bn .eql 15 (.pel c o) .nilp = some (.bool false) := by kernel_rfl
theorem nef15n : bn .neq 15 .nilp .nilp = some (.bool false) := by kernel_rfl
theorem nef15p (i o : Nat) : bn .neq 15 (.ptr i o) .nilp = some (.bool true) := by kernel_rfl
theorem nef15l (c : List AV) (o : Nat) : bn .neq 15 (.pel c o) .nilp = some (.bool true) := by kernel_rfl
theorem zf16 : zr 16 = some (.nilp) := by kernel_rfl
theorem eqf16n : bn .eql 16 .nilp .nilp = some (.bool true) := by kernel_rfl
theorem eqf16p (i o : Nat) : bn .eql 16 (.ptr i o) .nilp = some (.bool false) := by kernel_rfl
theorem eqf16l (c : List AV) (o : Nat) : bn .eql 16 (.pel c o) .nilp = some (.bool false) := by kernel_rfl
theorem nef16n : bn .neq 16 .nilp .nilp = some (.bool false) := by kernel_rfl
theorem nef16p (i o : Nat) : bn .neq 16 (.ptr i o) .nilp = some (.bool true) := by kernel_rfl
theorem nef16l (c : List AV) (o : Nat) : bn .neq 16 (.pel c o) .nilp = some (.bool true) := by kernel_rfl
theorem zf17 : zr 17 = some (.nilp) := by kernel_rfl
theorem eqf17n : bn .eql 17 .nilp .nilp = some (.bool true) := by kernel_rfl
theorem eqf17p (i o : Nat) : bn .eql 17 (.ptr i o) .nilp = some (.bool false) := by kernel_rfl
theorem eqf17l (c : List AV) (o : Nat) : bn .eql 17 (.pel c o) .nilp = some (.bool false) := by kernel_rfl
theorem nef17n : bn .neq 17 .nilp .nilp = some (.bool false) := by kernel_rfl
theorem nef17p (i o : Nat) : bn .neq 17 (.ptr i o) .nilp = some (.bool true) := by kernel_rfl
theorem nef17l (c : List AV) (o : Nat) : bn .neq 17 (.pel c o) .nilp = some (.bool true) := by kernel_rfl
theorem zf18 : zr 18 = some (.agg [.nilp]) := by kernel_rfl
theorem bf18 (l : List (Nat × AV)) : bld 18 l = (fillA (fun i => [(0, 1)][i]?) [.nilp] l).map .agg := by kernel_rfl
theorem zf19 : zr 19 = some (.agg [.nilp]) := by kernel_rfl
theorem bf19 (l : List (Nat × AV)) : bld 19 l = (fillA (fun i => [(0, 1)][i]?) [.nilp] l).map .agg := by kernel_rfl
theorem zf21 : zr 21 = some (.int .i32 0) := by kernel_rfl
theorem tf22 : SlTy 22 211 1 false 4 := ⟨by kernel_rfl, by kernel_rfl, by kernel_rfl, by kernel_rfl, by decide⟩
theorem ln22s (ex : Bool) (l : List AV) (id : Nat) (s : St) : bt .len #[22] [.sl ex l] id s = some (.int .i64 l.length, s) := by kernel_rfl
theorem ln22n (id : Nat) (s : St) : bt .len #[22] [.nils] id s = some (.int .i64 0, s) := by kernel_rfl
theorem ln22r (i o n : Nat) (c : Option Nat) (e : TypeId) (id : Nat) (s : St) : bt .len #[22] [.ref i o n c e] id s = some (.int .i64 n, s) := by kernel_rfl
theorem ln22g {x : AV} {l : List AV} {s : St} (g : Gw 211 1 0 s x l) (id : Nat) : bt .len #[22] [x] id s = some (.int .i64 l.length, s) := by
  obtain ⟨_, ⟨rfl, rfl⟩ | ⟨i, _, rfl, _⟩⟩ := g
  · exact ln22n id s
  · exact ln22r ..
theorem zf22 : zr 22 = some (.nils) := by kernel_rfl
theorem zf23 : zr 23 = some (.agg [.bool false, .nils]) := by kernel_rfl
theorem bf23 (l : List (Nat × AV)) : bld 23 l = (fillA (fun i => [(0, 1), (1, 1)][i]?) [.bool false, .nils] l).map .agg := by kernel_rfl
theorem zf24 : zr 24 = some (.agg [.bool false, .nils]) := by kernel_rfl
theorem bf24 (l : List (Nat × AV)) : bld 24 l = (fillA (fun i => [(0, 1), (1, 1)][i]?) [.bool false, .nils] l).map .agg := by kernel_rfl
theorem tf25 : SlTy 25 109 2 true 16 := ⟨by kernel_rfl, by kernel_rfl, by kernel_rfl, by kernel_rfl, by decide⟩
theorem ln25s (ex : Bool) (l : List AV) (id : Nat) (s : St) : bt .len #[25] [.sl ex l] id s = some (.int .i64 l.length, s) := by kernel_rfl
theorem ln25n (id : Nat) (s : St) : bt .len #[25] [.nils] id s = some (.int .i64 0, s) := by kernel_rfl
theorem ln25r (i o n : Nat) (c : Option Nat) (e : TypeId) (id : Nat) (s : St) : bt .len #[25] [.ref i o n c e] id s = some (.int .i64 n, s) := by kernel_rfl
theorem ln25g {x : AV} {l : List AV} {s : St} (g : Gw 109 2 0 s x l) (id : Nat) : bt .len #[25] [x] id s = some (.int .i64 l.length, s) := by
  obtain ⟨_, ⟨rfl, rfl⟩ | ⟨i, _, rfl, _⟩⟩ := g
  · exact ln25n id s
  · exact ln25r ..
theorem zf25 : zr 25 = some (.nils) := by kernel_rfl
theorem zf26 : zr 26 = some (.agg [.int .i64 0, .bool false, .bool false, .nils, .nils]) := by kernel_rfl
theorem bf26 (l : List (Nat × AV)) : bld 26 l = (fillA (fun i => [(0, 1), (1, 1), (2, 2), (4, 1)][i]?) [.int .i64 0, .bool false, .bool false, .nils, .nils] l).map .agg := by kernel_rfl
theorem zf27 : zr 27 = some (.agg [.int .i64 0, .bool false, .bool false, .nils, .nils]) := by kernel_rfl
theorem bf27 (l : List (Nat × AV)) : bld 27 l = (fillA (fun i => [(0, 1), (1, 1), (2, 2), (4, 1)][i]?) [.int .i64 0, .bool false, .bool false, .nils, .nils] l).map .agg := by kernel_rfl
theorem eqf28n : bn .eql 28 .nilf .nilf = some (.bool true) := by kernel_rfl
theorem nef28n : bn .neq 28 .nilf .nilf = some (.bool false) := by kernel_rfl
theorem zf29 : zr 29 = some (.agg [.int .i64 0, .str [], .int .i64 0]) := by kernel_rfl
theorem bf29 (l : List (Nat × AV)) : bld 29 l = (fillA (fun i => [(0, 1), (1, 1), (2, 1)][i]?) [.int .i64 0, .str [], .int .i64 0] l).map .agg := by kernel_rfl
theorem zf30 : zr 30 = some (.agg [.int .i64 0, .str [], .int .i64 0]) := by kernel_rfl
theorem bf30 (l : List (Nat × AV)) : bld 30 l = (fillA (fun i => [(0, 1), (1, 1), (2, 1)][i]?) [.int .i64 0, .str [], .int .i64 0] l).map .agg := by kernel_rfl
theorem tf31 : SlTy 31 33 6 true 72 := ⟨by kernel_rfl, by kernel_rfl, by kernel_rfl, by kernel_rfl, by decide⟩
theorem ln31s (ex : Bool) (l : List AV) (id : Nat) (s : St) : bt .len #[31] [.sl ex l] id s = some (.int .i64 l.length, s) := by kernel_rfl
theorem ln31n (id : Nat) (s : St) : bt .len #[31] [.nils] id s = some (.int .i64 0, s) := by kernel_rfl
theorem ln31r (i o n : Nat) (c : Option Nat) (e : TypeId) (id : Nat) (s : St) : bt .len #[31] [.ref i o n c e] id s = some (.int .i64 n, s) := by kernel_rfl
theorem ln31g {x : AV} {l : List AV} {s : St} (g : Gw 33 6 0 s x l) (id : Nat) : bt .len #[31] [x] id s = some (.int .i64 l.length, s) := by
  obtain ⟨_, ⟨rfl, rfl⟩ | ⟨i, _, rfl, _⟩⟩ := g
  · exact ln31n id s
  · exact ln31r ..
theorem zf31 : zr 31 = some (.nils) := by kernel_rfl
theorem zf32 : zr 32 = some (.agg [.bool false, .int .i64 0, .str [], .int .i64 0, .int .i64 0, .nils]) := by kernel_rfl
theorem bf32 (l : List (Nat × AV)) : bld 32 l = (fillA (fun i => [(0, 1), (1, 3), (4, 1), (5, 1)][i]?) [.bool false, .int .i64 0, .str [], .int .i64 0, .int .i64 0, .nils] l).map .agg := by kernel_rfl
theorem zf33 : zr 33 = some (.agg [.bool false, .int .i64 0, .str [], .int .i64 0, .int .i64 0, .nils]) := by kernel_rfl
theorem bf33 (l : List (Nat × AV)) : bld 33 l = (fillA (fun i => [(0, 1), (1, 3), (4, 1), (5, 1)][i]?) [.bool false, .int .i64 0, .str [], .int .i64 0, .int .i64 0, .nils] l).map .agg := by kernel_rfl
theorem zf34 : zr 34 = some (.int .i64 0) := by kernel_rfl
theorem eqf36n : bn .eql 36 .nilf .nilf = some (.bool true) := by kernel_rfl
theorem nef36n : bn .neq 36 .nilf .nilf = some (.bool false) := by kernel_rfl
theorem eqf37n : bn .eql 37 .nilf .nilf = some (.bool true) := by kernel_rfl
theorem nef37n : bn .neq 37 .nilf .nilf = some (.bool false) := by kernel_rfl
theorem eqf38n : bn .eql 38 .nilf .nilf = some (.bool true) := by kernel_rfl
theorem nef38n : bn .neq 38 .nilf .nilf = some (.bool false) := by kernel_rfl
theorem eqf39n : bn .eql 39 .nilf .nilf = some (.bool true) := by kernel_rfl
theorem nef39n : bn .neq 39 .nilf .nilf = some (.bool false) := by kernel_rfl
theorem eqf40n : bn .eql 40 .nilf .nilf = some (.bool true) := by kernel_rfl
theorem nef40n : bn .neq 40 .nilf .nilf = some (.bool false) := by kernel_rfl
theorem eqf41n : bn .eql 41 .nilf .nilf = some (.bool true) := by kernel_rfl
theorem nef41n : bn .neq 41 .nilf .nilf = some (.bool false) := by kernel_rfl
theorem eqf42n : bn .eql 42 .nilf .nilf = some (.bool true) := by kernel_rfl
theorem nef42n : bn .neq 42 .nilf .nilf = some (.bool false) := by kernel_rfl
theorem eqf43n : bn .eql 43 .nilf .nilf = some (.bool true) := by kernel_rfl
theorem nef43n : bn .neq 43 .nilf .nilf = some (.bool false) := by kernel_rfl
theorem eqf44n : bn .eql 44 .nilf .nilf = some (.bool true) := by kernel_rfl
theorem nef44n : bn .neq 44 .nilf .nilf = some (.bool false) := by kernel_rfl
theorem eqf45n : bn .eql 45 .nilf .nilf = some (.bool true) := by kernel_rfl
theorem nef45n : bn .neq 45 .nilf .nilf = some (.bool false) := by kernel_rfl
theorem eqf47n : bn .eql 47 .nilf .nilf = some (.bool true) := by kernel_rfl
theorem nef47n : bn .neq 47 .nilf .nilf = some (.bool false) := by kernel_rfl
theorem eqf48n : bn .eql 48 .nilf .nilf = some (.bool true) := by kernel_rfl
theorem nef48n : bn .neq 48 .nilf .nilf = some (.bool false) := by kernel_rfl
theorem tf49 : SlTy 49 67 10 true 128 := ⟨by kernel_rfl, by kernel_rfl, by kernel_rfl, by kernel_rfl, by decide⟩
theorem ln49s (ex : Bool) (l : List AV) (id : Nat) (s : St) : bt .len #[49] [.sl ex l] id s = some (.int .i64 l.length, s) := by kernel_rfl
theorem ln49n (id : Nat) (s : St) : bt .len #[49] [.nils] id s = some (.int .i64 0, s) := by kernel_rfl
theorem ln49r (i o n : Nat) (c : Option Nat) (e : TypeId) (id : Nat) (s : St) : bt .len #[49] [.ref i o n c e] id s = some (.int .i64 n, s) := by kernel_rfl
theorem ln49g {x : AV} {l : List AV} {s : St} (g : Gw 67 10 0 s x l) (id : Nat) : bt .len #[49] [x] id s = some (.int .i64 l.length, s) := by
  obtain ⟨_, ⟨rfl, rfl⟩ | ⟨i, _, rfl, _⟩⟩ := g
  · exact ln49n id s
  · exact ln49r ..
theorem zf49 : zr 49 = some (.nils) := by kernel_rfl
theorem eqf50n : bn .eql 50 .nilf .nilf = some (.bool true) := by kernel_rfl
theorem nef50n : bn .neq 50 .nilf .nilf = some (.bool false) := by kernel_rfl
theorem zf51 : zr 51 = some (.nilp) := by kernel_rfl
theorem eqf51n : bn .eql 51 .nilp .nilp = some (.bool true) := by kernel_rfl
theorem eqf51p (i o : Nat) : bn .eql 51 (.ptr i o) .nilp = some (.bool false) := by kernel_rfl
theorem eqf51l (c : List AV) (o : Nat) : bn .eql 51 (.pel c o) .nilp = some (.bool false) := by kernel_rfl
theorem nef51n : bn .neq 51 .nilp .nilp = some (.bool false) := by kernel_rfl
theorem nef51p (i o : Nat) : bn .neq 51 (.ptr i o) .nilp = some (.bool true) := by kernel_rfl
theorem nef51l (c : List AV) (o : Nat) : bn .neq 51 (.pel c o) .nilp = some (.bool true) := by kernel_rfl
theorem tf52 : SlTy 52 9 1 false 16 := ⟨by kernel_rfl, by kernel_rfl, by kernel_rfl, by kernel_rfl, by decide⟩
theorem ln52s (ex : Bool) (l : List AV) (id : Nat) (s : St) : bt .len #[52] [.sl ex l] id s = some (.int .i64 l.length, s) := by kernel_rfl
theorem ln52n (id : Nat) (s : St) : bt .len #[52] [.nils] id s = some (.int .i64 0, s) := by kernel_rfl
theorem ln52r (i o n : Nat) (c : Option Nat) (e : TypeId) (id : Nat) (s : St) : bt .len #[52] [.ref i o n c e] id s = some (.int .i64 n, s) := by kernel_rfl
theorem ln52g {x : AV} {l : List AV} {s : St} (g : Gw 9 1 0 s x l) (id : Nat) : bt .len #[52] [x] id s = some (.int .i64 l.length, s) := by
  obtain ⟨_, ⟨rfl, rfl⟩ | ⟨i, _, rfl, _⟩⟩ := g
  · exact ln52n id s
  · exact ln52r ..
theorem zf52 : zr 52 = some (.nils) := by kernel_rfl
theorem zf53 : zr 53 = some (.nilm) := by kernel_rfl
theorem eqf53n : bn .eql 53 .nilm .nilm = some (.bool true) := by kernel_rfl
theorem eqf53p (i : Nat) : bn .eql 53 (.map i) .nilm = some (.bool false) := by kernel_rfl
theorem nef53n : bn .neq 53 .nilm .nilm = some (.bool false) := by kernel_rfl
theorem nef53p (i : Nat) : bn .neq 53 (.map i) .nilm = some (.bool true) := by kernel_rfl
theorem zf54 : zr 54 = some (.agg [.nils, .nilm]) := by kernel_rfl
theorem bf54 (l : List (Nat × AV)) : bld 54 l = (fillA (fun i => [(0, 1), (1, 1)][i]?) [.nils, .nilm] l).map .agg := by kernel_rfl
theorem zf55 : zr 55 = some (.agg [.nils, .nilm]) := by kernel_rfl
theorem bf55 (l : List (Nat × AV)) : bld 55 l = (fillA (fun i => [(0, 1), (1, 1)][i]?) [.nils, .nilm] l).map .agg := by kernel_rfl
theorem tf56 : SlTy 56 101 7 true 112 := ⟨by kernel_rfl, by kernel_rfl, by kernel_rfl, by kernel_rfl, by decide⟩
theorem ln56s (ex : Bool) (l : List AV) (id : Nat) (s : St) : bt .len #[56] [.sl ex l] id s = some (.int .i64 l.length, s) := by kernel_rfl
theorem ln56n (id : Nat) (s : St) : bt .len #[56] [.nils] id s = some (.int .i64 0, s) := by kernel_rfl
theorem ln56r (i o n : Nat) (c : Option Nat) (e : TypeId) (id : Nat) (s : St) : bt .len #[56] [.ref i o n c e] id s = some (.int .i64 n, s) := by kernel_rfl
theorem ln56g {x : AV} {l : List AV} {s : St} (g : Gw 101 7 0 s x l) (id : Nat) : bt .len #[56] [x] id s = some (.int .i64 l.length, s) := by
  obtain ⟨_, ⟨rfl, rfl⟩ | ⟨i, _, rfl, _⟩⟩ := g
  · exact ln56n id s
  · exact ln56r ..
theorem zf56 : zr 56 = some (.nils) := by kernel_rfl
theorem zf57 : zr 57 = some (.agg [.nils, .nilm, .nils]) := by kernel_rfl
theorem bf57 (l : List (Nat × AV)) : bld 57 l = (fillA (fun i => [(0, 2), (2, 1)][i]?) [.nils, .nilm, .nils] l).map .agg := by kernel_rfl
theorem zf58 : zr 58 = some (.agg [.nils, .nilm, .nils]) := by kernel_rfl
theorem bf58 (l : List (Nat × AV)) : bld 58 l = (fillA (fun i => [(0, 2), (2, 1)][i]?) [.nils, .nilm, .nils] l).map .agg := by kernel_rfl
theorem eqf59n : bn .eql 59 .nilf .nilf = some (.bool true) := by kernel_rfl
theorem nef59n : bn .neq 59 .nilf .nilf = some (.bool false) := by kernel_rfl
theorem eqf60n : bn .eql 60 .nilf .nilf = some (.bool true) := by kernel_rfl
theorem nef60n : bn .neq 60 .nilf .nilf = some (.bool false) := by kernel_rfl
theorem eqf62n : bn .eql 62 .nilf .nilf = some (.bool true) := by kernel_rfl
theorem nef62n : bn .neq 62 .nilf .nilf = some (.bool false) := by kernel_rfl
theorem eqf63n : bn .eql 63 .nilf .nilf = some (.bool true) := by kernel_rfl
theorem nef63n : bn .neq 63 .nilf .nilf = some (.bool false) := by kernel_rfl
theorem eqf64n : bn .eql 64 .nilf .nilf = some (.bool true) := by kernel_rfl
theorem nef64n : bn .neq 64 .nilf .nilf = some (.bool false) := by kernel_rfl
theorem tf65 : SlTy 65 151 2 true 24 := ⟨by kernel_rfl, by kernel_rfl, by kernel_rfl, by kernel_rfl, by decide⟩
theorem ln65s (ex : Bool) (l : List AV) (id : Nat) (s : St) : bt .len #[65] [.sl ex l] id s = some (.int .i64 l.length, s) := by kernel_rfl
theorem ln65n (id : Nat) (s : St) : bt .len #[65] [.nils] id s = some (.int .i64 0, s) := by kernel_rfl
theorem ln65r (i o n : Nat) (c : Option Nat) (e : TypeId) (id : Nat) (s : St) : bt .len #[65] [.ref i o n c e] id s = some (.int .i64 n, s) := by kernel_rfl
theorem ln65g {x : AV} {l : List AV} {s : St} (g : Gw 151 2 0 s x l) (id : Nat) : bt .len #[65] [x] id s = some (.int .i64 l.length, s) := by
  obtain ⟨_, ⟨rfl, rfl⟩ | ⟨i, _, rfl, _⟩⟩ := g
  · exact ln65n id s
  · exact ln65r ..
theorem zf65 : zr 65 = some (.nils) := by kernel_rfl
theorem zf66 : zr 66 = some (.agg [.str [], .int .i64 0, .bool false, .nils, .bool false, .int .i64 0, .str [], .int .i64 0, .int .i64 0, .nils]) := by kernel_rfl
theorem bf66 (l : List (Nat × AV)) : bld 66 l = (fillA (fun i => [(0, 1), (1, 1), (2, 1), (3, 1), (4, 6)][i]?) [.str [], .int .i64 0, .bool false, .nils, .bool false, .int .i64 0, .str [], .int .i64 0, .int .i64 0, .nils] l).map .agg := by kernel_rfl
theorem zf67 : zr 67 = some (.agg [.str [], .int .i64 0, .bool false, .nils, .bool false, .int .i64 0, .str [], .int .i64 0, .int .i64 0, .nils]) := by kernel_rfl
theorem bf67 (l : List (Nat × AV)) : bld 67 l = (fillA (fun i => [(0, 1), (1, 1), (2, 1), (3, 1), (4, 6)][i]?) [.str [], .int .i64 0, .bool false, .nils, .bool false, .int .i64 0, .str [], .int .i64 0, .int .i64 0, .nils] l).map .agg := by kernel_rfl
theorem eqf68n : bn .eql 68 .nilf .nilf = some (.bool true) := by kernel_rfl
theorem nef68n : bn .neq 68 .nilf .nilf = some (.bool false) := by kernel_rfl
theorem tf69 : SlTy 69 74 9 true 128 := ⟨by kernel_rfl, by kernel_rfl, by kernel_rfl, by kernel_rfl, by decide⟩
theorem ln69s (ex : Bool) (l : List AV) (id : Nat) (s : St) : bt .len #[69] [.sl ex l] id s = some (.int .i64 l.length, s) := by kernel_rfl
theorem ln69n (id : Nat) (s : St) : bt .len #[69] [.nils] id s = some (.int .i64 0, s) := by kernel_rfl
theorem ln69r (i o n : Nat) (c : Option Nat) (e : TypeId) (id : Nat) (s : St) : bt .len #[69] [.ref i o n c e] id s = some (.int .i64 n, s) := by kernel_rfl
theorem ln69g {x : AV} {l : List AV} {s : St} (g : Gw 74 9 0 s x l) (id : Nat) : bt .len #[69] [x] id s = some (.int .i64 l.length, s) := by
  obtain ⟨_, ⟨rfl, rfl⟩ | ⟨i, _, rfl, _⟩⟩ := g
  · exact ln69n id s
  · exact ln69r ..
theorem zf69 : zr 69 = some (.nils) := by kernel_rfl
theorem eqf70n : bn .eql 70 .nilf .nilf = some (.bool true) := by kernel_rfl
theorem nef70n : bn .neq 70 .nilf .nilf = some (.bool false) := by kernel_rfl
theorem eqf71n : bn .eql 71 .nilf .nilf = some (.bool true) := by kernel_rfl
theorem nef71n : bn .neq 71 .nilf .nilf = some (.bool false) := by kernel_rfl
theorem tf72 : SlTy 72 3 1 false 8 := ⟨by kernel_rfl, by kernel_rfl, by kernel_rfl, by kernel_rfl, by decide⟩
theorem ln72s (ex : Bool) (l : List AV) (id : Nat) (s : St) : bt .len #[72] [.sl ex l] id s = some (.int .i64 l.length, s) := by kernel_rfl
theorem ln72n (id : Nat) (s : St) : bt .len #[72] [.nils] id s = some (.int .i64 0, s) := by kernel_rfl
theorem ln72r (i o n : Nat) (c : Option Nat) (e : TypeId) (id : Nat) (s : St) : bt .len #[72] [.ref i o n c e] id s = some (.int .i64 n, s) := by kernel_rfl
theorem ln72g {x : AV} {l : List AV} {s : St} (g : Gw 3 1 0 s x l) (id : Nat) : bt .len #[72] [x] id s = some (.int .i64 l.length, s) := by
  obtain ⟨_, ⟨rfl, rfl⟩ | ⟨i, _, rfl, _⟩⟩ := g
  · exact ln72n id s
  · exact ln72r ..
theorem zf72 : zr 72 = some (.nils) := by kernel_rfl
theorem zf73 : zr 73 = some (.agg [.int .i64 0, .int .i64 0, .int .i64 0, .nils, .str [], .bool false, .bool false, .nils, .nils]) := by kernel_rfl
theorem bf73 (l : List (Nat × AV)) : bld 73 l = (fillA (fun i => [(0, 1), (1, 1), (2, 1), (3, 1), (4, 1), (5, 1), (6, 2), (8, 1)][i]?) [.int .i64 0, .int .i64 0, .int .i64 0, .nils, .str [], .bool false, .bool false, .nils, .nils] l).map .agg := by kernel_rfl
theorem zf74 : zr 74 = some (.agg [.int .i64 0, .int .i64 0, .int .i64 0, .nils, .str [], .bool false, .bool false, .nils, .nils]) := by kernel_rfl
theorem bf74 (l : List (Nat × AV)) : bld 74 l = (fillA (fun i => [(0, 1), (1, 1), (2, 1), (3, 1), (4, 1), (5, 1), (6, 2), (8, 1)][i]?) [.int .i64 0, .int .i64 0, .int .i64 0, .nils, .str [], .bool false, .bool false, .nils, .nils] l).map .agg := by kernel_rfl
theorem eqf75n : bn .eql 75 .nilf .nilf = some (.bool true) := by kernel_rfl
theorem nef75n : bn .neq 75 .nilf .nilf = some (.bool false) := by kernel_rfl
theorem eqf76n : bn .eql 76 .nilf .nilf = some (.bool true) := by kernel_rfl
theorem nef76n : bn .neq 76 .nilf .nilf = some (.bool false) := by kernel_rfl
theorem eqf77n : bn .eql 77 .nilf .nilf = some (.bool true) := by kernel_rfl
theorem nef77n : bn .neq 77 .nilf .nilf = some (.bool false) := by kernel_rfl
theorem eqf78n : bn .eql 78 .nilf .nilf = some (.bool true) := by kernel_rfl
theorem nef78n : bn .neq 78 .nilf .nilf = some (.bool false) := by kernel_rfl
theorem tf79 : SlTy 79 93 18 true 216 := ⟨by kernel_rfl, by kernel_rfl, by kernel_rfl, by kernel_rfl, by decide⟩
theorem ln79s (ex : Bool) (l : List AV) (id : Nat) (s : St) : bt .len #[79] [.sl ex l] id s = some (.int .i64 l.length, s) := by kernel_rfl
theorem ln79n (id : Nat) (s : St) : bt .len #[79] [.nils] id s = some (.int .i64 0, s) := by kernel_rfl
theorem ln79r (i o n : Nat) (c : Option Nat) (e : TypeId) (id : Nat) (s : St) : bt .len #[79] [.ref i o n c e] id s = some (.int .i64 n, s) := by kernel_rfl
theorem ln79g {x : AV} {l : List AV} {s : St} (g : Gw 93 18 0 s x l) (id : Nat) : bt .len #[79] [x] id s = some (.int .i64 l.length, s) := by
  obtain ⟨_, ⟨rfl, rfl⟩ | ⟨i, _, rfl, _⟩⟩ := g
  · exact ln79n id s
  · exact ln79r ..
theorem zf79 : zr 79 = some (.nils) := by kernel_rfl
theorem eqf80n : bn .eql 80 .nilf .nilf = some (.bool true) := by kernel_rfl
theorem nef80n : bn .neq 80 .nilf .nilf = some (.bool false) := by kernel_rfl
theorem zf81 : zr 81 = some (.nilp) := by kernel_rfl
theorem eqf81n : bn .eql 81 .nilp .nilp = some (.bool true) := by kernel_rfl
theorem eqf81p (i o : Nat) : bn .eql 81 (.ptr i o) .nilp = some (.bool false) := by kernel_rfl
theorem eqf81l (c : List AV) (o : Nat) : bn .eql 81 (.pel c o) .nilp = some (.bool false) := by kernel_rfl
theorem nef81n : bn .neq 81 .nilp .nilp = some (.bool false) := by kernel_rfl
theorem nef81p (i o : Nat) : bn .neq 81 (.ptr i o) .nilp = some (.bool true) := by kernel_rfl
theorem nef81l (c : List AV) (o : Nat) : bn .neq 81 (.pel c o) .nilp = some (.bool true) := by kernel_rfl
theorem zf82 : zr 82 = some (.agg [.nils, .nils]) := by kernel_rfl
theorem bf82 (l : List (Nat × AV)) : bld 82 l = (fillA (fun i => [(0, 1), (1, 1)][i]?) [.nils, .nils] l).map .agg := by kernel_rfl
theorem zf83 : zr 83 = some (.agg [.nils, .nils]) := by kernel_rfl
theorem bf83 (l : List (Nat × AV)) : bld 83 l = (fillA (fun i => [(0, 1), (1, 1)][i]?) [.nils, .nils] l).map .agg := by kernel_rfl
theorem zf84 : zr 84 = some (.agg [.nils, .nils]) := by kernel_rfl
theorem bf84 (l : List (Nat × AV)) : bld 84 l = (fillA (fun i => [(0, 1), (1, 1)][i]?) [.nils, .nils] l).map .agg := by kernel_rfl
theorem zf85 : zr 85 = some (.agg [.nils, .nils]) := by kernel_rfl
theorem bf85 (l : List (Nat × AV)) : bld 85 l = (fillA (fun i => [(0, 1), (1, 1)][i]?) [.nils, .nils] l).map .agg := by kernel_rfl
theorem zf86 : zr 86 = some (.nilm) := by kernel_rfl
theorem eqf86n : bn .eql 86 .nilm .nilm = some (.bool true) := by kernel_rfl
theorem eqf86p (i : Nat) : bn .eql 86 (.map i) .nilm = some (.bool false) := by kernel_rfl
theorem nef86n : bn .neq 86 .nilm .nilm = some (.bool false) := by kernel_rfl
theorem nef86p (i : Nat) : bn .neq 86 (.map i) .nilm = some (.bool true) := by kernel_rfl
theorem zf87 : zr 87 = some (.agg [.nils, .nils, .nils, .nils, .nilm]) := by kernel_rfl
theorem bf87 (l : List (Nat × AV)) : bld 87 l = (fillA (fun i => [(0, 2), (2, 2), (4, 1)][i]?) [.nils, .nils, .nils, .nils, .nilm] l).map .agg := by kernel_rfl
theorem zf88 : zr 88 = some (.agg [.nils, .nils, .nils, .nils, .nilm]) := by kernel_rfl
theorem bf88 (l : List (Nat × AV)) : bld 88 l = (fillA (fun i => [(0, 2), (2, 2), (4, 1)][i]?) [.nils, .nils, .nils, .nils, .nilm] l).map .agg := by kernel_rfl
theorem eqf89n : bn .eql 89 .nilf .nilf = some (.bool true) := by kernel_rfl
theorem nef89n : bn .neq 89 .nilf .nilf = some (.bool false) := by kernel_rfl
theorem eqf90n : bn .eql 90 .nilf .nilf = some (.bool true) := by kernel_rfl
theorem nef90n : bn .neq 90 .nilf .nilf = some (.bool false) := by kernel_rfl
theorem eqf91n : bn .eql 91 .nilf .nilf = some (.bool true) := by kernel_rfl
theorem nef91n : bn .neq 91 .nilf .nilf = some (.bool false) := by kernel_rfl
theorem zf92 : zr 92 = some (.agg [.int .i64 0, .int .i64 0, .str [], .int .i64 0, .bool false, .nils, .bool false, .int .i64 0, .str [], .int .i64 0, .int .i64 0, .nils, .bool false, .int .i64 0, .str [], .int .i64 0, .int .i64 0, .nils]) := by kernel_rfl
theorem bf92 (l : List (Nat × AV)) : bld 92 l = (fillA (fun i => [(0, 1), (1, 1), (2, 10), (12, 6)][i]?) [.int .i64 0, .int .i64 0, .str [], .int .i64 0, .bool false, .nils, .bool false, .int .i64 0, .str [], .int .i64 0, .int .i64 0, .nils, .bool false, .int .i64 0, .str [], .int .i64 0, .int .i64 0, .nils] l).map .agg := by kernel_rfl
theorem zf93 : zr 93 = some (.agg [.int .i64 0, .int .i64 0, .str [], .int .i64 0, .bool false, .nils, .bool false, .int .i64 0, .str [], .int .i64 0, .int .i64 0, .nils, .bool false, .int .i64 0, .str [], .int .i64 0, .int .i64 0, .nils]) := by kernel_rfl
theorem bf93 (l : List (Nat × AV)) : bld 93 l = (fillA (fun i => [(0, 1), (1, 1), (2, 10), (12, 6)][i]?) [.int .i64 0, .int .i64 0, .str [], .int .i64 0, .bool false, .nils, .bool false, .int .i64 0, .str [], .int .i64 0, .int .i64 0, .nils, .bool false, .int .i64 0, .str [], .int .i64 0, .int .i64 0, .nils] l).map .agg := by kernel_rfl
theorem eqf94n : bn .eql 94 .nilf .nilf = some (.bool true) := by kernel_rfl
theorem nef94n : bn .neq 94 .nilf .nilf = some (.bool false) := by kernel_rfl
theorem eqf95n : bn .eql 95 .nilf .nilf = some (.bool true) := by kernel_rfl
theorem nef95n : bn .neq 95 .nilf .nilf = some (.bool false) := by kernel_rfl
theorem eqf96n : bn .eql 96 .nilf .nilf = some (.bool true) := by kernel_rfl
theorem nef96n : bn .neq 96 .nilf .nilf = some (.bool false) := by kernel_rfl
theorem eqf97n : bn .eql 97 .nilf .nilf = some (.bool true) := by kernel_rfl
theorem nef97n : bn .neq 97 .nilf .nilf = some (.bool false) := by kernel_rfl
theorem eqf99n : bn .eql 99 .nilf .nilf = some (.bool true) := by kernel_rfl
theorem nef99n : bn .neq 99 .nilf .nilf = some (.bool false) := by kernel_rfl
theorem zf100 : zr 100 = some (.agg [.int .i64 0, .int .i64 0, .nils, .str [], .bool false, .nils, .nils]) := by kernel_rfl
theorem bf100 (l : List (Nat × AV)) : bld 100 l = (fillA (fun i => [(0, 1), (1, 1), (2, 1), (3, 1), (4, 2), (6, 1)][i]?) [.int .i64 0, .int .i64 0, .nils, .str [], .bool false, .nils, .nils] l).map .agg := by kernel_rfl
theorem zf101 : zr 101 = some (.agg [.int .i64 0, .int .i64 0, .nils, .str [], .bool false, .nils, .nils]) := by kernel_rfl
theorem bf101 (l : List (Nat × AV)) : bld 101 l = (fillA (fun i => [(0, 1), (1, 1), (2, 1), (3, 1), (4, 2), (6, 1)][i]?) [.int .i64 0, .int .i64 0, .nils, .str [], .bool false, .nils, .nils] l).map .agg := by kernel_rfl
theorem eqf103n : bn .eql 103 .nilf .nilf = some (.bool true) := by kernel_rfl
theorem nef103n : bn .neq 103 .nilf .nilf = some (.bool false) := by kernel_rfl
theorem eqf104n : bn .eql 104 .nilf .nilf = some (.bool true) := by kernel_rfl
theorem nef104n : bn .neq 104 .nilf .nilf = some (.bool false) := by kernel_rfl
theorem eqf105n : bn .eql 105 .nilf .nilf = some (.bool true) := by kernel_rfl
theorem nef105n : bn .neq 105 .nilf .nilf = some (.bool false) := by kernel_rfl
theorem eqf107n : bn .eql 107 .nilf .nilf = some (.bool true) := by kernel_rfl
theorem nef107n : bn .neq 107 .nilf .nilf = some (.bool false) := by kernel_rfl
theorem zf108 : zr 108 = some (.agg [.int .i64 0, .int .i64 0]) := by kernel_rfl
theorem bf108 (l : List (Nat × AV)) : bld 108 l = (fillA (fun i => [(0, 1), (1, 1)][i]?) [.int .i64 0, .int .i64 0] l).map .agg := by kernel_rfl
theorem zf109 : zr 109 = some (.agg [.int .i64 0, .int .i64 0]) := by kernel_rfl
theorem bf109 (l : List (Nat × AV)) : bld 109 l = (fillA (fun i => [(0, 1), (1, 1)][i]?) [.int .i64 0, .int .i64 0] l).map .agg := by kernel_rfl
theorem eqf110n : bn .eql 110 .nilf .nilf = some (.bool true) := by kernel_rfl
theorem nef110n : bn .neq 110 .nilf .nilf = some (.bool false) := by kernel_rfl
theorem eqf111n : bn .eql 111 .nilf .nilf = some (.bool true) := by kernel_rfl
theorem nef111n : bn .neq 111 .nilf .nilf = some (.bool false) := by kernel_rfl
theorem eqf112n : bn .eql 112 .nilf .nilf = some (.bool true) := by kernel_rfl
theorem nef112n : bn .neq 112 .nilf .nilf = some (.bool false) := by kernel_rfl
theorem eqf113n : bn .eql 113 .nilf .nilf = some (.bool true) := by kernel_rfl
theorem nef113n : bn .neq 113 .nilf .nilf = some (.bool false) := by kernel_rfl
theorem eqf114n : bn .eql 114 .nilf .nilf = some (.bool true) := by kernel_rfl
theorem nef114n : bn .neq 114 .nilf .nilf = some (.bool false) := by kernel_rfl
theorem eqf115n : bn .eql 115 .nilf .nilf = some (.bool true) := by kernel_rfl
theorem nef115n : bn .neq 115 .nilf .nilf = some (.bool false) := by kernel_rfl
theorem eqf116n : bn .eql 116 .nilf .nilf = some (.bool true) := by kernel_rfl
theorem nef116n : bn .neq 116 .nilf .nilf = some (.bool false) := by kernel_rfl
theorem eqf117n : bn .eql 117 .nilf .nilf = some (.bool true) := by kernel_rfl
theorem nef117n : bn .neq 117 .nilf .nilf = some (.bool false) := by kernel_rfl
theorem eqf118n : bn .eql 118 .nilf .nilf = some (.bool true) := by kernel_rfl
theorem nef118n : bn .neq 118 .nilf .nilf = some (.bool false) := by kernel_rfl
theorem zf119 : zr 119 = some (.agg [.str [], .str [], .str [], .str [], .str [], .str [], .str [], .str [], .str [], .str [], .str [], .str [], .str [], .str [], .str [], .str [], .str [], .str [], .str [], .str [], .str [], .str [], .str [], .str [], .str [], .str [], .str [], .str [], .str [], .str [], .str []]) := by kernel_rfl
theorem eqf120n : bn .eql 120 .nilf .nilf = some (.bool true) := by kernel_rfl
theorem nef120n : bn .neq 120 .nilf .nilf = some (.bool false) := by kernel_rfl
theorem zf121 : zr 121 = some (.nilp) := by kernel_rfl
theorem eqf121n : bn .eql 121 .nilp .nilp = some (.bool true) := by kernel_rfl
theorem eqf121p (i o : Nat) : bn .eql 121 (.ptr i o) .nilp = some (.bool false) := by kernel_rfl
theorem eqf121l (c : List AV) (o : Nat) : bn .eql 121 (.pel c o) .nilp = some (.bool false) := by kernel_rfl
theorem nef121n : bn .neq 121 .nilp .nilp = some (.bool false) := by kernel_rfl
theorem nef121p (i o : Nat) : bn .neq 121 (.ptr i o) .nilp = some (.bool true) := by kernel_rfl
theorem nef121l (c : List AV) (o : Nat) : bn .neq 121 (.pel c o) .nilp = some (.bool true) := by kernel_rfl
theorem tf122 : SlTy 122 254 2 true 48 := ⟨by kernel_rfl, by kernel_rfl, by kernel_rfl, by kernel_rfl, by decide⟩
theorem ln122s (ex : Bool) (l : List AV) (id : Nat) (s : St) : bt .len #[122] [.sl ex l] id s = some (.int .i64 l.length, s) := by kernel_rfl
theorem ln122n (id : Nat) (s : St) : bt .len #[122] [.nils] id s = some (.int .i64 0, s) := by kernel_rfl
theorem ln122r (i o n : Nat) (c : Option Nat) (e : TypeId) (id : Nat) (s : St) : bt .len #[122] [.ref i o n c e] id s = some (.int .i64 n, s) := by kernel_rfl
theorem ln122g {x : AV} {l : List AV} {s : St} (g : Gw 254 2 0 s x l) (id : Nat) : bt .len #[122] [x] id s = some (.int .i64 l.length, s) := by
  obtain ⟨_, ⟨rfl, rfl⟩ | ⟨i, _, rfl, _⟩⟩ := g
  · exact ln122n id s
  · exact ln122r ..
theorem zf122 : zr 122 = some (.nils) := by kernel_rfl
theorem zf123 : zr 123 = some (.agg [.nilp, .nils, .nils, .nilm]) := by kernel_rfl
theorem bf123 (l : List (Nat × AV)) : bld 123 l = (fillA (fun i => [(0, 1), (1, 1), (2, 1), (3, 1)][i]?) [.nilp, .nils, .nils, .nilm] l).map .agg := by kernel_rfl
theorem zf124 : zr 124 = some (.agg [.nilp, .nils, .nils, .nilm]) := by kernel_rfl
theorem bf124 (l : List (Nat × AV)) : bld 124 l = (fillA (fun i => [(0, 1), (1, 1), (2, 1), (3, 1)][i]?) [.nilp, .nils, .nils, .nilm] l).map .agg := by kernel_rfl
theorem eqf125n : bn .eql 125 .nilf .nilf = some (.bool true) := by kernel_rfl
theorem nef125n : bn .neq 125 .nilf .nilf = some (.bool false) := by kernel_rfl
theorem eqf126n : bn .eql 126 .nilf .nilf = some (.bool true) := by kernel_rfl
theorem nef126n : bn .neq 126 .nilf .nilf = some (.bool false) := by kernel_rfl
theorem eqf127n : bn .eql 127 .nilf .nilf = some (.bool true) := by kernel_rfl
theorem nef127n : bn .neq 127 .nilf .nilf = some (.bool false) := by kernel_rfl
theorem eqf128n : bn .eql 128 .nilf .nilf = some (.bool true) := by kernel_rfl
theorem nef128n : bn .neq 128 .nilf .nilf = some (.bool false) := by kernel_rfl
theorem eqf129n : bn .eql 129 .nilf .nilf = some (.bool true) := by kernel_rfl
theorem nef129n : bn .neq 129 .nilf .nilf = some (.bool false) := by kernel_rfl
theorem eqf130n : bn .eql 130 .nilf .nilf = some (.bool true) := by kernel_rfl
theorem nef130n : bn .neq 130 .nilf .nilf = some (.bool false) := by kernel_rfl
theorem eqf132n : bn .eql 132 .nilf .nilf = some (.bool true) := by kernel_rfl
theorem nef132n : bn .neq 132 .nilf .nilf = some (.bool false) := by kernel_rfl
theorem eqf133n : bn .eql 133 .nilf .nilf = some (.bool true) := by kernel_rfl
theorem nef133n : bn .neq 133 .nilf .nilf = some (.bool false) := by kernel_rfl
theorem eqf134n : bn .eql 134 .nilf .nilf = some (.bool true) := by kernel_rfl
theorem nef134n : bn .neq 134 .nilf .nilf = some (.bool false) := by kernel_rfl
theorem eqf135n : bn .eql 135 .nilf .nilf = some (.bool true) := by kernel_rfl
theorem nef135n : bn .neq 135 .nilf .nilf = some (.bool false) := by kernel_rfl
theorem eqf136n : bn .eql 136 .nilf .nilf = some (.bool true) := by kernel_rfl
theorem nef136n : bn .neq 136 .nilf .nilf = some (.bool false) := by kernel_rfl
theorem zf137 : zr 137 = some (.nilp) := by kernel_rfl
theorem eqf137n : bn .eql 137 .nilp .nilp = some (.bool true) := by kernel_rfl
theorem eqf137p (i o : Nat) : bn .eql 137 (.ptr i o) .nilp = some (.bool false) := by kernel_rfl
theorem eqf137l (c : List AV) (o : Nat) : bn .eql 137 (.pel c o) .nilp = some (.bool false) := by kernel_rfl
theorem nef137n : bn .neq 137 .nilp .nilp = some (.bool false) := by kernel_rfl
theorem nef137p (i o : Nat) : bn .neq 137 (.ptr i o) .nilp = some (.bool true) := by kernel_rfl
theorem nef137l (c : List AV) (o : Nat) : bn .neq 137 (.pel c o) .nilp = some (.bool true) := by kernel_rfl
theorem zf138 : zr 138 = some (.agg [.nilp, .int .i64 0]) := by kernel_rfl
theorem bf138 (l : List (Nat × AV)) : bld 138 l = (fillA (fun i => [(0, 1), (1, 1)][i]?) [.nilp, .int .i64 0] l).map .agg := by kernel_rfl
theorem zf139 : zr 139 = some (.agg [.nilp, .int .i64 0]) := by kernel_rfl
theorem bf139 (l : List (Nat × AV)) : bld 139 l = (fillA (fun i => [(0, 1), (1, 1)][i]?) [.nilp, .int .i64 0] l).map .agg := by kernel_rfl
theorem eqf140n : bn .eql 140 .nilf .nilf = some (.bool true) := by kernel_rfl
theorem nef140n : bn .neq 140 .nilf .nilf = some (.bool false) := by kernel_rfl
theorem eqf141n : bn .eql 141 .nilf .nilf = some (.bool true) := by kernel_rfl
theorem nef141n : bn .neq 141 .nilf .nilf = some (.bool false) := by kernel_rfl
theorem eqf142n : bn .eql 142 .nilf .nilf = some (.bool true) := by kernel_rfl
theorem nef142n : bn .neq 142 .nilf .nilf = some (.bool false) := by kernel_rfl
theorem eqf143n : bn .eql 143 .nilf .nilf = some (.bool true) := by kernel_rfl
theorem nef143n : bn .neq 143 .nilf .nilf = some (.bool false) := by kernel_rfl
theorem eqf144n : bn .eql 144 .nilf .nilf = some (.bool true) := by kernel_rfl
theorem nef144n : bn .neq 144 .nilf .nilf = some (.bool false) := by kernel_rfl
theorem eqf145n : bn .eql 145 .nilf .nilf = some (.bool true) := by kernel_rfl
theorem nef145n : bn .neq 145 .nilf .nilf = some (.bool false) := by kernel_rfl
theorem eqf146n : bn .eql 146 .nilf .nilf = some (.bool true) := by kernel_rfl
theorem nef146n : bn .neq 146 .nilf .nilf = some (.bool false) := by kernel_rfl
theorem eqf147n : bn .eql 147 .nilf .nilf = some (.bool true) := by kernel_rfl
theorem nef147n : bn .neq 147 .nilf .nilf = some (.bool false) := by kernel_rfl
theorem eqf148n : bn .eql 148 .nilf .nilf = some (.bool true) := by kernel_rfl
theorem nef148n : bn .neq 148 .nilf .nilf = some (.bool false) := by kernel_rfl
theorem eqf149n : bn .eql 149 .nilf .nilf = some (.bool true) := by kernel_rfl
theorem nef149n : bn .neq 149 .nilf .nilf = some (.bool false) := by kernel_rfl
theorem zf150 : zr 150 = some (.agg [.str [], .int .i64 0]) := by kernel_rfl
theorem bf150 (l : List (Nat × AV)) : bld 150 l = (fillA (fun i => [(0, 1), (1, 1)][i]?) [.str [], .int .i64 0] l).map .agg := by kernel_rfl
theorem zf151 : zr 151 = some (.agg [.str [], .int .i64 0]) := by kernel_rfl
theorem bf151 (l : List (Nat × AV)) : bld 151 l = (fillA (fun i => [(0, 1), (1, 1)][i]?) [.str [], .int .i64 0] l).map .agg := by kernel_rfl
theorem eqf152n : bn .eql 152 .nilf .nilf = some (.bool true) := by kernel_rfl
theorem nef152n : bn .neq 152 .nilf .nilf = some (.bool false) := by kernel_rfl
theorem zf153 : zr 153 = some (.nilp) := by kernel_rfl
theorem eqf153n : bn .eql 153 .nilp .nilp = some (.bool true) := by kernel_rfl
theorem eqf153p (i o : Nat) : bn .eql 153 (.ptr i o) .nilp = some (.bool false) := by kernel_rfl
theorem eqf153l (c : List AV) (o : Nat) : bn .eql 153 (.pel c o) .nilp = some (.bool false) := by kernel_rfl
theorem nef153n : bn .neq 153 .nilp .nilp = some (.bool false) := by kernel_rfl
theorem nef153p (i o : Nat) : bn .neq 153 (.ptr i o) .nilp = some (.bool true) := by kernel_rfl
theorem nef153l (c : List AV) (o : Nat) : bn .neq 153 (.pel c o) .nilp = some (.bool true) := by kernel_rfl
theorem eqf154n : bn .eql 154 .nilf .nilf = some (.bool true) := by kernel_rfl
theorem nef154n : bn .neq 154 .nilf .nilf = some (.bool false) := by kernel_rfl
theorem zf155 : zr 155 = some (.nilp) := by kernel_rfl
theorem eqf155n : bn .eql 155 .nilp .nilp = some (.bool true) := by kernel_rfl
theorem eqf155p (i o : Nat) : bn .eql 155 (.ptr i o) .nilp = some (.bool false) := by kernel_rfl
theorem eqf155l (c : List AV) (o : Nat) : bn .eql 155 (.pel c o) .nilp = some (.bool false) := by kernel_rfl
theorem nef155n : bn .neq 155 .nilp .nilp = some (.bool false) := by kernel_rfl
theorem nef155p (i o : Nat) : bn .neq 155 (.ptr i o) .nilp = some (.bool true) := by kernel_rfl
theorem nef155l (c : List AV) (o : Nat) : bn .neq 155 (.pel c o) .nilp = some (.bool true) := by kernel_rfl
theorem eqf156n : bn .eql 156 .nilf .nilf = some (.bool true) := by kernel_rfl
theorem nef156n : bn .neq 156 .nilf .nilf = some (.bool false) := by kernel_rfl
theorem eqf157n : bn .eql 157 .nilf .nilf = some (.bool true) := by kernel_rfl
theorem nef157n : bn .neq 157 .nilf .nilf = some (.bool false) := by kernel_rfl
theorem eqf158n : bn .eql 158 .nilf .nilf = some (.bool true) := by kernel_rfl
theorem nef158n : bn .neq 158 .nilf .nilf = some (.bool false) := by kernel_rfl
theorem zf159 : zr 159 = some (.int .u64 0) := by kernel_rfl
theorem zf160 : zr 160 = some (.nilp) := by kernel_rfl
theorem eqf160n : bn .eql 160 .nilp .nilp = some (.bool true) := by kernel_rfl
theorem eqf160p (i o : Nat) : bn .eql 160 (.ptr i o) .nilp = some (.bool false) := by kernel_rfl
theorem eqf160l (c : List AV) (o : Nat) : bn .eql 160 (.pel c o) .nilp = some (.bool false) := by kernel_rfl
theorem nef160n : bn .neq 160 .nilp .nilp = some (.bool false) := by kernel_rfl
theorem nef160p (i o : Nat) : bn .neq 160 (.ptr i o) .nilp = some (.bool true) := by kernel_rfl
theorem nef160l (c : List AV) (o : Nat) : bn .neq 160 (.pel c o) .nilp = some (.bool true) := by kernel_rfl
theorem tf161 : SlTy 161 5 1 false 1 := ⟨by kernel_rfl, by kernel_rfl, by kernel_rfl, by kernel_rfl, by decide⟩
theorem ln161s (ex : Bool) (l : List AV) (id : Nat) (s : St) : bt .len #[161] [.sl ex l] id s = some (.int .i64 l.length, s) := by kernel_rfl
theorem ln161n (id : Nat) (s : St) : bt .len #[161] [.nils] id s = some (.int .i64 0, s) := by kernel_rfl
theorem ln161r (i o n : Nat) (c : Option Nat) (e : TypeId) (id : Nat) (s : St) : bt .len #[161] [.ref i o n c e] id s = some (.int .i64 n, s) := by kernel_rfl
theorem ln161g {x : AV} {l : List AV} {s : St} (g : Gw 5 1 0 s x l) (id : Nat) : bt .len #[161] [x] id s = some (.int .i64 l.length, s) := by
  obtain ⟨_, ⟨rfl, rfl⟩ | ⟨i, _, rfl, _⟩⟩ := g
  · exact ln161n id s
  · exact ln161r ..
theorem zf161 : zr 161 = some (.nils) := by kernel_rfl
theorem zf162 : zr 162 = some (.agg [.nilp, .nils]) := by kernel_rfl
theorem bf162 (l : List (Nat × AV)) : bld 162 l = (fillA (fun i => [(0, 1), (1, 1)][i]?) [.nilp, .nils] l).map .agg := by kernel_rfl
theorem zf163 : zr 163 = some (.agg [.nilp, .nils]) := by kernel_rfl
theorem bf163 (l : List (Nat × AV)) : bld 163 l = (fillA (fun i => [(0, 1), (1, 1)][i]?) [.nilp, .nils] l).map .agg := by kernel_rfl
theorem eqf164n : bn .eql 164 .nilf .nilf = some (.bool true) := by kernel_rfl
theorem nef164n : bn .neq 164 .nilf .nilf = some (.bool false) := by kernel_rfl
theorem eqf165n : bn .eql 165 .nilf .nilf = some (.bool true) := by kernel_rfl
theorem nef165n : bn .neq 165 .nilf .nilf = some (.bool false) := by kernel_rfl
theorem eqf166n : bn .eql 166 .nilf .nilf = some (.bool true) := by kernel_rfl
theorem nef166n : bn .neq 166 .nilf .nilf = some (.bool false) := by kernel_rfl
theorem eqf167n : bn .eql 167 .nilf .nilf = some (.bool true) := by kernel_rfl
theorem nef167n : bn .neq 167 .nilf .nilf = some (.bool false) := by kernel_rfl
theorem eqf169n : bn .eql 169 .nilf .nilf = some (.bool true) := by kernel_rfl
theorem nef169n : bn .neq 169 .nilf .nilf = some (.bool false) := by kernel_rfl
theorem eqf170n : bn .eql 170 .nilf .nilf = some (.bool true) := by kernel_rfl
theorem nef170n : bn .neq 170 .nilf .nilf = some (.bool false) := by kernel_rfl
theorem eqf171n : bn .eql 171 .nilf .nilf = some (.bool true) := by kernel_rfl
theorem nef171n : bn .neq 171 .nilf .nilf = some (.bool false) := by kernel_rfl
theorem eqf172n : bn .eql 172 .nilf .nilf = some (.bool true) := by kernel_rfl
theorem nef172n : bn .neq 172 .nilf .nilf = some (.bool false) := by kernel_rfl
theorem tf173 : SlTy 173 4 1 false 1 := ⟨by kernel_rfl, by kernel_rfl, by kernel_rfl, by kernel_rfl, by decide⟩
theorem ln173s (ex : Bool) (l : List AV) (id : Nat) (s : St) : bt .len #[173] [.sl ex l] id s = some (.int .i64 l.length, s) := by kernel_rfl
theorem ln173n (id : Nat) (s : St) : bt .len #[173] [.nils] id s = some (.int .i64 0, s) := by kernel_rfl
theorem ln173r (i o n : Nat) (c : Option Nat) (e : TypeId) (id : Nat) (s : St) : bt .len #[173] [.ref i o n c e] id s = some (.int .i64 n, s) := by kernel_rfl
theorem ln173g {x : AV} {l : List AV} {s : St} (g : Gw 4 1 0 s x l) (id : Nat) : bt .len #[173] [x] id s = some (.int .i64 l.length, s) := by
  obtain ⟨_, ⟨rfl, rfl⟩ | ⟨i, _, rfl, _⟩⟩ := g
  · exact ln173n id s
  · exact ln173r ..
theorem zf173 : zr 173 = some (.nils) := by kernel_rfl
theorem eqf174n : bn .eql 174 .nilf .nilf = some (.bool true) := by kernel_rfl
theorem nef174n : bn .neq 174 .nilf .nilf = some (.bool false) := by kernel_rfl
theorem eqf175n : bn .eql 175 .nilf .nilf = some (.bool true) := by kernel_rfl
theorem nef175n : bn .neq 175 .nilf .nilf = some (.bool false) := by kernel_rfl
theorem eqf176n : bn .eql 176 .nilf .nilf = some (.bool true) := by kernel_rfl
theorem nef176n : bn .neq 176 .nilf .nilf = some (.bool false) := by kernel_rfl
theorem eqf177n : bn .eql 177 .nilf .nilf = some (.bool true) := by kernel_rfl
theorem nef177n : bn .neq 177 .nilf .nilf = some (.bool false) := by kernel_rfl
theorem eqf178n : bn .eql 178 .nilf .nilf = some (.bool true) := by kernel_rfl
theorem nef178n : bn .neq 178 .nilf .nilf = some (.bool false) := by kernel_rfl
theorem tf179 : SlTy 179 182 8 true 88 := ⟨by kernel_rfl, by kernel_rfl, by kernel_rfl, by kernel_rfl, by decide⟩
theorem ln179s (ex : Bool) (l : List AV) (id : Nat) (s : St) : bt .len #[179] [.sl ex l] id s = some (.int .i64 l.length, s) := by kernel_rfl
theorem ln179n (id : Nat) (s : St) : bt .len #[179] [.nils] id s = some (.int .i64 0, s) := by kernel_rfl
theorem ln179r (i o n : Nat) (c : Option Nat) (e : TypeId) (id : Nat) (s : St) : bt .len #[179] [.ref i o n c e] id s = some (.int .i64 n, s) := by kernel_rfl
theorem ln179g {x : AV} {l : List AV} {s : St} (g : Gw 182 8 0 s x l) (id : Nat) : bt .len #[179] [x] id s = some (.int .i64 l.length, s) := by
  obtain ⟨_, ⟨rfl, rfl⟩ | ⟨i, _, rfl, _⟩⟩ := g
  · exact ln179n id s
  · exact ln179r ..
theorem zf179 : zr 179 = some (.nils) := by kernel_rfl
theorem eqf180n : bn .eql 180 .nilf .nilf = some (.bool true) := by kernel_rfl
theorem nef180n : bn .neq 180 .nilf .nilf = some (.bool false) := by kernel_rfl
theorem zf181 : zr 181 = some (.agg [.bool false, .int .i64 0, .str [], .int .i64 0, .int .i64 0, .nils, .int .i64 0, .int .i64 0]) := by kernel_rfl
theorem bf181 (l : List (Nat × AV)) : bld 181 l = (fillA (fun i => [(0, 6), (6, 1), (7, 1)][i]?) [.bool false, .int .i64 0, .str [], .int .i64 0, .int .i64 0, .nils, .int .i64 0, .int .i64 0] l).map .agg := by kernel_rfl
theorem zf182 : zr 182 = some (.agg [.bool false, .int .i64 0, .str [], .int .i64 0, .int .i64 0, .nils, .int .i64 0, .int .i64 0]) := by kernel_rfl
theorem bf182 (l : List (Nat × AV)) : bld 182 l = (fillA (fun i => [(0, 6), (6, 1), (7, 1)][i]?) [.bool false, .int .i64 0, .str [], .int .i64 0, .int .i64 0, .nils, .int .i64 0, .int .i64 0] l).map .agg := by kernel_rfl
theorem eqf184n : bn .eql 184 .nilf .nilf = some (.bool true) := by kernel_rfl
theorem nef184n : bn .neq 184 .nilf .nilf = some (.bool false) := by kernel_rfl
theorem eqf186n : bn .eql 186 .nilf .nilf = some (.bool true) := by kernel_rfl
theorem nef186n : bn .neq 186 .nilf .nilf = some (.bool false) := by kernel_rfl
theorem eqf187n : bn .eql 187 .nilf .nilf = some (.bool true) := by kernel_rfl
theorem nef187n : bn .neq 187 .nilf .nilf = some (.bool false) := by kernel_rfl
theorem eqf188n : bn .eql 188 .nilf .nilf = some (.bool true) := by kernel_rfl
theorem nef188n : bn .neq 188 .nilf .nilf = some (.bool false) := by kernel_rfl
theorem eqf189n : bn .eql 189 .nilf .nilf = some (.bool true) := by kernel_rfl
theorem nef189n : bn .neq 189 .nilf .nilf = some (.bool false) := by kernel_rfl
theorem zf190 : zr 190 = some (.agg [.int .i64 0, .int .i64 0, .int .i64 0]) := by kernel_rfl
theorem zf191 : zr 191 = some (.agg [.int .i64 0, .bool false, .int .i64 0, .int .i64 0, .int .i64 0, .int .i64 0]) := by kernel_rfl
theorem bf191 (l : List (Nat × AV)) : bld 191 l = (fillA (fun i => [(0, 1), (1, 1), (2, 3), (5, 1)][i]?) [.int .i64 0, .bool false, .int .i64 0, .int .i64 0, .int .i64 0, .int .i64 0] l).map .agg := by kernel_rfl
theorem zf192 : zr 192 = some (.agg [.int .i64 0, .bool false, .int .i64 0, .int .i64 0, .int .i64 0, .int .i64 0]) := by kernel_rfl
theorem bf192 (l : List (Nat × AV)) : bld 192 l = (fillA (fun i => [(0, 1), (1, 1), (2, 3), (5, 1)][i]?) [.int .i64 0, .bool false, .int .i64 0, .int .i64 0, .int .i64 0, .int .i64 0] l).map .agg := by kernel_rfl
theorem eqf194n : bn .eql 194 .nilf .nilf = some (.bool true) := by kernel_rfl
theorem nef194n : bn .neq 194 .nilf .nilf = some (.bool false) := by kernel_rfl
theorem eqf195n : bn .eql 195 .nilf .nilf = some (.bool true) := by kernel_rfl
theorem nef195n : bn .neq 195 .nilf .nilf = some (.bool false) := by kernel_rfl
theorem eqf196n : bn .eql 196 .nilf .nilf = some (.bool true) := by kernel_rfl
theorem nef196n : bn .neq 196 .nilf .nilf = some (.bool false) := by kernel_rfl
theorem eqf197n : bn .eql 197 .nilf .nilf = some (.bool true) := by kernel_rfl
theorem nef197n : bn .neq 197 .nilf .nilf = some (.bool false) := by kernel_rfl
theorem eqf199n : bn .eql 199 .nilf .nilf = some (.bool true) := by kernel_rfl
theorem nef199n : bn .neq 199 .nilf .nilf = some (.bool false) := by kernel_rfl
theorem eqf200n : bn .eql 200 .nilf .nilf = some (.bool true) := by kernel_rfl
theorem nef200n : bn .neq 200 .nilf .nilf = some (.bool false) := by kernel_rfl
theorem eqf201n : bn .eql 201 .nilf .nilf = some (.bool true) := by kernel_rfl
theorem nef201n : bn .neq 201 .nilf .nilf = some (.bool false) := by kernel_rfl
theorem eqf202n : bn .eql 202 .nilf .nilf = some (.bool true) := by kernel_rfl
theorem nef202n : bn .neq 202 .nilf .nilf = some (.bool false) := by kernel_rfl
theorem eqf203n : bn .eql 203 .nilf .nilf = some (.bool true) := by kernel_rfl
theorem nef203n : bn .neq 203 .nilf .nilf = some (.bool false) := by kernel_rfl
theorem eqf204n : bn .eql 204 .nilf .nilf = some (.bool true) := by kernel_rfl
theorem nef204n : bn .neq 204 .nilf .nilf = some (.bool false) := by kernel_rfl
theorem eqf205n : bn .eql 205 .nilf .nilf = some (.bool true) := by kernel_rfl
theorem nef205n : bn .neq 205 .nilf .nilf = some (.bool false) := by kernel_rfl
theorem eqf206n : bn .eql 206 .nilf .nilf = some (.bool true) := by kernel_rfl
theorem nef206n : bn .neq 206 .nilf .nilf = some (.bool false) := by kernel_rfl
theorem eqf207n : bn .eql 207 .nilf .nilf = some (.bool true) := by kernel_rfl
theorem nef207n : bn .neq 207 .nilf .nilf = some (.bool false) := by kernel_rfl
theorem eqf208n : bn .eql 208 .nilf .nilf = some (.bool true) := by kernel_rfl
theorem nef208n : bn .neq 208 .nilf .nilf = some (.bool false) := by kernel_rfl
theorem eqf209n : bn .eql 209 .nilf .nilf = some (.bool true) := by kernel_rfl
theorem nef209n : bn .neq 209 .nilf .nilf = some (.bool false) := by kernel_rfl
theorem eqf210n : bn .eql 210 .nilf .nilf = some (.bool true) := by kernel_rfl
theorem nef210n : bn .neq 210 .nilf .nilf = some (.bool false) := by kernel_rfl
theorem zf211 : zr 211 = some (.int .u32 0) := by kernel_rfl
theorem eqf212n : bn .eql 212 .nilf .nilf = some (.bool true) := by kernel_rfl
theorem nef212n : bn .neq 212 .nilf .nilf = some (.bool false) := by kernel_rfl
theorem zf213 : zr 213 = some (.int .u64 0) := by kernel_rfl
theorem eqf214n : bn .eql 214 .nilf .nilf = some (.bool true) := by kernel_rfl
theorem nef214n : bn .neq 214 .nilf .nilf = some (.bool false) := by kernel_rfl
theorem eqf218n : bn .eql 218 .nilf .nilf = some (.bool true) := by kernel_rfl
theorem nef218n : bn .neq 218 .nilf .nilf = some (.bool false) := by kernel_rfl
theorem eqf219n : bn .eql 219 .nilf .nilf = some (.bool true) := by kernel_rfl
theorem nef219n : bn .neq 219 .nilf .nilf = some (.bool false) := by kernel_rfl
theorem zf220 : zr 220 = some (.nilp) := by kernel_rfl
theorem eqf220n : bn .eql 220 .nilp .nilp = some (.bool true) := by kernel_rfl
theorem eqf220p (i o : Nat) : bn .eql 220 (.ptr i o) .nilp = some (.bool false) := by kernel_rfl
theorem eqf220l (c : List AV) (o : Nat) : bn .eql 220 (.pel c o) .nilp = some (.bool false) := by kernel_rfl
theorem nef220n : bn .neq 220 .nilp .nilp = some (.bool false) := by kernel_rfl
theorem nef220p (i o : Nat) : bn .neq 220 (.ptr i o) .nilp = some (.bool true) := by kernel_rfl
theorem nef220l (c : List AV) (o : Nat) : bn .neq 220 (.pel c o) .nilp = some (.bool true) := by kernel_rfl
theorem tf221 : SlTy 221 31 1 false 24 := ⟨by kernel_rfl, by kernel_rfl, by kernel_rfl, by kernel_rfl, by decide⟩
theorem ln221s (ex : Bool) (l : List AV) (id : Nat) (s : St) : bt .len #[221] [.sl ex l] id s = some (.int .i64 l.length, s) := by kernel_rfl
theorem ln221n (id : Nat) (s : St) : bt .len #[221] [.nils] id s = some (.int .i64 0, s) := by kernel_rfl
theorem ln221r (i o n : Nat) (c : Option Nat) (e : TypeId) (id : Nat) (s : St) : bt .len #[221] [.ref i o n c e] id s = some (.int .i64 n, s) := by kernel_rfl
theorem ln221g {x : AV} {l : List AV} {s : St} (g : Gw 31 1 0 s x l) (id : Nat) : bt .len #[221] [x] id s = some (.int .i64 l.length, s) := by
  obtain ⟨_, ⟨rfl, rfl⟩ | ⟨i, _, rfl, _⟩⟩ := g
  · exact ln221n id s
  · exact ln221r ..
theorem zf221 : zr 221 = some (.nils) := by kernel_rfl
theorem eqf222n : bn .eql 222 .nilf .nilf = some (.bool true) := by kernel_rfl
theorem nef222n : bn .neq 222 .nilf .nilf = some (.bool false) := by kernel_rfl
theorem zf223 : zr 223 = some (.agg [.int .u8 0, .int .u8 0, .int .u8 0, .int .u8 0, .int .u8 0, .int .u8 0, .int .u8 0, .int .u8 0, .int .u8 0]) := by kernel_rfl
theorem eqf224n : bn .eql 224 .nilf .nilf = some (.bool true) := by kernel_rfl
theorem nef224n : bn .neq 224 .nilf .nilf = some (.bool false) := by kernel_rfl
theorem eqf228n : bn .eql 228 .nilf .nilf = some (.bool true) := by kernel_rfl
theorem nef228n : bn .neq 228 .nilf .nilf = some (.bool false) := by kernel_rfl
theorem eqf229n : bn .eql 229 .nilf .nilf = some (.bool true) := by kernel_rfl
theorem nef229n : bn .neq 229 .nilf .nilf = some (.bool false) := by kernel_rfl
theorem zf230 : zr 230 = some (.nilp) := by kernel_rfl
theorem eqf230n : bn .eql 230 .nilp .nilp = some (.bool true) := by kernel_rfl
theorem eqf230p (i o : Nat) : bn .eql 230 (.ptr i o) .nilp = some (.bool false) := by kernel_rfl
theorem eqf230l (c : List AV) (o : Nat) : bn .eql 230 (.pel c o) .nilp = some (.bool false) := by kernel_rfl
theorem nef230n : bn .neq 230 .nilp .nilp = some (.bool false) := by kernel_rfl
theorem nef230p (i o : Nat) : bn .neq 230 (.ptr i o) .nilp = some (.bool true) := by kernel_rfl
theorem nef230l (c : List AV) (o : Nat) : bn .neq 230 (.pel c o) .nilp = some (.bool true) := by kernel_rfl
theorem eqf231n : bn .eql 231 .nilf .nilf = some (.bool true) := by kernel_rfl
theorem nef231n : bn .neq 231 .nilf .nilf = some (.bool false) := by kernel_rfl
theorem eqf232n : bn .eql 232 .nilf .nilf = some (.bool true) := by kernel_rfl
theorem nef232n : bn .neq 232 .nilf .nilf = some (.bool false) := by kernel_rfl
theorem eqf233n : bn .eql 233 .nilf .nilf = some (.bool true) := by kernel_rfl
theorem nef233n : bn .neq 233 .nilf .nilf = some (.bool false) := by kernel_rfl
theorem eqf234n : bn .eql 234 .nilf .nilf = some (.bool true) := by kernel_rfl
theorem nef234n : bn .neq 234 .nilf .nilf = some (.bool false) := by kernel_rfl
theorem eqf235n : bn .eql 235 .nilf .nilf = some (.bool true) := by kernel_rfl
theorem nef235n : bn .neq 235 .nilf .nilf = some (.bool false) := by kernel_rfl
theorem eqf236n : bn .eql 236 .nilf .nilf = some (.bool true) := by kernel_rfl
theorem nef236n : bn .neq 236 .nilf .nilf = some (.bool false) := by kernel_rfl
theorem tf237 : SlTy 237 30 3 true 32 := ⟨by kernel_rfl, by kernel_rfl, by kernel_rfl, by kernel_rfl, by decide⟩
theorem ln237s (ex : Bool) (l : List AV) (id : Nat) (s : St) : bt .len #[237] [.sl ex l] id s = some (.int .i64 l.length, s) := by kernel_rfl
theorem ln237n (id : Nat) (s : St) : bt .len #[237] [.nils] id s = some (.int .i64 0, s) := by kernel_rfl
theorem ln237r (i o n : Nat) (c : Option Nat) (e : TypeId) (id : Nat) (s : St) : bt .len #[237] [.ref i o n c e] id s = some (.int .i64 n, s) := by kernel_rfl
theorem ln237g {x : AV} {l : List AV} {s : St} (g : Gw 30 3 0 s x l) (id : Nat) : bt .len #[237] [x] id s = some (.int .i64 l.length, s) := by
  obtain ⟨_, ⟨rfl, rfl⟩ | ⟨i, _, rfl, _⟩⟩ := g
  · exact ln237n id s
  · exact ln237r ..
theorem zf237 : zr 237 = some (.nils) := by kernel_rfl
theorem eqf239n : bn .eql 239 .nilf .nilf = some (.bool true) := by kernel_rfl
theorem nef239n : bn .neq 239 .nilf .nilf = some (.bool false) := by kernel_rfl
theorem eqf240n : bn .eql 240 .nilf .nilf = some (.bool true) := by kernel_rfl
theorem nef240n : bn .neq 240 .nilf .nilf = some (.bool false) := by kernel_rfl
theorem eqf242n : bn .eql 242 .nilf .nilf = some (.bool true) := by kernel_rfl
theorem nef242n : bn .neq 242 .nilf .nilf = some (.bool false) := by kernel_rfl
theorem eqf243n : bn .eql 243 .nilf .nilf = some (.bool true) := by kernel_rfl
theorem nef243n : bn .neq 243 .nilf .nilf = some (.bool false) := by kernel_rfl
theorem eqf244n : bn .eql 244 .nilf .nilf = some (.bool true) := by kernel_rfl
theorem nef244n : bn .neq 244 .nilf .nilf = some (.bool false) := by kernel_rfl
theorem eqf245n : bn .eql 245 .nilf .nilf = some (.bool true) := by kernel_rfl
theorem nef245n : bn .neq 245 .nilf .nilf = some (.bool false) := by kernel_rfl
theorem eqf247n : bn .eql 247 .nilf .nilf = some (.bool true) := by kernel_rfl
theorem nef247n : bn .neq 247 .nilf .nilf = some (.bool false) := by kernel_rfl
theorem eqf248n : bn .eql 248 .nilf .nilf = some (.bool true) := by kernel_rfl
theorem nef248n : bn .neq 248 .nilf .nilf = some (.bool false) := by kernel_rfl
theorem eqf249n : bn .eql 249 .nilf .nilf = some (.bool true) := by kernel_rfl
theorem nef249n : bn .neq 249 .nilf .nilf = some (.bool false) := by kernel_rfl
theorem eqf250n : bn .eql 250 .nilf .nilf = some (.bool true) := by kernel_rfl
theorem nef250n : bn .neq 250 .nilf .nilf = some (.bool false) := by kernel_rfl
theorem eqf251n : bn .eql 251 .nilf .nilf = some (.bool true) := by kernel_rfl
theorem nef251n : bn .neq 251 .nilf .nilf = some (.bool false) := by kernel_rfl
theorem eqf252n : bn .eql 252 .nilf .nilf = some (.bool true) := by kernel_rfl
theorem nef252n : bn .neq 252 .nilf .nilf = some (.bool false) := by kernel_rfl
theorem zf253 : zr 253 = some (.agg [.nils, .nils]) := by kernel_rfl
theorem bf253 (l : List (Nat × AV)) : bld 253 l = (fillA (fun i => [(0, 1), (1, 1)][i]?) [.nils, .nils] l).map .agg := by kernel_rfl
theorem zf254 : zr 254 = some (.agg [.nils, .nils]) := by kernel_rfl
theorem bf254 (l : List (Nat × AV)) : bld 254 l = (fillA (fun i => [(0, 1), (1, 1)][i]?) [.nils, .nils] l).map .agg := by kernel_rfl
theorem eqf255n : bn .eql 255 .nilf .nilf = some (.bool true) := by kernel_rfl
theorem nef255n : bn .neq 255 .nilf .nilf = some (.bool false) := by kernel_rfl
theorem eqf256n : bn .eql 256 .nilf .nilf = some (.bool true) := by kernel_rfl
theorem nef256n : bn .neq 256 .nilf .nilf = some (.bool false) := by kernel_rfl
theorem eqf257n : bn .eql 257 .nilf .nilf = some (.bool true) := by kernel_rfl
theorem nef257n : bn .neq 257 .nilf .nilf = some (.bool false) := by kernel_rfl
theorem eqf258n : bn .eql 258 .nilf .nilf = some (.bool true) := by kernel_rfl
theorem nef258n : bn .neq 258 .nilf .nilf = some (.bool false) := by kernel_rfl
theorem eqf260n : bn .eql 260 .nilf .nilf = some (.bool true) := by kernel_rfl
theorem nef260n : bn .neq 260 .nilf .nilf = some (.bool false) := by kernel_rfl
theorem eqf261n : bn .eql 261 .nilf .nilf = some (.bool true) := by kernel_rfl
theorem nef261n : bn .neq 261 .nilf .nilf = some (.bool false) := by kernel_rfl
theorem eqf262n : bn .eql 262 .nilf .nilf = some (.bool true) := by kernel_rfl
theorem nef262n : bn .neq 262 .nilf .nilf = some (.bool false) := by kernel_rfl
theorem eqf263n : bn .eql 263 .nilf .nilf = some (.bool true) := by kernel_rfl
theorem nef263n : bn .neq 263 .nilf .nilf = some (.bool false) := by kernel_rfl
theorem eqf265n : bn .eql 265 .nilf .nilf = some (.bool true) := by kernel_rfl
theorem nef265n : bn .neq 265 .nilf .nilf = some (.bool false) := by kernel_rfl
theorem eqf266n : bn .eql 266 .nilf .nilf = some (.bool true) := by kernel_rfl
theorem nef266n : bn .neq 266 .nilf .nilf = some (.bool false) := by kernel_rfl
theorem eqf267n : bn .eql 267 .nilf .nilf = some (.bool true) := by kernel_rfl
theorem nef267n : bn .neq 267 .nilf .nilf = some (.bool false) := by kernel_rfl
theorem eqf269n : bn .eql 269 .nilf .nilf = some (.bool true) := by kernel_rfl
theorem nef269n : bn .neq 269 .nilf .nilf = some (.bool false) := by kernel_rfl
theorem eqf270n : bn .eql 270 .nilf .nilf = some (.bool true) := by kernel_rfl
theorem nef270n : bn .neq 270 .nilf .nilf = some (.bool false) := by kernel_rfl
theorem eqf271n : bn .eql 271 .nilf .nilf = some (.bool true) := by kernel_rfl
theorem nef271n : bn .neq 271 .nilf .nilf = some (.bool false) := by kernel_rfl
theorem eqf272n : bn .eql 272 .nilf .nilf = some (.bool true) := by kernel_rfl
theorem nef272n : bn .neq 272 .nilf .nilf = some (.bool false) := by kernel_rfl
theorem eqf274n : bn .eql 274 .nilf .nilf = some (.bool true) := by kernel_rfl
theorem nef274n : bn .neq 274 .nilf .nilf = some (.bool false) := by kernel_rfl
theorem eqf276n : bn .eql 276 .nilf .nilf = some (.bool true) := by kernel_rfl
theorem nef276n : bn .neq 276 .nilf .nilf = some (.bool false) := by kernel_rfl
theorem zf277 : zr 277 = some (.nilp) := by kernel_rfl
theorem eqf277n : bn .eql 277 .nilp .nilp = some (.bool true) := by kernel_rfl
theorem eqf277p (i o : Nat) : bn .eql 277 (.ptr i o) .nilp = some (.bool false) := by kernel_rfl
theorem eqf277l (c : List AV) (o : Nat) : bn .eql 277 (.pel c o) .nilp = some (.bool false) := by kernel_rfl
theorem nef277n : bn .neq 277 .nilp .nilp = some (.bool false) := by kernel_rfl
theorem nef277p (i o : Nat) : bn .neq 277 (.ptr i o) .nilp = some (.bool true) := by kernel_rfl
theorem nef277l (c : List AV) (o : Nat) : bn .neq 277 (.pel c o) .nilp = some (.bool true) := by kernel_rfl
theorem eqf278n : bn .eql 278 .nilf .nilf = some (.bool true) := by kernel_rfl
theorem nef278n : bn .neq 278 .nilf .nilf = some (.bool false) := by kernel_rfl
theorem eqf279n : bn .eql 279 .nilf .nilf = some (.bool true) := by kernel_rfl
theorem nef279n : bn .neq 279 .nilf .nilf = some (.bool false) := by kernel_rfl
theorem eqf280n : bn .eql 280 .nilf .nilf = some (.bool true) := by kernel_rfl
theorem nef280n : bn .neq 280 .nilf .nilf = some (.bool false) := by kernel_rfl
theorem eqf281n : bn .eql 281 .nilf .nilf = some (.bool true) := by kernel_rfl
theorem nef281n : bn .neq 281 .nilf .nilf = some (.bool false) := by kernel_rfl
theorem eqf282n : bn .eql 282 .nilf .nilf = some (.bool true) := by kernel_rfl
theorem nef282n : bn .neq 282 .nilf .nilf = some (.bool false) := by kernel_rfl
theorem eqf283n : bn .eql 283 .nilf .nilf = some (.bool true) := by kernel_rfl
theorem nef283n : bn .neq 283 .nilf .nilf = some (.bool false) := by kernel_rfl
theorem eqf284n : bn .eql 284 .nilf .nilf = some (.bool true) := by kernel_rfl
theorem nef284n : bn .neq 284 .nilf .nilf = some (.bool false) := by kernel_rfl
theorem eqf285n : bn .eql 285 .nilf .nilf = some (.bool true) := by kernel_rfl
theorem nef285n : bn .neq 285 .nilf .nilf = some (.bool false) := by kernel_rfl
theorem eqf287n : bn .eql 287 .nilf .nilf = some (.bool true) := by kernel_rfl
theorem nef287n : bn .neq 287 .nilf .nilf = some (.bool false) := by kernel_rfl
theorem eqf289n : bn .eql 289 .nilf .nilf = some (.bool true) := by kernel_rfl
theorem nef289n : bn .neq 289 .nilf .nilf = some (.bool false) := by kernel_rfl
theorem eqf290n : bn .eql 290 .nilf .nilf = some (.bool true) := by kernel_rfl
theorem nef290n : bn .neq 290 .nilf .nilf = some (.bool false) := by kernel_rfl
theorem eqf292n : bn .eql 292 .nilf .nilf = some (.bool true) := by kernel_rfl
theorem nef292n : bn .neq 292 .nilf .nilf = some (.bool false) := by kernel_rfl
theorem eqf293n : bn .eql 293 .nilf .nilf = some (.bool true) := by kernel_rfl
theorem nef293n : bn .neq 293 .nilf .nilf = some (.bool false) := by kernel_rfl
theorem eqf294n : bn .eql 294 .nilf .nilf = some (.bool true) := by kernel_rfl
theorem nef294n : bn .neq 294 .nilf .nilf = some (.bool false) := by kernel_rfl
theorem eqf295n : bn .eql 295 .nilf .nilf = some (.bool true) := by kernel_rfl
theorem nef295n : bn .neq 295 .nilf .nilf = some (.bool false) := by kernel_rfl
theorem eqf296n : bn .eql 296 .nilf .nilf = some (.bool true) := by kernel_rfl
theorem nef296n : bn .neq 296 .nilf .nilf = some (.bool false) := by kernel_rfl
theorem eqf297n : bn .eql 297 .nilf .nilf = some (.bool true) := by kernel_rfl
theorem nef297n : bn .neq 297 .nilf .nilf = some (.bool false) := by kernel_rfl
theorem zf299 : zr 299 = some (.agg [.int .u8 0, .int .u8 0]) := by kernel_rfl
theorem bf299 (l : List (Nat × AV)) : bld 299 l = (fillA (fun i => [(0, 1), (1, 1)][i]?) [.int .u8 0, .int .u8 0] l).map .agg := by kernel_rfl
theorem zf300 : zr 300 = some (.agg [.int .u8 0, .int .u8 0]) := by kernel_rfl
theorem bf300 (l : List (Nat × AV)) : bld 300 l = (fillA (fun i => [(0, 1), (1, 1)][i]?) [.int .u8 0, .int .u8 0] l).map .agg := by kernel_rfl
theorem zf301 : zr 301 = some (.agg [.int .u8 0, .int .u8 0, .int .u8 0, .int .u8 0, .int .u8 0, .int .u8 0, .int .u8 0, .int .u8 0, .int .u8 0, .int .u8 0, .int .u8 0, .int .u8 0, .int .u8 0, .int .u8 0, .int .u8 0, .int .u8 0, .int .u8 0, .int .u8 0, .int .u8 0, .int .u8 0, .int .u8 0, .int .u8 0, .int .u8 0, .int .u8 0, .int .u8 0, .int .u8 0, .int .u8 0, .int .u8 0, .int .u8 0, .int .u8 0, .int .u8 0, .int .u8 0]) := by kernel_rfl
theorem eqf302n : bn .eql 302 .nilf .nilf = some (.bool true) := by kernel_rfl
theorem nef302n : bn .neq 302 .nilf .nilf = some (.bool false) := by kernel_rfl
theorem eqf303n : bn .eql 303 .nilf .nilf = some (.bool true) := by kernel_rfl
theorem nef303n : bn .neq 303 .nilf .nilf = some (.bool false) := by kernel_rfl
theorem zf304 : zr 304 = some (.agg [.int .u8 0, .int .u8 0, .int .u8 0, .int .u8 0, .int .u8 0, .int .u8 0, .int .u8 0, .int .u8 0, .int .u8 0, .int .u8 0, .int .u8 0, .int .u8 0, .int .u8 0, .int .u8 0, .int .u8 0, .int .u8 0, .int .u8 0, .int .u8 0, .int .u8 0, .int .u8 0, .int .u8 0, .int .u8 0, .int .u8 0, .int .u8 0]) := by kernel_rfl
theorem eqf305n : bn .eql 305 .nilf .nilf = some (.bool true) := by kernel_rfl
theorem nef305n : bn .neq 305 .nilf .nilf = some (.bool false) := by kernel_rfl
theorem eqf306n : bn .eql 306 .nilf .nilf = some (.bool true) := by kernel_rfl
theorem nef306n : bn .neq 306 .nilf .nilf = some (.bool false) := by kernel_rfl
theorem eqf308n : bn .eql 308 .nilf .nilf = some (.bool true) := by kernel_rfl
theorem nef308n : bn .neq 308 .nilf .nilf = some (.bool false) := by kernel_rfl
theorem eqf309n : bn .eql 309 .nilf .nilf = some (.bool true) := by kernel_rfl
theorem nef309n : bn .neq 309 .nilf .nilf = some (.bool false) := by kernel_rfl
theorem zf310 : zr 310 = some (.agg [.int .u64 0, .int .u64 0, .int .u64 0, .int .u64 0, .int .u64 0, .int .u64 0, .int .u64 0, .int .u64 0, .int .u64 0, .int .u64 0, .int .u64 0, .int .u64 0, .int .u64 0, .int .u64 0, .int .u64 0, .int .u64 0, .int .u64 0, .int .u64 0, .int .u64 0, .int .u64 0]) := by kernel_rfl
theorem eqf312n : bn .eql 312 .nilf .nilf = some (.bool true) := by kernel_rfl
theorem nef312n : bn .neq 312 .nilf .nilf = some (.bool false) := by kernel_rfl
theorem eqf313n : bn .eql 313 .nilf .nilf = some (.bool true) := by kernel_rfl
theorem nef313n : bn .neq 313 .nilf .nilf = some (.bool false) := by kernel_rfl
theorem eqf314n : bn .eql 314 .nilf .nilf = some (.bool true) := by kernel_rfl
theorem nef314n : bn .neq 314 .nilf .nilf = some (.bool false) := by kernel_rfl
theorem eqf316n : bn .eql 316 .nilf .nilf = some (.bool true) := by kernel_rfl
theorem nef316n : bn .neq 316 .nilf .nilf = some (.bool false) := by kernel_rfl
theorem zf317 : zr 317 = some (.agg [.int .u8 0, .int .u8 0, .int .u8 0, .int .u8 0, .int .u8 0, .int .u8 0, .int .u8 0, .int .u8 0, .int .u8 0, .int .u8 0, .int .u8 0, .int .u8 0, .int .u8 0, .int .u8 0, .int .u8 0, .int .u8 0, .int .u8 0, .int .u8 0, .int .u8 0, .int .u8 0, .int .u8 0, .int .u8 0, .int .u8 0, .int .u8 0, .int .u8 0, .int .u8 0, .int .u8 0, .int .u8 0, .int .u8 0, .int .u8 0, .int .u8 0, .int .u8 0]) := by kernel_rfl
theorem zf319 : zr 319 = some (.agg [.nilp, .nilp, .nilp, .str []]) := by kernel_rfl
theorem bf319 (l : List (Nat × AV)) : bld 319 l = (fillA (fun i => [(0, 1), (1, 1), (2, 1), (3, 1)][i]?) [.nilp, .nilp, .nilp, .str []] l).map .agg := by kernel_rfl
theorem zf320 : zr 320 = some (.agg [.nilp, .nilp, .nilp, .str []]) := by kernel_rfl
theorem bf320 (l : List (Nat × AV)) : bld 320 l = (fillA (fun i => [(0, 1), (1, 1), (2, 1), (3, 1)][i]?) [.nilp, .nilp, .nilp, .str []] l).map .agg := by kernel_rfl
theorem zf324 : zr 324 = some (.int .u8 0) := by kernel_rfl
theorem zf325 : zr 325 = some (.int .u8 0) := by kernel_rfl
theorem eqf326n : bn .eql 326 .nilf .nilf = some (.bool true) := by kernel_rfl
theorem nef326n : bn .neq 326 .nilf .nilf = some (.bool false) := by kernel_rfl
theorem zf327 : zr 327 = some (.int .i32 0) := by kernel_rfl
theorem zf328 : zr 328 = some (.int .i32 0) := by kernel_rfl
theorem zf329 : zr 329 = some (.agg [.int .u64 0, .int .u64 0, .int .u32 0, .int .u8 0, .int .u8 0, .int .u8 0, .int .u8 0, .nilf, .nilp, .int .i32 0, .int .i32 0]) := by kernel_rfl
theorem bf329 (l : List (Nat × AV)) : bld 329 l = (fillA (fun i => [(0, 1), (1, 1), (2, 1), (3, 1), (4, 1), (5, 1), (6, 1), (7, 1), (8, 1), (9, 1), (10, 1)][i]?) [.int .u64 0, .int .u64 0, .int .u32 0, .int .u8 0, .int .u8 0, .int .u8 0, .int .u8 0, .nilf, .nilp, .int .i32 0, .int .i32 0] l).map .agg := by kernel_rfl
theorem zf330 : zr 330 = some (.agg [.int .u64 0, .int .u64 0, .int .u32 0, .int .u8 0, .int .u8 0, .int .u8 0, .int .u8 0, .nilf, .nilp, .int .i32 0, .int .i32 0]) := by kernel_rfl
theorem bf330 (l : List (Nat × AV)) : bld 330 l = (fillA (fun i => [(0, 1), (1, 1), (2, 1), (3, 1), (4, 1), (5, 1), (6, 1), (7, 1), (8, 1), (9, 1), (10, 1)][i]?) [.int .u64 0, .int .u64 0, .int .u32 0, .int .u8 0, .int .u8 0, .int .u8 0, .int .u8 0, .nilf, .nilp, .int .i32 0, .int .i32 0] l).map .agg := by kernel_rfl
theorem cf2_159 (k : IntKind) (n : Int) (s : St) : cv 2 159 (.int k n) s = some (.int .u64 (IntKind.wrap .u64 n)) := by kernel_rfl
theorem cf3_5 (k : IntKind) (n : Int) (s : St) : cv 3 5 (.int k n) s = some (.int .u8 (IntKind.wrap .u8 n)) := by kernel_rfl
theorem cf3_159 (k : IntKind) (n : Int) (s : St) : cv 3 159 (.int k n) s = some (.int .u64 (IntKind.wrap .u64 n)) := by kernel_rfl
theorem cf3_211 (k : IntKind) (n : Int) (s : St) : cv 3 211 (.int k n) s = some (.int .u32 (IntKind.wrap .u32 n)) := by kernel_rfl
theorem cf3_213 (k : IntKind) (n : Int) (s : St) : cv 3 213 (.int k n) s = some (.int .u64 (IntKind.wrap .u64 n)) := by kernel_rfl
theorem cf5_3 (k : IntKind) (n : Int) (s : St) : cv 5 3 (.int k n) s = some (.int .i64 (IntKind.wrap .i64 n)) := by kernel_rfl
theorem cf5_21 (k : IntKind) (n : Int) (s : St) : cv 5 21 (.int k n) s = some (.int .i32 (IntKind.wrap .i32 n)) := by kernel_rfl
theorem cf5_211 (k : IntKind) (n : Int) (s : St) : cv 5 211 (.int k n) s = some (.int .u32 (IntKind.wrap .u32 n)) := by kernel_rfl
theorem cf9_161 (x : List UInt8) (s : St) : cv 9 161 (.str x) s = some (.sl false (x.map fun c => .int .u8 c.toNat)) := by kernel_rfl
theorem cf21_5 (k : IntKind) (n : Int) (s : St) : cv 21 5 (.int k n) s = some (.int .u8 (IntKind.wrap .u8 n)) := by kernel_rfl
theorem cf159_5 (k : IntKind) (n : Int) (s : St) : cv 159 5 (.int k n) s = some (.int .u8 (IntKind.wrap .u8 n)) := by kernel_rfl
theorem cf159_211 (k : IntKind) (n : Int) (s : St) : cv 159 211 (.int k n) s = some (.int .u32 (IntKind.wrap .u32 n)) := by kernel_rfl
theorem cf211_5 (k : IntKind) (n : Int) (s : St) : cv 211 5 (.int k n) s = some (.int .u8 (IntKind.wrap .u8 n)) := by kernel_rfl
theorem cf211_159 (k : IntKind) (n : Int) (s : St) : cv 211 159 (.int k n) s = some (.int .u64 (IntKind.wrap .u64 n)) := by kernel_rfl
theorem cf213_211 (k : IntKind) (n : Int) (s : St) : cv 213 211 (.int k n) s = some (.int .u32 (IntKind.wrap .u32 n)) := by kernel_rfl
end Go.Proofs.YtdehdahimkcakaaGreatDoor
