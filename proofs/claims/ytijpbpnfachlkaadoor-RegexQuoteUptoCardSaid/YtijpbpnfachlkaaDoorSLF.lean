import Derived.Test.YtijpbpnfachlkaaDoorSL
import Derived.Test.YtijpbpnfachlkaaDoorProg
import Derived.KernelRfl
/- Closed facts on the types and functions of the translation. No statement is proved here. -/
namespace Go.Proofs.YtijpbpnfachlkaaDoor.SL
open Go
set_option maxRecDepth 100000
theorem sz0 : (Tryd.prog.info? 0).map (·.size) = some 1 := by kernel_rfl
theorem zr0 : (Tryd.prog.info? 0).map (·.zero) = some (some (.tuple #[])) := by kernel_rfl
theorem zs0 : (Tryd.prog.info? 0).map (fun i => (i.zero, i.size)) = some (some (.tuple #[]), 1) := by kernel_rfl
theorem zb0 : (Tryd.prog.info? 0).map (fun i => (i.zero, i.size, i.bytes)) = some (some (.tuple #[]), 1, 0) := by kernel_rfl
theorem sz1 : (Tryd.prog.info? 1).map (·.size) = some 1 := by kernel_rfl
theorem zr1 : (Tryd.prog.info? 1).map (·.zero) = some (some .nilFunc) := by kernel_rfl
theorem zs1 : (Tryd.prog.info? 1).map (fun i => (i.zero, i.size)) = some (some .nilFunc, 1) := by kernel_rfl
theorem zb1 : (Tryd.prog.info? 1).map (fun i => (i.zero, i.size, i.bytes)) = some (some .nilFunc, 1, 8) := by kernel_rfl
theorem sz2 : (Tryd.prog.info? 2).map (·.size) = some 1 := by kernel_rfl
theorem zr2 : (Tryd.prog.info? 2).map (·.zero) = some (some (.int .i64 0)) := by kernel_rfl
theorem zs2 : (Tryd.prog.info? 2).map (fun i => (i.zero, i.size)) = some (some (.int .i64 0), 1) := by kernel_rfl
theorem zb2 : (Tryd.prog.info? 2).map (fun i => (i.zero, i.size, i.bytes)) = some (some (.int .i64 0), 1, 8) := by kernel_rfl
theorem sz3 : (Tryd.prog.info? 3).map (·.size) = some 1 := by kernel_rfl
theorem zr3 : (Tryd.prog.info? 3).map (·.zero) = some (some (.int .i64 0)) := by kernel_rfl
theorem zs3 : (Tryd.prog.info? 3).map (fun i => (i.zero, i.size)) = some (some (.int .i64 0), 1) := by kernel_rfl
theorem zb3 : (Tryd.prog.info? 3).map (fun i => (i.zero, i.size, i.bytes)) = some (some (.int .i64 0), 1, 8) := by kernel_rfl
theorem sz4 : (Tryd.prog.info? 4).map (·.size) = some 1 := by kernel_rfl
theorem zr4 : (Tryd.prog.info? 4).map (·.zero) = some (some (.bool false)) := by kernel_rfl
theorem zs4 : (Tryd.prog.info? 4).map (fun i => (i.zero, i.size)) = some (some (.bool false), 1) := by kernel_rfl
theorem zb4 : (Tryd.prog.info? 4).map (fun i => (i.zero, i.size, i.bytes)) = some (some (.bool false), 1, 1) := by kernel_rfl
theorem sz5 : (Tryd.prog.info? 5).map (·.size) = some 1 := by kernel_rfl
theorem zr5 : (Tryd.prog.info? 5).map (·.zero) = some (some (.int .u8 0)) := by kernel_rfl
theorem zs5 : (Tryd.prog.info? 5).map (fun i => (i.zero, i.size)) = some (some (.int .u8 0), 1) := by kernel_rfl
theorem zb5 : (Tryd.prog.info? 5).map (fun i => (i.zero, i.size, i.bytes)) = some (some (.int .u8 0), 1, 1) := by kernel_rfl
theorem sz6 : (Tryd.prog.info? 6).map (·.size) = some 1 := by kernel_rfl
theorem zr6 : (Tryd.prog.info? 6).map (·.zero) = some (some (.int .u8 0)) := by kernel_rfl
theorem zs6 : (Tryd.prog.info? 6).map (fun i => (i.zero, i.size)) = some (some (.int .u8 0), 1) := by kernel_rfl
theorem zb6 : (Tryd.prog.info? 6).map (fun i => (i.zero, i.size, i.bytes)) = some (some (.int .u8 0), 1, 1) := by kernel_rfl
theorem sz7 : (Tryd.prog.info? 7).map (·.size) = some 4 := by kernel_rfl
theorem zr7 : (Tryd.prog.info? 7).map (·.zero) = some (some (.agg #[(.int .i64 0), (.int .i64 0), (.bool false), (.int .u8 0)])) := by kernel_rfl
theorem zs7 : (Tryd.prog.info? 7).map (fun i => (i.zero, i.size)) = some (some (.agg #[(.int .i64 0), (.int .i64 0), (.bool false), (.int .u8 0)]), 4) := by kernel_rfl
theorem zb7 : (Tryd.prog.info? 7).map (fun i => (i.zero, i.size, i.bytes)) = some (some (.agg #[(.int .i64 0), (.int .i64 0), (.bool false), (.int .u8 0)]), 4, 24) := by kernel_rfl
theorem sz8 : (Tryd.prog.info? 8).map (·.size) = some 4 := by kernel_rfl
theorem zr8 : (Tryd.prog.info? 8).map (·.zero) = some (some (.agg #[(.int .i64 0), (.int .i64 0), (.bool false), (.int .u8 0)])) := by kernel_rfl
theorem zs8 : (Tryd.prog.info? 8).map (fun i => (i.zero, i.size)) = some (some (.agg #[(.int .i64 0), (.int .i64 0), (.bool false), (.int .u8 0)]), 4) := by kernel_rfl
theorem zb8 : (Tryd.prog.info? 8).map (fun i => (i.zero, i.size, i.bytes)) = some (some (.agg #[(.int .i64 0), (.int .i64 0), (.bool false), (.int .u8 0)]), 4, 24) := by kernel_rfl
theorem sz9 : (Tryd.prog.info? 9).map (·.size) = some 1 := by kernel_rfl
theorem zr9 : (Tryd.prog.info? 9).map (·.zero) = some (some (.string ByteArray.empty)) := by kernel_rfl
theorem zs9 : (Tryd.prog.info? 9).map (fun i => (i.zero, i.size)) = some (some (.string ByteArray.empty), 1) := by kernel_rfl
theorem zb9 : (Tryd.prog.info? 9).map (fun i => (i.zero, i.size, i.bytes)) = some (some (.string ByteArray.empty), 1, 16) := by kernel_rfl
theorem sz10 : (Tryd.prog.info? 10).map (·.size) = some 1 := by kernel_rfl
theorem zr10 : (Tryd.prog.info? 10).map (·.zero) = some (some (.string ByteArray.empty)) := by kernel_rfl
theorem zs10 : (Tryd.prog.info? 10).map (fun i => (i.zero, i.size)) = some (some (.string ByteArray.empty), 1) := by kernel_rfl
theorem zb10 : (Tryd.prog.info? 10).map (fun i => (i.zero, i.size, i.bytes)) = some (some (.string ByteArray.empty), 1, 16) := by kernel_rfl
theorem sz11 : (Tryd.prog.info? 11).map (·.size) = some 1 := by kernel_rfl
theorem zr11 : (Tryd.prog.info? 11).map (·.zero) = some (some (.string ByteArray.empty)) := by kernel_rfl
theorem zs11 : (Tryd.prog.info? 11).map (fun i => (i.zero, i.size)) = some (some (.string ByteArray.empty), 1) := by kernel_rfl
theorem zb11 : (Tryd.prog.info? 11).map (fun i => (i.zero, i.size, i.bytes)) = some (some (.string ByteArray.empty), 1, 16) := by kernel_rfl
theorem sz12 : (Tryd.prog.info? 12).map (·.size) = some 1 := by kernel_rfl
theorem zr12 : (Tryd.prog.info? 12).map (·.zero) = some (some (.int .u64 0)) := by kernel_rfl
theorem zs12 : (Tryd.prog.info? 12).map (fun i => (i.zero, i.size)) = some (some (.int .u64 0), 1) := by kernel_rfl
theorem zb12 : (Tryd.prog.info? 12).map (fun i => (i.zero, i.size, i.bytes)) = some (some (.int .u64 0), 1, 8) := by kernel_rfl
theorem sz13 : (Tryd.prog.info? 13).map (·.size) = some 2 := by kernel_rfl
theorem zr13 : (Tryd.prog.info? 13).map (·.zero) = some (some (.agg #[(.string ByteArray.empty), (.int .u64 0)])) := by kernel_rfl
theorem zs13 : (Tryd.prog.info? 13).map (fun i => (i.zero, i.size)) = some (some (.agg #[(.string ByteArray.empty), (.int .u64 0)]), 2) := by kernel_rfl
theorem zb13 : (Tryd.prog.info? 13).map (fun i => (i.zero, i.size, i.bytes)) = some (some (.agg #[(.string ByteArray.empty), (.int .u64 0)]), 2, 24) := by kernel_rfl
theorem sz14 : (Tryd.prog.info? 14).map (·.size) = some 2 := by kernel_rfl
theorem zr14 : (Tryd.prog.info? 14).map (·.zero) = some (some (.agg #[(.string ByteArray.empty), (.int .u64 0)])) := by kernel_rfl
theorem zs14 : (Tryd.prog.info? 14).map (fun i => (i.zero, i.size)) = some (some (.agg #[(.string ByteArray.empty), (.int .u64 0)]), 2) := by kernel_rfl
theorem zb14 : (Tryd.prog.info? 14).map (fun i => (i.zero, i.size, i.bytes)) = some (some (.agg #[(.string ByteArray.empty), (.int .u64 0)]), 2, 24) := by kernel_rfl
theorem sz15 : (Tryd.prog.info? 15).map (·.size) = some 1 := by kernel_rfl
theorem zr15 : (Tryd.prog.info? 15).map (·.zero) = some (some (.pointer none)) := by kernel_rfl
theorem zs15 : (Tryd.prog.info? 15).map (fun i => (i.zero, i.size)) = some (some (.pointer none), 1) := by kernel_rfl
theorem zb15 : (Tryd.prog.info? 15).map (fun i => (i.zero, i.size, i.bytes)) = some (some (.pointer none), 1, 8) := by kernel_rfl
theorem sz16 : (Tryd.prog.info? 16).map (·.size) = some 1 := by kernel_rfl
theorem zr16 : (Tryd.prog.info? 16).map (·.zero) = some (some (.pointer none)) := by kernel_rfl
theorem zs16 : (Tryd.prog.info? 16).map (fun i => (i.zero, i.size)) = some (some (.pointer none), 1) := by kernel_rfl
theorem zb16 : (Tryd.prog.info? 16).map (fun i => (i.zero, i.size, i.bytes)) = some (some (.pointer none), 1, 8) := by kernel_rfl
theorem sz17 : (Tryd.prog.info? 17).map (·.size) = some 1 := by kernel_rfl
theorem zr17 : (Tryd.prog.info? 17).map (·.zero) = some (some (.pointer none)) := by kernel_rfl
theorem zs17 : (Tryd.prog.info? 17).map (fun i => (i.zero, i.size)) = some (some (.pointer none), 1) := by kernel_rfl
theorem zb17 : (Tryd.prog.info? 17).map (fun i => (i.zero, i.size, i.bytes)) = some (some (.pointer none), 1, 8) := by kernel_rfl
theorem sz18 : (Tryd.prog.info? 18).map (·.size) = some 1 := by kernel_rfl
theorem zr18 : (Tryd.prog.info? 18).map (·.zero) = some (some (.agg #[(.pointer none)])) := by kernel_rfl
theorem zs18 : (Tryd.prog.info? 18).map (fun i => (i.zero, i.size)) = some (some (.agg #[(.pointer none)]), 1) := by kernel_rfl
theorem zb18 : (Tryd.prog.info? 18).map (fun i => (i.zero, i.size, i.bytes)) = some (some (.agg #[(.pointer none)]), 1, 8) := by kernel_rfl
theorem sz19 : (Tryd.prog.info? 19).map (·.size) = some 1 := by kernel_rfl
theorem zr19 : (Tryd.prog.info? 19).map (·.zero) = some (some (.agg #[(.pointer none)])) := by kernel_rfl
theorem zs19 : (Tryd.prog.info? 19).map (fun i => (i.zero, i.size)) = some (some (.agg #[(.pointer none)]), 1) := by kernel_rfl
theorem zb19 : (Tryd.prog.info? 19).map (fun i => (i.zero, i.size, i.bytes)) = some (some (.agg #[(.pointer none)]), 1, 8) := by kernel_rfl
theorem sz20 : (Tryd.prog.info? 20).map (·.size) = some 1 := by kernel_rfl
theorem zr20 : (Tryd.prog.info? 20).map (·.zero) = some (some .nilIface) := by kernel_rfl
theorem zs20 : (Tryd.prog.info? 20).map (fun i => (i.zero, i.size)) = some (some .nilIface, 1) := by kernel_rfl
theorem zb20 : (Tryd.prog.info? 20).map (fun i => (i.zero, i.size, i.bytes)) = some (some .nilIface, 1, 16) := by kernel_rfl
theorem sz21 : (Tryd.prog.info? 21).map (·.size) = some 1 := by kernel_rfl
theorem zr21 : (Tryd.prog.info? 21).map (·.zero) = some (some (.int .i32 0)) := by kernel_rfl
theorem zs21 : (Tryd.prog.info? 21).map (fun i => (i.zero, i.size)) = some (some (.int .i32 0), 1) := by kernel_rfl
theorem zb21 : (Tryd.prog.info? 21).map (fun i => (i.zero, i.size, i.bytes)) = some (some (.int .i32 0), 1, 4) := by kernel_rfl
theorem sz22 : (Tryd.prog.info? 22).map (·.size) = some 1 := by kernel_rfl
theorem zr22 : (Tryd.prog.info? 22).map (·.zero) = some (some (.slice none 0 0)) := by kernel_rfl
theorem zs22 : (Tryd.prog.info? 22).map (fun i => (i.zero, i.size)) = some (some (.slice none 0 0), 1) := by kernel_rfl
theorem zb22 : (Tryd.prog.info? 22).map (fun i => (i.zero, i.size, i.bytes)) = some (some (.slice none 0 0), 1, 24) := by kernel_rfl
theorem sz23 : (Tryd.prog.info? 23).map (·.size) = some 1 := by kernel_rfl
theorem zr23 : (Tryd.prog.info? 23).map (·.zero) = some (some .nilFunc) := by kernel_rfl
theorem zs23 : (Tryd.prog.info? 23).map (fun i => (i.zero, i.size)) = some (some .nilFunc, 1) := by kernel_rfl
theorem zb23 : (Tryd.prog.info? 23).map (fun i => (i.zero, i.size, i.bytes)) = some (some .nilFunc, 1, 8) := by kernel_rfl
theorem sz24 : (Tryd.prog.info? 24).map (·.size) = some 1 := by kernel_rfl
theorem zr24 : (Tryd.prog.info? 24).map (·.zero) = some (some (.int .i64 0)) := by kernel_rfl
theorem zs24 : (Tryd.prog.info? 24).map (fun i => (i.zero, i.size)) = some (some (.int .i64 0), 1) := by kernel_rfl
theorem zb24 : (Tryd.prog.info? 24).map (fun i => (i.zero, i.size, i.bytes)) = some (some (.int .i64 0), 1, 8) := by kernel_rfl
theorem sz25 : (Tryd.prog.info? 25).map (·.size) = some 1 := by kernel_rfl
theorem zr25 : (Tryd.prog.info? 25).map (·.zero) = some (some (.int .u64 0)) := by kernel_rfl
theorem zs25 : (Tryd.prog.info? 25).map (fun i => (i.zero, i.size)) = some (some (.int .u64 0), 1) := by kernel_rfl
theorem zb25 : (Tryd.prog.info? 25).map (fun i => (i.zero, i.size, i.bytes)) = some (some (.int .u64 0), 1, 8) := by kernel_rfl
theorem sz26 : (Tryd.prog.info? 26).map (·.size) = some 4 := by kernel_rfl
theorem zr26 : (Tryd.prog.info? 26).map (·.zero) = some (some (.agg #[(.int .u64 0), (.int .u64 0), (.int .u64 0), (.int .u64 0)])) := by kernel_rfl
theorem zs26 : (Tryd.prog.info? 26).map (fun i => (i.zero, i.size)) = some (some (.agg #[(.int .u64 0), (.int .u64 0), (.int .u64 0), (.int .u64 0)]), 4) := by kernel_rfl
theorem zb26 : (Tryd.prog.info? 26).map (fun i => (i.zero, i.size, i.bytes)) = some (some (.agg #[(.int .u64 0), (.int .u64 0), (.int .u64 0), (.int .u64 0)]), 4, 32) := by kernel_rfl
theorem sz27 : (Tryd.prog.info? 27).map (·.size) = some 4 := by kernel_rfl
theorem zr27 : (Tryd.prog.info? 27).map (·.zero) = some (some (.agg #[(.int .u64 0), (.int .u64 0), (.int .u64 0), (.int .u64 0)])) := by kernel_rfl
theorem zs27 : (Tryd.prog.info? 27).map (fun i => (i.zero, i.size)) = some (some (.agg #[(.int .u64 0), (.int .u64 0), (.int .u64 0), (.int .u64 0)]), 4) := by kernel_rfl
theorem zb27 : (Tryd.prog.info? 27).map (fun i => (i.zero, i.size, i.bytes)) = some (some (.agg #[(.int .u64 0), (.int .u64 0), (.int .u64 0), (.int .u64 0)]), 4, 32) := by kernel_rfl
theorem sz28 : (Tryd.prog.info? 28).map (·.size) = some 1 := by kernel_rfl
theorem zr28 : (Tryd.prog.info? 28).map (·.zero) = some (some (.slice none 0 0)) := by kernel_rfl
theorem zs28 : (Tryd.prog.info? 28).map (fun i => (i.zero, i.size)) = some (some (.slice none 0 0), 1) := by kernel_rfl
theorem zb28 : (Tryd.prog.info? 28).map (fun i => (i.zero, i.size, i.bytes)) = some (some (.slice none 0 0), 1, 24) := by kernel_rfl
theorem sz29 : (Tryd.prog.info? 29).map (·.size) = some 6 := by kernel_rfl
theorem zr29 : (Tryd.prog.info? 29).map (·.zero) = some (some (.agg #[(.int .i64 0), (.int .u64 0), (.int .u64 0), (.int .u64 0), (.int .u64 0), (.slice none 0 0)])) := by kernel_rfl
theorem zs29 : (Tryd.prog.info? 29).map (fun i => (i.zero, i.size)) = some (some (.agg #[(.int .i64 0), (.int .u64 0), (.int .u64 0), (.int .u64 0), (.int .u64 0), (.slice none 0 0)]), 6) := by kernel_rfl
theorem zb29 : (Tryd.prog.info? 29).map (fun i => (i.zero, i.size, i.bytes)) = some (some (.agg #[(.int .i64 0), (.int .u64 0), (.int .u64 0), (.int .u64 0), (.int .u64 0), (.slice none 0 0)]), 6, 64) := by kernel_rfl
theorem sz30 : (Tryd.prog.info? 30).map (·.size) = some 6 := by kernel_rfl
theorem zr30 : (Tryd.prog.info? 30).map (·.zero) = some (some (.agg #[(.int .i64 0), (.int .u64 0), (.int .u64 0), (.int .u64 0), (.int .u64 0), (.slice none 0 0)])) := by kernel_rfl
theorem zs30 : (Tryd.prog.info? 30).map (fun i => (i.zero, i.size)) = some (some (.agg #[(.int .i64 0), (.int .u64 0), (.int .u64 0), (.int .u64 0), (.int .u64 0), (.slice none 0 0)]), 6) := by kernel_rfl
theorem zb30 : (Tryd.prog.info? 30).map (fun i => (i.zero, i.size, i.bytes)) = some (some (.agg #[(.int .i64 0), (.int .u64 0), (.int .u64 0), (.int .u64 0), (.int .u64 0), (.slice none 0 0)]), 6, 64) := by kernel_rfl
theorem sz31 : (Tryd.prog.info? 31).map (·.size) = some 1 := by kernel_rfl
theorem zr31 : (Tryd.prog.info? 31).map (·.zero) = some (some (.tuple #[(.string ByteArray.empty), (.agg #[(.int .i64 0), (.int .u64 0), (.int .u64 0), (.int .u64 0), (.int .u64 0), (.slice none 0 0)])])) := by kernel_rfl
theorem zs31 : (Tryd.prog.info? 31).map (fun i => (i.zero, i.size)) = some (some (.tuple #[(.string ByteArray.empty), (.agg #[(.int .i64 0), (.int .u64 0), (.int .u64 0), (.int .u64 0), (.int .u64 0), (.slice none 0 0)])]), 1) := by kernel_rfl
theorem zb31 : (Tryd.prog.info? 31).map (fun i => (i.zero, i.size, i.bytes)) = some (some (.tuple #[(.string ByteArray.empty), (.agg #[(.int .i64 0), (.int .u64 0), (.int .u64 0), (.int .u64 0), (.int .u64 0), (.slice none 0 0)])]), 1, 0) := by kernel_rfl
theorem sz32 : (Tryd.prog.info? 32).map (·.size) = some 1 := by kernel_rfl
theorem zr32 : (Tryd.prog.info? 32).map (·.zero) = some (some .nilFunc) := by kernel_rfl
theorem zs32 : (Tryd.prog.info? 32).map (fun i => (i.zero, i.size)) = some (some .nilFunc, 1) := by kernel_rfl
theorem zb32 : (Tryd.prog.info? 32).map (fun i => (i.zero, i.size, i.bytes)) = some (some .nilFunc, 1, 8) := by kernel_rfl
theorem sz33 : (Tryd.prog.info? 33).map (·.size) = some 1 := by kernel_rfl
theorem zr33 : (Tryd.prog.info? 33).map (·.zero) = some (some .nilIface) := by kernel_rfl
theorem zs33 : (Tryd.prog.info? 33).map (fun i => (i.zero, i.size)) = some (some .nilIface, 1) := by kernel_rfl
theorem zb33 : (Tryd.prog.info? 33).map (fun i => (i.zero, i.size, i.bytes)) = some (some .nilIface, 1, 16) := by kernel_rfl
theorem sz34 : (Tryd.prog.info? 34).map (·.size) = some 1 := by kernel_rfl
theorem zr34 : (Tryd.prog.info? 34).map (·.zero) = some (some .nilIface) := by kernel_rfl
theorem zs34 : (Tryd.prog.info? 34).map (fun i => (i.zero, i.size)) = some (some .nilIface, 1) := by kernel_rfl
theorem zb34 : (Tryd.prog.info? 34).map (fun i => (i.zero, i.size, i.bytes)) = some (some .nilIface, 1, 16) := by kernel_rfl
theorem sz35 : (Tryd.prog.info? 35).map (·.size) = some 1 := by kernel_rfl
theorem zr35 : (Tryd.prog.info? 35).map (·.zero) = some (some (.tuple #[(.agg #[(.int .i64 0), (.int .u64 0), (.int .u64 0), (.int .u64 0), (.int .u64 0), (.slice none 0 0)]), .nilIface])) := by kernel_rfl
theorem zs35 : (Tryd.prog.info? 35).map (fun i => (i.zero, i.size)) = some (some (.tuple #[(.agg #[(.int .i64 0), (.int .u64 0), (.int .u64 0), (.int .u64 0), (.int .u64 0), (.slice none 0 0)]), .nilIface]), 1) := by kernel_rfl
theorem zb35 : (Tryd.prog.info? 35).map (fun i => (i.zero, i.size, i.bytes)) = some (some (.tuple #[(.agg #[(.int .i64 0), (.int .u64 0), (.int .u64 0), (.int .u64 0), (.int .u64 0), (.slice none 0 0)]), .nilIface]), 1, 0) := by kernel_rfl
theorem sz36 : (Tryd.prog.info? 36).map (·.size) = some 1 := by kernel_rfl
theorem zr36 : (Tryd.prog.info? 36).map (·.zero) = some (some .nilFunc) := by kernel_rfl
theorem zs36 : (Tryd.prog.info? 36).map (fun i => (i.zero, i.size)) = some (some .nilFunc, 1) := by kernel_rfl
theorem zb36 : (Tryd.prog.info? 36).map (fun i => (i.zero, i.size, i.bytes)) = some (some .nilFunc, 1, 8) := by kernel_rfl
theorem sz37 : (Tryd.prog.info? 37).map (·.size) = some 1 := by kernel_rfl
theorem zr37 : (Tryd.prog.info? 37).map (·.zero) = some (some (.int .i64 0)) := by kernel_rfl
theorem zs37 : (Tryd.prog.info? 37).map (fun i => (i.zero, i.size)) = some (some (.int .i64 0), 1) := by kernel_rfl
theorem zb37 : (Tryd.prog.info? 37).map (fun i => (i.zero, i.size, i.bytes)) = some (some (.int .i64 0), 1, 8) := by kernel_rfl
theorem sz38 : (Tryd.prog.info? 38).map (·.size) = some 1 := by kernel_rfl
theorem zr38 : (Tryd.prog.info? 38).map (·.zero) = some (some .nilFunc) := by kernel_rfl
theorem zs38 : (Tryd.prog.info? 38).map (fun i => (i.zero, i.size)) = some (some .nilFunc, 1) := by kernel_rfl
theorem zb38 : (Tryd.prog.info? 38).map (fun i => (i.zero, i.size, i.bytes)) = some (some .nilFunc, 1, 8) := by kernel_rfl
theorem sz39 : (Tryd.prog.info? 39).map (·.size) = some 1 := by kernel_rfl
theorem zr39 : (Tryd.prog.info? 39).map (·.zero) = some (some .nilFunc) := by kernel_rfl
theorem zs39 : (Tryd.prog.info? 39).map (fun i => (i.zero, i.size)) = some (some .nilFunc, 1) := by kernel_rfl
theorem zb39 : (Tryd.prog.info? 39).map (fun i => (i.zero, i.size, i.bytes)) = some (some .nilFunc, 1, 8) := by kernel_rfl
theorem sz40 : (Tryd.prog.info? 40).map (·.size) = some 1 := by kernel_rfl
theorem zr40 : (Tryd.prog.info? 40).map (·.zero) = some (some .nilFunc) := by kernel_rfl
theorem zs40 : (Tryd.prog.info? 40).map (fun i => (i.zero, i.size)) = some (some .nilFunc, 1) := by kernel_rfl
theorem zb40 : (Tryd.prog.info? 40).map (fun i => (i.zero, i.size, i.bytes)) = some (some .nilFunc, 1, 8) := by kernel_rfl
theorem sz41 : (Tryd.prog.info? 41).map (·.size) = some 1 := by kernel_rfl
theorem zr41 : (Tryd.prog.info? 41).map (·.zero) = some (some .nilFunc) := by kernel_rfl
theorem zs41 : (Tryd.prog.info? 41).map (fun i => (i.zero, i.size)) = some (some .nilFunc, 1) := by kernel_rfl
theorem zb41 : (Tryd.prog.info? 41).map (fun i => (i.zero, i.size, i.bytes)) = some (some .nilFunc, 1, 8) := by kernel_rfl
theorem sz42 : (Tryd.prog.info? 42).map (·.size) = some 1 := by kernel_rfl
theorem zr42 : (Tryd.prog.info? 42).map (·.zero) = some (some .nilFunc) := by kernel_rfl
theorem zs42 : (Tryd.prog.info? 42).map (fun i => (i.zero, i.size)) = some (some .nilFunc, 1) := by kernel_rfl
theorem zb42 : (Tryd.prog.info? 42).map (fun i => (i.zero, i.size, i.bytes)) = some (some .nilFunc, 1, 8) := by kernel_rfl
theorem sz43 : (Tryd.prog.info? 43).map (·.size) = some 1 := by kernel_rfl
theorem zr43 : (Tryd.prog.info? 43).map (·.zero) = some (some .nilFunc) := by kernel_rfl
theorem zs43 : (Tryd.prog.info? 43).map (fun i => (i.zero, i.size)) = some (some .nilFunc, 1) := by kernel_rfl
theorem zb43 : (Tryd.prog.info? 43).map (fun i => (i.zero, i.size, i.bytes)) = some (some .nilFunc, 1, 8) := by kernel_rfl
theorem sz44 : (Tryd.prog.info? 44).map (·.size) = some 1 := by kernel_rfl
theorem zr44 : (Tryd.prog.info? 44).map (·.zero) = some (some .nilFunc) := by kernel_rfl
theorem zs44 : (Tryd.prog.info? 44).map (fun i => (i.zero, i.size)) = some (some .nilFunc, 1) := by kernel_rfl
theorem zb44 : (Tryd.prog.info? 44).map (fun i => (i.zero, i.size, i.bytes)) = some (some .nilFunc, 1, 8) := by kernel_rfl
theorem sz45 : (Tryd.prog.info? 45).map (·.size) = some 1 := by kernel_rfl
theorem zr45 : (Tryd.prog.info? 45).map (·.zero) = some (some .nilFunc) := by kernel_rfl
theorem zs45 : (Tryd.prog.info? 45).map (fun i => (i.zero, i.size)) = some (some .nilFunc, 1) := by kernel_rfl
theorem zb45 : (Tryd.prog.info? 45).map (fun i => (i.zero, i.size, i.bytes)) = some (some .nilFunc, 1, 8) := by kernel_rfl
theorem sz46 : (Tryd.prog.info? 46).map (·.size) = some 1 := by kernel_rfl
theorem zr46 : (Tryd.prog.info? 46).map (·.zero) = some (some .nilFunc) := by kernel_rfl
theorem zs46 : (Tryd.prog.info? 46).map (fun i => (i.zero, i.size)) = some (some .nilFunc, 1) := by kernel_rfl
theorem zb46 : (Tryd.prog.info? 46).map (fun i => (i.zero, i.size, i.bytes)) = some (some .nilFunc, 1, 8) := by kernel_rfl
theorem sz47 : (Tryd.prog.info? 47).map (·.size) = some 1 := by kernel_rfl
theorem zr47 : (Tryd.prog.info? 47).map (·.zero) = some (some .nilFunc) := by kernel_rfl
theorem zs47 : (Tryd.prog.info? 47).map (fun i => (i.zero, i.size)) = some (some .nilFunc, 1) := by kernel_rfl
theorem zb47 : (Tryd.prog.info? 47).map (fun i => (i.zero, i.size, i.bytes)) = some (some .nilFunc, 1, 8) := by kernel_rfl
theorem sz48 : (Tryd.prog.info? 48).map (·.size) = some 1 := by kernel_rfl
theorem zr48 : (Tryd.prog.info? 48).map (·.zero) = some (some .nilFunc) := by kernel_rfl
theorem zs48 : (Tryd.prog.info? 48).map (fun i => (i.zero, i.size)) = some (some .nilFunc, 1) := by kernel_rfl
theorem zb48 : (Tryd.prog.info? 48).map (fun i => (i.zero, i.size, i.bytes)) = some (some .nilFunc, 1, 8) := by kernel_rfl
theorem sz49 : (Tryd.prog.info? 49).map (·.size) = some 1 := by kernel_rfl
theorem zr49 : (Tryd.prog.info? 49).map (·.zero) = some (some .nilFunc) := by kernel_rfl
theorem zs49 : (Tryd.prog.info? 49).map (fun i => (i.zero, i.size)) = some (some .nilFunc, 1) := by kernel_rfl
theorem zb49 : (Tryd.prog.info? 49).map (fun i => (i.zero, i.size, i.bytes)) = some (some .nilFunc, 1, 8) := by kernel_rfl
theorem sz50 : (Tryd.prog.info? 50).map (·.size) = some 1 := by kernel_rfl
theorem zr50 : (Tryd.prog.info? 50).map (·.zero) = some (some .nilFunc) := by kernel_rfl
theorem zs50 : (Tryd.prog.info? 50).map (fun i => (i.zero, i.size)) = some (some .nilFunc, 1) := by kernel_rfl
theorem zb50 : (Tryd.prog.info? 50).map (fun i => (i.zero, i.size, i.bytes)) = some (some .nilFunc, 1, 8) := by kernel_rfl
theorem sz51 : (Tryd.prog.info? 51).map (·.size) = some 1 := by kernel_rfl
theorem zr51 : (Tryd.prog.info? 51).map (·.zero) = some (some .nilFunc) := by kernel_rfl
theorem zs51 : (Tryd.prog.info? 51).map (fun i => (i.zero, i.size)) = some (some .nilFunc, 1) := by kernel_rfl
theorem zb51 : (Tryd.prog.info? 51).map (fun i => (i.zero, i.size, i.bytes)) = some (some .nilFunc, 1, 8) := by kernel_rfl
theorem sz52 : (Tryd.prog.info? 52).map (·.size) = some 1 := by kernel_rfl
theorem zr52 : (Tryd.prog.info? 52).map (·.zero) = some (some (.slice none 0 0)) := by kernel_rfl
theorem zs52 : (Tryd.prog.info? 52).map (fun i => (i.zero, i.size)) = some (some (.slice none 0 0), 1) := by kernel_rfl
theorem zb52 : (Tryd.prog.info? 52).map (fun i => (i.zero, i.size, i.bytes)) = some (some (.slice none 0 0), 1, 24) := by kernel_rfl
theorem sz53 : (Tryd.prog.info? 53).map (·.size) = some 1 := by kernel_rfl
theorem zr53 : (Tryd.prog.info? 53).map (·.zero) = some (some (.pointer none)) := by kernel_rfl
theorem zs53 : (Tryd.prog.info? 53).map (fun i => (i.zero, i.size)) = some (some (.pointer none), 1) := by kernel_rfl
theorem zb53 : (Tryd.prog.info? 53).map (fun i => (i.zero, i.size, i.bytes)) = some (some (.pointer none), 1, 8) := by kernel_rfl
theorem sz54 : (Tryd.prog.info? 54).map (·.size) = some 1 := by kernel_rfl
theorem zr54 : (Tryd.prog.info? 54).map (·.zero) = some (some (.tuple #[(.pointer none), .nilIface])) := by kernel_rfl
theorem zs54 : (Tryd.prog.info? 54).map (fun i => (i.zero, i.size)) = some (some (.tuple #[(.pointer none), .nilIface]), 1) := by kernel_rfl
theorem zb54 : (Tryd.prog.info? 54).map (fun i => (i.zero, i.size, i.bytes)) = some (some (.tuple #[(.pointer none), .nilIface]), 1, 0) := by kernel_rfl
theorem sz55 : (Tryd.prog.info? 55).map (·.size) = some 1 := by kernel_rfl
theorem zr55 : (Tryd.prog.info? 55).map (·.zero) = some (some .nilFunc) := by kernel_rfl
theorem zs55 : (Tryd.prog.info? 55).map (fun i => (i.zero, i.size)) = some (some .nilFunc, 1) := by kernel_rfl
theorem zb55 : (Tryd.prog.info? 55).map (fun i => (i.zero, i.size, i.bytes)) = some (some .nilFunc, 1, 8) := by kernel_rfl
theorem sz56 : (Tryd.prog.info? 56).map (·.size) = some 1 := by kernel_rfl
theorem zr56 : (Tryd.prog.info? 56).map (·.zero) = some (some (.pointer none)) := by kernel_rfl
theorem zs56 : (Tryd.prog.info? 56).map (fun i => (i.zero, i.size)) = some (some (.pointer none), 1) := by kernel_rfl
theorem zb56 : (Tryd.prog.info? 56).map (fun i => (i.zero, i.size, i.bytes)) = some (some (.pointer none), 1, 8) := by kernel_rfl
theorem sz57 : (Tryd.prog.info? 57).map (·.size) = some 1 := by kernel_rfl
theorem zr57 : (Tryd.prog.info? 57).map (·.zero) = some (some .nilFunc) := by kernel_rfl
theorem zs57 : (Tryd.prog.info? 57).map (fun i => (i.zero, i.size)) = some (some .nilFunc, 1) := by kernel_rfl
theorem zb57 : (Tryd.prog.info? 57).map (fun i => (i.zero, i.size, i.bytes)) = some (some .nilFunc, 1, 8) := by kernel_rfl
theorem sz58 : (Tryd.prog.info? 58).map (·.size) = some 1 := by kernel_rfl
theorem zr58 : (Tryd.prog.info? 58).map (·.zero) = some (some .nilFunc) := by kernel_rfl
theorem zs58 : (Tryd.prog.info? 58).map (fun i => (i.zero, i.size)) = some (some .nilFunc, 1) := by kernel_rfl
theorem zb58 : (Tryd.prog.info? 58).map (fun i => (i.zero, i.size, i.bytes)) = some (some .nilFunc, 1, 8) := by kernel_rfl
theorem sz59 : (Tryd.prog.info? 59).map (·.size) = some 1 := by kernel_rfl
theorem zr59 : (Tryd.prog.info? 59).map (·.zero) = some (some .nilFunc) := by kernel_rfl
theorem zs59 : (Tryd.prog.info? 59).map (fun i => (i.zero, i.size)) = some (some .nilFunc, 1) := by kernel_rfl
theorem zb59 : (Tryd.prog.info? 59).map (fun i => (i.zero, i.size, i.bytes)) = some (some .nilFunc, 1, 8) := by kernel_rfl
theorem sz60 : (Tryd.prog.info? 60).map (·.size) = some 1 := by kernel_rfl
theorem zr60 : (Tryd.prog.info? 60).map (·.zero) = some (some (.slice none 0 0)) := by kernel_rfl
theorem zs60 : (Tryd.prog.info? 60).map (fun i => (i.zero, i.size)) = some (some (.slice none 0 0), 1) := by kernel_rfl
theorem zb60 : (Tryd.prog.info? 60).map (fun i => (i.zero, i.size, i.bytes)) = some (some (.slice none 0 0), 1, 24) := by kernel_rfl
theorem sz61 : (Tryd.prog.info? 61).map (·.size) = some 1 := by kernel_rfl
theorem zr61 : (Tryd.prog.info? 61).map (·.zero) = some (some .nilFunc) := by kernel_rfl
theorem zs61 : (Tryd.prog.info? 61).map (fun i => (i.zero, i.size)) = some (some .nilFunc, 1) := by kernel_rfl
theorem zb61 : (Tryd.prog.info? 61).map (fun i => (i.zero, i.size, i.bytes)) = some (some .nilFunc, 1, 8) := by kernel_rfl
theorem sz62 : (Tryd.prog.info? 62).map (·.size) = some 1 := by kernel_rfl
theorem zr62 : (Tryd.prog.info? 62).map (·.zero) = some (some (.tuple #[(.int .i64 0), (.bool false)])) := by kernel_rfl
theorem zs62 : (Tryd.prog.info? 62).map (fun i => (i.zero, i.size)) = some (some (.tuple #[(.int .i64 0), (.bool false)]), 1) := by kernel_rfl
theorem zb62 : (Tryd.prog.info? 62).map (fun i => (i.zero, i.size, i.bytes)) = some (some (.tuple #[(.int .i64 0), (.bool false)]), 1, 0) := by kernel_rfl
theorem sz63 : (Tryd.prog.info? 63).map (·.size) = some 1 := by kernel_rfl
theorem zr63 : (Tryd.prog.info? 63).map (·.zero) = some (some .nilFunc) := by kernel_rfl
theorem zs63 : (Tryd.prog.info? 63).map (fun i => (i.zero, i.size)) = some (some .nilFunc, 1) := by kernel_rfl
theorem zb63 : (Tryd.prog.info? 63).map (fun i => (i.zero, i.size, i.bytes)) = some (some .nilFunc, 1, 8) := by kernel_rfl
theorem sz64 : (Tryd.prog.info? 64).map (·.size) = some 1 := by kernel_rfl
theorem zr64 : (Tryd.prog.info? 64).map (·.zero) = some (some .nilFunc) := by kernel_rfl
theorem zs64 : (Tryd.prog.info? 64).map (fun i => (i.zero, i.size)) = some (some .nilFunc, 1) := by kernel_rfl
theorem zb64 : (Tryd.prog.info? 64).map (fun i => (i.zero, i.size, i.bytes)) = some (some .nilFunc, 1, 8) := by kernel_rfl
theorem sz65 : (Tryd.prog.info? 65).map (·.size) = some 1 := by kernel_rfl
theorem zr65 : (Tryd.prog.info? 65).map (·.zero) = some (some .nilFunc) := by kernel_rfl
theorem zs65 : (Tryd.prog.info? 65).map (fun i => (i.zero, i.size)) = some (some .nilFunc, 1) := by kernel_rfl
theorem zb65 : (Tryd.prog.info? 65).map (fun i => (i.zero, i.size, i.bytes)) = some (some .nilFunc, 1, 8) := by kernel_rfl
theorem sz66 : (Tryd.prog.info? 66).map (·.size) = some 1 := by kernel_rfl
theorem zr66 : (Tryd.prog.info? 66).map (·.zero) = some (some (.tuple #[(.string ByteArray.empty), (.agg #[(.int .i64 0), (.int .u64 0), (.int .u64 0), (.int .u64 0), (.int .u64 0), (.slice none 0 0)]), (.slice none 0 0)])) := by kernel_rfl
theorem zs66 : (Tryd.prog.info? 66).map (fun i => (i.zero, i.size)) = some (some (.tuple #[(.string ByteArray.empty), (.agg #[(.int .i64 0), (.int .u64 0), (.int .u64 0), (.int .u64 0), (.int .u64 0), (.slice none 0 0)]), (.slice none 0 0)]), 1) := by kernel_rfl
theorem zb66 : (Tryd.prog.info? 66).map (fun i => (i.zero, i.size, i.bytes)) = some (some (.tuple #[(.string ByteArray.empty), (.agg #[(.int .i64 0), (.int .u64 0), (.int .u64 0), (.int .u64 0), (.int .u64 0), (.slice none 0 0)]), (.slice none 0 0)]), 1, 0) := by kernel_rfl
theorem sz67 : (Tryd.prog.info? 67).map (·.size) = some 1 := by kernel_rfl
theorem zr67 : (Tryd.prog.info? 67).map (·.zero) = some (some .nilFunc) := by kernel_rfl
theorem zs67 : (Tryd.prog.info? 67).map (fun i => (i.zero, i.size)) = some (some .nilFunc, 1) := by kernel_rfl
theorem zb67 : (Tryd.prog.info? 67).map (fun i => (i.zero, i.size, i.bytes)) = some (some .nilFunc, 1, 8) := by kernel_rfl
theorem sz68 : (Tryd.prog.info? 68).map (·.size) = some 1 := by kernel_rfl
theorem zr68 : (Tryd.prog.info? 68).map (·.zero) = some (some .nilFunc) := by kernel_rfl
theorem zs68 : (Tryd.prog.info? 68).map (fun i => (i.zero, i.size)) = some (some .nilFunc, 1) := by kernel_rfl
theorem zb68 : (Tryd.prog.info? 68).map (fun i => (i.zero, i.size, i.bytes)) = some (some .nilFunc, 1, 8) := by kernel_rfl
theorem sz69 : (Tryd.prog.info? 69).map (·.size) = some 1 := by kernel_rfl
theorem zr69 : (Tryd.prog.info? 69).map (·.zero) = some (some (.pointer none)) := by kernel_rfl
theorem zs69 : (Tryd.prog.info? 69).map (fun i => (i.zero, i.size)) = some (some (.pointer none), 1) := by kernel_rfl
theorem zb69 : (Tryd.prog.info? 69).map (fun i => (i.zero, i.size, i.bytes)) = some (some (.pointer none), 1, 8) := by kernel_rfl
theorem sz70 : (Tryd.prog.info? 70).map (·.size) = some 2 := by kernel_rfl
theorem zr70 : (Tryd.prog.info? 70).map (·.zero) = some (some (.agg #[(.string ByteArray.empty), (.int .i64 0)])) := by kernel_rfl
theorem zs70 : (Tryd.prog.info? 70).map (fun i => (i.zero, i.size)) = some (some (.agg #[(.string ByteArray.empty), (.int .i64 0)]), 2) := by kernel_rfl
theorem zb70 : (Tryd.prog.info? 70).map (fun i => (i.zero, i.size, i.bytes)) = some (some (.agg #[(.string ByteArray.empty), (.int .i64 0)]), 2, 24) := by kernel_rfl
theorem sz71 : (Tryd.prog.info? 71).map (·.size) = some 2 := by kernel_rfl
theorem zr71 : (Tryd.prog.info? 71).map (·.zero) = some (some (.agg #[(.string ByteArray.empty), (.int .i64 0)])) := by kernel_rfl
theorem zs71 : (Tryd.prog.info? 71).map (fun i => (i.zero, i.size)) = some (some (.agg #[(.string ByteArray.empty), (.int .i64 0)]), 2) := by kernel_rfl
theorem zb71 : (Tryd.prog.info? 71).map (fun i => (i.zero, i.size, i.bytes)) = some (some (.agg #[(.string ByteArray.empty), (.int .i64 0)]), 2, 24) := by kernel_rfl
theorem sz72 : (Tryd.prog.info? 72).map (·.size) = some 1 := by kernel_rfl
theorem zr72 : (Tryd.prog.info? 72).map (·.zero) = some (some .nilFunc) := by kernel_rfl
theorem zs72 : (Tryd.prog.info? 72).map (fun i => (i.zero, i.size)) = some (some .nilFunc, 1) := by kernel_rfl
theorem zb72 : (Tryd.prog.info? 72).map (fun i => (i.zero, i.size, i.bytes)) = some (some .nilFunc, 1, 8) := by kernel_rfl
theorem sz73 : (Tryd.prog.info? 73).map (·.size) = some 1 := by kernel_rfl
theorem zr73 : (Tryd.prog.info? 73).map (·.zero) = some (some .nilFunc) := by kernel_rfl
theorem zs73 : (Tryd.prog.info? 73).map (fun i => (i.zero, i.size)) = some (some .nilFunc, 1) := by kernel_rfl
theorem zb73 : (Tryd.prog.info? 73).map (fun i => (i.zero, i.size, i.bytes)) = some (some .nilFunc, 1, 8) := by kernel_rfl
theorem sz74 : (Tryd.prog.info? 74).map (·.size) = some 1 := by kernel_rfl
theorem zr74 : (Tryd.prog.info? 74).map (·.zero) = some (some .nilFunc) := by kernel_rfl
theorem zs74 : (Tryd.prog.info? 74).map (fun i => (i.zero, i.size)) = some (some .nilFunc, 1) := by kernel_rfl
theorem zb74 : (Tryd.prog.info? 74).map (fun i => (i.zero, i.size, i.bytes)) = some (some .nilFunc, 1, 8) := by kernel_rfl
theorem sz75 : (Tryd.prog.info? 75).map (·.size) = some 1 := by kernel_rfl
theorem zr75 : (Tryd.prog.info? 75).map (·.zero) = some (some (.pointer none)) := by kernel_rfl
theorem zs75 : (Tryd.prog.info? 75).map (fun i => (i.zero, i.size)) = some (some (.pointer none), 1) := by kernel_rfl
theorem zb75 : (Tryd.prog.info? 75).map (fun i => (i.zero, i.size, i.bytes)) = some (some (.pointer none), 1, 8) := by kernel_rfl
theorem sz76 : (Tryd.prog.info? 76).map (·.size) = some 2 := by kernel_rfl
theorem zr76 : (Tryd.prog.info? 76).map (·.zero) = some (some (.agg #[(.int .i64 0), (.int .i64 0)])) := by kernel_rfl
theorem zs76 : (Tryd.prog.info? 76).map (fun i => (i.zero, i.size)) = some (some (.agg #[(.int .i64 0), (.int .i64 0)]), 2) := by kernel_rfl
theorem zb76 : (Tryd.prog.info? 76).map (fun i => (i.zero, i.size, i.bytes)) = some (some (.agg #[(.int .i64 0), (.int .i64 0)]), 2, 16) := by kernel_rfl
theorem sz77 : (Tryd.prog.info? 77).map (·.size) = some 2 := by kernel_rfl
theorem zr77 : (Tryd.prog.info? 77).map (·.zero) = some (some (.agg #[(.int .i64 0), (.int .i64 0)])) := by kernel_rfl
theorem zs77 : (Tryd.prog.info? 77).map (fun i => (i.zero, i.size)) = some (some (.agg #[(.int .i64 0), (.int .i64 0)]), 2) := by kernel_rfl
theorem zb77 : (Tryd.prog.info? 77).map (fun i => (i.zero, i.size, i.bytes)) = some (some (.agg #[(.int .i64 0), (.int .i64 0)]), 2, 16) := by kernel_rfl
theorem sz78 : (Tryd.prog.info? 78).map (·.size) = some 1 := by kernel_rfl
theorem zr78 : (Tryd.prog.info? 78).map (·.zero) = some (some (.pointer none)) := by kernel_rfl
theorem zs78 : (Tryd.prog.info? 78).map (fun i => (i.zero, i.size)) = some (some (.pointer none), 1) := by kernel_rfl
theorem zb78 : (Tryd.prog.info? 78).map (fun i => (i.zero, i.size, i.bytes)) = some (some (.pointer none), 1, 8) := by kernel_rfl
theorem sz79 : (Tryd.prog.info? 79).map (·.size) = some 1 := by kernel_rfl
theorem zr79 : (Tryd.prog.info? 79).map (·.zero) = some (some (.map none)) := by kernel_rfl
theorem zs79 : (Tryd.prog.info? 79).map (fun i => (i.zero, i.size)) = some (some (.map none), 1) := by kernel_rfl
theorem zb79 : (Tryd.prog.info? 79).map (fun i => (i.zero, i.size, i.bytes)) = some (some (.map none), 1, 8) := by kernel_rfl
theorem sz80 : (Tryd.prog.info? 80).map (·.size) = some 1 := by kernel_rfl
theorem zr80 : (Tryd.prog.info? 80).map (·.zero) = some (some (.pointer none)) := by kernel_rfl
theorem zs80 : (Tryd.prog.info? 80).map (fun i => (i.zero, i.size)) = some (some (.pointer none), 1) := by kernel_rfl
theorem zb80 : (Tryd.prog.info? 80).map (fun i => (i.zero, i.size, i.bytes)) = some (some (.pointer none), 1, 8) := by kernel_rfl
theorem sz81 : (Tryd.prog.info? 81).map (·.size) = some 2 := by kernel_rfl
theorem zr81 : (Tryd.prog.info? 81).map (·.zero) = some (some (.agg #[(.pointer none), (.slice none 0 0)])) := by kernel_rfl
theorem zs81 : (Tryd.prog.info? 81).map (fun i => (i.zero, i.size)) = some (some (.agg #[(.pointer none), (.slice none 0 0)]), 2) := by kernel_rfl
theorem zb81 : (Tryd.prog.info? 81).map (fun i => (i.zero, i.size, i.bytes)) = some (some (.agg #[(.pointer none), (.slice none 0 0)]), 2, 32) := by kernel_rfl
theorem sz82 : (Tryd.prog.info? 82).map (·.size) = some 2 := by kernel_rfl
theorem zr82 : (Tryd.prog.info? 82).map (·.zero) = some (some (.agg #[(.pointer none), (.slice none 0 0)])) := by kernel_rfl
theorem zs82 : (Tryd.prog.info? 82).map (fun i => (i.zero, i.size)) = some (some (.agg #[(.pointer none), (.slice none 0 0)]), 2) := by kernel_rfl
theorem zb82 : (Tryd.prog.info? 82).map (fun i => (i.zero, i.size, i.bytes)) = some (some (.agg #[(.pointer none), (.slice none 0 0)]), 2, 32) := by kernel_rfl
theorem sz83 : (Tryd.prog.info? 83).map (·.size) = some 1 := by kernel_rfl
theorem zr83 : (Tryd.prog.info? 83).map (·.zero) = some (some .nilFunc) := by kernel_rfl
theorem zs83 : (Tryd.prog.info? 83).map (fun i => (i.zero, i.size)) = some (some .nilFunc, 1) := by kernel_rfl
theorem zb83 : (Tryd.prog.info? 83).map (fun i => (i.zero, i.size, i.bytes)) = some (some .nilFunc, 1, 8) := by kernel_rfl
theorem sz84 : (Tryd.prog.info? 84).map (·.size) = some 1 := by kernel_rfl
theorem zr84 : (Tryd.prog.info? 84).map (·.zero) = some (some .nilFunc) := by kernel_rfl
theorem zs84 : (Tryd.prog.info? 84).map (fun i => (i.zero, i.size)) = some (some .nilFunc, 1) := by kernel_rfl
theorem zb84 : (Tryd.prog.info? 84).map (fun i => (i.zero, i.size, i.bytes)) = some (some .nilFunc, 1, 8) := by kernel_rfl
theorem sz85 : (Tryd.prog.info? 85).map (·.size) = some 1 := by kernel_rfl
theorem zr85 : (Tryd.prog.info? 85).map (·.zero) = some (some .nilFunc) := by kernel_rfl
theorem zs85 : (Tryd.prog.info? 85).map (fun i => (i.zero, i.size)) = some (some .nilFunc, 1) := by kernel_rfl
theorem zb85 : (Tryd.prog.info? 85).map (fun i => (i.zero, i.size, i.bytes)) = some (some .nilFunc, 1, 8) := by kernel_rfl
theorem sz86 : (Tryd.prog.info? 86).map (·.size) = some 1 := by kernel_rfl
theorem zr86 : (Tryd.prog.info? 86).map (·.zero) = some (some (.slice none 0 0)) := by kernel_rfl
theorem zs86 : (Tryd.prog.info? 86).map (fun i => (i.zero, i.size)) = some (some (.slice none 0 0), 1) := by kernel_rfl
theorem zb86 : (Tryd.prog.info? 86).map (fun i => (i.zero, i.size, i.bytes)) = some (some (.slice none 0 0), 1, 24) := by kernel_rfl
theorem sz87 : (Tryd.prog.info? 87).map (·.size) = some 1 := by kernel_rfl
theorem zr87 : (Tryd.prog.info? 87).map (·.zero) = some (some (.slice none 0 0)) := by kernel_rfl
theorem zs87 : (Tryd.prog.info? 87).map (fun i => (i.zero, i.size)) = some (some (.slice none 0 0), 1) := by kernel_rfl
theorem zb87 : (Tryd.prog.info? 87).map (fun i => (i.zero, i.size, i.bytes)) = some (some (.slice none 0 0), 1, 24) := by kernel_rfl
theorem sz88 : (Tryd.prog.info? 88).map (·.size) = some 4 := by kernel_rfl
theorem zr88 : (Tryd.prog.info? 88).map (·.zero) = some (some (.agg #[(.slice none 0 0), (.slice none 0 0), (.int .i64 0), (.bool false)])) := by kernel_rfl
theorem zs88 : (Tryd.prog.info? 88).map (fun i => (i.zero, i.size)) = some (some (.agg #[(.slice none 0 0), (.slice none 0 0), (.int .i64 0), (.bool false)]), 4) := by kernel_rfl
theorem zb88 : (Tryd.prog.info? 88).map (fun i => (i.zero, i.size, i.bytes)) = some (some (.agg #[(.slice none 0 0), (.slice none 0 0), (.int .i64 0), (.bool false)]), 4, 64) := by kernel_rfl
theorem sz89 : (Tryd.prog.info? 89).map (·.size) = some 4 := by kernel_rfl
theorem zr89 : (Tryd.prog.info? 89).map (·.zero) = some (some (.agg #[(.slice none 0 0), (.slice none 0 0), (.int .i64 0), (.bool false)])) := by kernel_rfl
theorem zs89 : (Tryd.prog.info? 89).map (fun i => (i.zero, i.size)) = some (some (.agg #[(.slice none 0 0), (.slice none 0 0), (.int .i64 0), (.bool false)]), 4) := by kernel_rfl
theorem zb89 : (Tryd.prog.info? 89).map (fun i => (i.zero, i.size, i.bytes)) = some (some (.agg #[(.slice none 0 0), (.slice none 0 0), (.int .i64 0), (.bool false)]), 4, 64) := by kernel_rfl
theorem sz90 : (Tryd.prog.info? 90).map (·.size) = some 1 := by kernel_rfl
theorem zr90 : (Tryd.prog.info? 90).map (·.zero) = some (some (.pointer none)) := by kernel_rfl
theorem zs90 : (Tryd.prog.info? 90).map (fun i => (i.zero, i.size)) = some (some (.pointer none), 1) := by kernel_rfl
theorem zb90 : (Tryd.prog.info? 90).map (fun i => (i.zero, i.size, i.bytes)) = some (some (.pointer none), 1, 8) := by kernel_rfl
theorem sz91 : (Tryd.prog.info? 91).map (·.size) = some 1 := by kernel_rfl
theorem zr91 : (Tryd.prog.info? 91).map (·.zero) = some (some (.map none)) := by kernel_rfl
theorem zs91 : (Tryd.prog.info? 91).map (fun i => (i.zero, i.size)) = some (some (.map none), 1) := by kernel_rfl
theorem zb91 : (Tryd.prog.info? 91).map (fun i => (i.zero, i.size, i.bytes)) = some (some (.map none), 1, 8) := by kernel_rfl
theorem sz92 : (Tryd.prog.info? 92).map (·.size) = some 1 := by kernel_rfl
theorem zr92 : (Tryd.prog.info? 92).map (·.zero) = some (some (.slice none 0 0)) := by kernel_rfl
theorem zs92 : (Tryd.prog.info? 92).map (fun i => (i.zero, i.size)) = some (some (.slice none 0 0), 1) := by kernel_rfl
theorem zb92 : (Tryd.prog.info? 92).map (fun i => (i.zero, i.size, i.bytes)) = some (some (.slice none 0 0), 1, 24) := by kernel_rfl
theorem sz93 : (Tryd.prog.info? 93).map (·.size) = some 2 := by kernel_rfl
theorem zr93 : (Tryd.prog.info? 93).map (·.zero) = some (some (.agg #[(.slice none 0 0), (.map none)])) := by kernel_rfl
theorem zs93 : (Tryd.prog.info? 93).map (fun i => (i.zero, i.size)) = some (some (.agg #[(.slice none 0 0), (.map none)]), 2) := by kernel_rfl
theorem zb93 : (Tryd.prog.info? 93).map (fun i => (i.zero, i.size, i.bytes)) = some (some (.agg #[(.slice none 0 0), (.map none)]), 2, 32) := by kernel_rfl
theorem sz94 : (Tryd.prog.info? 94).map (·.size) = some 2 := by kernel_rfl
theorem zr94 : (Tryd.prog.info? 94).map (·.zero) = some (some (.agg #[(.slice none 0 0), (.map none)])) := by kernel_rfl
theorem zs94 : (Tryd.prog.info? 94).map (fun i => (i.zero, i.size)) = some (some (.agg #[(.slice none 0 0), (.map none)]), 2) := by kernel_rfl
theorem zb94 : (Tryd.prog.info? 94).map (fun i => (i.zero, i.size, i.bytes)) = some (some (.agg #[(.slice none 0 0), (.map none)]), 2, 32) := by kernel_rfl
theorem sz95 : (Tryd.prog.info? 95).map (·.size) = some 1 := by kernel_rfl
theorem zr95 : (Tryd.prog.info? 95).map (·.zero) = some (some (.map none)) := by kernel_rfl
theorem zs95 : (Tryd.prog.info? 95).map (fun i => (i.zero, i.size)) = some (some (.map none), 1) := by kernel_rfl
theorem zb95 : (Tryd.prog.info? 95).map (fun i => (i.zero, i.size, i.bytes)) = some (some (.map none), 1, 8) := by kernel_rfl
theorem sz96 : (Tryd.prog.info? 96).map (·.size) = some 3 := by kernel_rfl
theorem zr96 : (Tryd.prog.info? 96).map (·.zero) = some (some (.agg #[(.map none), (.map none), (.bool false)])) := by kernel_rfl
theorem zs96 : (Tryd.prog.info? 96).map (fun i => (i.zero, i.size)) = some (some (.agg #[(.map none), (.map none), (.bool false)]), 3) := by kernel_rfl
theorem zb96 : (Tryd.prog.info? 96).map (fun i => (i.zero, i.size, i.bytes)) = some (some (.agg #[(.map none), (.map none), (.bool false)]), 3, 24) := by kernel_rfl
theorem sz97 : (Tryd.prog.info? 97).map (·.size) = some 3 := by kernel_rfl
theorem zr97 : (Tryd.prog.info? 97).map (·.zero) = some (some (.agg #[(.map none), (.map none), (.bool false)])) := by kernel_rfl
theorem zs97 : (Tryd.prog.info? 97).map (fun i => (i.zero, i.size)) = some (some (.agg #[(.map none), (.map none), (.bool false)]), 3) := by kernel_rfl
theorem zb97 : (Tryd.prog.info? 97).map (fun i => (i.zero, i.size, i.bytes)) = some (some (.agg #[(.map none), (.map none), (.bool false)]), 3, 24) := by kernel_rfl
theorem sz98 : (Tryd.prog.info? 98).map (·.size) = some 1 := by kernel_rfl
theorem zr98 : (Tryd.prog.info? 98).map (·.zero) = some (some .nilFunc) := by kernel_rfl
theorem zs98 : (Tryd.prog.info? 98).map (fun i => (i.zero, i.size)) = some (some .nilFunc, 1) := by kernel_rfl
theorem zb98 : (Tryd.prog.info? 98).map (fun i => (i.zero, i.size, i.bytes)) = some (some .nilFunc, 1, 8) := by kernel_rfl
theorem sz99 : (Tryd.prog.info? 99).map (·.size) = some 1 := by kernel_rfl
theorem zr99 : (Tryd.prog.info? 99).map (·.zero) = some (some (.slice none 0 0)) := by kernel_rfl
theorem zs99 : (Tryd.prog.info? 99).map (fun i => (i.zero, i.size)) = some (some (.slice none 0 0), 1) := by kernel_rfl
theorem zb99 : (Tryd.prog.info? 99).map (fun i => (i.zero, i.size, i.bytes)) = some (some (.slice none 0 0), 1, 24) := by kernel_rfl
theorem sz100 : (Tryd.prog.info? 100).map (·.size) = some 5 := by kernel_rfl
theorem zr100 : (Tryd.prog.info? 100).map (·.zero) = some (some (.agg #[(.slice none 0 0), (.slice none 0 0), (.slice none 0 0), (.slice none 0 0), (.bool false)])) := by kernel_rfl
theorem zs100 : (Tryd.prog.info? 100).map (fun i => (i.zero, i.size)) = some (some (.agg #[(.slice none 0 0), (.slice none 0 0), (.slice none 0 0), (.slice none 0 0), (.bool false)]), 5) := by kernel_rfl
theorem zb100 : (Tryd.prog.info? 100).map (fun i => (i.zero, i.size, i.bytes)) = some (some (.agg #[(.slice none 0 0), (.slice none 0 0), (.slice none 0 0), (.slice none 0 0), (.bool false)]), 5, 104) := by kernel_rfl
theorem sz101 : (Tryd.prog.info? 101).map (·.size) = some 5 := by kernel_rfl
theorem zr101 : (Tryd.prog.info? 101).map (·.zero) = some (some (.agg #[(.slice none 0 0), (.slice none 0 0), (.slice none 0 0), (.slice none 0 0), (.bool false)])) := by kernel_rfl
theorem zs101 : (Tryd.prog.info? 101).map (fun i => (i.zero, i.size)) = some (some (.agg #[(.slice none 0 0), (.slice none 0 0), (.slice none 0 0), (.slice none 0 0), (.bool false)]), 5) := by kernel_rfl
theorem zb101 : (Tryd.prog.info? 101).map (fun i => (i.zero, i.size, i.bytes)) = some (some (.agg #[(.slice none 0 0), (.slice none 0 0), (.slice none 0 0), (.slice none 0 0), (.bool false)]), 5, 104) := by kernel_rfl
theorem sz102 : (Tryd.prog.info? 102).map (·.size) = some 2 := by kernel_rfl
theorem zr102 : (Tryd.prog.info? 102).map (·.zero) = some (some (.agg #[(.int .i64 0), (.int .i64 0)])) := by kernel_rfl
theorem zs102 : (Tryd.prog.info? 102).map (fun i => (i.zero, i.size)) = some (some (.agg #[(.int .i64 0), (.int .i64 0)]), 2) := by kernel_rfl
theorem zb102 : (Tryd.prog.info? 102).map (fun i => (i.zero, i.size, i.bytes)) = some (some (.agg #[(.int .i64 0), (.int .i64 0)]), 2, 16) := by kernel_rfl
theorem sz103 : (Tryd.prog.info? 103).map (·.size) = some 1 := by kernel_rfl
theorem zr103 : (Tryd.prog.info? 103).map (·.zero) = some (some .nilFunc) := by kernel_rfl
theorem zs103 : (Tryd.prog.info? 103).map (fun i => (i.zero, i.size)) = some (some .nilFunc, 1) := by kernel_rfl
theorem zb103 : (Tryd.prog.info? 103).map (fun i => (i.zero, i.size, i.bytes)) = some (some .nilFunc, 1, 8) := by kernel_rfl
theorem sz104 : (Tryd.prog.info? 104).map (·.size) = some 1 := by kernel_rfl
theorem zr104 : (Tryd.prog.info? 104).map (·.zero) = some (some .nilFunc) := by kernel_rfl
theorem zs104 : (Tryd.prog.info? 104).map (fun i => (i.zero, i.size)) = some (some .nilFunc, 1) := by kernel_rfl
theorem zb104 : (Tryd.prog.info? 104).map (fun i => (i.zero, i.size, i.bytes)) = some (some .nilFunc, 1, 8) := by kernel_rfl
theorem sz105 : (Tryd.prog.info? 105).map (·.size) = some 1 := by kernel_rfl
theorem zr105 : (Tryd.prog.info? 105).map (·.zero) = some (some .nilFunc) := by kernel_rfl
theorem zs105 : (Tryd.prog.info? 105).map (fun i => (i.zero, i.size)) = some (some .nilFunc, 1) := by kernel_rfl
theorem zb105 : (Tryd.prog.info? 105).map (fun i => (i.zero, i.size, i.bytes)) = some (some .nilFunc, 1, 8) := by kernel_rfl
theorem sz106 : (Tryd.prog.info? 106).map (·.size) = some 1 := by kernel_rfl
theorem zr106 : (Tryd.prog.info? 106).map (·.zero) = some (some (.pointer none)) := by kernel_rfl
theorem zs106 : (Tryd.prog.info? 106).map (fun i => (i.zero, i.size)) = some (some (.pointer none), 1) := by kernel_rfl
theorem zb106 : (Tryd.prog.info? 106).map (fun i => (i.zero, i.size, i.bytes)) = some (some (.pointer none), 1, 8) := by kernel_rfl
theorem sz107 : (Tryd.prog.info? 107).map (·.size) = some 1 := by kernel_rfl
theorem zr107 : (Tryd.prog.info? 107).map (·.zero) = some (some (.int .u64 0)) := by kernel_rfl
theorem zs107 : (Tryd.prog.info? 107).map (fun i => (i.zero, i.size)) = some (some (.int .u64 0), 1) := by kernel_rfl
theorem zb107 : (Tryd.prog.info? 107).map (fun i => (i.zero, i.size, i.bytes)) = some (some (.int .u64 0), 1, 8) := by kernel_rfl
theorem sz108 : (Tryd.prog.info? 108).map (·.size) = some 3 := by kernel_rfl
theorem zr108 : (Tryd.prog.info? 108).map (·.zero) = some (some (.agg #[(.pointer none), (.pointer none), (.int .u64 0)])) := by kernel_rfl
theorem zs108 : (Tryd.prog.info? 108).map (fun i => (i.zero, i.size)) = some (some (.agg #[(.pointer none), (.pointer none), (.int .u64 0)]), 3) := by kernel_rfl
theorem zb108 : (Tryd.prog.info? 108).map (fun i => (i.zero, i.size, i.bytes)) = some (some (.agg #[(.pointer none), (.pointer none), (.int .u64 0)]), 3, 24) := by kernel_rfl
theorem sz109 : (Tryd.prog.info? 109).map (·.size) = some 3 := by kernel_rfl
theorem zr109 : (Tryd.prog.info? 109).map (·.zero) = some (some (.agg #[(.pointer none), (.pointer none), (.int .u64 0)])) := by kernel_rfl
theorem zs109 : (Tryd.prog.info? 109).map (fun i => (i.zero, i.size)) = some (some (.agg #[(.pointer none), (.pointer none), (.int .u64 0)]), 3) := by kernel_rfl
theorem zb109 : (Tryd.prog.info? 109).map (fun i => (i.zero, i.size, i.bytes)) = some (some (.agg #[(.pointer none), (.pointer none), (.int .u64 0)]), 3, 24) := by kernel_rfl
theorem sz110 : (Tryd.prog.info? 110).map (·.size) = some 1 := by kernel_rfl
theorem zr110 : (Tryd.prog.info? 110).map (·.zero) = some (some .nilFunc) := by kernel_rfl
theorem zs110 : (Tryd.prog.info? 110).map (fun i => (i.zero, i.size)) = some (some .nilFunc, 1) := by kernel_rfl
theorem zb110 : (Tryd.prog.info? 110).map (fun i => (i.zero, i.size, i.bytes)) = some (some .nilFunc, 1, 8) := by kernel_rfl
theorem sz111 : (Tryd.prog.info? 111).map (·.size) = some 1 := by kernel_rfl
theorem zr111 : (Tryd.prog.info? 111).map (·.zero) = some (some .nilIface) := by kernel_rfl
theorem zs111 : (Tryd.prog.info? 111).map (fun i => (i.zero, i.size)) = some (some .nilIface, 1) := by kernel_rfl
theorem zb111 : (Tryd.prog.info? 111).map (fun i => (i.zero, i.size, i.bytes)) = some (some .nilIface, 1, 16) := by kernel_rfl
theorem sz112 : (Tryd.prog.info? 112).map (·.size) = some 1 := by kernel_rfl
theorem zr112 : (Tryd.prog.info? 112).map (·.zero) = some (some .nilIface) := by kernel_rfl
theorem zs112 : (Tryd.prog.info? 112).map (fun i => (i.zero, i.size)) = some (some .nilIface, 1) := by kernel_rfl
theorem zb112 : (Tryd.prog.info? 112).map (fun i => (i.zero, i.size, i.bytes)) = some (some .nilIface, 1, 16) := by kernel_rfl
theorem sz113 : (Tryd.prog.info? 113).map (·.size) = some 1 := by kernel_rfl
theorem zr113 : (Tryd.prog.info? 113).map (·.zero) = some (some .nilFunc) := by kernel_rfl
theorem zs113 : (Tryd.prog.info? 113).map (fun i => (i.zero, i.size)) = some (some .nilFunc, 1) := by kernel_rfl
theorem zb113 : (Tryd.prog.info? 113).map (fun i => (i.zero, i.size, i.bytes)) = some (some .nilFunc, 1, 8) := by kernel_rfl
theorem sz114 : (Tryd.prog.info? 114).map (·.size) = some 1 := by kernel_rfl
theorem zr114 : (Tryd.prog.info? 114).map (·.zero) = some (some (.int .u8 0)) := by kernel_rfl
theorem zs114 : (Tryd.prog.info? 114).map (fun i => (i.zero, i.size)) = some (some (.int .u8 0), 1) := by kernel_rfl
theorem zb114 : (Tryd.prog.info? 114).map (fun i => (i.zero, i.size, i.bytes)) = some (some (.int .u8 0), 1, 1) := by kernel_rfl
theorem sz115 : (Tryd.prog.info? 115).map (·.size) = some 1 := by kernel_rfl
theorem zr115 : (Tryd.prog.info? 115).map (·.zero) = some (some .nilFunc) := by kernel_rfl
theorem zs115 : (Tryd.prog.info? 115).map (fun i => (i.zero, i.size)) = some (some .nilFunc, 1) := by kernel_rfl
theorem zb115 : (Tryd.prog.info? 115).map (fun i => (i.zero, i.size, i.bytes)) = some (some .nilFunc, 1, 8) := by kernel_rfl
theorem sz116 : (Tryd.prog.info? 116).map (·.size) = some 1 := by kernel_rfl
theorem zr116 : (Tryd.prog.info? 116).map (·.zero) = some (some .nilFunc) := by kernel_rfl
theorem zs116 : (Tryd.prog.info? 116).map (fun i => (i.zero, i.size)) = some (some .nilFunc, 1) := by kernel_rfl
theorem zb116 : (Tryd.prog.info? 116).map (fun i => (i.zero, i.size, i.bytes)) = some (some .nilFunc, 1, 8) := by kernel_rfl
theorem sz117 : (Tryd.prog.info? 117).map (·.size) = some 1 := by kernel_rfl
theorem zr117 : (Tryd.prog.info? 117).map (·.zero) = some (some .nilFunc) := by kernel_rfl
theorem zs117 : (Tryd.prog.info? 117).map (fun i => (i.zero, i.size)) = some (some .nilFunc, 1) := by kernel_rfl
theorem zb117 : (Tryd.prog.info? 117).map (fun i => (i.zero, i.size, i.bytes)) = some (some .nilFunc, 1, 8) := by kernel_rfl
theorem sz118 : (Tryd.prog.info? 118).map (·.size) = some 1 := by kernel_rfl
theorem zr118 : (Tryd.prog.info? 118).map (·.zero) = some (some (.pointer none)) := by kernel_rfl
theorem zs118 : (Tryd.prog.info? 118).map (fun i => (i.zero, i.size)) = some (some (.pointer none), 1) := by kernel_rfl
theorem zb118 : (Tryd.prog.info? 118).map (fun i => (i.zero, i.size, i.bytes)) = some (some (.pointer none), 1, 8) := by kernel_rfl
theorem sz119 : (Tryd.prog.info? 119).map (·.size) = some 1 := by kernel_rfl
theorem zr119 : (Tryd.prog.info? 119).map (·.zero) = some (some .nilFunc) := by kernel_rfl
theorem zs119 : (Tryd.prog.info? 119).map (fun i => (i.zero, i.size)) = some (some .nilFunc, 1) := by kernel_rfl
theorem zb119 : (Tryd.prog.info? 119).map (fun i => (i.zero, i.size, i.bytes)) = some (some .nilFunc, 1, 8) := by kernel_rfl
theorem sz120 : (Tryd.prog.info? 120).map (·.size) = some 1 := by kernel_rfl
theorem zr120 : (Tryd.prog.info? 120).map (·.zero) = some (some .nilFunc) := by kernel_rfl
theorem zs120 : (Tryd.prog.info? 120).map (fun i => (i.zero, i.size)) = some (some .nilFunc, 1) := by kernel_rfl
theorem zb120 : (Tryd.prog.info? 120).map (fun i => (i.zero, i.size, i.bytes)) = some (some .nilFunc, 1, 8) := by kernel_rfl
theorem sz121 : (Tryd.prog.info? 121).map (·.size) = some 1 := by kernel_rfl
theorem zr121 : (Tryd.prog.info? 121).map (·.zero) = some (some .nilFunc) := by kernel_rfl
theorem zs121 : (Tryd.prog.info? 121).map (fun i => (i.zero, i.size)) = some (some .nilFunc, 1) := by kernel_rfl
theorem zb121 : (Tryd.prog.info? 121).map (fun i => (i.zero, i.size, i.bytes)) = some (some .nilFunc, 1, 8) := by kernel_rfl
theorem sz122 : (Tryd.prog.info? 122).map (·.size) = some 1 := by kernel_rfl
theorem zr122 : (Tryd.prog.info? 122).map (·.zero) = some (some (.agg #[(.pointer none)])) := by kernel_rfl
theorem zs122 : (Tryd.prog.info? 122).map (fun i => (i.zero, i.size)) = some (some (.agg #[(.pointer none)]), 1) := by kernel_rfl
theorem zb122 : (Tryd.prog.info? 122).map (fun i => (i.zero, i.size, i.bytes)) = some (some (.agg #[(.pointer none)]), 1, 8) := by kernel_rfl
theorem sz123 : (Tryd.prog.info? 123).map (·.size) = some 1 := by kernel_rfl
theorem zr123 : (Tryd.prog.info? 123).map (·.zero) = some (some (.agg #[(.pointer none)])) := by kernel_rfl
theorem zs123 : (Tryd.prog.info? 123).map (fun i => (i.zero, i.size)) = some (some (.agg #[(.pointer none)]), 1) := by kernel_rfl
theorem zb123 : (Tryd.prog.info? 123).map (fun i => (i.zero, i.size, i.bytes)) = some (some (.agg #[(.pointer none)]), 1, 8) := by kernel_rfl
theorem sz124 : (Tryd.prog.info? 124).map (·.size) = some 1 := by kernel_rfl
theorem zr124 : (Tryd.prog.info? 124).map (·.zero) = some (some (.pointer none)) := by kernel_rfl
theorem zs124 : (Tryd.prog.info? 124).map (fun i => (i.zero, i.size)) = some (some (.pointer none), 1) := by kernel_rfl
theorem zb124 : (Tryd.prog.info? 124).map (fun i => (i.zero, i.size, i.bytes)) = some (some (.pointer none), 1, 8) := by kernel_rfl
theorem sz125 : (Tryd.prog.info? 125).map (·.size) = some 1 := by kernel_rfl
theorem zr125 : (Tryd.prog.info? 125).map (·.zero) = some (some .nilFunc) := by kernel_rfl
theorem zs125 : (Tryd.prog.info? 125).map (fun i => (i.zero, i.size)) = some (some .nilFunc, 1) := by kernel_rfl
theorem zb125 : (Tryd.prog.info? 125).map (fun i => (i.zero, i.size, i.bytes)) = some (some .nilFunc, 1, 8) := by kernel_rfl
theorem sz126 : (Tryd.prog.info? 126).map (·.size) = some 1 := by kernel_rfl
theorem zr126 : (Tryd.prog.info? 126).map (·.zero) = some (some .nilFunc) := by kernel_rfl
theorem zs126 : (Tryd.prog.info? 126).map (fun i => (i.zero, i.size)) = some (some .nilFunc, 1) := by kernel_rfl
theorem zb126 : (Tryd.prog.info? 126).map (fun i => (i.zero, i.size, i.bytes)) = some (some .nilFunc, 1, 8) := by kernel_rfl
theorem sz127 : (Tryd.prog.info? 127).map (·.size) = some 1 := by kernel_rfl
theorem zr127 : (Tryd.prog.info? 127).map (·.zero) = some (some .nilFunc) := by kernel_rfl
theorem zs127 : (Tryd.prog.info? 127).map (fun i => (i.zero, i.size)) = some (some .nilFunc, 1) := by kernel_rfl
theorem zb127 : (Tryd.prog.info? 127).map (fun i => (i.zero, i.size, i.bytes)) = some (some .nilFunc, 1, 8) := by kernel_rfl
theorem sz128 : (Tryd.prog.info? 128).map (·.size) = some 1 := by kernel_rfl
theorem zr128 : (Tryd.prog.info? 128).map (·.zero) = some (some .nilIface) := by kernel_rfl
theorem zs128 : (Tryd.prog.info? 128).map (fun i => (i.zero, i.size)) = some (some .nilIface, 1) := by kernel_rfl
theorem zb128 : (Tryd.prog.info? 128).map (fun i => (i.zero, i.size, i.bytes)) = some (some .nilIface, 1, 16) := by kernel_rfl
theorem sz129 : (Tryd.prog.info? 129).map (·.size) = some 1 := by kernel_rfl
theorem zr129 : (Tryd.prog.info? 129).map (·.zero) = some (some (.tuple #[.nilIface, (.bool false)])) := by kernel_rfl
theorem zs129 : (Tryd.prog.info? 129).map (fun i => (i.zero, i.size)) = some (some (.tuple #[.nilIface, (.bool false)]), 1) := by kernel_rfl
theorem zb129 : (Tryd.prog.info? 129).map (fun i => (i.zero, i.size, i.bytes)) = some (some (.tuple #[.nilIface, (.bool false)]), 1, 0) := by kernel_rfl
theorem sz130 : (Tryd.prog.info? 130).map (·.size) = some 1 := by kernel_rfl
theorem zr130 : (Tryd.prog.info? 130).map (·.zero) = some (some .nilFunc) := by kernel_rfl
theorem zs130 : (Tryd.prog.info? 130).map (fun i => (i.zero, i.size)) = some (some .nilFunc, 1) := by kernel_rfl
theorem zb130 : (Tryd.prog.info? 130).map (fun i => (i.zero, i.size, i.bytes)) = some (some .nilFunc, 1, 8) := by kernel_rfl
theorem sz131 : (Tryd.prog.info? 131).map (·.size) = some 1 := by kernel_rfl
theorem zr131 : (Tryd.prog.info? 131).map (·.zero) = some (some .nilIface) := by kernel_rfl
theorem zs131 : (Tryd.prog.info? 131).map (fun i => (i.zero, i.size)) = some (some .nilIface, 1) := by kernel_rfl
theorem zb131 : (Tryd.prog.info? 131).map (fun i => (i.zero, i.size, i.bytes)) = some (some .nilIface, 1, 16) := by kernel_rfl
theorem sz132 : (Tryd.prog.info? 132).map (·.size) = some 1 := by kernel_rfl
theorem zr132 : (Tryd.prog.info? 132).map (·.zero) = some (some .nilIface) := by kernel_rfl
theorem zs132 : (Tryd.prog.info? 132).map (fun i => (i.zero, i.size)) = some (some .nilIface, 1) := by kernel_rfl
theorem zb132 : (Tryd.prog.info? 132).map (fun i => (i.zero, i.size, i.bytes)) = some (some .nilIface, 1, 16) := by kernel_rfl
theorem sz133 : (Tryd.prog.info? 133).map (·.size) = some 1 := by kernel_rfl
theorem zr133 : (Tryd.prog.info? 133).map (·.zero) = some (some (.slice none 0 0)) := by kernel_rfl
theorem zs133 : (Tryd.prog.info? 133).map (fun i => (i.zero, i.size)) = some (some (.slice none 0 0), 1) := by kernel_rfl
theorem zb133 : (Tryd.prog.info? 133).map (fun i => (i.zero, i.size, i.bytes)) = some (some (.slice none 0 0), 1, 24) := by kernel_rfl
theorem sz134 : (Tryd.prog.info? 134).map (·.size) = some 1 := by kernel_rfl
theorem zr134 : (Tryd.prog.info? 134).map (·.zero) = some (some .nilFunc) := by kernel_rfl
theorem zs134 : (Tryd.prog.info? 134).map (fun i => (i.zero, i.size)) = some (some .nilFunc, 1) := by kernel_rfl
theorem zb134 : (Tryd.prog.info? 134).map (fun i => (i.zero, i.size, i.bytes)) = some (some .nilFunc, 1, 8) := by kernel_rfl
theorem sz135 : (Tryd.prog.info? 135).map (·.size) = some 1 := by kernel_rfl
theorem zr135 : (Tryd.prog.info? 135).map (·.zero) = some (some .nilFunc) := by kernel_rfl
theorem zs135 : (Tryd.prog.info? 135).map (fun i => (i.zero, i.size)) = some (some .nilFunc, 1) := by kernel_rfl
theorem zb135 : (Tryd.prog.info? 135).map (fun i => (i.zero, i.size, i.bytes)) = some (some .nilFunc, 1, 8) := by kernel_rfl
theorem sz136 : (Tryd.prog.info? 136).map (·.size) = some 1 := by kernel_rfl
theorem zr136 : (Tryd.prog.info? 136).map (·.zero) = some (some .nilFunc) := by kernel_rfl
theorem zs136 : (Tryd.prog.info? 136).map (fun i => (i.zero, i.size)) = some (some .nilFunc, 1) := by kernel_rfl
theorem zb136 : (Tryd.prog.info? 136).map (fun i => (i.zero, i.size, i.bytes)) = some (some .nilFunc, 1, 8) := by kernel_rfl
theorem sz137 : (Tryd.prog.info? 137).map (·.size) = some 1 := by kernel_rfl
theorem zr137 : (Tryd.prog.info? 137).map (·.zero) = some (some (.tuple #[(.int .u8 0), .nilIface])) := by kernel_rfl
theorem zs137 : (Tryd.prog.info? 137).map (fun i => (i.zero, i.size)) = some (some (.tuple #[(.int .u8 0), .nilIface]), 1) := by kernel_rfl
theorem zb137 : (Tryd.prog.info? 137).map (fun i => (i.zero, i.size, i.bytes)) = some (some (.tuple #[(.int .u8 0), .nilIface]), 1, 0) := by kernel_rfl
theorem sz138 : (Tryd.prog.info? 138).map (·.size) = some 1 := by kernel_rfl
theorem zr138 : (Tryd.prog.info? 138).map (·.zero) = some (some .nilFunc) := by kernel_rfl
theorem zs138 : (Tryd.prog.info? 138).map (fun i => (i.zero, i.size)) = some (some .nilFunc, 1) := by kernel_rfl
theorem zb138 : (Tryd.prog.info? 138).map (fun i => (i.zero, i.size, i.bytes)) = some (some .nilFunc, 1, 8) := by kernel_rfl
theorem sz139 : (Tryd.prog.info? 139).map (·.size) = some 4 := by kernel_rfl
theorem zr139 : (Tryd.prog.info? 139).map (·.zero) = some (some (.agg #[(.pointer none), (.pointer none), (.pointer none), (.string ByteArray.empty)])) := by kernel_rfl
theorem zs139 : (Tryd.prog.info? 139).map (fun i => (i.zero, i.size)) = some (some (.agg #[(.pointer none), (.pointer none), (.pointer none), (.string ByteArray.empty)]), 4) := by kernel_rfl
theorem zb139 : (Tryd.prog.info? 139).map (fun i => (i.zero, i.size, i.bytes)) = some (some (.agg #[(.pointer none), (.pointer none), (.pointer none), (.string ByteArray.empty)]), 4, 40) := by kernel_rfl
theorem sz140 : (Tryd.prog.info? 140).map (·.size) = some 4 := by kernel_rfl
theorem zr140 : (Tryd.prog.info? 140).map (·.zero) = some (some (.agg #[(.pointer none), (.pointer none), (.pointer none), (.string ByteArray.empty)])) := by kernel_rfl
theorem zs140 : (Tryd.prog.info? 140).map (fun i => (i.zero, i.size)) = some (some (.agg #[(.pointer none), (.pointer none), (.pointer none), (.string ByteArray.empty)]), 4) := by kernel_rfl
theorem zb140 : (Tryd.prog.info? 140).map (fun i => (i.zero, i.size, i.bytes)) = some (some (.agg #[(.pointer none), (.pointer none), (.pointer none), (.string ByteArray.empty)]), 4, 40) := by kernel_rfl
theorem sz141 : (Tryd.prog.info? 141).map (·.size) = some 0 := by kernel_rfl
theorem zr141 : (Tryd.prog.info? 141).map (·.zero) = some (some (.agg #[])) := by kernel_rfl
theorem zs141 : (Tryd.prog.info? 141).map (fun i => (i.zero, i.size)) = some (some (.agg #[]), 0) := by kernel_rfl
theorem zb141 : (Tryd.prog.info? 141).map (fun i => (i.zero, i.size, i.bytes)) = some (some (.agg #[]), 0, 0) := by kernel_rfl
theorem sz142 : (Tryd.prog.info? 142).map (·.size) = some 0 := by kernel_rfl
theorem zr142 : (Tryd.prog.info? 142).map (·.zero) = some (some (.agg #[])) := by kernel_rfl
theorem zs142 : (Tryd.prog.info? 142).map (fun i => (i.zero, i.size)) = some (some (.agg #[]), 0) := by kernel_rfl
theorem zb142 : (Tryd.prog.info? 142).map (fun i => (i.zero, i.size, i.bytes)) = some (some (.agg #[]), 0, 0) := by kernel_rfl
theorem sz143 : (Tryd.prog.info? 143).map (·.size) = some 0 := by kernel_rfl
theorem zr143 : (Tryd.prog.info? 143).map (·.zero) = some (some (.agg #[])) := by kernel_rfl
theorem zs143 : (Tryd.prog.info? 143).map (fun i => (i.zero, i.size)) = some (some (.agg #[]), 0) := by kernel_rfl
theorem zb143 : (Tryd.prog.info? 143).map (fun i => (i.zero, i.size, i.bytes)) = some (some (.agg #[]), 0, 0) := by kernel_rfl
theorem sz144 : (Tryd.prog.info? 144).map (·.size) = some 1 := by kernel_rfl
theorem zr144 : (Tryd.prog.info? 144).map (·.zero) = some (some .nilFunc) := by kernel_rfl
theorem zs144 : (Tryd.prog.info? 144).map (fun i => (i.zero, i.size)) = some (some .nilFunc, 1) := by kernel_rfl
theorem zb144 : (Tryd.prog.info? 144).map (fun i => (i.zero, i.size, i.bytes)) = some (some .nilFunc, 1, 8) := by kernel_rfl
theorem sz145 : (Tryd.prog.info? 145).map (·.size) = some 1 := by kernel_rfl
theorem zr145 : (Tryd.prog.info? 145).map (·.zero) = some (some (.int .u32 0)) := by kernel_rfl
theorem zs145 : (Tryd.prog.info? 145).map (fun i => (i.zero, i.size)) = some (some (.int .u32 0), 1) := by kernel_rfl
theorem zb145 : (Tryd.prog.info? 145).map (fun i => (i.zero, i.size, i.bytes)) = some (some (.int .u32 0), 1, 4) := by kernel_rfl
theorem sz146 : (Tryd.prog.info? 146).map (·.size) = some 1 := by kernel_rfl
theorem zr146 : (Tryd.prog.info? 146).map (·.zero) = some (some (.int .u8 0)) := by kernel_rfl
theorem zs146 : (Tryd.prog.info? 146).map (fun i => (i.zero, i.size)) = some (some (.int .u8 0), 1) := by kernel_rfl
theorem zb146 : (Tryd.prog.info? 146).map (fun i => (i.zero, i.size, i.bytes)) = some (some (.int .u8 0), 1, 1) := by kernel_rfl
theorem sz147 : (Tryd.prog.info? 147).map (·.size) = some 1 := by kernel_rfl
theorem zr147 : (Tryd.prog.info? 147).map (·.zero) = some (some .nilFunc) := by kernel_rfl
theorem zs147 : (Tryd.prog.info? 147).map (fun i => (i.zero, i.size)) = some (some .nilFunc, 1) := by kernel_rfl
theorem zb147 : (Tryd.prog.info? 147).map (fun i => (i.zero, i.size, i.bytes)) = some (some .nilFunc, 1, 8) := by kernel_rfl
theorem sz148 : (Tryd.prog.info? 148).map (·.size) = some 1 := by kernel_rfl
theorem zr148 : (Tryd.prog.info? 148).map (·.zero) = some (some (.int .i32 0)) := by kernel_rfl
theorem zs148 : (Tryd.prog.info? 148).map (fun i => (i.zero, i.size)) = some (some (.int .i32 0), 1) := by kernel_rfl
theorem zb148 : (Tryd.prog.info? 148).map (fun i => (i.zero, i.size, i.bytes)) = some (some (.int .i32 0), 1, 4) := by kernel_rfl
theorem sz149 : (Tryd.prog.info? 149).map (·.size) = some 1 := by kernel_rfl
theorem zr149 : (Tryd.prog.info? 149).map (·.zero) = some (some (.int .i32 0)) := by kernel_rfl
theorem zs149 : (Tryd.prog.info? 149).map (fun i => (i.zero, i.size)) = some (some (.int .i32 0), 1) := by kernel_rfl
theorem zb149 : (Tryd.prog.info? 149).map (fun i => (i.zero, i.size, i.bytes)) = some (some (.int .i32 0), 1, 4) := by kernel_rfl
theorem sz150 : (Tryd.prog.info? 150).map (·.size) = some 11 := by kernel_rfl
theorem zr150 : (Tryd.prog.info? 150).map (·.zero) = some (some (.agg #[(.int .u64 0), (.int .u64 0), (.int .u32 0), (.int .u8 0), (.int .u8 0), (.int .u8 0), (.int .u8 0), .nilFunc, (.pointer none), (.int .i32 0), (.int .i32 0)])) := by kernel_rfl
theorem zs150 : (Tryd.prog.info? 150).map (fun i => (i.zero, i.size)) = some (some (.agg #[(.int .u64 0), (.int .u64 0), (.int .u32 0), (.int .u8 0), (.int .u8 0), (.int .u8 0), (.int .u8 0), .nilFunc, (.pointer none), (.int .i32 0), (.int .i32 0)]), 11) := by kernel_rfl
theorem zb150 : (Tryd.prog.info? 150).map (fun i => (i.zero, i.size, i.bytes)) = some (some (.agg #[(.int .u64 0), (.int .u64 0), (.int .u32 0), (.int .u8 0), (.int .u8 0), (.int .u8 0), (.int .u8 0), .nilFunc, (.pointer none), (.int .i32 0), (.int .i32 0)]), 11, 48) := by kernel_rfl
theorem sz151 : (Tryd.prog.info? 151).map (·.size) = some 11 := by kernel_rfl
theorem zr151 : (Tryd.prog.info? 151).map (·.zero) = some (some (.agg #[(.int .u64 0), (.int .u64 0), (.int .u32 0), (.int .u8 0), (.int .u8 0), (.int .u8 0), (.int .u8 0), .nilFunc, (.pointer none), (.int .i32 0), (.int .i32 0)])) := by kernel_rfl
theorem zs151 : (Tryd.prog.info? 151).map (fun i => (i.zero, i.size)) = some (some (.agg #[(.int .u64 0), (.int .u64 0), (.int .u32 0), (.int .u8 0), (.int .u8 0), (.int .u8 0), (.int .u8 0), .nilFunc, (.pointer none), (.int .i32 0), (.int .i32 0)]), 11) := by kernel_rfl
theorem zb151 : (Tryd.prog.info? 151).map (fun i => (i.zero, i.size, i.bytes)) = some (some (.agg #[(.int .u64 0), (.int .u64 0), (.int .u32 0), (.int .u8 0), (.int .u8 0), (.int .u8 0), (.int .u8 0), .nilFunc, (.pointer none), (.int .i32 0), (.int .i32 0)]), 11, 48) := by kernel_rfl
theorem sz152 : (Tryd.prog.info? 152).map (·.size) = some 1 := by kernel_rfl
theorem zr152 : (Tryd.prog.info? 152).map (·.zero) = some (some .nilFunc) := by kernel_rfl
theorem zs152 : (Tryd.prog.info? 152).map (fun i => (i.zero, i.size)) = some (some .nilFunc, 1) := by kernel_rfl
theorem zb152 : (Tryd.prog.info? 152).map (fun i => (i.zero, i.size, i.bytes)) = some (some .nilFunc, 1, 8) := by kernel_rfl
theorem sz153 : (Tryd.prog.info? 153).map (·.size) = some 1 := by kernel_rfl
theorem zr153 : (Tryd.prog.info? 153).map (·.zero) = some (some .nilFunc) := by kernel_rfl
theorem zs153 : (Tryd.prog.info? 153).map (fun i => (i.zero, i.size)) = some (some .nilFunc, 1) := by kernel_rfl
theorem zb153 : (Tryd.prog.info? 153).map (fun i => (i.zero, i.size, i.bytes)) = some (some .nilFunc, 1, 8) := by kernel_rfl
theorem sz154 : (Tryd.prog.info? 154).map (·.size) = some 2 := by kernel_rfl
theorem zr154 : (Tryd.prog.info? 154).map (·.zero) = some (some (.agg #[(.string ByteArray.empty), (.int .u8 0)])) := by kernel_rfl
theorem zs154 : (Tryd.prog.info? 154).map (fun i => (i.zero, i.size)) = some (some (.agg #[(.string ByteArray.empty), (.int .u8 0)]), 2) := by kernel_rfl
theorem zb154 : (Tryd.prog.info? 154).map (fun i => (i.zero, i.size, i.bytes)) = some (some (.agg #[(.string ByteArray.empty), (.int .u8 0)]), 2, 24) := by kernel_rfl
theorem sz155 : (Tryd.prog.info? 155).map (·.size) = some 2 := by kernel_rfl
theorem zr155 : (Tryd.prog.info? 155).map (·.zero) = some (some (.agg #[(.string ByteArray.empty), (.int .u8 0)])) := by kernel_rfl
theorem zs155 : (Tryd.prog.info? 155).map (fun i => (i.zero, i.size)) = some (some (.agg #[(.string ByteArray.empty), (.int .u8 0)]), 2) := by kernel_rfl
theorem zb155 : (Tryd.prog.info? 155).map (fun i => (i.zero, i.size, i.bytes)) = some (some (.agg #[(.string ByteArray.empty), (.int .u8 0)]), 2, 24) := by kernel_rfl
theorem sz156 : (Tryd.prog.info? 156).map (·.size) = some 1 := by kernel_rfl
theorem zr156 : (Tryd.prog.info? 156).map (·.zero) = some (some (.pointer none)) := by kernel_rfl
theorem zs156 : (Tryd.prog.info? 156).map (fun i => (i.zero, i.size)) = some (some (.pointer none), 1) := by kernel_rfl
theorem zb156 : (Tryd.prog.info? 156).map (fun i => (i.zero, i.size, i.bytes)) = some (some (.pointer none), 1, 8) := by kernel_rfl
theorem sz157 : (Tryd.prog.info? 157).map (·.size) = some 1 := by kernel_rfl
theorem zr157 : (Tryd.prog.info? 157).map (·.zero) = some (some .nilFunc) := by kernel_rfl
theorem zs157 : (Tryd.prog.info? 157).map (fun i => (i.zero, i.size)) = some (some .nilFunc, 1) := by kernel_rfl
theorem zb157 : (Tryd.prog.info? 157).map (fun i => (i.zero, i.size, i.bytes)) = some (some .nilFunc, 1, 8) := by kernel_rfl
theorem sz158 : (Tryd.prog.info? 158).map (·.size) = some 1 := by kernel_rfl
theorem zr158 : (Tryd.prog.info? 158).map (·.zero) = some (some (.int .u16 0)) := by kernel_rfl
theorem zs158 : (Tryd.prog.info? 158).map (fun i => (i.zero, i.size)) = some (some (.int .u16 0), 1) := by kernel_rfl
theorem zb158 : (Tryd.prog.info? 158).map (fun i => (i.zero, i.size, i.bytes)) = some (some (.int .u16 0), 1, 2) := by kernel_rfl
theorem sz159 : (Tryd.prog.info? 159).map (·.size) = some 5 := by kernel_rfl
theorem zr159 : (Tryd.prog.info? 159).map (·.zero) = some (some (.agg #[(.int .i32 0), (.int .u16 0), (.int .u16 0), (.int .u32 0), (.int .u32 0)])) := by kernel_rfl
theorem zs159 : (Tryd.prog.info? 159).map (fun i => (i.zero, i.size)) = some (some (.agg #[(.int .i32 0), (.int .u16 0), (.int .u16 0), (.int .u32 0), (.int .u32 0)]), 5) := by kernel_rfl
theorem zb159 : (Tryd.prog.info? 159).map (fun i => (i.zero, i.size, i.bytes)) = some (some (.agg #[(.int .i32 0), (.int .u16 0), (.int .u16 0), (.int .u32 0), (.int .u32 0)]), 5, 16) := by kernel_rfl
theorem sz160 : (Tryd.prog.info? 160).map (·.size) = some 5 := by kernel_rfl
theorem zr160 : (Tryd.prog.info? 160).map (·.zero) = some (some (.agg #[(.int .i32 0), (.int .u16 0), (.int .u16 0), (.int .u32 0), (.int .u32 0)])) := by kernel_rfl
theorem zs160 : (Tryd.prog.info? 160).map (fun i => (i.zero, i.size)) = some (some (.agg #[(.int .i32 0), (.int .u16 0), (.int .u16 0), (.int .u32 0), (.int .u32 0)]), 5) := by kernel_rfl
theorem zb160 : (Tryd.prog.info? 160).map (fun i => (i.zero, i.size, i.bytes)) = some (some (.agg #[(.int .i32 0), (.int .u16 0), (.int .u16 0), (.int .u32 0), (.int .u32 0)]), 5, 16) := by kernel_rfl
theorem sz161 : (Tryd.prog.info? 161).map (·.size) = some 1 := by kernel_rfl
theorem zr161 : (Tryd.prog.info? 161).map (·.zero) = some (some (.slice none 0 0)) := by kernel_rfl
theorem zs161 : (Tryd.prog.info? 161).map (fun i => (i.zero, i.size)) = some (some (.slice none 0 0), 1) := by kernel_rfl
theorem zb161 : (Tryd.prog.info? 161).map (fun i => (i.zero, i.size, i.bytes)) = some (some (.slice none 0 0), 1, 24) := by kernel_rfl
theorem sz162 : (Tryd.prog.info? 162).map (·.size) = some 1 := by kernel_rfl
theorem zr162 : (Tryd.prog.info? 162).map (·.zero) = some (some (.int .i32 0)) := by kernel_rfl
theorem zs162 : (Tryd.prog.info? 162).map (fun i => (i.zero, i.size)) = some (some (.int .i32 0), 1) := by kernel_rfl
theorem zb162 : (Tryd.prog.info? 162).map (fun i => (i.zero, i.size, i.bytes)) = some (some (.int .i32 0), 1, 4) := by kernel_rfl
theorem sz163 : (Tryd.prog.info? 163).map (·.size) = some 4 := by kernel_rfl
theorem zr163 : (Tryd.prog.info? 163).map (·.zero) = some (some (.agg #[(.int .i32 0), (.int .i32 0), (.int .i32 0), (.int .i32 0)])) := by kernel_rfl
theorem zs163 : (Tryd.prog.info? 163).map (fun i => (i.zero, i.size)) = some (some (.agg #[(.int .i32 0), (.int .i32 0), (.int .i32 0), (.int .i32 0)]), 4) := by kernel_rfl
theorem zb163 : (Tryd.prog.info? 163).map (fun i => (i.zero, i.size, i.bytes)) = some (some (.agg #[(.int .i32 0), (.int .i32 0), (.int .i32 0), (.int .i32 0)]), 4, 16) := by kernel_rfl
theorem sz164 : (Tryd.prog.info? 164).map (·.size) = some 4 := by kernel_rfl
theorem zr164 : (Tryd.prog.info? 164).map (·.zero) = some (some (.agg #[(.int .i32 0), (.int .i32 0), (.int .i32 0), (.int .i32 0)])) := by kernel_rfl
theorem zs164 : (Tryd.prog.info? 164).map (fun i => (i.zero, i.size)) = some (some (.agg #[(.int .i32 0), (.int .i32 0), (.int .i32 0), (.int .i32 0)]), 4) := by kernel_rfl
theorem zb164 : (Tryd.prog.info? 164).map (fun i => (i.zero, i.size, i.bytes)) = some (some (.agg #[(.int .i32 0), (.int .i32 0), (.int .i32 0), (.int .i32 0)]), 4, 16) := by kernel_rfl
theorem sz165 : (Tryd.prog.info? 165).map (·.size) = some 1 := by kernel_rfl
theorem zr165 : (Tryd.prog.info? 165).map (·.zero) = some (some (.pointer none)) := by kernel_rfl
theorem zs165 : (Tryd.prog.info? 165).map (fun i => (i.zero, i.size)) = some (some (.pointer none), 1) := by kernel_rfl
theorem zb165 : (Tryd.prog.info? 165).map (fun i => (i.zero, i.size, i.bytes)) = some (some (.pointer none), 1, 8) := by kernel_rfl
theorem pl7 : Places Tryd.prog #[⟨"x", 2, 0, false, "", "runtime", 0⟩, ⟨"y", 3, 1, false, "", "runtime", 8⟩, ⟨"signed", 4, 2, false, "", "runtime", 16⟩, ⟨"code", 6, 3, false, "", "runtime", 17⟩] #[(0, 1), (1, 1), (2, 1), (3, 1)] := fun w => by kernel_rfl
theorem pl8 : Places Tryd.prog #[⟨"x", 2, 0, false, "", "runtime", 0⟩, ⟨"y", 3, 1, false, "", "runtime", 8⟩, ⟨"signed", 4, 2, false, "", "runtime", 16⟩, ⟨"code", 6, 3, false, "", "runtime", 17⟩] #[(0, 1), (1, 1), (2, 1), (3, 1)] := fun w => by kernel_rfl
theorem pl13 : Places Tryd.prog #[⟨"msg", 9, 0, false, "", "runtime", 0⟩, ⟨"addr", 12, 1, false, "", "runtime", 16⟩] #[(0, 1), (1, 1)] := fun w => by kernel_rfl
theorem pl14 : Places Tryd.prog #[⟨"msg", 9, 0, false, "", "runtime", 0⟩, ⟨"addr", 12, 1, false, "", "runtime", 16⟩] #[(0, 1), (1, 1)] := fun w => by kernel_rfl
theorem pl18 : Places Tryd.prog #[⟨"typ", 17, 0, false, "", "internal/runtime/maps", 0⟩] #[(0, 1)] := fun w => by kernel_rfl
theorem pl19 : Places Tryd.prog #[⟨"typ", 17, 0, false, "", "internal/runtime/maps", 0⟩] #[(0, 1)] := fun w => by kernel_rfl
theorem pl29 : Places Tryd.prog #[⟨"Kind", 24, 0, false, "", "", 0⟩, ⟨"Set", 27, 1, false, "", "", 8⟩, ⟨"Kids", 28, 5, false, "", "", 40⟩] #[(0, 1), (1, 4), (5, 1)] := fun w => by kernel_rfl
theorem pl30 : Places Tryd.prog #[⟨"Kind", 24, 0, false, "", "", 0⟩, ⟨"Set", 27, 1, false, "", "", 8⟩, ⟨"Kids", 28, 5, false, "", "", 40⟩] #[(0, 1), (1, 4), (5, 1)] := fun w => by kernel_rfl
theorem pl70 : Places Tryd.prog #[⟨"s", 9, 0, false, "", "lifeline/regex", 0⟩, ⟨"at", 3, 1, false, "", "lifeline/regex", 16⟩] #[(0, 1), (1, 1)] := fun w => by kernel_rfl
theorem pl71 : Places Tryd.prog #[⟨"s", 9, 0, false, "", "lifeline/regex", 0⟩, ⟨"at", 3, 1, false, "", "lifeline/regex", 16⟩] #[(0, 1), (1, 1)] := fun w => by kernel_rfl
theorem pl76 : Places Tryd.prog #[⟨"No", 37, 0, false, "", "", 0⟩, ⟨"At", 3, 1, false, "", "", 8⟩] #[(0, 1), (1, 1)] := fun w => by kernel_rfl
theorem pl77 : Places Tryd.prog #[⟨"No", 37, 0, false, "", "", 0⟩, ⟨"At", 3, 1, false, "", "", 8⟩] #[(0, 1), (1, 1)] := fun w => by kernel_rfl
theorem pl81 : Places Tryd.prog #[⟨"addr", 80, 0, false, "", "strings", 0⟩, ⟨"buf", 22, 1, false, "", "strings", 8⟩] #[(0, 1), (1, 1)] := fun w => by kernel_rfl
theorem pl82 : Places Tryd.prog #[⟨"addr", 80, 0, false, "", "strings", 0⟩, ⟨"buf", 22, 1, false, "", "strings", 8⟩] #[(0, 1), (1, 1)] := fun w => by kernel_rfl
theorem pl88 : Places Tryd.prog #[⟨"tables", 87, 0, false, "", "lifeline/expect", 0⟩, ⟨"at", 86, 1, false, "", "lifeline/expect", 24⟩, ⟨"seen", 3, 2, false, "", "lifeline/expect", 48⟩, ⟨"over", 4, 3, false, "", "lifeline/expect", 56⟩] #[(0, 1), (1, 1), (2, 1), (3, 1)] := fun w => by kernel_rfl
theorem pl89 : Places Tryd.prog #[⟨"tables", 87, 0, false, "", "lifeline/expect", 0⟩, ⟨"at", 86, 1, false, "", "lifeline/expect", 24⟩, ⟨"seen", 3, 2, false, "", "lifeline/expect", 48⟩, ⟨"over", 4, 3, false, "", "lifeline/expect", 56⟩] #[(0, 1), (1, 1), (2, 1), (3, 1)] := fun w => by kernel_rfl
theorem pl93 : Places Tryd.prog #[⟨"sets", 92, 0, false, "", "lifeline/nfa", 0⟩, ⟨"next", 91, 1, false, "", "lifeline/nfa", 24⟩] #[(0, 1), (1, 1)] := fun w => by kernel_rfl
theorem pl94 : Places Tryd.prog #[⟨"sets", 92, 0, false, "", "lifeline/nfa", 0⟩, ⟨"next", 91, 1, false, "", "lifeline/nfa", 24⟩] #[(0, 1), (1, 1)] := fun w => by kernel_rfl
theorem pl96 : Places Tryd.prog #[⟨"first", 95, 0, false, "", "lifeline/nfa", 0⟩, ⟨"last", 95, 1, false, "", "lifeline/nfa", 8⟩, ⟨"none", 4, 2, false, "", "lifeline/nfa", 16⟩] #[(0, 1), (1, 1), (2, 1)] := fun w => by kernel_rfl
theorem pl97 : Places Tryd.prog #[⟨"first", 95, 0, false, "", "lifeline/nfa", 0⟩, ⟨"last", 95, 1, false, "", "lifeline/nfa", 8⟩, ⟨"none", 4, 2, false, "", "lifeline/nfa", 16⟩] #[(0, 1), (1, 1), (2, 1)] := fun w => by kernel_rfl
theorem pl100 : Places Tryd.prog #[⟨"sets", 92, 0, false, "", "lifeline/nfa", 0⟩, ⟨"next", 86, 1, false, "", "lifeline/nfa", 24⟩, ⟨"first", 99, 2, false, "", "lifeline/nfa", 48⟩, ⟨"last", 99, 3, false, "", "lifeline/nfa", 72⟩, ⟨"none", 4, 4, false, "", "lifeline/nfa", 96⟩] #[(0, 1), (1, 1), (2, 1), (3, 1), (4, 1)] := fun w => by kernel_rfl
theorem pl101 : Places Tryd.prog #[⟨"sets", 92, 0, false, "", "lifeline/nfa", 0⟩, ⟨"next", 86, 1, false, "", "lifeline/nfa", 24⟩, ⟨"first", 99, 2, false, "", "lifeline/nfa", 48⟩, ⟨"last", 99, 3, false, "", "lifeline/nfa", 72⟩, ⟨"none", 4, 4, false, "", "lifeline/nfa", 96⟩] #[(0, 1), (1, 1), (2, 1), (3, 1), (4, 1)] := fun w => by kernel_rfl
theorem pl108 : Places Tryd.prog #[⟨"typ_", 17, 0, false, "", "internal/reflectlite", 0⟩, ⟨"ptr", 106, 1, false, "", "internal/reflectlite", 8⟩, ⟨"flag", 107, 2, true, "", "internal/reflectlite", 16⟩] #[(0, 1), (1, 1), (2, 1)] := fun w => by kernel_rfl
theorem pl109 : Places Tryd.prog #[⟨"typ_", 17, 0, false, "", "internal/reflectlite", 0⟩, ⟨"ptr", 106, 1, false, "", "internal/reflectlite", 8⟩, ⟨"flag", 107, 2, true, "", "internal/reflectlite", 16⟩] #[(0, 1), (1, 1), (2, 1)] := fun w => by kernel_rfl
theorem pl122 : Places Tryd.prog #[⟨"Type", 17, 0, true, "", "", 0⟩] #[(0, 1)] := fun w => by kernel_rfl
theorem pl123 : Places Tryd.prog #[⟨"Type", 17, 0, true, "", "", 0⟩] #[(0, 1)] := fun w => by kernel_rfl
theorem pl139 : Places Tryd.prog #[⟨"_interface", 17, 0, false, "", "runtime", 0⟩, ⟨"concrete", 17, 1, false, "", "runtime", 8⟩, ⟨"asserted", 17, 2, false, "", "runtime", 16⟩, ⟨"missingMethod", 9, 3, false, "", "runtime", 24⟩] #[(0, 1), (1, 1), (2, 1), (3, 1)] := fun w => by kernel_rfl
theorem pl140 : Places Tryd.prog #[⟨"_interface", 17, 0, false, "", "runtime", 0⟩, ⟨"concrete", 17, 1, false, "", "runtime", 8⟩, ⟨"asserted", 17, 2, false, "", "runtime", 16⟩, ⟨"missingMethod", 9, 3, false, "", "runtime", 24⟩] #[(0, 1), (1, 1), (2, 1), (3, 1)] := fun w => by kernel_rfl
theorem pl142 : Places Tryd.prog #[⟨"_", 141, 0, false, "", "runtime", 0⟩] #[(0, 0)] := fun w => by kernel_rfl
theorem pl143 : Places Tryd.prog #[⟨"_", 141, 0, false, "", "runtime", 0⟩] #[(0, 0)] := fun w => by kernel_rfl
theorem pl150 : Places Tryd.prog #[⟨"Size_", 12, 0, false, "", "", 0⟩, ⟨"PtrBytes", 12, 1, false, "", "", 8⟩, ⟨"Hash", 145, 2, false, "", "", 16⟩, ⟨"TFlag", 146, 3, false, "", "", 20⟩, ⟨"Align_", 5, 4, false, "", "", 21⟩, ⟨"FieldAlign_", 5, 5, false, "", "", 22⟩, ⟨"Kind_", 114, 6, false, "", "", 23⟩, ⟨"Equal", 147, 7, false, "", "", 24⟩, ⟨"GCData", 118, 8, false, "", "", 32⟩, ⟨"Str", 148, 9, false, "", "", 40⟩, ⟨"PtrToThis", 149, 10, false, "", "", 44⟩] #[(0, 1), (1, 1), (2, 1), (3, 1), (4, 1), (5, 1), (6, 1), (7, 1), (8, 1), (9, 1), (10, 1)] := fun w => by kernel_rfl
theorem pl151 : Places Tryd.prog #[⟨"Size_", 12, 0, false, "", "", 0⟩, ⟨"PtrBytes", 12, 1, false, "", "", 8⟩, ⟨"Hash", 145, 2, false, "", "", 16⟩, ⟨"TFlag", 146, 3, false, "", "", 20⟩, ⟨"Align_", 5, 4, false, "", "", 21⟩, ⟨"FieldAlign_", 5, 5, false, "", "", 22⟩, ⟨"Kind_", 114, 6, false, "", "", 23⟩, ⟨"Equal", 147, 7, false, "", "", 24⟩, ⟨"GCData", 118, 8, false, "", "", 32⟩, ⟨"Str", 148, 9, false, "", "", 40⟩, ⟨"PtrToThis", 149, 10, false, "", "", 44⟩] #[(0, 1), (1, 1), (2, 1), (3, 1), (4, 1), (5, 1), (6, 1), (7, 1), (8, 1), (9, 1), (10, 1)] := fun w => by kernel_rfl
theorem pl154 : Places Tryd.prog #[⟨"Method", 9, 0, false, "", "", 0⟩, ⟨"Kind", 114, 1, false, "", "", 16⟩] #[(0, 1), (1, 1)] := fun w => by kernel_rfl
theorem pl155 : Places Tryd.prog #[⟨"Method", 9, 0, false, "", "", 0⟩, ⟨"Kind", 114, 1, false, "", "", 16⟩] #[(0, 1), (1, 1)] := fun w => by kernel_rfl
theorem pl159 : Places Tryd.prog #[⟨"PkgPath", 148, 0, false, "", "", 0⟩, ⟨"Mcount", 158, 1, false, "", "", 4⟩, ⟨"Xcount", 158, 2, false, "", "", 6⟩, ⟨"Moff", 145, 3, false, "", "", 8⟩, ⟨"_", 145, 4, false, "", "internal/abi", 12⟩] #[(0, 1), (1, 1), (2, 1), (3, 1), (4, 1)] := fun w => by kernel_rfl
theorem pl160 : Places Tryd.prog #[⟨"PkgPath", 148, 0, false, "", "", 0⟩, ⟨"Mcount", 158, 1, false, "", "", 4⟩, ⟨"Xcount", 158, 2, false, "", "", 6⟩, ⟨"Moff", 145, 3, false, "", "", 8⟩, ⟨"_", 145, 4, false, "", "internal/abi", 12⟩] #[(0, 1), (1, 1), (2, 1), (3, 1), (4, 1)] := fun w => by kernel_rfl
theorem pl163 : Places Tryd.prog #[⟨"Name", 148, 0, false, "", "", 0⟩, ⟨"Mtyp", 149, 1, false, "", "", 4⟩, ⟨"Ifn", 162, 2, false, "", "", 8⟩, ⟨"Tfn", 162, 3, false, "", "", 12⟩] #[(0, 1), (1, 1), (2, 1), (3, 1)] := fun w => by kernel_rfl
theorem pl164 : Places Tryd.prog #[⟨"Name", 148, 0, false, "", "", 0⟩, ⟨"Mtyp", 149, 1, false, "", "", 4⟩, ⟨"Ifn", 162, 2, false, "", "", 8⟩, ⟨"Tfn", 162, 3, false, "", "", 12⟩] #[(0, 1), (1, 1), (2, 1), (3, 1)] := fun w => by kernel_rfl
theorem call3 : CallOk Tryd.prog 3 := callOk_of Tryd.func3 (by kernel_rfl) (by kernel_rfl)
theorem call4 : CallOk Tryd.prog 4 := callOk_of Tryd.func4 (by kernel_rfl) (by kernel_rfl)
theorem call5 : CallOk Tryd.prog 5 := callOk_of Tryd.func5 (by kernel_rfl) (by kernel_rfl)
theorem call6 : CallOk Tryd.prog 6 := callOk_of Tryd.func6 (by kernel_rfl) (by kernel_rfl)
theorem call7 : CallOk Tryd.prog 7 := callOk_of Tryd.func7 (by kernel_rfl) (by kernel_rfl)
theorem call8 : CallOk Tryd.prog 8 := callOk_of Tryd.func8 (by kernel_rfl) (by kernel_rfl)
theorem call9 : CallOk Tryd.prog 9 := callOk_of Tryd.func9 (by kernel_rfl) (by kernel_rfl)
theorem call10 : CallOk Tryd.prog 10 := callOk_of Tryd.func10 (by kernel_rfl) (by kernel_rfl)
theorem call11 : CallOk Tryd.prog 11 := callOk_of Tryd.func11 (by kernel_rfl) (by kernel_rfl)
theorem call12 : CallOk Tryd.prog 12 := callOk_of Tryd.func12 (by kernel_rfl) (by kernel_rfl)
theorem call13 : CallOk Tryd.prog 13 := callOk_of Tryd.func13 (by kernel_rfl) (by kernel_rfl)
theorem call14 : CallOk Tryd.prog 14 := callOk_of Tryd.func14 (by kernel_rfl) (by kernel_rfl)
theorem call15 : CallOk Tryd.prog 15 := callOk_of Tryd.func15 (by kernel_rfl) (by kernel_rfl)
theorem call16 : CallOk Tryd.prog 16 := callOk_of Tryd.func16 (by kernel_rfl) (by kernel_rfl)
theorem call17 : CallOk Tryd.prog 17 := callOk_of Tryd.func17 (by kernel_rfl) (by kernel_rfl)
theorem call18 : CallOk Tryd.prog 18 := callOk_of Tryd.func18 (by kernel_rfl) (by kernel_rfl)
theorem call19 : CallOk Tryd.prog 19 := callOk_of Tryd.func19 (by kernel_rfl) (by kernel_rfl)
theorem call20 : CallOk Tryd.prog 20 := callOk_of Tryd.func20 (by kernel_rfl) (by kernel_rfl)
theorem call21 : CallOk Tryd.prog 21 := callOk_of Tryd.func21 (by kernel_rfl) (by kernel_rfl)
theorem call22 : CallOk Tryd.prog 22 := callOk_of Tryd.func22 (by kernel_rfl) (by kernel_rfl)
theorem call23 : CallOk Tryd.prog 23 := callOk_of Tryd.func23 (by kernel_rfl) (by kernel_rfl)
theorem call24 : CallOk Tryd.prog 24 := callOk_of Tryd.func24 (by kernel_rfl) (by kernel_rfl)
theorem call25 : CallOk Tryd.prog 25 := callOk_of Tryd.func25 (by kernel_rfl) (by kernel_rfl)
theorem call26 : CallOk Tryd.prog 26 := callOk_of Tryd.func26 (by kernel_rfl) (by kernel_rfl)
theorem call27 : CallOk Tryd.prog 27 := callOk_of Tryd.func27 (by kernel_rfl) (by kernel_rfl)
theorem call28 : CallOk Tryd.prog 28 := callOk_of Tryd.func28 (by kernel_rfl) (by kernel_rfl)
theorem call29 : CallOk Tryd.prog 29 := callOk_of Tryd.func29 (by kernel_rfl) (by kernel_rfl)
theorem call30 : CallOk Tryd.prog 30 := callOk_of Tryd.func30 (by kernel_rfl) (by kernel_rfl)
theorem call31 : CallOk Tryd.prog 31 := callOk_of Tryd.func31 (by kernel_rfl) (by kernel_rfl)
theorem call32 : CallOk Tryd.prog 32 := callOk_of Tryd.func32 (by kernel_rfl) (by kernel_rfl)
theorem call33 : CallOk Tryd.prog 33 := callOk_of Tryd.func33 (by kernel_rfl) (by kernel_rfl)
theorem call34 : CallOk Tryd.prog 34 := callOk_of Tryd.func34 (by kernel_rfl) (by kernel_rfl)
theorem call35 : CallOk Tryd.prog 35 := callOk_of Tryd.func35 (by kernel_rfl) (by kernel_rfl)
theorem call36 : CallOk Tryd.prog 36 := callOk_of Tryd.func36 (by kernel_rfl) (by kernel_rfl)
theorem call37 : CallOk Tryd.prog 37 := callOk_of Tryd.func37 (by kernel_rfl) (by kernel_rfl)
theorem call38 : CallOk Tryd.prog 38 := callOk_of Tryd.func38 (by kernel_rfl) (by kernel_rfl)
theorem call39 : CallOk Tryd.prog 39 := callOk_of Tryd.func39 (by kernel_rfl) (by kernel_rfl)
theorem call40 : CallOk Tryd.prog 40 := callOk_of Tryd.func40 (by kernel_rfl) (by kernel_rfl)
theorem call41 : CallOk Tryd.prog 41 := callOk_of Tryd.func41 (by kernel_rfl) (by kernel_rfl)
theorem call42 : CallOk Tryd.prog 42 := callOk_of Tryd.func42 (by kernel_rfl) (by kernel_rfl)
theorem call43 : CallOk Tryd.prog 43 := callOk_of Tryd.func43 (by kernel_rfl) (by kernel_rfl)
theorem call44 : CallOk Tryd.prog 44 := callOk_of Tryd.func44 (by kernel_rfl) (by kernel_rfl)
theorem call45 : CallOk Tryd.prog 45 := callOk_of Tryd.func45 (by kernel_rfl) (by kernel_rfl)
theorem call49 : CallOk Tryd.prog 49 := callOk_of Tryd.func49 (by kernel_rfl) (by kernel_rfl)
theorem call50 : CallOk Tryd.prog 50 := callOk_of Tryd.func50 (by kernel_rfl) (by kernel_rfl)
theorem call51 : CallOk Tryd.prog 51 := callOk_of Tryd.func51 (by kernel_rfl) (by kernel_rfl)
theorem call52 : CallOk Tryd.prog 52 := callOk_of Tryd.func52 (by kernel_rfl) (by kernel_rfl)
theorem call53 : CallOk Tryd.prog 53 := callOk_of Tryd.func53 (by kernel_rfl) (by kernel_rfl)
theorem call54 : CallOk Tryd.prog 54 := callOk_of Tryd.func54 (by kernel_rfl) (by kernel_rfl)
theorem call55 : CallOk Tryd.prog 55 := callOk_of Tryd.func55 (by kernel_rfl) (by kernel_rfl)
theorem call56 : CallOk Tryd.prog 56 := callOk_of Tryd.func56 (by kernel_rfl) (by kernel_rfl)
theorem call62 : CallOk Tryd.prog 62 := callOk_of Tryd.func62 (by kernel_rfl) (by kernel_rfl)
theorem call63 : CallOk Tryd.prog 63 := callOk_of Tryd.func63 (by kernel_rfl) (by kernel_rfl)
theorem call64 : CallOk Tryd.prog 64 := callOk_of Tryd.func64 (by kernel_rfl) (by kernel_rfl)
theorem call65 : CallOk Tryd.prog 65 := callOk_of Tryd.func65 (by kernel_rfl) (by kernel_rfl)
theorem call66 : CallOk Tryd.prog 66 := callOk_of Tryd.func66 (by kernel_rfl) (by kernel_rfl)
theorem call86 : CallOk Tryd.prog 86 := callOk_of Tryd.func86 (by kernel_rfl) (by kernel_rfl)
theorem call106 : CallOk Tryd.prog 106 := callOk_of Tryd.func106 (by kernel_rfl) (by kernel_rfl)
theorem mixed : Tryd.prog.follows .mixedOrders = true := by kernel_rfl
end Go.Proofs.YtijpbpnfachlkaaDoor.SL
