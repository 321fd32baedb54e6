import Derived.Test.YtkgdphbccagjcaaSL
import Derived.Test.YtkgdphbccagjcaaProg
import Derived.KernelRfl
/- Closed facts on the types and functions of the translation. No statement is proved here. -/
namespace Go.Proofs.Ytkgdphbccagjcaa.SL
open Go
set_option maxRecDepth 100000
theorem sz0 : (Try.prog.info? 0).map (·.size) = some 1 := by kernel_rfl
theorem zr0 : (Try.prog.info? 0).map (·.zero) = some (some (.tuple #[])) := by kernel_rfl
theorem zs0 : (Try.prog.info? 0).map (fun i => (i.zero, i.size)) = some (some (.tuple #[]), 1) := by kernel_rfl
theorem zb0 : (Try.prog.info? 0).map (fun i => (i.zero, i.size, i.bytes)) = some (some (.tuple #[]), 1, 0) := by kernel_rfl
theorem sz1 : (Try.prog.info? 1).map (·.size) = some 1 := by kernel_rfl
theorem zr1 : (Try.prog.info? 1).map (·.zero) = some (some .nilFunc) := by kernel_rfl
theorem zs1 : (Try.prog.info? 1).map (fun i => (i.zero, i.size)) = some (some .nilFunc, 1) := by kernel_rfl
theorem zb1 : (Try.prog.info? 1).map (fun i => (i.zero, i.size, i.bytes)) = some (some .nilFunc, 1, 8) := by kernel_rfl
theorem sz2 : (Try.prog.info? 2).map (·.size) = some 1 := by kernel_rfl
theorem zr2 : (Try.prog.info? 2).map (·.zero) = some (some (.int .i64 0)) := by kernel_rfl
theorem zs2 : (Try.prog.info? 2).map (fun i => (i.zero, i.size)) = some (some (.int .i64 0), 1) := by kernel_rfl
theorem zb2 : (Try.prog.info? 2).map (fun i => (i.zero, i.size, i.bytes)) = some (some (.int .i64 0), 1, 8) := by kernel_rfl
theorem sz3 : (Try.prog.info? 3).map (·.size) = some 1 := by kernel_rfl
theorem zr3 : (Try.prog.info? 3).map (·.zero) = some (some (.int .i64 0)) := by kernel_rfl
theorem zs3 : (Try.prog.info? 3).map (fun i => (i.zero, i.size)) = some (some (.int .i64 0), 1) := by kernel_rfl
theorem zb3 : (Try.prog.info? 3).map (fun i => (i.zero, i.size, i.bytes)) = some (some (.int .i64 0), 1, 8) := by kernel_rfl
theorem sz4 : (Try.prog.info? 4).map (·.size) = some 1 := by kernel_rfl
theorem zr4 : (Try.prog.info? 4).map (·.zero) = some (some (.bool false)) := by kernel_rfl
theorem zs4 : (Try.prog.info? 4).map (fun i => (i.zero, i.size)) = some (some (.bool false), 1) := by kernel_rfl
theorem zb4 : (Try.prog.info? 4).map (fun i => (i.zero, i.size, i.bytes)) = some (some (.bool false), 1, 1) := by kernel_rfl
theorem sz5 : (Try.prog.info? 5).map (·.size) = some 1 := by kernel_rfl
theorem zr5 : (Try.prog.info? 5).map (·.zero) = some (some (.int .u8 0)) := by kernel_rfl
theorem zs5 : (Try.prog.info? 5).map (fun i => (i.zero, i.size)) = some (some (.int .u8 0), 1) := by kernel_rfl
theorem zb5 : (Try.prog.info? 5).map (fun i => (i.zero, i.size, i.bytes)) = some (some (.int .u8 0), 1, 1) := by kernel_rfl
theorem sz6 : (Try.prog.info? 6).map (·.size) = some 1 := by kernel_rfl
theorem zr6 : (Try.prog.info? 6).map (·.zero) = some (some (.int .u8 0)) := by kernel_rfl
theorem zs6 : (Try.prog.info? 6).map (fun i => (i.zero, i.size)) = some (some (.int .u8 0), 1) := by kernel_rfl
theorem zb6 : (Try.prog.info? 6).map (fun i => (i.zero, i.size, i.bytes)) = some (some (.int .u8 0), 1, 1) := by kernel_rfl
theorem sz7 : (Try.prog.info? 7).map (·.size) = some 4 := by kernel_rfl
theorem zr7 : (Try.prog.info? 7).map (·.zero) = some (some (.agg #[(.int .i64 0), (.int .i64 0), (.bool false), (.int .u8 0)])) := by kernel_rfl
theorem zs7 : (Try.prog.info? 7).map (fun i => (i.zero, i.size)) = some (some (.agg #[(.int .i64 0), (.int .i64 0), (.bool false), (.int .u8 0)]), 4) := by kernel_rfl
theorem zb7 : (Try.prog.info? 7).map (fun i => (i.zero, i.size, i.bytes)) = some (some (.agg #[(.int .i64 0), (.int .i64 0), (.bool false), (.int .u8 0)]), 4, 24) := by kernel_rfl
theorem sz8 : (Try.prog.info? 8).map (·.size) = some 4 := by kernel_rfl
theorem zr8 : (Try.prog.info? 8).map (·.zero) = some (some (.agg #[(.int .i64 0), (.int .i64 0), (.bool false), (.int .u8 0)])) := by kernel_rfl
theorem zs8 : (Try.prog.info? 8).map (fun i => (i.zero, i.size)) = some (some (.agg #[(.int .i64 0), (.int .i64 0), (.bool false), (.int .u8 0)]), 4) := by kernel_rfl
theorem zb8 : (Try.prog.info? 8).map (fun i => (i.zero, i.size, i.bytes)) = some (some (.agg #[(.int .i64 0), (.int .i64 0), (.bool false), (.int .u8 0)]), 4, 24) := by kernel_rfl
theorem sz9 : (Try.prog.info? 9).map (·.size) = some 1 := by kernel_rfl
theorem zr9 : (Try.prog.info? 9).map (·.zero) = some (some (.string ByteArray.empty)) := by kernel_rfl
theorem zs9 : (Try.prog.info? 9).map (fun i => (i.zero, i.size)) = some (some (.string ByteArray.empty), 1) := by kernel_rfl
theorem zb9 : (Try.prog.info? 9).map (fun i => (i.zero, i.size, i.bytes)) = some (some (.string ByteArray.empty), 1, 16) := by kernel_rfl
theorem sz10 : (Try.prog.info? 10).map (·.size) = some 1 := by kernel_rfl
theorem zr10 : (Try.prog.info? 10).map (·.zero) = some (some (.string ByteArray.empty)) := by kernel_rfl
theorem zs10 : (Try.prog.info? 10).map (fun i => (i.zero, i.size)) = some (some (.string ByteArray.empty), 1) := by kernel_rfl
theorem zb10 : (Try.prog.info? 10).map (fun i => (i.zero, i.size, i.bytes)) = some (some (.string ByteArray.empty), 1, 16) := by kernel_rfl
theorem sz11 : (Try.prog.info? 11).map (·.size) = some 1 := by kernel_rfl
theorem zr11 : (Try.prog.info? 11).map (·.zero) = some (some (.string ByteArray.empty)) := by kernel_rfl
theorem zs11 : (Try.prog.info? 11).map (fun i => (i.zero, i.size)) = some (some (.string ByteArray.empty), 1) := by kernel_rfl
theorem zb11 : (Try.prog.info? 11).map (fun i => (i.zero, i.size, i.bytes)) = some (some (.string ByteArray.empty), 1, 16) := by kernel_rfl
theorem sz12 : (Try.prog.info? 12).map (·.size) = some 1 := by kernel_rfl
theorem zr12 : (Try.prog.info? 12).map (·.zero) = some (some (.int .u64 0)) := by kernel_rfl
theorem zs12 : (Try.prog.info? 12).map (fun i => (i.zero, i.size)) = some (some (.int .u64 0), 1) := by kernel_rfl
theorem zb12 : (Try.prog.info? 12).map (fun i => (i.zero, i.size, i.bytes)) = some (some (.int .u64 0), 1, 8) := by kernel_rfl
theorem sz13 : (Try.prog.info? 13).map (·.size) = some 2 := by kernel_rfl
theorem zr13 : (Try.prog.info? 13).map (·.zero) = some (some (.agg #[(.string ByteArray.empty), (.int .u64 0)])) := by kernel_rfl
theorem zs13 : (Try.prog.info? 13).map (fun i => (i.zero, i.size)) = some (some (.agg #[(.string ByteArray.empty), (.int .u64 0)]), 2) := by kernel_rfl
theorem zb13 : (Try.prog.info? 13).map (fun i => (i.zero, i.size, i.bytes)) = some (some (.agg #[(.string ByteArray.empty), (.int .u64 0)]), 2, 24) := by kernel_rfl
theorem sz14 : (Try.prog.info? 14).map (·.size) = some 2 := by kernel_rfl
theorem zr14 : (Try.prog.info? 14).map (·.zero) = some (some (.agg #[(.string ByteArray.empty), (.int .u64 0)])) := by kernel_rfl
theorem zs14 : (Try.prog.info? 14).map (fun i => (i.zero, i.size)) = some (some (.agg #[(.string ByteArray.empty), (.int .u64 0)]), 2) := by kernel_rfl
theorem zb14 : (Try.prog.info? 14).map (fun i => (i.zero, i.size, i.bytes)) = some (some (.agg #[(.string ByteArray.empty), (.int .u64 0)]), 2, 24) := by kernel_rfl
theorem sz15 : (Try.prog.info? 15).map (·.size) = some 1 := by kernel_rfl
theorem zr15 : (Try.prog.info? 15).map (·.zero) = some (some (.pointer none)) := by kernel_rfl
theorem zs15 : (Try.prog.info? 15).map (fun i => (i.zero, i.size)) = some (some (.pointer none), 1) := by kernel_rfl
theorem zb15 : (Try.prog.info? 15).map (fun i => (i.zero, i.size, i.bytes)) = some (some (.pointer none), 1, 8) := by kernel_rfl
theorem sz16 : (Try.prog.info? 16).map (·.size) = some 1 := by kernel_rfl
theorem zr16 : (Try.prog.info? 16).map (·.zero) = some (some (.pointer none)) := by kernel_rfl
theorem zs16 : (Try.prog.info? 16).map (fun i => (i.zero, i.size)) = some (some (.pointer none), 1) := by kernel_rfl
theorem zb16 : (Try.prog.info? 16).map (fun i => (i.zero, i.size, i.bytes)) = some (some (.pointer none), 1, 8) := by kernel_rfl
theorem sz17 : (Try.prog.info? 17).map (·.size) = some 1 := by kernel_rfl
theorem zr17 : (Try.prog.info? 17).map (·.zero) = some (some (.pointer none)) := by kernel_rfl
theorem zs17 : (Try.prog.info? 17).map (fun i => (i.zero, i.size)) = some (some (.pointer none), 1) := by kernel_rfl
theorem zb17 : (Try.prog.info? 17).map (fun i => (i.zero, i.size, i.bytes)) = some (some (.pointer none), 1, 8) := by kernel_rfl
theorem sz18 : (Try.prog.info? 18).map (·.size) = some 1 := by kernel_rfl
theorem zr18 : (Try.prog.info? 18).map (·.zero) = some (some (.agg #[(.pointer none)])) := by kernel_rfl
theorem zs18 : (Try.prog.info? 18).map (fun i => (i.zero, i.size)) = some (some (.agg #[(.pointer none)]), 1) := by kernel_rfl
theorem zb18 : (Try.prog.info? 18).map (fun i => (i.zero, i.size, i.bytes)) = some (some (.agg #[(.pointer none)]), 1, 8) := by kernel_rfl
theorem sz19 : (Try.prog.info? 19).map (·.size) = some 1 := by kernel_rfl
theorem zr19 : (Try.prog.info? 19).map (·.zero) = some (some (.agg #[(.pointer none)])) := by kernel_rfl
theorem zs19 : (Try.prog.info? 19).map (fun i => (i.zero, i.size)) = some (some (.agg #[(.pointer none)]), 1) := by kernel_rfl
theorem zb19 : (Try.prog.info? 19).map (fun i => (i.zero, i.size, i.bytes)) = some (some (.agg #[(.pointer none)]), 1, 8) := by kernel_rfl
theorem sz20 : (Try.prog.info? 20).map (·.size) = some 1 := by kernel_rfl
theorem zr20 : (Try.prog.info? 20).map (·.zero) = some (some .nilIface) := by kernel_rfl
theorem zs20 : (Try.prog.info? 20).map (fun i => (i.zero, i.size)) = some (some .nilIface, 1) := by kernel_rfl
theorem zb20 : (Try.prog.info? 20).map (fun i => (i.zero, i.size, i.bytes)) = some (some .nilIface, 1, 16) := by kernel_rfl
theorem sz21 : (Try.prog.info? 21).map (·.size) = some 1 := by kernel_rfl
theorem zr21 : (Try.prog.info? 21).map (·.zero) = some (some (.int .i32 0)) := by kernel_rfl
theorem zs21 : (Try.prog.info? 21).map (fun i => (i.zero, i.size)) = some (some (.int .i32 0), 1) := by kernel_rfl
theorem zb21 : (Try.prog.info? 21).map (fun i => (i.zero, i.size, i.bytes)) = some (some (.int .i32 0), 1, 4) := by kernel_rfl
theorem sz22 : (Try.prog.info? 22).map (·.size) = some 1 := by kernel_rfl
theorem zr22 : (Try.prog.info? 22).map (·.zero) = some (some (.slice none 0 0)) := by kernel_rfl
theorem zs22 : (Try.prog.info? 22).map (fun i => (i.zero, i.size)) = some (some (.slice none 0 0), 1) := by kernel_rfl
theorem zb22 : (Try.prog.info? 22).map (fun i => (i.zero, i.size, i.bytes)) = some (some (.slice none 0 0), 1, 24) := by kernel_rfl
theorem sz23 : (Try.prog.info? 23).map (·.size) = some 1 := by kernel_rfl
theorem zr23 : (Try.prog.info? 23).map (·.zero) = some (some .nilFunc) := by kernel_rfl
theorem zs23 : (Try.prog.info? 23).map (fun i => (i.zero, i.size)) = some (some .nilFunc, 1) := by kernel_rfl
theorem zb23 : (Try.prog.info? 23).map (fun i => (i.zero, i.size, i.bytes)) = some (some .nilFunc, 1, 8) := by kernel_rfl
theorem sz24 : (Try.prog.info? 24).map (·.size) = some 1 := by kernel_rfl
theorem zr24 : (Try.prog.info? 24).map (·.zero) = some (some (.int .i64 0)) := by kernel_rfl
theorem zs24 : (Try.prog.info? 24).map (fun i => (i.zero, i.size)) = some (some (.int .i64 0), 1) := by kernel_rfl
theorem zb24 : (Try.prog.info? 24).map (fun i => (i.zero, i.size, i.bytes)) = some (some (.int .i64 0), 1, 8) := by kernel_rfl
theorem sz25 : (Try.prog.info? 25).map (·.size) = some 1 := by kernel_rfl
theorem zr25 : (Try.prog.info? 25).map (·.zero) = some (some (.int .u64 0)) := by kernel_rfl
theorem zs25 : (Try.prog.info? 25).map (fun i => (i.zero, i.size)) = some (some (.int .u64 0), 1) := by kernel_rfl
theorem zb25 : (Try.prog.info? 25).map (fun i => (i.zero, i.size, i.bytes)) = some (some (.int .u64 0), 1, 8) := by kernel_rfl
theorem sz26 : (Try.prog.info? 26).map (·.size) = some 4 := by kernel_rfl
theorem zr26 : (Try.prog.info? 26).map (·.zero) = some (some (.agg #[(.int .u64 0), (.int .u64 0), (.int .u64 0), (.int .u64 0)])) := by kernel_rfl
theorem zs26 : (Try.prog.info? 26).map (fun i => (i.zero, i.size)) = some (some (.agg #[(.int .u64 0), (.int .u64 0), (.int .u64 0), (.int .u64 0)]), 4) := by kernel_rfl
theorem zb26 : (Try.prog.info? 26).map (fun i => (i.zero, i.size, i.bytes)) = some (some (.agg #[(.int .u64 0), (.int .u64 0), (.int .u64 0), (.int .u64 0)]), 4, 32) := by kernel_rfl
theorem sz27 : (Try.prog.info? 27).map (·.size) = some 4 := by kernel_rfl
theorem zr27 : (Try.prog.info? 27).map (·.zero) = some (some (.agg #[(.int .u64 0), (.int .u64 0), (.int .u64 0), (.int .u64 0)])) := by kernel_rfl
theorem zs27 : (Try.prog.info? 27).map (fun i => (i.zero, i.size)) = some (some (.agg #[(.int .u64 0), (.int .u64 0), (.int .u64 0), (.int .u64 0)]), 4) := by kernel_rfl
theorem zb27 : (Try.prog.info? 27).map (fun i => (i.zero, i.size, i.bytes)) = some (some (.agg #[(.int .u64 0), (.int .u64 0), (.int .u64 0), (.int .u64 0)]), 4, 32) := by kernel_rfl
theorem sz28 : (Try.prog.info? 28).map (·.size) = some 1 := by kernel_rfl
theorem zr28 : (Try.prog.info? 28).map (·.zero) = some (some (.slice none 0 0)) := by kernel_rfl
theorem zs28 : (Try.prog.info? 28).map (fun i => (i.zero, i.size)) = some (some (.slice none 0 0), 1) := by kernel_rfl
theorem zb28 : (Try.prog.info? 28).map (fun i => (i.zero, i.size, i.bytes)) = some (some (.slice none 0 0), 1, 24) := by kernel_rfl
theorem sz29 : (Try.prog.info? 29).map (·.size) = some 6 := by kernel_rfl
theorem zr29 : (Try.prog.info? 29).map (·.zero) = some (some (.agg #[(.int .i64 0), (.int .u64 0), (.int .u64 0), (.int .u64 0), (.int .u64 0), (.slice none 0 0)])) := by kernel_rfl
theorem zs29 : (Try.prog.info? 29).map (fun i => (i.zero, i.size)) = some (some (.agg #[(.int .i64 0), (.int .u64 0), (.int .u64 0), (.int .u64 0), (.int .u64 0), (.slice none 0 0)]), 6) := by kernel_rfl
theorem zb29 : (Try.prog.info? 29).map (fun i => (i.zero, i.size, i.bytes)) = some (some (.agg #[(.int .i64 0), (.int .u64 0), (.int .u64 0), (.int .u64 0), (.int .u64 0), (.slice none 0 0)]), 6, 64) := by kernel_rfl
theorem sz30 : (Try.prog.info? 30).map (·.size) = some 6 := by kernel_rfl
theorem zr30 : (Try.prog.info? 30).map (·.zero) = some (some (.agg #[(.int .i64 0), (.int .u64 0), (.int .u64 0), (.int .u64 0), (.int .u64 0), (.slice none 0 0)])) := by kernel_rfl
theorem zs30 : (Try.prog.info? 30).map (fun i => (i.zero, i.size)) = some (some (.agg #[(.int .i64 0), (.int .u64 0), (.int .u64 0), (.int .u64 0), (.int .u64 0), (.slice none 0 0)]), 6) := by kernel_rfl
theorem zb30 : (Try.prog.info? 30).map (fun i => (i.zero, i.size, i.bytes)) = some (some (.agg #[(.int .i64 0), (.int .u64 0), (.int .u64 0), (.int .u64 0), (.int .u64 0), (.slice none 0 0)]), 6, 64) := by kernel_rfl
theorem sz31 : (Try.prog.info? 31).map (·.size) = some 1 := by kernel_rfl
theorem zr31 : (Try.prog.info? 31).map (·.zero) = some (some (.tuple #[(.string ByteArray.empty), (.agg #[(.int .i64 0), (.int .u64 0), (.int .u64 0), (.int .u64 0), (.int .u64 0), (.slice none 0 0)])])) := by kernel_rfl
theorem zs31 : (Try.prog.info? 31).map (fun i => (i.zero, i.size)) = some (some (.tuple #[(.string ByteArray.empty), (.agg #[(.int .i64 0), (.int .u64 0), (.int .u64 0), (.int .u64 0), (.int .u64 0), (.slice none 0 0)])]), 1) := by kernel_rfl
theorem zb31 : (Try.prog.info? 31).map (fun i => (i.zero, i.size, i.bytes)) = some (some (.tuple #[(.string ByteArray.empty), (.agg #[(.int .i64 0), (.int .u64 0), (.int .u64 0), (.int .u64 0), (.int .u64 0), (.slice none 0 0)])]), 1, 0) := by kernel_rfl
theorem sz32 : (Try.prog.info? 32).map (·.size) = some 1 := by kernel_rfl
theorem zr32 : (Try.prog.info? 32).map (·.zero) = some (some .nilFunc) := by kernel_rfl
theorem zs32 : (Try.prog.info? 32).map (fun i => (i.zero, i.size)) = some (some .nilFunc, 1) := by kernel_rfl
theorem zb32 : (Try.prog.info? 32).map (fun i => (i.zero, i.size, i.bytes)) = some (some .nilFunc, 1, 8) := by kernel_rfl
theorem sz33 : (Try.prog.info? 33).map (·.size) = some 1 := by kernel_rfl
theorem zr33 : (Try.prog.info? 33).map (·.zero) = some (some .nilFunc) := by kernel_rfl
theorem zs33 : (Try.prog.info? 33).map (fun i => (i.zero, i.size)) = some (some .nilFunc, 1) := by kernel_rfl
theorem zb33 : (Try.prog.info? 33).map (fun i => (i.zero, i.size, i.bytes)) = some (some .nilFunc, 1, 8) := by kernel_rfl
theorem sz34 : (Try.prog.info? 34).map (·.size) = some 1 := by kernel_rfl
theorem zr34 : (Try.prog.info? 34).map (·.zero) = some (some (.map none)) := by kernel_rfl
theorem zs34 : (Try.prog.info? 34).map (fun i => (i.zero, i.size)) = some (some (.map none), 1) := by kernel_rfl
theorem zb34 : (Try.prog.info? 34).map (fun i => (i.zero, i.size, i.bytes)) = some (some (.map none), 1, 8) := by kernel_rfl
theorem sz35 : (Try.prog.info? 35).map (·.size) = some 1 := by kernel_rfl
theorem zr35 : (Try.prog.info? 35).map (·.zero) = some (some (.slice none 0 0)) := by kernel_rfl
theorem zs35 : (Try.prog.info? 35).map (fun i => (i.zero, i.size)) = some (some (.slice none 0 0), 1) := by kernel_rfl
theorem zb35 : (Try.prog.info? 35).map (fun i => (i.zero, i.size, i.bytes)) = some (some (.slice none 0 0), 1, 24) := by kernel_rfl
theorem sz36 : (Try.prog.info? 36).map (·.size) = some 1 := by kernel_rfl
theorem zr36 : (Try.prog.info? 36).map (·.zero) = some (some .nilFunc) := by kernel_rfl
theorem zs36 : (Try.prog.info? 36).map (fun i => (i.zero, i.size)) = some (some .nilFunc, 1) := by kernel_rfl
theorem zb36 : (Try.prog.info? 36).map (fun i => (i.zero, i.size, i.bytes)) = some (some .nilFunc, 1, 8) := by kernel_rfl
theorem sz37 : (Try.prog.info? 37).map (·.size) = some 1 := by kernel_rfl
theorem zr37 : (Try.prog.info? 37).map (·.zero) = some (some .nilFunc) := by kernel_rfl
theorem zs37 : (Try.prog.info? 37).map (fun i => (i.zero, i.size)) = some (some .nilFunc, 1) := by kernel_rfl
theorem zb37 : (Try.prog.info? 37).map (fun i => (i.zero, i.size, i.bytes)) = some (some .nilFunc, 1, 8) := by kernel_rfl
theorem sz38 : (Try.prog.info? 38).map (·.size) = some 1 := by kernel_rfl
theorem zr38 : (Try.prog.info? 38).map (·.zero) = some (some (.tuple #[(.int .i64 0), (.bool false)])) := by kernel_rfl
theorem zs38 : (Try.prog.info? 38).map (fun i => (i.zero, i.size)) = some (some (.tuple #[(.int .i64 0), (.bool false)]), 1) := by kernel_rfl
theorem zb38 : (Try.prog.info? 38).map (fun i => (i.zero, i.size, i.bytes)) = some (some (.tuple #[(.int .i64 0), (.bool false)]), 1, 0) := by kernel_rfl
theorem sz39 : (Try.prog.info? 39).map (·.size) = some 1 := by kernel_rfl
theorem zr39 : (Try.prog.info? 39).map (·.zero) = some (some .nilFunc) := by kernel_rfl
theorem zs39 : (Try.prog.info? 39).map (fun i => (i.zero, i.size)) = some (some .nilFunc, 1) := by kernel_rfl
theorem zb39 : (Try.prog.info? 39).map (fun i => (i.zero, i.size, i.bytes)) = some (some .nilFunc, 1, 8) := by kernel_rfl
theorem sz40 : (Try.prog.info? 40).map (·.size) = some 1 := by kernel_rfl
theorem zr40 : (Try.prog.info? 40).map (·.zero) = some (some .nilFunc) := by kernel_rfl
theorem zs40 : (Try.prog.info? 40).map (fun i => (i.zero, i.size)) = some (some .nilFunc, 1) := by kernel_rfl
theorem zb40 : (Try.prog.info? 40).map (fun i => (i.zero, i.size, i.bytes)) = some (some .nilFunc, 1, 8) := by kernel_rfl
theorem sz41 : (Try.prog.info? 41).map (·.size) = some 1 := by kernel_rfl
theorem zr41 : (Try.prog.info? 41).map (·.zero) = some (some .nilIface) := by kernel_rfl
theorem zs41 : (Try.prog.info? 41).map (fun i => (i.zero, i.size)) = some (some .nilIface, 1) := by kernel_rfl
theorem zb41 : (Try.prog.info? 41).map (fun i => (i.zero, i.size, i.bytes)) = some (some .nilIface, 1, 16) := by kernel_rfl
theorem sz42 : (Try.prog.info? 42).map (·.size) = some 1 := by kernel_rfl
theorem zr42 : (Try.prog.info? 42).map (·.zero) = some (some .nilIface) := by kernel_rfl
theorem zs42 : (Try.prog.info? 42).map (fun i => (i.zero, i.size)) = some (some .nilIface, 1) := by kernel_rfl
theorem zb42 : (Try.prog.info? 42).map (fun i => (i.zero, i.size, i.bytes)) = some (some .nilIface, 1, 16) := by kernel_rfl
theorem sz43 : (Try.prog.info? 43).map (·.size) = some 1 := by kernel_rfl
theorem zr43 : (Try.prog.info? 43).map (·.zero) = some (some (.tuple #[(.agg #[(.int .i64 0), (.int .u64 0), (.int .u64 0), (.int .u64 0), (.int .u64 0), (.slice none 0 0)]), .nilIface])) := by kernel_rfl
theorem zs43 : (Try.prog.info? 43).map (fun i => (i.zero, i.size)) = some (some (.tuple #[(.agg #[(.int .i64 0), (.int .u64 0), (.int .u64 0), (.int .u64 0), (.int .u64 0), (.slice none 0 0)]), .nilIface]), 1) := by kernel_rfl
theorem zb43 : (Try.prog.info? 43).map (fun i => (i.zero, i.size, i.bytes)) = some (some (.tuple #[(.agg #[(.int .i64 0), (.int .u64 0), (.int .u64 0), (.int .u64 0), (.int .u64 0), (.slice none 0 0)]), .nilIface]), 1, 0) := by kernel_rfl
theorem sz44 : (Try.prog.info? 44).map (·.size) = some 1 := by kernel_rfl
theorem zr44 : (Try.prog.info? 44).map (·.zero) = some (some .nilFunc) := by kernel_rfl
theorem zs44 : (Try.prog.info? 44).map (fun i => (i.zero, i.size)) = some (some .nilFunc, 1) := by kernel_rfl
theorem zb44 : (Try.prog.info? 44).map (fun i => (i.zero, i.size, i.bytes)) = some (some .nilFunc, 1, 8) := by kernel_rfl
theorem sz45 : (Try.prog.info? 45).map (·.size) = some 1 := by kernel_rfl
theorem zr45 : (Try.prog.info? 45).map (·.zero) = some (some .nilFunc) := by kernel_rfl
theorem zs45 : (Try.prog.info? 45).map (fun i => (i.zero, i.size)) = some (some .nilFunc, 1) := by kernel_rfl
theorem zb45 : (Try.prog.info? 45).map (fun i => (i.zero, i.size, i.bytes)) = some (some .nilFunc, 1, 8) := by kernel_rfl
theorem sz46 : (Try.prog.info? 46).map (·.size) = some 1 := by kernel_rfl
theorem zr46 : (Try.prog.info? 46).map (·.zero) = some (some .nilFunc) := by kernel_rfl
theorem zs46 : (Try.prog.info? 46).map (fun i => (i.zero, i.size)) = some (some .nilFunc, 1) := by kernel_rfl
theorem zb46 : (Try.prog.info? 46).map (fun i => (i.zero, i.size, i.bytes)) = some (some .nilFunc, 1, 8) := by kernel_rfl
theorem sz47 : (Try.prog.info? 47).map (·.size) = some 1 := by kernel_rfl
theorem zr47 : (Try.prog.info? 47).map (·.zero) = some (some .nilFunc) := by kernel_rfl
theorem zs47 : (Try.prog.info? 47).map (fun i => (i.zero, i.size)) = some (some .nilFunc, 1) := by kernel_rfl
theorem zb47 : (Try.prog.info? 47).map (fun i => (i.zero, i.size, i.bytes)) = some (some .nilFunc, 1, 8) := by kernel_rfl
theorem sz48 : (Try.prog.info? 48).map (·.size) = some 1 := by kernel_rfl
theorem zr48 : (Try.prog.info? 48).map (·.zero) = some (some (.pointer none)) := by kernel_rfl
theorem zs48 : (Try.prog.info? 48).map (fun i => (i.zero, i.size)) = some (some (.pointer none), 1) := by kernel_rfl
theorem zb48 : (Try.prog.info? 48).map (fun i => (i.zero, i.size, i.bytes)) = some (some (.pointer none), 1, 8) := by kernel_rfl
theorem sz49 : (Try.prog.info? 49).map (·.size) = some 1 := by kernel_rfl
theorem zr49 : (Try.prog.info? 49).map (·.zero) = some (some .nilFunc) := by kernel_rfl
theorem zs49 : (Try.prog.info? 49).map (fun i => (i.zero, i.size)) = some (some .nilFunc, 1) := by kernel_rfl
theorem zb49 : (Try.prog.info? 49).map (fun i => (i.zero, i.size, i.bytes)) = some (some .nilFunc, 1, 8) := by kernel_rfl
theorem sz50 : (Try.prog.info? 50).map (·.size) = some 1 := by kernel_rfl
theorem zr50 : (Try.prog.info? 50).map (·.zero) = some (some .nilFunc) := by kernel_rfl
theorem zs50 : (Try.prog.info? 50).map (fun i => (i.zero, i.size)) = some (some .nilFunc, 1) := by kernel_rfl
theorem zb50 : (Try.prog.info? 50).map (fun i => (i.zero, i.size, i.bytes)) = some (some .nilFunc, 1, 8) := by kernel_rfl
theorem sz51 : (Try.prog.info? 51).map (·.size) = some 1 := by kernel_rfl
theorem zr51 : (Try.prog.info? 51).map (·.zero) = some (some .nilFunc) := by kernel_rfl
theorem zs51 : (Try.prog.info? 51).map (fun i => (i.zero, i.size)) = some (some .nilFunc, 1) := by kernel_rfl
theorem zb51 : (Try.prog.info? 51).map (fun i => (i.zero, i.size, i.bytes)) = some (some .nilFunc, 1, 8) := by kernel_rfl
theorem sz52 : (Try.prog.info? 52).map (·.size) = some 1 := by kernel_rfl
theorem zr52 : (Try.prog.info? 52).map (·.zero) = some (some .nilFunc) := by kernel_rfl
theorem zs52 : (Try.prog.info? 52).map (fun i => (i.zero, i.size)) = some (some .nilFunc, 1) := by kernel_rfl
theorem zb52 : (Try.prog.info? 52).map (fun i => (i.zero, i.size, i.bytes)) = some (some .nilFunc, 1, 8) := by kernel_rfl
theorem sz53 : (Try.prog.info? 53).map (·.size) = some 1 := by kernel_rfl
theorem zr53 : (Try.prog.info? 53).map (·.zero) = some (some .nilFunc) := by kernel_rfl
theorem zs53 : (Try.prog.info? 53).map (fun i => (i.zero, i.size)) = some (some .nilFunc, 1) := by kernel_rfl
theorem zb53 : (Try.prog.info? 53).map (fun i => (i.zero, i.size, i.bytes)) = some (some .nilFunc, 1, 8) := by kernel_rfl
theorem sz54 : (Try.prog.info? 54).map (·.size) = some 1 := by kernel_rfl
theorem zr54 : (Try.prog.info? 54).map (·.zero) = some (some .nilFunc) := by kernel_rfl
theorem zs54 : (Try.prog.info? 54).map (fun i => (i.zero, i.size)) = some (some .nilFunc, 1) := by kernel_rfl
theorem zb54 : (Try.prog.info? 54).map (fun i => (i.zero, i.size, i.bytes)) = some (some .nilFunc, 1, 8) := by kernel_rfl
theorem sz55 : (Try.prog.info? 55).map (·.size) = some 1 := by kernel_rfl
theorem zr55 : (Try.prog.info? 55).map (·.zero) = some (some (.slice none 0 0)) := by kernel_rfl
theorem zs55 : (Try.prog.info? 55).map (fun i => (i.zero, i.size)) = some (some (.slice none 0 0), 1) := by kernel_rfl
theorem zb55 : (Try.prog.info? 55).map (fun i => (i.zero, i.size, i.bytes)) = some (some (.slice none 0 0), 1, 24) := by kernel_rfl
theorem sz56 : (Try.prog.info? 56).map (·.size) = some 1 := by kernel_rfl
theorem zr56 : (Try.prog.info? 56).map (·.zero) = some (some .nilFunc) := by kernel_rfl
theorem zs56 : (Try.prog.info? 56).map (fun i => (i.zero, i.size)) = some (some .nilFunc, 1) := by kernel_rfl
theorem zb56 : (Try.prog.info? 56).map (fun i => (i.zero, i.size, i.bytes)) = some (some .nilFunc, 1, 8) := by kernel_rfl
theorem sz57 : (Try.prog.info? 57).map (·.size) = some 1 := by kernel_rfl
theorem zr57 : (Try.prog.info? 57).map (·.zero) = some (some .nilFunc) := by kernel_rfl
theorem zs57 : (Try.prog.info? 57).map (fun i => (i.zero, i.size)) = some (some .nilFunc, 1) := by kernel_rfl
theorem zb57 : (Try.prog.info? 57).map (fun i => (i.zero, i.size, i.bytes)) = some (some .nilFunc, 1, 8) := by kernel_rfl
theorem sz58 : (Try.prog.info? 58).map (·.size) = some 1 := by kernel_rfl
theorem zr58 : (Try.prog.info? 58).map (·.zero) = some (some .nilFunc) := by kernel_rfl
theorem zs58 : (Try.prog.info? 58).map (fun i => (i.zero, i.size)) = some (some .nilFunc, 1) := by kernel_rfl
theorem zb58 : (Try.prog.info? 58).map (fun i => (i.zero, i.size, i.bytes)) = some (some .nilFunc, 1, 8) := by kernel_rfl
theorem sz59 : (Try.prog.info? 59).map (·.size) = some 1 := by kernel_rfl
theorem zr59 : (Try.prog.info? 59).map (·.zero) = some (some .nilFunc) := by kernel_rfl
theorem zs59 : (Try.prog.info? 59).map (fun i => (i.zero, i.size)) = some (some .nilFunc, 1) := by kernel_rfl
theorem zb59 : (Try.prog.info? 59).map (fun i => (i.zero, i.size, i.bytes)) = some (some .nilFunc, 1, 8) := by kernel_rfl
theorem sz60 : (Try.prog.info? 60).map (·.size) = some 1 := by kernel_rfl
theorem zr60 : (Try.prog.info? 60).map (·.zero) = some (some (.int .i8 0)) := by kernel_rfl
theorem zs60 : (Try.prog.info? 60).map (fun i => (i.zero, i.size)) = some (some (.int .i8 0), 1) := by kernel_rfl
theorem zb60 : (Try.prog.info? 60).map (fun i => (i.zero, i.size, i.bytes)) = some (some (.int .i8 0), 1, 1) := by kernel_rfl
theorem sz61 : (Try.prog.info? 61).map (·.size) = some 1 := by kernel_rfl
theorem zr61 : (Try.prog.info? 61).map (·.zero) = some (some .nilFunc) := by kernel_rfl
theorem zs61 : (Try.prog.info? 61).map (fun i => (i.zero, i.size)) = some (some .nilFunc, 1) := by kernel_rfl
theorem zb61 : (Try.prog.info? 61).map (fun i => (i.zero, i.size, i.bytes)) = some (some .nilFunc, 1, 8) := by kernel_rfl
theorem sz62 : (Try.prog.info? 62).map (·.size) = some 1 := by kernel_rfl
theorem zr62 : (Try.prog.info? 62).map (·.zero) = some (some (.pointer none)) := by kernel_rfl
theorem zs62 : (Try.prog.info? 62).map (fun i => (i.zero, i.size)) = some (some (.pointer none), 1) := by kernel_rfl
theorem zb62 : (Try.prog.info? 62).map (fun i => (i.zero, i.size, i.bytes)) = some (some (.pointer none), 1, 8) := by kernel_rfl
theorem sz63 : (Try.prog.info? 63).map (·.size) = some 1 := by kernel_rfl
theorem zr63 : (Try.prog.info? 63).map (·.zero) = some (some (.tuple #[(.pointer none), .nilIface])) := by kernel_rfl
theorem zs63 : (Try.prog.info? 63).map (fun i => (i.zero, i.size)) = some (some (.tuple #[(.pointer none), .nilIface]), 1) := by kernel_rfl
theorem zb63 : (Try.prog.info? 63).map (fun i => (i.zero, i.size, i.bytes)) = some (some (.tuple #[(.pointer none), .nilIface]), 1, 0) := by kernel_rfl
theorem sz64 : (Try.prog.info? 64).map (·.size) = some 1 := by kernel_rfl
theorem zr64 : (Try.prog.info? 64).map (·.zero) = some (some .nilFunc) := by kernel_rfl
theorem zs64 : (Try.prog.info? 64).map (fun i => (i.zero, i.size)) = some (some .nilFunc, 1) := by kernel_rfl
theorem zb64 : (Try.prog.info? 64).map (fun i => (i.zero, i.size, i.bytes)) = some (some .nilFunc, 1, 8) := by kernel_rfl
theorem sz65 : (Try.prog.info? 65).map (·.size) = some 1 := by kernel_rfl
theorem zr65 : (Try.prog.info? 65).map (·.zero) = some (some .nilFunc) := by kernel_rfl
theorem zs65 : (Try.prog.info? 65).map (fun i => (i.zero, i.size)) = some (some .nilFunc, 1) := by kernel_rfl
theorem zb65 : (Try.prog.info? 65).map (fun i => (i.zero, i.size, i.bytes)) = some (some .nilFunc, 1, 8) := by kernel_rfl
theorem sz66 : (Try.prog.info? 66).map (·.size) = some 1 := by kernel_rfl
theorem zr66 : (Try.prog.info? 66).map (·.zero) = some (some .nilFunc) := by kernel_rfl
theorem zs66 : (Try.prog.info? 66).map (fun i => (i.zero, i.size)) = some (some .nilFunc, 1) := by kernel_rfl
theorem zb66 : (Try.prog.info? 66).map (fun i => (i.zero, i.size, i.bytes)) = some (some .nilFunc, 1, 8) := by kernel_rfl
theorem sz67 : (Try.prog.info? 67).map (·.size) = some 1 := by kernel_rfl
theorem zr67 : (Try.prog.info? 67).map (·.zero) = some (some (.slice none 0 0)) := by kernel_rfl
theorem zs67 : (Try.prog.info? 67).map (fun i => (i.zero, i.size)) = some (some (.slice none 0 0), 1) := by kernel_rfl
theorem zb67 : (Try.prog.info? 67).map (fun i => (i.zero, i.size, i.bytes)) = some (some (.slice none 0 0), 1, 24) := by kernel_rfl
theorem sz68 : (Try.prog.info? 68).map (·.size) = some 1 := by kernel_rfl
theorem zr68 : (Try.prog.info? 68).map (·.zero) = some (some .nilFunc) := by kernel_rfl
theorem zs68 : (Try.prog.info? 68).map (fun i => (i.zero, i.size)) = some (some .nilFunc, 1) := by kernel_rfl
theorem zb68 : (Try.prog.info? 68).map (fun i => (i.zero, i.size, i.bytes)) = some (some .nilFunc, 1, 8) := by kernel_rfl
theorem sz69 : (Try.prog.info? 69).map (·.size) = some 1 := by kernel_rfl
theorem zr69 : (Try.prog.info? 69).map (·.zero) = some (some (.tuple #[(.string ByteArray.empty), (.agg #[(.int .i64 0), (.int .u64 0), (.int .u64 0), (.int .u64 0), (.int .u64 0), (.slice none 0 0)]), (.slice none 0 0)])) := by kernel_rfl
theorem zs69 : (Try.prog.info? 69).map (fun i => (i.zero, i.size)) = some (some (.tuple #[(.string ByteArray.empty), (.agg #[(.int .i64 0), (.int .u64 0), (.int .u64 0), (.int .u64 0), (.int .u64 0), (.slice none 0 0)]), (.slice none 0 0)]), 1) := by kernel_rfl
theorem zb69 : (Try.prog.info? 69).map (fun i => (i.zero, i.size, i.bytes)) = some (some (.tuple #[(.string ByteArray.empty), (.agg #[(.int .i64 0), (.int .u64 0), (.int .u64 0), (.int .u64 0), (.int .u64 0), (.slice none 0 0)]), (.slice none 0 0)]), 1, 0) := by kernel_rfl
theorem sz70 : (Try.prog.info? 70).map (·.size) = some 1 := by kernel_rfl
theorem zr70 : (Try.prog.info? 70).map (·.zero) = some (some .nilFunc) := by kernel_rfl
theorem zs70 : (Try.prog.info? 70).map (fun i => (i.zero, i.size)) = some (some .nilFunc, 1) := by kernel_rfl
theorem zb70 : (Try.prog.info? 70).map (fun i => (i.zero, i.size, i.bytes)) = some (some .nilFunc, 1, 8) := by kernel_rfl
theorem sz71 : (Try.prog.info? 71).map (·.size) = some 1 := by kernel_rfl
theorem zr71 : (Try.prog.info? 71).map (·.zero) = some (some .nilFunc) := by kernel_rfl
theorem zs71 : (Try.prog.info? 71).map (fun i => (i.zero, i.size)) = some (some .nilFunc, 1) := by kernel_rfl
theorem zb71 : (Try.prog.info? 71).map (fun i => (i.zero, i.size, i.bytes)) = some (some .nilFunc, 1, 8) := by kernel_rfl
theorem sz72 : (Try.prog.info? 72).map (·.size) = some 1 := by kernel_rfl
theorem zr72 : (Try.prog.info? 72).map (·.zero) = some (some .nilFunc) := by kernel_rfl
theorem zs72 : (Try.prog.info? 72).map (fun i => (i.zero, i.size)) = some (some .nilFunc, 1) := by kernel_rfl
theorem zb72 : (Try.prog.info? 72).map (fun i => (i.zero, i.size, i.bytes)) = some (some .nilFunc, 1, 8) := by kernel_rfl
theorem sz73 : (Try.prog.info? 73).map (·.size) = some 1 := by kernel_rfl
theorem zr73 : (Try.prog.info? 73).map (·.zero) = some (some (.int .i64 0)) := by kernel_rfl
theorem zs73 : (Try.prog.info? 73).map (fun i => (i.zero, i.size)) = some (some (.int .i64 0), 1) := by kernel_rfl
theorem zb73 : (Try.prog.info? 73).map (fun i => (i.zero, i.size, i.bytes)) = some (some (.int .i64 0), 1, 8) := by kernel_rfl
theorem sz74 : (Try.prog.info? 74).map (·.size) = some 1 := by kernel_rfl
theorem zr74 : (Try.prog.info? 74).map (·.zero) = some (some (.pointer none)) := by kernel_rfl
theorem zs74 : (Try.prog.info? 74).map (fun i => (i.zero, i.size)) = some (some (.pointer none), 1) := by kernel_rfl
theorem zb74 : (Try.prog.info? 74).map (fun i => (i.zero, i.size, i.bytes)) = some (some (.pointer none), 1, 8) := by kernel_rfl
theorem sz75 : (Try.prog.info? 75).map (·.size) = some 2 := by kernel_rfl
theorem zr75 : (Try.prog.info? 75).map (·.zero) = some (some (.agg #[(.string ByteArray.empty), (.int .i64 0)])) := by kernel_rfl
theorem zs75 : (Try.prog.info? 75).map (fun i => (i.zero, i.size)) = some (some (.agg #[(.string ByteArray.empty), (.int .i64 0)]), 2) := by kernel_rfl
theorem zb75 : (Try.prog.info? 75).map (fun i => (i.zero, i.size, i.bytes)) = some (some (.agg #[(.string ByteArray.empty), (.int .i64 0)]), 2, 24) := by kernel_rfl
theorem sz76 : (Try.prog.info? 76).map (·.size) = some 2 := by kernel_rfl
theorem zr76 : (Try.prog.info? 76).map (·.zero) = some (some (.agg #[(.string ByteArray.empty), (.int .i64 0)])) := by kernel_rfl
theorem zs76 : (Try.prog.info? 76).map (fun i => (i.zero, i.size)) = some (some (.agg #[(.string ByteArray.empty), (.int .i64 0)]), 2) := by kernel_rfl
theorem zb76 : (Try.prog.info? 76).map (fun i => (i.zero, i.size, i.bytes)) = some (some (.agg #[(.string ByteArray.empty), (.int .i64 0)]), 2, 24) := by kernel_rfl
theorem sz77 : (Try.prog.info? 77).map (·.size) = some 1 := by kernel_rfl
theorem zr77 : (Try.prog.info? 77).map (·.zero) = some (some .nilFunc) := by kernel_rfl
theorem zs77 : (Try.prog.info? 77).map (fun i => (i.zero, i.size)) = some (some .nilFunc, 1) := by kernel_rfl
theorem zb77 : (Try.prog.info? 77).map (fun i => (i.zero, i.size, i.bytes)) = some (some .nilFunc, 1, 8) := by kernel_rfl
theorem sz78 : (Try.prog.info? 78).map (·.size) = some 1 := by kernel_rfl
theorem zr78 : (Try.prog.info? 78).map (·.zero) = some (some .nilFunc) := by kernel_rfl
theorem zs78 : (Try.prog.info? 78).map (fun i => (i.zero, i.size)) = some (some .nilFunc, 1) := by kernel_rfl
theorem zb78 : (Try.prog.info? 78).map (fun i => (i.zero, i.size, i.bytes)) = some (some .nilFunc, 1, 8) := by kernel_rfl
theorem sz79 : (Try.prog.info? 79).map (·.size) = some 1 := by kernel_rfl
theorem zr79 : (Try.prog.info? 79).map (·.zero) = some (some (.pointer none)) := by kernel_rfl
theorem zs79 : (Try.prog.info? 79).map (fun i => (i.zero, i.size)) = some (some (.pointer none), 1) := by kernel_rfl
theorem zb79 : (Try.prog.info? 79).map (fun i => (i.zero, i.size, i.bytes)) = some (some (.pointer none), 1, 8) := by kernel_rfl
theorem sz80 : (Try.prog.info? 80).map (·.size) = some 2 := by kernel_rfl
theorem zr80 : (Try.prog.info? 80).map (·.zero) = some (some (.agg #[(.pointer none), (.slice none 0 0)])) := by kernel_rfl
theorem zs80 : (Try.prog.info? 80).map (fun i => (i.zero, i.size)) = some (some (.agg #[(.pointer none), (.slice none 0 0)]), 2) := by kernel_rfl
theorem zb80 : (Try.prog.info? 80).map (fun i => (i.zero, i.size, i.bytes)) = some (some (.agg #[(.pointer none), (.slice none 0 0)]), 2, 32) := by kernel_rfl
theorem sz81 : (Try.prog.info? 81).map (·.size) = some 2 := by kernel_rfl
theorem zr81 : (Try.prog.info? 81).map (·.zero) = some (some (.agg #[(.pointer none), (.slice none 0 0)])) := by kernel_rfl
theorem zs81 : (Try.prog.info? 81).map (fun i => (i.zero, i.size)) = some (some (.agg #[(.pointer none), (.slice none 0 0)]), 2) := by kernel_rfl
theorem zb81 : (Try.prog.info? 81).map (fun i => (i.zero, i.size, i.bytes)) = some (some (.agg #[(.pointer none), (.slice none 0 0)]), 2, 32) := by kernel_rfl
theorem sz82 : (Try.prog.info? 82).map (·.size) = some 1 := by kernel_rfl
theorem zr82 : (Try.prog.info? 82).map (·.zero) = some (some .nilFunc) := by kernel_rfl
theorem zs82 : (Try.prog.info? 82).map (fun i => (i.zero, i.size)) = some (some .nilFunc, 1) := by kernel_rfl
theorem zb82 : (Try.prog.info? 82).map (fun i => (i.zero, i.size, i.bytes)) = some (some .nilFunc, 1, 8) := by kernel_rfl
theorem sz83 : (Try.prog.info? 83).map (·.size) = some 1 := by kernel_rfl
theorem zr83 : (Try.prog.info? 83).map (·.zero) = some (some .nilFunc) := by kernel_rfl
theorem zs83 : (Try.prog.info? 83).map (fun i => (i.zero, i.size)) = some (some .nilFunc, 1) := by kernel_rfl
theorem zb83 : (Try.prog.info? 83).map (fun i => (i.zero, i.size, i.bytes)) = some (some .nilFunc, 1, 8) := by kernel_rfl
theorem sz84 : (Try.prog.info? 84).map (·.size) = some 1 := by kernel_rfl
theorem zr84 : (Try.prog.info? 84).map (·.zero) = some (some .nilFunc) := by kernel_rfl
theorem zs84 : (Try.prog.info? 84).map (fun i => (i.zero, i.size)) = some (some .nilFunc, 1) := by kernel_rfl
theorem zb84 : (Try.prog.info? 84).map (fun i => (i.zero, i.size, i.bytes)) = some (some .nilFunc, 1, 8) := by kernel_rfl
theorem sz85 : (Try.prog.info? 85).map (·.size) = some 1 := by kernel_rfl
theorem zr85 : (Try.prog.info? 85).map (·.zero) = some (some (.pointer none)) := by kernel_rfl
theorem zs85 : (Try.prog.info? 85).map (fun i => (i.zero, i.size)) = some (some (.pointer none), 1) := by kernel_rfl
theorem zb85 : (Try.prog.info? 85).map (fun i => (i.zero, i.size, i.bytes)) = some (some (.pointer none), 1, 8) := by kernel_rfl
theorem sz86 : (Try.prog.info? 86).map (·.size) = some 1 := by kernel_rfl
theorem zr86 : (Try.prog.info? 86).map (·.zero) = some (some (.map none)) := by kernel_rfl
theorem zs86 : (Try.prog.info? 86).map (fun i => (i.zero, i.size)) = some (some (.map none), 1) := by kernel_rfl
theorem zb86 : (Try.prog.info? 86).map (fun i => (i.zero, i.size, i.bytes)) = some (some (.map none), 1, 8) := by kernel_rfl
theorem sz87 : (Try.prog.info? 87).map (·.size) = some 1 := by kernel_rfl
theorem zr87 : (Try.prog.info? 87).map (·.zero) = some (some (.slice none 0 0)) := by kernel_rfl
theorem zs87 : (Try.prog.info? 87).map (fun i => (i.zero, i.size)) = some (some (.slice none 0 0), 1) := by kernel_rfl
theorem zb87 : (Try.prog.info? 87).map (fun i => (i.zero, i.size, i.bytes)) = some (some (.slice none 0 0), 1, 24) := by kernel_rfl
theorem sz88 : (Try.prog.info? 88).map (·.size) = some 2 := by kernel_rfl
theorem zr88 : (Try.prog.info? 88).map (·.zero) = some (some (.agg #[(.slice none 0 0), (.map none)])) := by kernel_rfl
theorem zs88 : (Try.prog.info? 88).map (fun i => (i.zero, i.size)) = some (some (.agg #[(.slice none 0 0), (.map none)]), 2) := by kernel_rfl
theorem zb88 : (Try.prog.info? 88).map (fun i => (i.zero, i.size, i.bytes)) = some (some (.agg #[(.slice none 0 0), (.map none)]), 2, 32) := by kernel_rfl
theorem sz89 : (Try.prog.info? 89).map (·.size) = some 2 := by kernel_rfl
theorem zr89 : (Try.prog.info? 89).map (·.zero) = some (some (.agg #[(.slice none 0 0), (.map none)])) := by kernel_rfl
theorem zs89 : (Try.prog.info? 89).map (fun i => (i.zero, i.size)) = some (some (.agg #[(.slice none 0 0), (.map none)]), 2) := by kernel_rfl
theorem zb89 : (Try.prog.info? 89).map (fun i => (i.zero, i.size, i.bytes)) = some (some (.agg #[(.slice none 0 0), (.map none)]), 2, 32) := by kernel_rfl
theorem sz90 : (Try.prog.info? 90).map (·.size) = some 3 := by kernel_rfl
theorem zr90 : (Try.prog.info? 90).map (·.zero) = some (some (.agg #[(.map none), (.map none), (.bool false)])) := by kernel_rfl
theorem zs90 : (Try.prog.info? 90).map (fun i => (i.zero, i.size)) = some (some (.agg #[(.map none), (.map none), (.bool false)]), 3) := by kernel_rfl
theorem zb90 : (Try.prog.info? 90).map (fun i => (i.zero, i.size, i.bytes)) = some (some (.agg #[(.map none), (.map none), (.bool false)]), 3, 24) := by kernel_rfl
theorem sz91 : (Try.prog.info? 91).map (·.size) = some 3 := by kernel_rfl
theorem zr91 : (Try.prog.info? 91).map (·.zero) = some (some (.agg #[(.map none), (.map none), (.bool false)])) := by kernel_rfl
theorem zs91 : (Try.prog.info? 91).map (fun i => (i.zero, i.size)) = some (some (.agg #[(.map none), (.map none), (.bool false)]), 3) := by kernel_rfl
theorem zb91 : (Try.prog.info? 91).map (fun i => (i.zero, i.size, i.bytes)) = some (some (.agg #[(.map none), (.map none), (.bool false)]), 3, 24) := by kernel_rfl
theorem sz92 : (Try.prog.info? 92).map (·.size) = some 1 := by kernel_rfl
theorem zr92 : (Try.prog.info? 92).map (·.zero) = some (some .nilFunc) := by kernel_rfl
theorem zs92 : (Try.prog.info? 92).map (fun i => (i.zero, i.size)) = some (some .nilFunc, 1) := by kernel_rfl
theorem zb92 : (Try.prog.info? 92).map (fun i => (i.zero, i.size, i.bytes)) = some (some .nilFunc, 1, 8) := by kernel_rfl
theorem sz93 : (Try.prog.info? 93).map (·.size) = some 1 := by kernel_rfl
theorem zr93 : (Try.prog.info? 93).map (·.zero) = some (some (.slice none 0 0)) := by kernel_rfl
theorem zs93 : (Try.prog.info? 93).map (fun i => (i.zero, i.size)) = some (some (.slice none 0 0), 1) := by kernel_rfl
theorem zb93 : (Try.prog.info? 93).map (fun i => (i.zero, i.size, i.bytes)) = some (some (.slice none 0 0), 1, 24) := by kernel_rfl
theorem sz94 : (Try.prog.info? 94).map (·.size) = some 5 := by kernel_rfl
theorem zr94 : (Try.prog.info? 94).map (·.zero) = some (some (.agg #[(.slice none 0 0), (.slice none 0 0), (.slice none 0 0), (.slice none 0 0), (.bool false)])) := by kernel_rfl
theorem zs94 : (Try.prog.info? 94).map (fun i => (i.zero, i.size)) = some (some (.agg #[(.slice none 0 0), (.slice none 0 0), (.slice none 0 0), (.slice none 0 0), (.bool false)]), 5) := by kernel_rfl
theorem zb94 : (Try.prog.info? 94).map (fun i => (i.zero, i.size, i.bytes)) = some (some (.agg #[(.slice none 0 0), (.slice none 0 0), (.slice none 0 0), (.slice none 0 0), (.bool false)]), 5, 104) := by kernel_rfl
theorem sz95 : (Try.prog.info? 95).map (·.size) = some 5 := by kernel_rfl
theorem zr95 : (Try.prog.info? 95).map (·.zero) = some (some (.agg #[(.slice none 0 0), (.slice none 0 0), (.slice none 0 0), (.slice none 0 0), (.bool false)])) := by kernel_rfl
theorem zs95 : (Try.prog.info? 95).map (fun i => (i.zero, i.size)) = some (some (.agg #[(.slice none 0 0), (.slice none 0 0), (.slice none 0 0), (.slice none 0 0), (.bool false)]), 5) := by kernel_rfl
theorem zb95 : (Try.prog.info? 95).map (fun i => (i.zero, i.size, i.bytes)) = some (some (.agg #[(.slice none 0 0), (.slice none 0 0), (.slice none 0 0), (.slice none 0 0), (.bool false)]), 5, 104) := by kernel_rfl
theorem sz96 : (Try.prog.info? 96).map (·.size) = some 2 := by kernel_rfl
theorem zr96 : (Try.prog.info? 96).map (·.zero) = some (some (.agg #[(.int .i64 0), (.int .i64 0)])) := by kernel_rfl
theorem zs96 : (Try.prog.info? 96).map (fun i => (i.zero, i.size)) = some (some (.agg #[(.int .i64 0), (.int .i64 0)]), 2) := by kernel_rfl
theorem zb96 : (Try.prog.info? 96).map (fun i => (i.zero, i.size, i.bytes)) = some (some (.agg #[(.int .i64 0), (.int .i64 0)]), 2, 16) := by kernel_rfl
theorem sz97 : (Try.prog.info? 97).map (·.size) = some 1 := by kernel_rfl
theorem zr97 : (Try.prog.info? 97).map (·.zero) = some (some .nilFunc) := by kernel_rfl
theorem zs97 : (Try.prog.info? 97).map (fun i => (i.zero, i.size)) = some (some .nilFunc, 1) := by kernel_rfl
theorem zb97 : (Try.prog.info? 97).map (fun i => (i.zero, i.size, i.bytes)) = some (some .nilFunc, 1, 8) := by kernel_rfl
theorem sz98 : (Try.prog.info? 98).map (·.size) = some 1 := by kernel_rfl
theorem zr98 : (Try.prog.info? 98).map (·.zero) = some (some (.slice none 0 0)) := by kernel_rfl
theorem zs98 : (Try.prog.info? 98).map (fun i => (i.zero, i.size)) = some (some (.slice none 0 0), 1) := by kernel_rfl
theorem zb98 : (Try.prog.info? 98).map (fun i => (i.zero, i.size, i.bytes)) = some (some (.slice none 0 0), 1, 24) := by kernel_rfl
theorem sz99 : (Try.prog.info? 99).map (·.size) = some 4 := by kernel_rfl
theorem zr99 : (Try.prog.info? 99).map (·.zero) = some (some (.agg #[(.slice none 0 0), (.slice none 0 0), (.int .i64 0), (.bool false)])) := by kernel_rfl
theorem zs99 : (Try.prog.info? 99).map (fun i => (i.zero, i.size)) = some (some (.agg #[(.slice none 0 0), (.slice none 0 0), (.int .i64 0), (.bool false)]), 4) := by kernel_rfl
theorem zb99 : (Try.prog.info? 99).map (fun i => (i.zero, i.size, i.bytes)) = some (some (.agg #[(.slice none 0 0), (.slice none 0 0), (.int .i64 0), (.bool false)]), 4, 64) := by kernel_rfl
theorem sz100 : (Try.prog.info? 100).map (·.size) = some 4 := by kernel_rfl
theorem zr100 : (Try.prog.info? 100).map (·.zero) = some (some (.agg #[(.slice none 0 0), (.slice none 0 0), (.int .i64 0), (.bool false)])) := by kernel_rfl
theorem zs100 : (Try.prog.info? 100).map (fun i => (i.zero, i.size)) = some (some (.agg #[(.slice none 0 0), (.slice none 0 0), (.int .i64 0), (.bool false)]), 4) := by kernel_rfl
theorem zb100 : (Try.prog.info? 100).map (fun i => (i.zero, i.size, i.bytes)) = some (some (.agg #[(.slice none 0 0), (.slice none 0 0), (.int .i64 0), (.bool false)]), 4, 64) := by kernel_rfl
theorem sz101 : (Try.prog.info? 101).map (·.size) = some 1 := by kernel_rfl
theorem zr101 : (Try.prog.info? 101).map (·.zero) = some (some .nilFunc) := by kernel_rfl
theorem zs101 : (Try.prog.info? 101).map (fun i => (i.zero, i.size)) = some (some .nilFunc, 1) := by kernel_rfl
theorem zb101 : (Try.prog.info? 101).map (fun i => (i.zero, i.size, i.bytes)) = some (some .nilFunc, 1, 8) := by kernel_rfl
theorem sz102 : (Try.prog.info? 102).map (·.size) = some 1 := by kernel_rfl
theorem zr102 : (Try.prog.info? 102).map (·.zero) = some (some .nilFunc) := by kernel_rfl
theorem zs102 : (Try.prog.info? 102).map (fun i => (i.zero, i.size)) = some (some .nilFunc, 1) := by kernel_rfl
theorem zb102 : (Try.prog.info? 102).map (fun i => (i.zero, i.size, i.bytes)) = some (some .nilFunc, 1, 8) := by kernel_rfl
theorem sz103 : (Try.prog.info? 103).map (·.size) = some 1 := by kernel_rfl
theorem zr103 : (Try.prog.info? 103).map (·.zero) = some (some .nilFunc) := by kernel_rfl
theorem zs103 : (Try.prog.info? 103).map (fun i => (i.zero, i.size)) = some (some .nilFunc, 1) := by kernel_rfl
theorem zb103 : (Try.prog.info? 103).map (fun i => (i.zero, i.size, i.bytes)) = some (some .nilFunc, 1, 8) := by kernel_rfl
theorem sz104 : (Try.prog.info? 104).map (·.size) = some 2 := by kernel_rfl
theorem zr104 : (Try.prog.info? 104).map (·.zero) = some (some (.agg #[(.int .i64 0), (.int .i64 0)])) := by kernel_rfl
theorem zs104 : (Try.prog.info? 104).map (fun i => (i.zero, i.size)) = some (some (.agg #[(.int .i64 0), (.int .i64 0)]), 2) := by kernel_rfl
theorem zb104 : (Try.prog.info? 104).map (fun i => (i.zero, i.size, i.bytes)) = some (some (.agg #[(.int .i64 0), (.int .i64 0)]), 2, 16) := by kernel_rfl
theorem sz105 : (Try.prog.info? 105).map (·.size) = some 2 := by kernel_rfl
theorem zr105 : (Try.prog.info? 105).map (·.zero) = some (some (.agg #[(.int .i64 0), (.int .i64 0)])) := by kernel_rfl
theorem zs105 : (Try.prog.info? 105).map (fun i => (i.zero, i.size)) = some (some (.agg #[(.int .i64 0), (.int .i64 0)]), 2) := by kernel_rfl
theorem zb105 : (Try.prog.info? 105).map (fun i => (i.zero, i.size, i.bytes)) = some (some (.agg #[(.int .i64 0), (.int .i64 0)]), 2, 16) := by kernel_rfl
theorem sz106 : (Try.prog.info? 106).map (·.size) = some 1 := by kernel_rfl
theorem zr106 : (Try.prog.info? 106).map (·.zero) = some (some (.pointer none)) := by kernel_rfl
theorem zs106 : (Try.prog.info? 106).map (fun i => (i.zero, i.size)) = some (some (.pointer none), 1) := by kernel_rfl
theorem zb106 : (Try.prog.info? 106).map (fun i => (i.zero, i.size, i.bytes)) = some (some (.pointer none), 1, 8) := by kernel_rfl
theorem sz107 : (Try.prog.info? 107).map (·.size) = some 1 := by kernel_rfl
theorem zr107 : (Try.prog.info? 107).map (·.zero) = some (some .nilFunc) := by kernel_rfl
theorem zs107 : (Try.prog.info? 107).map (fun i => (i.zero, i.size)) = some (some .nilFunc, 1) := by kernel_rfl
theorem zb107 : (Try.prog.info? 107).map (fun i => (i.zero, i.size, i.bytes)) = some (some .nilFunc, 1, 8) := by kernel_rfl
theorem sz108 : (Try.prog.info? 108).map (·.size) = some 1 := by kernel_rfl
theorem zr108 : (Try.prog.info? 108).map (·.zero) = some (some .nilFunc) := by kernel_rfl
theorem zs108 : (Try.prog.info? 108).map (fun i => (i.zero, i.size)) = some (some .nilFunc, 1) := by kernel_rfl
theorem zb108 : (Try.prog.info? 108).map (fun i => (i.zero, i.size, i.bytes)) = some (some .nilFunc, 1, 8) := by kernel_rfl
theorem sz109 : (Try.prog.info? 109).map (·.size) = some 1 := by kernel_rfl
theorem zr109 : (Try.prog.info? 109).map (·.zero) = some (some .nilFunc) := by kernel_rfl
theorem zs109 : (Try.prog.info? 109).map (fun i => (i.zero, i.size)) = some (some .nilFunc, 1) := by kernel_rfl
theorem zb109 : (Try.prog.info? 109).map (fun i => (i.zero, i.size, i.bytes)) = some (some .nilFunc, 1, 8) := by kernel_rfl
theorem sz110 : (Try.prog.info? 110).map (·.size) = some 1 := by kernel_rfl
theorem zr110 : (Try.prog.info? 110).map (·.zero) = some (some (.pointer none)) := by kernel_rfl
theorem zs110 : (Try.prog.info? 110).map (fun i => (i.zero, i.size)) = some (some (.pointer none), 1) := by kernel_rfl
theorem zb110 : (Try.prog.info? 110).map (fun i => (i.zero, i.size, i.bytes)) = some (some (.pointer none), 1, 8) := by kernel_rfl
theorem sz111 : (Try.prog.info? 111).map (·.size) = some 1 := by kernel_rfl
theorem zr111 : (Try.prog.info? 111).map (·.zero) = some (some .nilFunc) := by kernel_rfl
theorem zs111 : (Try.prog.info? 111).map (fun i => (i.zero, i.size)) = some (some .nilFunc, 1) := by kernel_rfl
theorem zb111 : (Try.prog.info? 111).map (fun i => (i.zero, i.size, i.bytes)) = some (some .nilFunc, 1, 8) := by kernel_rfl
theorem sz112 : (Try.prog.info? 112).map (·.size) = some 1 := by kernel_rfl
theorem zr112 : (Try.prog.info? 112).map (·.zero) = some (some .nilFunc) := by kernel_rfl
theorem zs112 : (Try.prog.info? 112).map (fun i => (i.zero, i.size)) = some (some .nilFunc, 1) := by kernel_rfl
theorem zb112 : (Try.prog.info? 112).map (fun i => (i.zero, i.size, i.bytes)) = some (some .nilFunc, 1, 8) := by kernel_rfl
theorem sz113 : (Try.prog.info? 113).map (·.size) = some 1 := by kernel_rfl
theorem zr113 : (Try.prog.info? 113).map (·.zero) = some (some (.tuple #[(.int .u8 0), .nilIface])) := by kernel_rfl
theorem zs113 : (Try.prog.info? 113).map (fun i => (i.zero, i.size)) = some (some (.tuple #[(.int .u8 0), .nilIface]), 1) := by kernel_rfl
theorem zb113 : (Try.prog.info? 113).map (fun i => (i.zero, i.size, i.bytes)) = some (some (.tuple #[(.int .u8 0), .nilIface]), 1, 0) := by kernel_rfl
theorem sz114 : (Try.prog.info? 114).map (·.size) = some 1 := by kernel_rfl
theorem zr114 : (Try.prog.info? 114).map (·.zero) = some (some .nilFunc) := by kernel_rfl
theorem zs114 : (Try.prog.info? 114).map (fun i => (i.zero, i.size)) = some (some .nilFunc, 1) := by kernel_rfl
theorem zb114 : (Try.prog.info? 114).map (fun i => (i.zero, i.size, i.bytes)) = some (some .nilFunc, 1, 8) := by kernel_rfl
theorem sz115 : (Try.prog.info? 115).map (·.size) = some 4 := by kernel_rfl
theorem zr115 : (Try.prog.info? 115).map (·.zero) = some (some (.agg #[(.pointer none), (.pointer none), (.pointer none), (.string ByteArray.empty)])) := by kernel_rfl
theorem zs115 : (Try.prog.info? 115).map (fun i => (i.zero, i.size)) = some (some (.agg #[(.pointer none), (.pointer none), (.pointer none), (.string ByteArray.empty)]), 4) := by kernel_rfl
theorem zb115 : (Try.prog.info? 115).map (fun i => (i.zero, i.size, i.bytes)) = some (some (.agg #[(.pointer none), (.pointer none), (.pointer none), (.string ByteArray.empty)]), 4, 40) := by kernel_rfl
theorem sz116 : (Try.prog.info? 116).map (·.size) = some 4 := by kernel_rfl
theorem zr116 : (Try.prog.info? 116).map (·.zero) = some (some (.agg #[(.pointer none), (.pointer none), (.pointer none), (.string ByteArray.empty)])) := by kernel_rfl
theorem zs116 : (Try.prog.info? 116).map (fun i => (i.zero, i.size)) = some (some (.agg #[(.pointer none), (.pointer none), (.pointer none), (.string ByteArray.empty)]), 4) := by kernel_rfl
theorem zb116 : (Try.prog.info? 116).map (fun i => (i.zero, i.size, i.bytes)) = some (some (.agg #[(.pointer none), (.pointer none), (.pointer none), (.string ByteArray.empty)]), 4, 40) := by kernel_rfl
theorem sz117 : (Try.prog.info? 117).map (·.size) = some 0 := by kernel_rfl
theorem zr117 : (Try.prog.info? 117).map (·.zero) = some (some (.agg #[])) := by kernel_rfl
theorem zs117 : (Try.prog.info? 117).map (fun i => (i.zero, i.size)) = some (some (.agg #[]), 0) := by kernel_rfl
theorem zb117 : (Try.prog.info? 117).map (fun i => (i.zero, i.size, i.bytes)) = some (some (.agg #[]), 0, 0) := by kernel_rfl
theorem sz118 : (Try.prog.info? 118).map (·.size) = some 0 := by kernel_rfl
theorem zr118 : (Try.prog.info? 118).map (·.zero) = some (some (.agg #[])) := by kernel_rfl
theorem zs118 : (Try.prog.info? 118).map (fun i => (i.zero, i.size)) = some (some (.agg #[]), 0) := by kernel_rfl
theorem zb118 : (Try.prog.info? 118).map (fun i => (i.zero, i.size, i.bytes)) = some (some (.agg #[]), 0, 0) := by kernel_rfl
theorem sz119 : (Try.prog.info? 119).map (·.size) = some 0 := by kernel_rfl
theorem zr119 : (Try.prog.info? 119).map (·.zero) = some (some (.agg #[])) := by kernel_rfl
theorem zs119 : (Try.prog.info? 119).map (fun i => (i.zero, i.size)) = some (some (.agg #[]), 0) := by kernel_rfl
theorem zb119 : (Try.prog.info? 119).map (fun i => (i.zero, i.size, i.bytes)) = some (some (.agg #[]), 0, 0) := by kernel_rfl
theorem sz120 : (Try.prog.info? 120).map (·.size) = some 1 := by kernel_rfl
theorem zr120 : (Try.prog.info? 120).map (·.zero) = some (some (.int .u32 0)) := by kernel_rfl
theorem zs120 : (Try.prog.info? 120).map (fun i => (i.zero, i.size)) = some (some (.int .u32 0), 1) := by kernel_rfl
theorem zb120 : (Try.prog.info? 120).map (fun i => (i.zero, i.size, i.bytes)) = some (some (.int .u32 0), 1, 4) := by kernel_rfl
theorem sz121 : (Try.prog.info? 121).map (·.size) = some 1 := by kernel_rfl
theorem zr121 : (Try.prog.info? 121).map (·.zero) = some (some (.int .u8 0)) := by kernel_rfl
theorem zs121 : (Try.prog.info? 121).map (fun i => (i.zero, i.size)) = some (some (.int .u8 0), 1) := by kernel_rfl
theorem zb121 : (Try.prog.info? 121).map (fun i => (i.zero, i.size, i.bytes)) = some (some (.int .u8 0), 1, 1) := by kernel_rfl
theorem sz122 : (Try.prog.info? 122).map (·.size) = some 1 := by kernel_rfl
theorem zr122 : (Try.prog.info? 122).map (·.zero) = some (some (.int .u8 0)) := by kernel_rfl
theorem zs122 : (Try.prog.info? 122).map (fun i => (i.zero, i.size)) = some (some (.int .u8 0), 1) := by kernel_rfl
theorem zb122 : (Try.prog.info? 122).map (fun i => (i.zero, i.size, i.bytes)) = some (some (.int .u8 0), 1, 1) := by kernel_rfl
theorem sz123 : (Try.prog.info? 123).map (·.size) = some 1 := by kernel_rfl
theorem zr123 : (Try.prog.info? 123).map (·.zero) = some (some .nilFunc) := by kernel_rfl
theorem zs123 : (Try.prog.info? 123).map (fun i => (i.zero, i.size)) = some (some .nilFunc, 1) := by kernel_rfl
theorem zb123 : (Try.prog.info? 123).map (fun i => (i.zero, i.size, i.bytes)) = some (some .nilFunc, 1, 8) := by kernel_rfl
theorem sz124 : (Try.prog.info? 124).map (·.size) = some 1 := by kernel_rfl
theorem zr124 : (Try.prog.info? 124).map (·.zero) = some (some (.int .i32 0)) := by kernel_rfl
theorem zs124 : (Try.prog.info? 124).map (fun i => (i.zero, i.size)) = some (some (.int .i32 0), 1) := by kernel_rfl
theorem zb124 : (Try.prog.info? 124).map (fun i => (i.zero, i.size, i.bytes)) = some (some (.int .i32 0), 1, 4) := by kernel_rfl
theorem sz125 : (Try.prog.info? 125).map (·.size) = some 1 := by kernel_rfl
theorem zr125 : (Try.prog.info? 125).map (·.zero) = some (some (.int .i32 0)) := by kernel_rfl
theorem zs125 : (Try.prog.info? 125).map (fun i => (i.zero, i.size)) = some (some (.int .i32 0), 1) := by kernel_rfl
theorem zb125 : (Try.prog.info? 125).map (fun i => (i.zero, i.size, i.bytes)) = some (some (.int .i32 0), 1, 4) := by kernel_rfl
theorem sz126 : (Try.prog.info? 126).map (·.size) = some 11 := by kernel_rfl
theorem zr126 : (Try.prog.info? 126).map (·.zero) = some (some (.agg #[(.int .u64 0), (.int .u64 0), (.int .u32 0), (.int .u8 0), (.int .u8 0), (.int .u8 0), (.int .u8 0), .nilFunc, (.pointer none), (.int .i32 0), (.int .i32 0)])) := by kernel_rfl
theorem zs126 : (Try.prog.info? 126).map (fun i => (i.zero, i.size)) = some (some (.agg #[(.int .u64 0), (.int .u64 0), (.int .u32 0), (.int .u8 0), (.int .u8 0), (.int .u8 0), (.int .u8 0), .nilFunc, (.pointer none), (.int .i32 0), (.int .i32 0)]), 11) := by kernel_rfl
theorem zb126 : (Try.prog.info? 126).map (fun i => (i.zero, i.size, i.bytes)) = some (some (.agg #[(.int .u64 0), (.int .u64 0), (.int .u32 0), (.int .u8 0), (.int .u8 0), (.int .u8 0), (.int .u8 0), .nilFunc, (.pointer none), (.int .i32 0), (.int .i32 0)]), 11, 48) := by kernel_rfl
theorem sz127 : (Try.prog.info? 127).map (·.size) = some 11 := by kernel_rfl
theorem zr127 : (Try.prog.info? 127).map (·.zero) = some (some (.agg #[(.int .u64 0), (.int .u64 0), (.int .u32 0), (.int .u8 0), (.int .u8 0), (.int .u8 0), (.int .u8 0), .nilFunc, (.pointer none), (.int .i32 0), (.int .i32 0)])) := by kernel_rfl
theorem zs127 : (Try.prog.info? 127).map (fun i => (i.zero, i.size)) = some (some (.agg #[(.int .u64 0), (.int .u64 0), (.int .u32 0), (.int .u8 0), (.int .u8 0), (.int .u8 0), (.int .u8 0), .nilFunc, (.pointer none), (.int .i32 0), (.int .i32 0)]), 11) := by kernel_rfl
theorem zb127 : (Try.prog.info? 127).map (fun i => (i.zero, i.size, i.bytes)) = some (some (.agg #[(.int .u64 0), (.int .u64 0), (.int .u32 0), (.int .u8 0), (.int .u8 0), (.int .u8 0), (.int .u8 0), .nilFunc, (.pointer none), (.int .i32 0), (.int .i32 0)]), 11, 48) := by kernel_rfl
theorem pl7 : Places Try.prog #[⟨"x", 2, 0, false, "", "runtime", 0⟩, ⟨"y", 3, 1, false, "", "runtime", 8⟩, ⟨"signed", 4, 2, false, "", "runtime", 16⟩, ⟨"code", 6, 3, false, "", "runtime", 17⟩] #[(0, 1), (1, 1), (2, 1), (3, 1)] := fun w => by kernel_rfl
theorem pl8 : Places Try.prog #[⟨"x", 2, 0, false, "", "runtime", 0⟩, ⟨"y", 3, 1, false, "", "runtime", 8⟩, ⟨"signed", 4, 2, false, "", "runtime", 16⟩, ⟨"code", 6, 3, false, "", "runtime", 17⟩] #[(0, 1), (1, 1), (2, 1), (3, 1)] := fun w => by kernel_rfl
theorem pl13 : Places Try.prog #[⟨"msg", 9, 0, false, "", "runtime", 0⟩, ⟨"addr", 12, 1, false, "", "runtime", 16⟩] #[(0, 1), (1, 1)] := fun w => by kernel_rfl
theorem pl14 : Places Try.prog #[⟨"msg", 9, 0, false, "", "runtime", 0⟩, ⟨"addr", 12, 1, false, "", "runtime", 16⟩] #[(0, 1), (1, 1)] := fun w => by kernel_rfl
theorem pl18 : Places Try.prog #[⟨"typ", 17, 0, false, "", "internal/runtime/maps", 0⟩] #[(0, 1)] := fun w => by kernel_rfl
theorem pl19 : Places Try.prog #[⟨"typ", 17, 0, false, "", "internal/runtime/maps", 0⟩] #[(0, 1)] := fun w => by kernel_rfl
theorem pl29 : Places Try.prog #[⟨"Kind", 24, 0, false, "", "", 0⟩, ⟨"Set", 27, 1, false, "", "", 8⟩, ⟨"Kids", 28, 5, false, "", "", 40⟩] #[(0, 1), (1, 4), (5, 1)] := fun w => by kernel_rfl
theorem pl30 : Places Try.prog #[⟨"Kind", 24, 0, false, "", "", 0⟩, ⟨"Set", 27, 1, false, "", "", 8⟩, ⟨"Kids", 28, 5, false, "", "", 40⟩] #[(0, 1), (1, 4), (5, 1)] := fun w => by kernel_rfl
theorem pl75 : Places Try.prog #[⟨"s", 9, 0, false, "", "lifeline/regex", 0⟩, ⟨"at", 3, 1, false, "", "lifeline/regex", 16⟩] #[(0, 1), (1, 1)] := fun w => by kernel_rfl
theorem pl76 : Places Try.prog #[⟨"s", 9, 0, false, "", "lifeline/regex", 0⟩, ⟨"at", 3, 1, false, "", "lifeline/regex", 16⟩] #[(0, 1), (1, 1)] := fun w => by kernel_rfl
theorem pl80 : Places Try.prog #[⟨"addr", 79, 0, false, "", "strings", 0⟩, ⟨"buf", 22, 1, false, "", "strings", 8⟩] #[(0, 1), (1, 1)] := fun w => by kernel_rfl
theorem pl81 : Places Try.prog #[⟨"addr", 79, 0, false, "", "strings", 0⟩, ⟨"buf", 22, 1, false, "", "strings", 8⟩] #[(0, 1), (1, 1)] := fun w => by kernel_rfl
theorem pl88 : Places Try.prog #[⟨"sets", 87, 0, false, "", "lifeline/nfa", 0⟩, ⟨"next", 86, 1, false, "", "lifeline/nfa", 24⟩] #[(0, 1), (1, 1)] := fun w => by kernel_rfl
theorem pl89 : Places Try.prog #[⟨"sets", 87, 0, false, "", "lifeline/nfa", 0⟩, ⟨"next", 86, 1, false, "", "lifeline/nfa", 24⟩] #[(0, 1), (1, 1)] := fun w => by kernel_rfl
theorem pl90 : Places Try.prog #[⟨"first", 34, 0, false, "", "lifeline/nfa", 0⟩, ⟨"last", 34, 1, false, "", "lifeline/nfa", 8⟩, ⟨"none", 4, 2, false, "", "lifeline/nfa", 16⟩] #[(0, 1), (1, 1), (2, 1)] := fun w => by kernel_rfl
theorem pl91 : Places Try.prog #[⟨"first", 34, 0, false, "", "lifeline/nfa", 0⟩, ⟨"last", 34, 1, false, "", "lifeline/nfa", 8⟩, ⟨"none", 4, 2, false, "", "lifeline/nfa", 16⟩] #[(0, 1), (1, 1), (2, 1)] := fun w => by kernel_rfl
theorem pl94 : Places Try.prog #[⟨"sets", 87, 0, false, "", "lifeline/nfa", 0⟩, ⟨"next", 93, 1, false, "", "lifeline/nfa", 24⟩, ⟨"first", 55, 2, false, "", "lifeline/nfa", 48⟩, ⟨"last", 55, 3, false, "", "lifeline/nfa", 72⟩, ⟨"none", 4, 4, false, "", "lifeline/nfa", 96⟩] #[(0, 1), (1, 1), (2, 1), (3, 1), (4, 1)] := fun w => by kernel_rfl
theorem pl95 : Places Try.prog #[⟨"sets", 87, 0, false, "", "lifeline/nfa", 0⟩, ⟨"next", 93, 1, false, "", "lifeline/nfa", 24⟩, ⟨"first", 55, 2, false, "", "lifeline/nfa", 48⟩, ⟨"last", 55, 3, false, "", "lifeline/nfa", 72⟩, ⟨"none", 4, 4, false, "", "lifeline/nfa", 96⟩] #[(0, 1), (1, 1), (2, 1), (3, 1), (4, 1)] := fun w => by kernel_rfl
theorem pl99 : Places Try.prog #[⟨"tables", 98, 0, false, "", "lifeline/expect", 0⟩, ⟨"at", 93, 1, false, "", "lifeline/expect", 24⟩, ⟨"seen", 3, 2, false, "", "lifeline/expect", 48⟩, ⟨"over", 4, 3, false, "", "lifeline/expect", 56⟩] #[(0, 1), (1, 1), (2, 1), (3, 1)] := fun w => by kernel_rfl
theorem pl100 : Places Try.prog #[⟨"tables", 98, 0, false, "", "lifeline/expect", 0⟩, ⟨"at", 93, 1, false, "", "lifeline/expect", 24⟩, ⟨"seen", 3, 2, false, "", "lifeline/expect", 48⟩, ⟨"over", 4, 3, false, "", "lifeline/expect", 56⟩] #[(0, 1), (1, 1), (2, 1), (3, 1)] := fun w => by kernel_rfl
theorem pl104 : Places Try.prog #[⟨"No", 73, 0, false, "", "", 0⟩, ⟨"At", 3, 1, false, "", "", 8⟩] #[(0, 1), (1, 1)] := fun w => by kernel_rfl
theorem pl105 : Places Try.prog #[⟨"No", 73, 0, false, "", "", 0⟩, ⟨"At", 3, 1, false, "", "", 8⟩] #[(0, 1), (1, 1)] := fun w => by kernel_rfl
theorem pl115 : Places Try.prog #[⟨"_interface", 17, 0, false, "", "runtime", 0⟩, ⟨"concrete", 17, 1, false, "", "runtime", 8⟩, ⟨"asserted", 17, 2, false, "", "runtime", 16⟩, ⟨"missingMethod", 9, 3, false, "", "runtime", 24⟩] #[(0, 1), (1, 1), (2, 1), (3, 1)] := fun w => by kernel_rfl
theorem pl116 : Places Try.prog #[⟨"_interface", 17, 0, false, "", "runtime", 0⟩, ⟨"concrete", 17, 1, false, "", "runtime", 8⟩, ⟨"asserted", 17, 2, false, "", "runtime", 16⟩, ⟨"missingMethod", 9, 3, false, "", "runtime", 24⟩] #[(0, 1), (1, 1), (2, 1), (3, 1)] := fun w => by kernel_rfl
theorem pl118 : Places Try.prog #[⟨"_", 117, 0, false, "", "runtime", 0⟩] #[(0, 0)] := fun w => by kernel_rfl
theorem pl119 : Places Try.prog #[⟨"_", 117, 0, false, "", "runtime", 0⟩] #[(0, 0)] := fun w => by kernel_rfl
theorem pl126 : Places Try.prog #[⟨"Size_", 12, 0, false, "", "", 0⟩, ⟨"PtrBytes", 12, 1, false, "", "", 8⟩, ⟨"Hash", 120, 2, false, "", "", 16⟩, ⟨"TFlag", 121, 3, false, "", "", 20⟩, ⟨"Align_", 5, 4, false, "", "", 21⟩, ⟨"FieldAlign_", 5, 5, false, "", "", 22⟩, ⟨"Kind_", 122, 6, false, "", "", 23⟩, ⟨"Equal", 123, 7, false, "", "", 24⟩, ⟨"GCData", 106, 8, false, "", "", 32⟩, ⟨"Str", 124, 9, false, "", "", 40⟩, ⟨"PtrToThis", 125, 10, false, "", "", 44⟩] #[(0, 1), (1, 1), (2, 1), (3, 1), (4, 1), (5, 1), (6, 1), (7, 1), (8, 1), (9, 1), (10, 1)] := fun w => by kernel_rfl
theorem pl127 : Places Try.prog #[⟨"Size_", 12, 0, false, "", "", 0⟩, ⟨"PtrBytes", 12, 1, false, "", "", 8⟩, ⟨"Hash", 120, 2, false, "", "", 16⟩, ⟨"TFlag", 121, 3, false, "", "", 20⟩, ⟨"Align_", 5, 4, false, "", "", 21⟩, ⟨"FieldAlign_", 5, 5, false, "", "", 22⟩, ⟨"Kind_", 122, 6, false, "", "", 23⟩, ⟨"Equal", 123, 7, false, "", "", 24⟩, ⟨"GCData", 106, 8, false, "", "", 32⟩, ⟨"Str", 124, 9, false, "", "", 40⟩, ⟨"PtrToThis", 125, 10, false, "", "", 44⟩] #[(0, 1), (1, 1), (2, 1), (3, 1), (4, 1), (5, 1), (6, 1), (7, 1), (8, 1), (9, 1), (10, 1)] := fun w => by kernel_rfl
theorem call3 : CallOk Try.prog 3 := callOk_of Try.func3 (by kernel_rfl) (by kernel_rfl)
theorem call4 : CallOk Try.prog 4 := callOk_of Try.func4 (by kernel_rfl) (by kernel_rfl)
theorem call5 : CallOk Try.prog 5 := callOk_of Try.func5 (by kernel_rfl) (by kernel_rfl)
theorem call6 : CallOk Try.prog 6 := callOk_of Try.func6 (by kernel_rfl) (by kernel_rfl)
theorem call7 : CallOk Try.prog 7 := callOk_of Try.func7 (by kernel_rfl) (by kernel_rfl)
theorem call8 : CallOk Try.prog 8 := callOk_of Try.func8 (by kernel_rfl) (by kernel_rfl)
theorem call9 : CallOk Try.prog 9 := callOk_of Try.func9 (by kernel_rfl) (by kernel_rfl)
theorem call10 : CallOk Try.prog 10 := callOk_of Try.func10 (by kernel_rfl) (by kernel_rfl)
theorem call11 : CallOk Try.prog 11 := callOk_of Try.func11 (by kernel_rfl) (by kernel_rfl)
theorem call12 : CallOk Try.prog 12 := callOk_of Try.func12 (by kernel_rfl) (by kernel_rfl)
theorem call13 : CallOk Try.prog 13 := callOk_of Try.func13 (by kernel_rfl) (by kernel_rfl)
theorem call14 : CallOk Try.prog 14 := callOk_of Try.func14 (by kernel_rfl) (by kernel_rfl)
theorem call15 : CallOk Try.prog 15 := callOk_of Try.func15 (by kernel_rfl) (by kernel_rfl)
theorem call16 : CallOk Try.prog 16 := callOk_of Try.func16 (by kernel_rfl) (by kernel_rfl)
theorem call17 : CallOk Try.prog 17 := callOk_of Try.func17 (by kernel_rfl) (by kernel_rfl)
theorem call18 : CallOk Try.prog 18 := callOk_of Try.func18 (by kernel_rfl) (by kernel_rfl)
theorem call19 : CallOk Try.prog 19 := callOk_of Try.func19 (by kernel_rfl) (by kernel_rfl)
theorem call20 : CallOk Try.prog 20 := callOk_of Try.func20 (by kernel_rfl) (by kernel_rfl)
theorem call21 : CallOk Try.prog 21 := callOk_of Try.func21 (by kernel_rfl) (by kernel_rfl)
theorem call22 : CallOk Try.prog 22 := callOk_of Try.func22 (by kernel_rfl) (by kernel_rfl)
theorem call23 : CallOk Try.prog 23 := callOk_of Try.func23 (by kernel_rfl) (by kernel_rfl)
theorem call24 : CallOk Try.prog 24 := callOk_of Try.func24 (by kernel_rfl) (by kernel_rfl)
theorem call25 : CallOk Try.prog 25 := callOk_of Try.func25 (by kernel_rfl) (by kernel_rfl)
theorem call26 : CallOk Try.prog 26 := callOk_of Try.func26 (by kernel_rfl) (by kernel_rfl)
theorem call27 : CallOk Try.prog 27 := callOk_of Try.func27 (by kernel_rfl) (by kernel_rfl)
theorem call28 : CallOk Try.prog 28 := callOk_of Try.func28 (by kernel_rfl) (by kernel_rfl)
theorem call29 : CallOk Try.prog 29 := callOk_of Try.func29 (by kernel_rfl) (by kernel_rfl)
theorem call30 : CallOk Try.prog 30 := callOk_of Try.func30 (by kernel_rfl) (by kernel_rfl)
theorem call31 : CallOk Try.prog 31 := callOk_of Try.func31 (by kernel_rfl) (by kernel_rfl)
theorem call32 : CallOk Try.prog 32 := callOk_of Try.func32 (by kernel_rfl) (by kernel_rfl)
theorem call33 : CallOk Try.prog 33 := callOk_of Try.func33 (by kernel_rfl) (by kernel_rfl)
theorem call34 : CallOk Try.prog 34 := callOk_of Try.func34 (by kernel_rfl) (by kernel_rfl)
theorem call35 : CallOk Try.prog 35 := callOk_of Try.func35 (by kernel_rfl) (by kernel_rfl)
theorem call36 : CallOk Try.prog 36 := callOk_of Try.func36 (by kernel_rfl) (by kernel_rfl)
theorem call37 : CallOk Try.prog 37 := callOk_of Try.func37 (by kernel_rfl) (by kernel_rfl)
theorem call38 : CallOk Try.prog 38 := callOk_of Try.func38 (by kernel_rfl) (by kernel_rfl)
theorem call39 : CallOk Try.prog 39 := callOk_of Try.func39 (by kernel_rfl) (by kernel_rfl)
theorem call40 : CallOk Try.prog 40 := callOk_of Try.func40 (by kernel_rfl) (by kernel_rfl)
theorem call41 : CallOk Try.prog 41 := callOk_of Try.func41 (by kernel_rfl) (by kernel_rfl)
theorem call42 : CallOk Try.prog 42 := callOk_of Try.func42 (by kernel_rfl) (by kernel_rfl)
theorem call43 : CallOk Try.prog 43 := callOk_of Try.func43 (by kernel_rfl) (by kernel_rfl)
theorem call44 : CallOk Try.prog 44 := callOk_of Try.func44 (by kernel_rfl) (by kernel_rfl)
theorem call45 : CallOk Try.prog 45 := callOk_of Try.func45 (by kernel_rfl) (by kernel_rfl)
theorem call46 : CallOk Try.prog 46 := callOk_of Try.func46 (by kernel_rfl) (by kernel_rfl)
theorem call47 : CallOk Try.prog 47 := callOk_of Try.func47 (by kernel_rfl) (by kernel_rfl)
theorem call48 : CallOk Try.prog 48 := callOk_of Try.func48 (by kernel_rfl) (by kernel_rfl)
theorem call49 : CallOk Try.prog 49 := callOk_of Try.func49 (by kernel_rfl) (by kernel_rfl)
theorem call50 : CallOk Try.prog 50 := callOk_of Try.func50 (by kernel_rfl) (by kernel_rfl)
theorem call51 : CallOk Try.prog 51 := callOk_of Try.func51 (by kernel_rfl) (by kernel_rfl)
theorem call52 : CallOk Try.prog 52 := callOk_of Try.func52 (by kernel_rfl) (by kernel_rfl)
theorem call53 : CallOk Try.prog 53 := callOk_of Try.func53 (by kernel_rfl) (by kernel_rfl)
theorem call54 : CallOk Try.prog 54 := callOk_of Try.func54 (by kernel_rfl) (by kernel_rfl)
theorem call55 : CallOk Try.prog 55 := callOk_of Try.func55 (by kernel_rfl) (by kernel_rfl)
theorem call56 : CallOk Try.prog 56 := callOk_of Try.func56 (by kernel_rfl) (by kernel_rfl)
theorem call57 : CallOk Try.prog 57 := callOk_of Try.func57 (by kernel_rfl) (by kernel_rfl)
theorem call58 : CallOk Try.prog 58 := callOk_of Try.func58 (by kernel_rfl) (by kernel_rfl)
theorem call59 : CallOk Try.prog 59 := callOk_of Try.func59 (by kernel_rfl) (by kernel_rfl)
theorem call60 : CallOk Try.prog 60 := callOk_of Try.func60 (by kernel_rfl) (by kernel_rfl)
theorem call61 : CallOk Try.prog 61 := callOk_of Try.func61 (by kernel_rfl) (by kernel_rfl)
theorem call64 : CallOk Try.prog 64 := callOk_of Try.func64 (by kernel_rfl) (by kernel_rfl)
theorem call65 : CallOk Try.prog 65 := callOk_of Try.func65 (by kernel_rfl) (by kernel_rfl)
theorem call66 : CallOk Try.prog 66 := callOk_of Try.func66 (by kernel_rfl) (by kernel_rfl)
theorem call67 : CallOk Try.prog 67 := callOk_of Try.func67 (by kernel_rfl) (by kernel_rfl)
theorem call68 : CallOk Try.prog 68 := callOk_of Try.func68 (by kernel_rfl) (by kernel_rfl)
theorem mixed : Try.prog.follows .mixedOrders = true := by kernel_rfl
end Go.Proofs.Ytkgdphbccagjcaa.SL
