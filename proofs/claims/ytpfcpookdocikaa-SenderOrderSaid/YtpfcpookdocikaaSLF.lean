import Derived.Test.YtpfcpookdocikaaSL
import Derived.Test.YtpfcpookdocikaaProg
import Derived.KernelRfl
/- Closed facts on the types and functions of the translation. No statement is proved here. -/
namespace Go.Proofs.Ytpfcpookdocikaa.SL
open Go
set_option maxRecDepth 100000
theorem sz0 : (Try.prog.info? 0).map (·.size) = some 1 := by kernel_rfl
theorem zr0 : (Try.prog.info? 0).map (·.zero) = some (some (.tuple #[])) := by kernel_rfl
theorem zs0 : (Try.prog.info? 0).map (fun i => (i.zero, i.size)) = some (some (.tuple #[]), 1) := by kernel_rfl
theorem zb0 : (Try.prog.info? 0).map (fun i => (i.zero, i.size, i.bytes)) = some (some (.tuple #[]), 1, 0) := by kernel_rfl
theorem sz1 : (Try.prog.info? 1).map (·.size) = some 1 := by kernel_rfl
theorem zr1 : (Try.prog.info? 1).map (·.zero) = some (some .nilFunc) := by kernel_rfl
theorem zs1 : (Try.prog.info? 1).map (fun i => (i.zero, i.size)) = some (some .nilFunc, 1) := by kernel_rfl
theorem zb1 : (Try.prog.info? 1).map (fun i => (i.zero, i.size, i.bytes)) = some (some .nilFunc, 1, 8) := by kernel_rfl
theorem sz2 : (Try.prog.info? 2).map (·.size) = some 1 := by kernel_rfl
theorem zr2 : (Try.prog.info? 2).map (·.zero) = some (some (.int .i64 0)) := by kernel_rfl
theorem zs2 : (Try.prog.info? 2).map (fun i => (i.zero, i.size)) = some (some (.int .i64 0), 1) := by kernel_rfl
theorem zb2 : (Try.prog.info? 2).map (fun i => (i.zero, i.size, i.bytes)) = some (some (.int .i64 0), 1, 8) := by kernel_rfl
theorem sz3 : (Try.prog.info? 3).map (·.size) = some 1 := by kernel_rfl
theorem zr3 : (Try.prog.info? 3).map (·.zero) = some (some (.int .i64 0)) := by kernel_rfl
theorem zs3 : (Try.prog.info? 3).map (fun i => (i.zero, i.size)) = some (some (.int .i64 0), 1) := by kernel_rfl
theorem zb3 : (Try.prog.info? 3).map (fun i => (i.zero, i.size, i.bytes)) = some (some (.int .i64 0), 1, 8) := by kernel_rfl
theorem sz4 : (Try.prog.info? 4).map (·.size) = some 1 := by kernel_rfl
theorem zr4 : (Try.prog.info? 4).map (·.zero) = some (some (.bool false)) := by kernel_rfl
theorem zs4 : (Try.prog.info? 4).map (fun i => (i.zero, i.size)) = some (some (.bool false), 1) := by kernel_rfl
theorem zb4 : (Try.prog.info? 4).map (fun i => (i.zero, i.size, i.bytes)) = some (some (.bool false), 1, 1) := by kernel_rfl
theorem sz5 : (Try.prog.info? 5).map (·.size) = some 1 := by kernel_rfl
theorem zr5 : (Try.prog.info? 5).map (·.zero) = some (some (.int .u8 0)) := by kernel_rfl
theorem zs5 : (Try.prog.info? 5).map (fun i => (i.zero, i.size)) = some (some (.int .u8 0), 1) := by kernel_rfl
theorem zb5 : (Try.prog.info? 5).map (fun i => (i.zero, i.size, i.bytes)) = some (some (.int .u8 0), 1, 1) := by kernel_rfl
theorem sz6 : (Try.prog.info? 6).map (·.size) = some 1 := by kernel_rfl
theorem zr6 : (Try.prog.info? 6).map (·.zero) = some (some (.int .u8 0)) := by kernel_rfl
theorem zs6 : (Try.prog.info? 6).map (fun i => (i.zero, i.size)) = some (some (.int .u8 0), 1) := by kernel_rfl
theorem zb6 : (Try.prog.info? 6).map (fun i => (i.zero, i.size, i.bytes)) = some (some (.int .u8 0), 1, 1) := by kernel_rfl
theorem sz7 : (Try.prog.info? 7).map (·.size) = some 4 := by kernel_rfl
theorem zr7 : (Try.prog.info? 7).map (·.zero) = some (some (.agg #[(.int .i64 0), (.int .i64 0), (.bool false), (.int .u8 0)])) := by kernel_rfl
theorem zs7 : (Try.prog.info? 7).map (fun i => (i.zero, i.size)) = some (some (.agg #[(.int .i64 0), (.int .i64 0), (.bool false), (.int .u8 0)]), 4) := by kernel_rfl
theorem zb7 : (Try.prog.info? 7).map (fun i => (i.zero, i.size, i.bytes)) = some (some (.agg #[(.int .i64 0), (.int .i64 0), (.bool false), (.int .u8 0)]), 4, 24) := by kernel_rfl
theorem sz8 : (Try.prog.info? 8).map (·.size) = some 4 := by kernel_rfl
theorem zr8 : (Try.prog.info? 8).map (·.zero) = some (some (.agg #[(.int .i64 0), (.int .i64 0), (.bool false), (.int .u8 0)])) := by kernel_rfl
theorem zs8 : (Try.prog.info? 8).map (fun i => (i.zero, i.size)) = some (some (.agg #[(.int .i64 0), (.int .i64 0), (.bool false), (.int .u8 0)]), 4) := by kernel_rfl
theorem zb8 : (Try.prog.info? 8).map (fun i => (i.zero, i.size, i.bytes)) = some (some (.agg #[(.int .i64 0), (.int .i64 0), (.bool false), (.int .u8 0)]), 4, 24) := by kernel_rfl
theorem sz9 : (Try.prog.info? 9).map (·.size) = some 1 := by kernel_rfl
theorem zr9 : (Try.prog.info? 9).map (·.zero) = some (some (.string ByteArray.empty)) := by kernel_rfl
theorem zs9 : (Try.prog.info? 9).map (fun i => (i.zero, i.size)) = some (some (.string ByteArray.empty), 1) := by kernel_rfl
theorem zb9 : (Try.prog.info? 9).map (fun i => (i.zero, i.size, i.bytes)) = some (some (.string ByteArray.empty), 1, 16) := by kernel_rfl
theorem sz10 : (Try.prog.info? 10).map (·.size) = some 1 := by kernel_rfl
theorem zr10 : (Try.prog.info? 10).map (·.zero) = some (some (.string ByteArray.empty)) := by kernel_rfl
theorem zs10 : (Try.prog.info? 10).map (fun i => (i.zero, i.size)) = some (some (.string ByteArray.empty), 1) := by kernel_rfl
theorem zb10 : (Try.prog.info? 10).map (fun i => (i.zero, i.size, i.bytes)) = some (some (.string ByteArray.empty), 1, 16) := by kernel_rfl
theorem sz11 : (Try.prog.info? 11).map (·.size) = some 1 := by kernel_rfl
theorem zr11 : (Try.prog.info? 11).map (·.zero) = some (some (.string ByteArray.empty)) := by kernel_rfl
theorem zs11 : (Try.prog.info? 11).map (fun i => (i.zero, i.size)) = some (some (.string ByteArray.empty), 1) := by kernel_rfl
theorem zb11 : (Try.prog.info? 11).map (fun i => (i.zero, i.size, i.bytes)) = some (some (.string ByteArray.empty), 1, 16) := by kernel_rfl
theorem sz12 : (Try.prog.info? 12).map (·.size) = some 1 := by kernel_rfl
theorem zr12 : (Try.prog.info? 12).map (·.zero) = some (some (.int .u64 0)) := by kernel_rfl
theorem zs12 : (Try.prog.info? 12).map (fun i => (i.zero, i.size)) = some (some (.int .u64 0), 1) := by kernel_rfl
theorem zb12 : (Try.prog.info? 12).map (fun i => (i.zero, i.size, i.bytes)) = some (some (.int .u64 0), 1, 8) := by kernel_rfl
theorem sz13 : (Try.prog.info? 13).map (·.size) = some 2 := by kernel_rfl
theorem zr13 : (Try.prog.info? 13).map (·.zero) = some (some (.agg #[(.string ByteArray.empty), (.int .u64 0)])) := by kernel_rfl
theorem zs13 : (Try.prog.info? 13).map (fun i => (i.zero, i.size)) = some (some (.agg #[(.string ByteArray.empty), (.int .u64 0)]), 2) := by kernel_rfl
theorem zb13 : (Try.prog.info? 13).map (fun i => (i.zero, i.size, i.bytes)) = some (some (.agg #[(.string ByteArray.empty), (.int .u64 0)]), 2, 24) := by kernel_rfl
theorem sz14 : (Try.prog.info? 14).map (·.size) = some 2 := by kernel_rfl
theorem zr14 : (Try.prog.info? 14).map (·.zero) = some (some (.agg #[(.string ByteArray.empty), (.int .u64 0)])) := by kernel_rfl
theorem zs14 : (Try.prog.info? 14).map (fun i => (i.zero, i.size)) = some (some (.agg #[(.string ByteArray.empty), (.int .u64 0)]), 2) := by kernel_rfl
theorem zb14 : (Try.prog.info? 14).map (fun i => (i.zero, i.size, i.bytes)) = some (some (.agg #[(.string ByteArray.empty), (.int .u64 0)]), 2, 24) := by kernel_rfl
theorem sz15 : (Try.prog.info? 15).map (·.size) = some 1 := by kernel_rfl
theorem zr15 : (Try.prog.info? 15).map (·.zero) = some (some (.pointer none)) := by kernel_rfl
theorem zs15 : (Try.prog.info? 15).map (fun i => (i.zero, i.size)) = some (some (.pointer none), 1) := by kernel_rfl
theorem zb15 : (Try.prog.info? 15).map (fun i => (i.zero, i.size, i.bytes)) = some (some (.pointer none), 1, 8) := by kernel_rfl
theorem sz16 : (Try.prog.info? 16).map (·.size) = some 1 := by kernel_rfl
theorem zr16 : (Try.prog.info? 16).map (·.zero) = some (some (.pointer none)) := by kernel_rfl
theorem zs16 : (Try.prog.info? 16).map (fun i => (i.zero, i.size)) = some (some (.pointer none), 1) := by kernel_rfl
theorem zb16 : (Try.prog.info? 16).map (fun i => (i.zero, i.size, i.bytes)) = some (some (.pointer none), 1, 8) := by kernel_rfl
theorem sz17 : (Try.prog.info? 17).map (·.size) = some 1 := by kernel_rfl
theorem zr17 : (Try.prog.info? 17).map (·.zero) = some (some (.pointer none)) := by kernel_rfl
theorem zs17 : (Try.prog.info? 17).map (fun i => (i.zero, i.size)) = some (some (.pointer none), 1) := by kernel_rfl
theorem zb17 : (Try.prog.info? 17).map (fun i => (i.zero, i.size, i.bytes)) = some (some (.pointer none), 1, 8) := by kernel_rfl
theorem sz18 : (Try.prog.info? 18).map (·.size) = some 1 := by kernel_rfl
theorem zr18 : (Try.prog.info? 18).map (·.zero) = some (some (.agg #[(.pointer none)])) := by kernel_rfl
theorem zs18 : (Try.prog.info? 18).map (fun i => (i.zero, i.size)) = some (some (.agg #[(.pointer none)]), 1) := by kernel_rfl
theorem zb18 : (Try.prog.info? 18).map (fun i => (i.zero, i.size, i.bytes)) = some (some (.agg #[(.pointer none)]), 1, 8) := by kernel_rfl
theorem sz19 : (Try.prog.info? 19).map (·.size) = some 1 := by kernel_rfl
theorem zr19 : (Try.prog.info? 19).map (·.zero) = some (some (.agg #[(.pointer none)])) := by kernel_rfl
theorem zs19 : (Try.prog.info? 19).map (fun i => (i.zero, i.size)) = some (some (.agg #[(.pointer none)]), 1) := by kernel_rfl
theorem zb19 : (Try.prog.info? 19).map (fun i => (i.zero, i.size, i.bytes)) = some (some (.agg #[(.pointer none)]), 1, 8) := by kernel_rfl
theorem sz20 : (Try.prog.info? 20).map (·.size) = some 1 := by kernel_rfl
theorem zr20 : (Try.prog.info? 20).map (·.zero) = some (some .nilIface) := by kernel_rfl
theorem zs20 : (Try.prog.info? 20).map (fun i => (i.zero, i.size)) = some (some .nilIface, 1) := by kernel_rfl
theorem zb20 : (Try.prog.info? 20).map (fun i => (i.zero, i.size, i.bytes)) = some (some .nilIface, 1, 16) := by kernel_rfl
theorem sz21 : (Try.prog.info? 21).map (·.size) = some 1 := by kernel_rfl
theorem zr21 : (Try.prog.info? 21).map (·.zero) = some (some (.int .i32 0)) := by kernel_rfl
theorem zs21 : (Try.prog.info? 21).map (fun i => (i.zero, i.size)) = some (some (.int .i32 0), 1) := by kernel_rfl
theorem zb21 : (Try.prog.info? 21).map (fun i => (i.zero, i.size, i.bytes)) = some (some (.int .i32 0), 1, 4) := by kernel_rfl
theorem sz22 : (Try.prog.info? 22).map (·.size) = some 1 := by kernel_rfl
theorem zr22 : (Try.prog.info? 22).map (·.zero) = some (some (.slice none 0 0)) := by kernel_rfl
theorem zs22 : (Try.prog.info? 22).map (fun i => (i.zero, i.size)) = some (some (.slice none 0 0), 1) := by kernel_rfl
theorem zb22 : (Try.prog.info? 22).map (fun i => (i.zero, i.size, i.bytes)) = some (some (.slice none 0 0), 1, 24) := by kernel_rfl
theorem sz23 : (Try.prog.info? 23).map (·.size) = some 1 := by kernel_rfl
theorem zr23 : (Try.prog.info? 23).map (·.zero) = some (some .nilFunc) := by kernel_rfl
theorem zs23 : (Try.prog.info? 23).map (fun i => (i.zero, i.size)) = some (some .nilFunc, 1) := by kernel_rfl
theorem zb23 : (Try.prog.info? 23).map (fun i => (i.zero, i.size, i.bytes)) = some (some .nilFunc, 1, 8) := by kernel_rfl
theorem sz24 : (Try.prog.info? 24).map (·.size) = some 1 := by kernel_rfl
theorem zr24 : (Try.prog.info? 24).map (·.zero) = some (some (.slice none 0 0)) := by kernel_rfl
theorem zs24 : (Try.prog.info? 24).map (fun i => (i.zero, i.size)) = some (some (.slice none 0 0), 1) := by kernel_rfl
theorem zb24 : (Try.prog.info? 24).map (fun i => (i.zero, i.size, i.bytes)) = some (some (.slice none 0 0), 1, 24) := by kernel_rfl
theorem sz25 : (Try.prog.info? 25).map (·.size) = some 1 := by kernel_rfl
theorem zr25 : (Try.prog.info? 25).map (·.zero) = some (some .nilFunc) := by kernel_rfl
theorem zs25 : (Try.prog.info? 25).map (fun i => (i.zero, i.size)) = some (some .nilFunc, 1) := by kernel_rfl
theorem zb25 : (Try.prog.info? 25).map (fun i => (i.zero, i.size, i.bytes)) = some (some .nilFunc, 1, 8) := by kernel_rfl
theorem sz26 : (Try.prog.info? 26).map (·.size) = some 1 := by kernel_rfl
theorem zr26 : (Try.prog.info? 26).map (·.zero) = some (some (.slice none 0 0)) := by kernel_rfl
theorem zs26 : (Try.prog.info? 26).map (fun i => (i.zero, i.size)) = some (some (.slice none 0 0), 1) := by kernel_rfl
theorem zb26 : (Try.prog.info? 26).map (fun i => (i.zero, i.size, i.bytes)) = some (some (.slice none 0 0), 1, 24) := by kernel_rfl
theorem sz27 : (Try.prog.info? 27).map (·.size) = some 2 := by kernel_rfl
theorem zr27 : (Try.prog.info? 27).map (·.zero) = some (some (.agg #[(.int .u8 0), (.slice none 0 0)])) := by kernel_rfl
theorem zs27 : (Try.prog.info? 27).map (fun i => (i.zero, i.size)) = some (some (.agg #[(.int .u8 0), (.slice none 0 0)]), 2) := by kernel_rfl
theorem zb27 : (Try.prog.info? 27).map (fun i => (i.zero, i.size, i.bytes)) = some (some (.agg #[(.int .u8 0), (.slice none 0 0)]), 2, 32) := by kernel_rfl
theorem sz28 : (Try.prog.info? 28).map (·.size) = some 2 := by kernel_rfl
theorem zr28 : (Try.prog.info? 28).map (·.zero) = some (some (.agg #[(.int .u8 0), (.slice none 0 0)])) := by kernel_rfl
theorem zs28 : (Try.prog.info? 28).map (fun i => (i.zero, i.size)) = some (some (.agg #[(.int .u8 0), (.slice none 0 0)]), 2) := by kernel_rfl
theorem zb28 : (Try.prog.info? 28).map (fun i => (i.zero, i.size, i.bytes)) = some (some (.agg #[(.int .u8 0), (.slice none 0 0)]), 2, 32) := by kernel_rfl
theorem sz29 : (Try.prog.info? 29).map (·.size) = some 1 := by kernel_rfl
theorem zr29 : (Try.prog.info? 29).map (·.zero) = some (some .nilFunc) := by kernel_rfl
theorem zs29 : (Try.prog.info? 29).map (fun i => (i.zero, i.size)) = some (some .nilFunc, 1) := by kernel_rfl
theorem zb29 : (Try.prog.info? 29).map (fun i => (i.zero, i.size, i.bytes)) = some (some .nilFunc, 1, 8) := by kernel_rfl
theorem sz30 : (Try.prog.info? 30).map (·.size) = some 2 := by kernel_rfl
theorem zr30 : (Try.prog.info? 30).map (·.zero) = some (some (.agg #[(.int .i64 0), (.int .i64 0)])) := by kernel_rfl
theorem zs30 : (Try.prog.info? 30).map (fun i => (i.zero, i.size)) = some (some (.agg #[(.int .i64 0), (.int .i64 0)]), 2) := by kernel_rfl
theorem zb30 : (Try.prog.info? 30).map (fun i => (i.zero, i.size, i.bytes)) = some (some (.agg #[(.int .i64 0), (.int .i64 0)]), 2, 16) := by kernel_rfl
theorem sz31 : (Try.prog.info? 31).map (·.size) = some 2 := by kernel_rfl
theorem zr31 : (Try.prog.info? 31).map (·.zero) = some (some (.agg #[(.int .i64 0), (.int .i64 0)])) := by kernel_rfl
theorem zs31 : (Try.prog.info? 31).map (fun i => (i.zero, i.size)) = some (some (.agg #[(.int .i64 0), (.int .i64 0)]), 2) := by kernel_rfl
theorem zb31 : (Try.prog.info? 31).map (fun i => (i.zero, i.size, i.bytes)) = some (some (.agg #[(.int .i64 0), (.int .i64 0)]), 2, 16) := by kernel_rfl
theorem sz32 : (Try.prog.info? 32).map (·.size) = some 1 := by kernel_rfl
theorem zr32 : (Try.prog.info? 32).map (·.zero) = some (some .nilFunc) := by kernel_rfl
theorem zs32 : (Try.prog.info? 32).map (fun i => (i.zero, i.size)) = some (some .nilFunc, 1) := by kernel_rfl
theorem zb32 : (Try.prog.info? 32).map (fun i => (i.zero, i.size, i.bytes)) = some (some .nilFunc, 1, 8) := by kernel_rfl
theorem sz33 : (Try.prog.info? 33).map (·.size) = some 1 := by kernel_rfl
theorem zr33 : (Try.prog.info? 33).map (·.zero) = some (some (.pointer none)) := by kernel_rfl
theorem zs33 : (Try.prog.info? 33).map (fun i => (i.zero, i.size)) = some (some (.pointer none), 1) := by kernel_rfl
theorem zb33 : (Try.prog.info? 33).map (fun i => (i.zero, i.size, i.bytes)) = some (some (.pointer none), 1, 8) := by kernel_rfl
theorem sz34 : (Try.prog.info? 34).map (·.size) = some 1 := by kernel_rfl
theorem zr34 : (Try.prog.info? 34).map (·.zero) = some (some .nilFunc) := by kernel_rfl
theorem zs34 : (Try.prog.info? 34).map (fun i => (i.zero, i.size)) = some (some .nilFunc, 1) := by kernel_rfl
theorem zb34 : (Try.prog.info? 34).map (fun i => (i.zero, i.size, i.bytes)) = some (some .nilFunc, 1, 8) := by kernel_rfl
theorem sz35 : (Try.prog.info? 35).map (·.size) = some 1 := by kernel_rfl
theorem zr35 : (Try.prog.info? 35).map (·.zero) = some (some (.map none)) := by kernel_rfl
theorem zs35 : (Try.prog.info? 35).map (fun i => (i.zero, i.size)) = some (some (.map none), 1) := by kernel_rfl
theorem zb35 : (Try.prog.info? 35).map (fun i => (i.zero, i.size, i.bytes)) = some (some (.map none), 1, 8) := by kernel_rfl
theorem sz36 : (Try.prog.info? 36).map (·.size) = some 1 := by kernel_rfl
theorem zr36 : (Try.prog.info? 36).map (·.zero) = some (some .nilFunc) := by kernel_rfl
theorem zs36 : (Try.prog.info? 36).map (fun i => (i.zero, i.size)) = some (some .nilFunc, 1) := by kernel_rfl
theorem zb36 : (Try.prog.info? 36).map (fun i => (i.zero, i.size, i.bytes)) = some (some .nilFunc, 1, 8) := by kernel_rfl
theorem sz37 : (Try.prog.info? 37).map (·.size) = some 1 := by kernel_rfl
theorem zr37 : (Try.prog.info? 37).map (·.zero) = some (some .nilFunc) := by kernel_rfl
theorem zs37 : (Try.prog.info? 37).map (fun i => (i.zero, i.size)) = some (some .nilFunc, 1) := by kernel_rfl
theorem zb37 : (Try.prog.info? 37).map (fun i => (i.zero, i.size, i.bytes)) = some (some .nilFunc, 1, 8) := by kernel_rfl
theorem sz38 : (Try.prog.info? 38).map (·.size) = some 1 := by kernel_rfl
theorem zr38 : (Try.prog.info? 38).map (·.zero) = some (some .nilFunc) := by kernel_rfl
theorem zs38 : (Try.prog.info? 38).map (fun i => (i.zero, i.size)) = some (some .nilFunc, 1) := by kernel_rfl
theorem zb38 : (Try.prog.info? 38).map (fun i => (i.zero, i.size, i.bytes)) = some (some .nilFunc, 1, 8) := by kernel_rfl
theorem sz39 : (Try.prog.info? 39).map (·.size) = some 1 := by kernel_rfl
theorem zr39 : (Try.prog.info? 39).map (·.zero) = some (some .nilFunc) := by kernel_rfl
theorem zs39 : (Try.prog.info? 39).map (fun i => (i.zero, i.size)) = some (some .nilFunc, 1) := by kernel_rfl
theorem zb39 : (Try.prog.info? 39).map (fun i => (i.zero, i.size, i.bytes)) = some (some .nilFunc, 1, 8) := by kernel_rfl
theorem sz40 : (Try.prog.info? 40).map (·.size) = some 1 := by kernel_rfl
theorem zr40 : (Try.prog.info? 40).map (·.zero) = some (some (.int .i64 0)) := by kernel_rfl
theorem zs40 : (Try.prog.info? 40).map (fun i => (i.zero, i.size)) = some (some (.int .i64 0), 1) := by kernel_rfl
theorem zb40 : (Try.prog.info? 40).map (fun i => (i.zero, i.size, i.bytes)) = some (some (.int .i64 0), 1, 8) := by kernel_rfl
theorem sz41 : (Try.prog.info? 41).map (·.size) = some 1 := by kernel_rfl
theorem zr41 : (Try.prog.info? 41).map (·.zero) = some (some (.tuple #[(.agg #[(.int .u8 0), (.slice none 0 0)]), (.int .i64 0)])) := by kernel_rfl
theorem zs41 : (Try.prog.info? 41).map (fun i => (i.zero, i.size)) = some (some (.tuple #[(.agg #[(.int .u8 0), (.slice none 0 0)]), (.int .i64 0)]), 1) := by kernel_rfl
theorem zb41 : (Try.prog.info? 41).map (fun i => (i.zero, i.size, i.bytes)) = some (some (.tuple #[(.agg #[(.int .u8 0), (.slice none 0 0)]), (.int .i64 0)]), 1, 0) := by kernel_rfl
theorem sz42 : (Try.prog.info? 42).map (·.size) = some 1 := by kernel_rfl
theorem zr42 : (Try.prog.info? 42).map (·.zero) = some (some .nilFunc) := by kernel_rfl
theorem zs42 : (Try.prog.info? 42).map (fun i => (i.zero, i.size)) = some (some .nilFunc, 1) := by kernel_rfl
theorem zb42 : (Try.prog.info? 42).map (fun i => (i.zero, i.size, i.bytes)) = some (some .nilFunc, 1, 8) := by kernel_rfl
theorem sz43 : (Try.prog.info? 43).map (·.size) = some 1 := by kernel_rfl
theorem zr43 : (Try.prog.info? 43).map (·.zero) = some (some .nilFunc) := by kernel_rfl
theorem zs43 : (Try.prog.info? 43).map (fun i => (i.zero, i.size)) = some (some .nilFunc, 1) := by kernel_rfl
theorem zb43 : (Try.prog.info? 43).map (fun i => (i.zero, i.size, i.bytes)) = some (some .nilFunc, 1, 8) := by kernel_rfl
theorem sz44 : (Try.prog.info? 44).map (·.size) = some 1 := by kernel_rfl
theorem zr44 : (Try.prog.info? 44).map (·.zero) = some (some (.tuple #[(.slice none 0 0), (.bool false)])) := by kernel_rfl
theorem zs44 : (Try.prog.info? 44).map (fun i => (i.zero, i.size)) = some (some (.tuple #[(.slice none 0 0), (.bool false)]), 1) := by kernel_rfl
theorem zb44 : (Try.prog.info? 44).map (fun i => (i.zero, i.size, i.bytes)) = some (some (.tuple #[(.slice none 0 0), (.bool false)]), 1, 0) := by kernel_rfl
theorem sz45 : (Try.prog.info? 45).map (·.size) = some 1 := by kernel_rfl
theorem zr45 : (Try.prog.info? 45).map (·.zero) = some (some .nilFunc) := by kernel_rfl
theorem zs45 : (Try.prog.info? 45).map (fun i => (i.zero, i.size)) = some (some .nilFunc, 1) := by kernel_rfl
theorem zb45 : (Try.prog.info? 45).map (fun i => (i.zero, i.size, i.bytes)) = some (some .nilFunc, 1, 8) := by kernel_rfl
theorem sz46 : (Try.prog.info? 46).map (·.size) = some 1 := by kernel_rfl
theorem zr46 : (Try.prog.info? 46).map (·.zero) = some (some .nilIface) := by kernel_rfl
theorem zs46 : (Try.prog.info? 46).map (fun i => (i.zero, i.size)) = some (some .nilIface, 1) := by kernel_rfl
theorem zb46 : (Try.prog.info? 46).map (fun i => (i.zero, i.size, i.bytes)) = some (some .nilIface, 1, 16) := by kernel_rfl
theorem sz47 : (Try.prog.info? 47).map (·.size) = some 1 := by kernel_rfl
theorem zr47 : (Try.prog.info? 47).map (·.zero) = some (some .nilIface) := by kernel_rfl
theorem zs47 : (Try.prog.info? 47).map (fun i => (i.zero, i.size)) = some (some .nilIface, 1) := by kernel_rfl
theorem zb47 : (Try.prog.info? 47).map (fun i => (i.zero, i.size, i.bytes)) = some (some .nilIface, 1, 16) := by kernel_rfl
theorem sz48 : (Try.prog.info? 48).map (·.size) = some 1 := by kernel_rfl
theorem zr48 : (Try.prog.info? 48).map (·.zero) = some (some (.tuple #[(.bool false), .nilIface])) := by kernel_rfl
theorem zs48 : (Try.prog.info? 48).map (fun i => (i.zero, i.size)) = some (some (.tuple #[(.bool false), .nilIface]), 1) := by kernel_rfl
theorem zb48 : (Try.prog.info? 48).map (fun i => (i.zero, i.size, i.bytes)) = some (some (.tuple #[(.bool false), .nilIface]), 1, 0) := by kernel_rfl
theorem sz49 : (Try.prog.info? 49).map (·.size) = some 1 := by kernel_rfl
theorem zr49 : (Try.prog.info? 49).map (·.zero) = some (some .nilFunc) := by kernel_rfl
theorem zs49 : (Try.prog.info? 49).map (fun i => (i.zero, i.size)) = some (some .nilFunc, 1) := by kernel_rfl
theorem zb49 : (Try.prog.info? 49).map (fun i => (i.zero, i.size, i.bytes)) = some (some .nilFunc, 1, 8) := by kernel_rfl
theorem sz50 : (Try.prog.info? 50).map (·.size) = some 1 := by kernel_rfl
theorem zr50 : (Try.prog.info? 50).map (·.zero) = some (some .nilFunc) := by kernel_rfl
theorem zs50 : (Try.prog.info? 50).map (fun i => (i.zero, i.size)) = some (some .nilFunc, 1) := by kernel_rfl
theorem zb50 : (Try.prog.info? 50).map (fun i => (i.zero, i.size, i.bytes)) = some (some .nilFunc, 1, 8) := by kernel_rfl
theorem sz51 : (Try.prog.info? 51).map (·.size) = some 1 := by kernel_rfl
theorem zr51 : (Try.prog.info? 51).map (·.zero) = some (some .nilFunc) := by kernel_rfl
theorem zs51 : (Try.prog.info? 51).map (fun i => (i.zero, i.size)) = some (some .nilFunc, 1) := by kernel_rfl
theorem zb51 : (Try.prog.info? 51).map (fun i => (i.zero, i.size, i.bytes)) = some (some .nilFunc, 1, 8) := by kernel_rfl
theorem sz52 : (Try.prog.info? 52).map (·.size) = some 1 := by kernel_rfl
theorem zr52 : (Try.prog.info? 52).map (·.zero) = some (some (.int .i64 0)) := by kernel_rfl
theorem zs52 : (Try.prog.info? 52).map (fun i => (i.zero, i.size)) = some (some (.int .i64 0), 1) := by kernel_rfl
theorem zb52 : (Try.prog.info? 52).map (fun i => (i.zero, i.size, i.bytes)) = some (some (.int .i64 0), 1, 8) := by kernel_rfl
theorem sz53 : (Try.prog.info? 53).map (·.size) = some 11 := by kernel_rfl
theorem zr53 : (Try.prog.info? 53).map (·.zero) = some (some (.agg #[(.int .i64 0), (.int .i64 0), (.slice none 0 0), (.bool false), (.bool false), (.int .i64 0), (.int .i64 0), (.int .i64 0), (.int .i64 0), (.bool false), .nilIface])) := by kernel_rfl
theorem zs53 : (Try.prog.info? 53).map (fun i => (i.zero, i.size)) = some (some (.agg #[(.int .i64 0), (.int .i64 0), (.slice none 0 0), (.bool false), (.bool false), (.int .i64 0), (.int .i64 0), (.int .i64 0), (.int .i64 0), (.bool false), .nilIface]), 11) := by kernel_rfl
theorem zb53 : (Try.prog.info? 53).map (fun i => (i.zero, i.size, i.bytes)) = some (some (.agg #[(.int .i64 0), (.int .i64 0), (.slice none 0 0), (.bool false), (.bool false), (.int .i64 0), (.int .i64 0), (.int .i64 0), (.int .i64 0), (.bool false), .nilIface]), 11, 104) := by kernel_rfl
theorem sz54 : (Try.prog.info? 54).map (·.size) = some 11 := by kernel_rfl
theorem zr54 : (Try.prog.info? 54).map (·.zero) = some (some (.agg #[(.int .i64 0), (.int .i64 0), (.slice none 0 0), (.bool false), (.bool false), (.int .i64 0), (.int .i64 0), (.int .i64 0), (.int .i64 0), (.bool false), .nilIface])) := by kernel_rfl
theorem zs54 : (Try.prog.info? 54).map (fun i => (i.zero, i.size)) = some (some (.agg #[(.int .i64 0), (.int .i64 0), (.slice none 0 0), (.bool false), (.bool false), (.int .i64 0), (.int .i64 0), (.int .i64 0), (.int .i64 0), (.bool false), .nilIface]), 11) := by kernel_rfl
theorem zb54 : (Try.prog.info? 54).map (fun i => (i.zero, i.size, i.bytes)) = some (some (.agg #[(.int .i64 0), (.int .i64 0), (.slice none 0 0), (.bool false), (.bool false), (.int .i64 0), (.int .i64 0), (.int .i64 0), (.int .i64 0), (.bool false), .nilIface]), 11, 104) := by kernel_rfl
theorem sz55 : (Try.prog.info? 55).map (·.size) = some 1 := by kernel_rfl
theorem zr55 : (Try.prog.info? 55).map (·.zero) = some (some .nilFunc) := by kernel_rfl
theorem zs55 : (Try.prog.info? 55).map (fun i => (i.zero, i.size)) = some (some .nilFunc, 1) := by kernel_rfl
theorem zb55 : (Try.prog.info? 55).map (fun i => (i.zero, i.size, i.bytes)) = some (some .nilFunc, 1, 8) := by kernel_rfl
theorem sz56 : (Try.prog.info? 56).map (·.size) = some 1 := by kernel_rfl
theorem zr56 : (Try.prog.info? 56).map (·.zero) = some (some (.int .i64 0)) := by kernel_rfl
theorem zs56 : (Try.prog.info? 56).map (fun i => (i.zero, i.size)) = some (some (.int .i64 0), 1) := by kernel_rfl
theorem zb56 : (Try.prog.info? 56).map (fun i => (i.zero, i.size, i.bytes)) = some (some (.int .i64 0), 1, 8) := by kernel_rfl
theorem sz57 : (Try.prog.info? 57).map (·.size) = some 1 := by kernel_rfl
theorem zr57 : (Try.prog.info? 57).map (·.zero) = some (some .nilFunc) := by kernel_rfl
theorem zs57 : (Try.prog.info? 57).map (fun i => (i.zero, i.size)) = some (some .nilFunc, 1) := by kernel_rfl
theorem zb57 : (Try.prog.info? 57).map (fun i => (i.zero, i.size, i.bytes)) = some (some .nilFunc, 1, 8) := by kernel_rfl
theorem sz58 : (Try.prog.info? 58).map (·.size) = some 1 := by kernel_rfl
theorem zr58 : (Try.prog.info? 58).map (·.zero) = some (some .nilFunc) := by kernel_rfl
theorem zs58 : (Try.prog.info? 58).map (fun i => (i.zero, i.size)) = some (some .nilFunc, 1) := by kernel_rfl
theorem zb58 : (Try.prog.info? 58).map (fun i => (i.zero, i.size, i.bytes)) = some (some .nilFunc, 1, 8) := by kernel_rfl
theorem sz59 : (Try.prog.info? 59).map (·.size) = some 1 := by kernel_rfl
theorem zr59 : (Try.prog.info? 59).map (·.zero) = some (some (.int .u16 0)) := by kernel_rfl
theorem zs59 : (Try.prog.info? 59).map (fun i => (i.zero, i.size)) = some (some (.int .u16 0), 1) := by kernel_rfl
theorem zb59 : (Try.prog.info? 59).map (fun i => (i.zero, i.size, i.bytes)) = some (some (.int .u16 0), 1, 2) := by kernel_rfl
theorem sz60 : (Try.prog.info? 60).map (·.size) = some 1 := by kernel_rfl
theorem zr60 : (Try.prog.info? 60).map (·.zero) = some (some .nilFunc) := by kernel_rfl
theorem zs60 : (Try.prog.info? 60).map (fun i => (i.zero, i.size)) = some (some .nilFunc, 1) := by kernel_rfl
theorem zb60 : (Try.prog.info? 60).map (fun i => (i.zero, i.size, i.bytes)) = some (some .nilFunc, 1, 8) := by kernel_rfl
theorem sz61 : (Try.prog.info? 61).map (·.size) = some 1 := by kernel_rfl
theorem zr61 : (Try.prog.info? 61).map (·.zero) = some (some (.int .u64 0)) := by kernel_rfl
theorem zs61 : (Try.prog.info? 61).map (fun i => (i.zero, i.size)) = some (some (.int .u64 0), 1) := by kernel_rfl
theorem zb61 : (Try.prog.info? 61).map (fun i => (i.zero, i.size, i.bytes)) = some (some (.int .u64 0), 1, 8) := by kernel_rfl
theorem sz62 : (Try.prog.info? 62).map (·.size) = some 1 := by kernel_rfl
theorem zr62 : (Try.prog.info? 62).map (·.zero) = some (some .nilFunc) := by kernel_rfl
theorem zs62 : (Try.prog.info? 62).map (fun i => (i.zero, i.size)) = some (some .nilFunc, 1) := by kernel_rfl
theorem zb62 : (Try.prog.info? 62).map (fun i => (i.zero, i.size, i.bytes)) = some (some .nilFunc, 1, 8) := by kernel_rfl
theorem sz63 : (Try.prog.info? 63).map (·.size) = some 1 := by kernel_rfl
theorem zr63 : (Try.prog.info? 63).map (·.zero) = some (some .nilFunc) := by kernel_rfl
theorem zs63 : (Try.prog.info? 63).map (fun i => (i.zero, i.size)) = some (some .nilFunc, 1) := by kernel_rfl
theorem zb63 : (Try.prog.info? 63).map (fun i => (i.zero, i.size, i.bytes)) = some (some .nilFunc, 1, 8) := by kernel_rfl
theorem sz64 : (Try.prog.info? 64).map (·.size) = some 4 := by kernel_rfl
theorem zr64 : (Try.prog.info? 64).map (·.zero) = some (some (.agg #[(.pointer none), (.pointer none), (.pointer none), (.string ByteArray.empty)])) := by kernel_rfl
theorem zs64 : (Try.prog.info? 64).map (fun i => (i.zero, i.size)) = some (some (.agg #[(.pointer none), (.pointer none), (.pointer none), (.string ByteArray.empty)]), 4) := by kernel_rfl
theorem zb64 : (Try.prog.info? 64).map (fun i => (i.zero, i.size, i.bytes)) = some (some (.agg #[(.pointer none), (.pointer none), (.pointer none), (.string ByteArray.empty)]), 4, 40) := by kernel_rfl
theorem sz65 : (Try.prog.info? 65).map (·.size) = some 4 := by kernel_rfl
theorem zr65 : (Try.prog.info? 65).map (·.zero) = some (some (.agg #[(.pointer none), (.pointer none), (.pointer none), (.string ByteArray.empty)])) := by kernel_rfl
theorem zs65 : (Try.prog.info? 65).map (fun i => (i.zero, i.size)) = some (some (.agg #[(.pointer none), (.pointer none), (.pointer none), (.string ByteArray.empty)]), 4) := by kernel_rfl
theorem zb65 : (Try.prog.info? 65).map (fun i => (i.zero, i.size, i.bytes)) = some (some (.agg #[(.pointer none), (.pointer none), (.pointer none), (.string ByteArray.empty)]), 4, 40) := by kernel_rfl
theorem sz66 : (Try.prog.info? 66).map (·.size) = some 0 := by kernel_rfl
theorem zr66 : (Try.prog.info? 66).map (·.zero) = some (some (.agg #[])) := by kernel_rfl
theorem zs66 : (Try.prog.info? 66).map (fun i => (i.zero, i.size)) = some (some (.agg #[]), 0) := by kernel_rfl
theorem zb66 : (Try.prog.info? 66).map (fun i => (i.zero, i.size, i.bytes)) = some (some (.agg #[]), 0, 0) := by kernel_rfl
theorem sz67 : (Try.prog.info? 67).map (·.size) = some 0 := by kernel_rfl
theorem zr67 : (Try.prog.info? 67).map (·.zero) = some (some (.agg #[])) := by kernel_rfl
theorem zs67 : (Try.prog.info? 67).map (fun i => (i.zero, i.size)) = some (some (.agg #[]), 0) := by kernel_rfl
theorem zb67 : (Try.prog.info? 67).map (fun i => (i.zero, i.size, i.bytes)) = some (some (.agg #[]), 0, 0) := by kernel_rfl
theorem sz68 : (Try.prog.info? 68).map (·.size) = some 0 := by kernel_rfl
theorem zr68 : (Try.prog.info? 68).map (·.zero) = some (some (.agg #[])) := by kernel_rfl
theorem zs68 : (Try.prog.info? 68).map (fun i => (i.zero, i.size)) = some (some (.agg #[]), 0) := by kernel_rfl
theorem zb68 : (Try.prog.info? 68).map (fun i => (i.zero, i.size, i.bytes)) = some (some (.agg #[]), 0, 0) := by kernel_rfl
theorem sz69 : (Try.prog.info? 69).map (·.size) = some 1 := by kernel_rfl
theorem zr69 : (Try.prog.info? 69).map (·.zero) = some (some (.int .u32 0)) := by kernel_rfl
theorem zs69 : (Try.prog.info? 69).map (fun i => (i.zero, i.size)) = some (some (.int .u32 0), 1) := by kernel_rfl
theorem zb69 : (Try.prog.info? 69).map (fun i => (i.zero, i.size, i.bytes)) = some (some (.int .u32 0), 1, 4) := by kernel_rfl
theorem sz70 : (Try.prog.info? 70).map (·.size) = some 1 := by kernel_rfl
theorem zr70 : (Try.prog.info? 70).map (·.zero) = some (some (.int .u8 0)) := by kernel_rfl
theorem zs70 : (Try.prog.info? 70).map (fun i => (i.zero, i.size)) = some (some (.int .u8 0), 1) := by kernel_rfl
theorem zb70 : (Try.prog.info? 70).map (fun i => (i.zero, i.size, i.bytes)) = some (some (.int .u8 0), 1, 1) := by kernel_rfl
theorem sz71 : (Try.prog.info? 71).map (·.size) = some 1 := by kernel_rfl
theorem zr71 : (Try.prog.info? 71).map (·.zero) = some (some (.int .u8 0)) := by kernel_rfl
theorem zs71 : (Try.prog.info? 71).map (fun i => (i.zero, i.size)) = some (some (.int .u8 0), 1) := by kernel_rfl
theorem zb71 : (Try.prog.info? 71).map (fun i => (i.zero, i.size, i.bytes)) = some (some (.int .u8 0), 1, 1) := by kernel_rfl
theorem sz72 : (Try.prog.info? 72).map (·.size) = some 1 := by kernel_rfl
theorem zr72 : (Try.prog.info? 72).map (·.zero) = some (some .nilFunc) := by kernel_rfl
theorem zs72 : (Try.prog.info? 72).map (fun i => (i.zero, i.size)) = some (some .nilFunc, 1) := by kernel_rfl
theorem zb72 : (Try.prog.info? 72).map (fun i => (i.zero, i.size, i.bytes)) = some (some .nilFunc, 1, 8) := by kernel_rfl
theorem sz73 : (Try.prog.info? 73).map (·.size) = some 1 := by kernel_rfl
theorem zr73 : (Try.prog.info? 73).map (·.zero) = some (some (.pointer none)) := by kernel_rfl
theorem zs73 : (Try.prog.info? 73).map (fun i => (i.zero, i.size)) = some (some (.pointer none), 1) := by kernel_rfl
theorem zb73 : (Try.prog.info? 73).map (fun i => (i.zero, i.size, i.bytes)) = some (some (.pointer none), 1, 8) := by kernel_rfl
theorem sz74 : (Try.prog.info? 74).map (·.size) = some 1 := by kernel_rfl
theorem zr74 : (Try.prog.info? 74).map (·.zero) = some (some (.int .i32 0)) := by kernel_rfl
theorem zs74 : (Try.prog.info? 74).map (fun i => (i.zero, i.size)) = some (some (.int .i32 0), 1) := by kernel_rfl
theorem zb74 : (Try.prog.info? 74).map (fun i => (i.zero, i.size, i.bytes)) = some (some (.int .i32 0), 1, 4) := by kernel_rfl
theorem sz75 : (Try.prog.info? 75).map (·.size) = some 1 := by kernel_rfl
theorem zr75 : (Try.prog.info? 75).map (·.zero) = some (some (.int .i32 0)) := by kernel_rfl
theorem zs75 : (Try.prog.info? 75).map (fun i => (i.zero, i.size)) = some (some (.int .i32 0), 1) := by kernel_rfl
theorem zb75 : (Try.prog.info? 75).map (fun i => (i.zero, i.size, i.bytes)) = some (some (.int .i32 0), 1, 4) := by kernel_rfl
theorem sz76 : (Try.prog.info? 76).map (·.size) = some 11 := by kernel_rfl
theorem zr76 : (Try.prog.info? 76).map (·.zero) = some (some (.agg #[(.int .u64 0), (.int .u64 0), (.int .u32 0), (.int .u8 0), (.int .u8 0), (.int .u8 0), (.int .u8 0), .nilFunc, (.pointer none), (.int .i32 0), (.int .i32 0)])) := by kernel_rfl
theorem zs76 : (Try.prog.info? 76).map (fun i => (i.zero, i.size)) = some (some (.agg #[(.int .u64 0), (.int .u64 0), (.int .u32 0), (.int .u8 0), (.int .u8 0), (.int .u8 0), (.int .u8 0), .nilFunc, (.pointer none), (.int .i32 0), (.int .i32 0)]), 11) := by kernel_rfl
theorem zb76 : (Try.prog.info? 76).map (fun i => (i.zero, i.size, i.bytes)) = some (some (.agg #[(.int .u64 0), (.int .u64 0), (.int .u32 0), (.int .u8 0), (.int .u8 0), (.int .u8 0), (.int .u8 0), .nilFunc, (.pointer none), (.int .i32 0), (.int .i32 0)]), 11, 48) := by kernel_rfl
theorem sz77 : (Try.prog.info? 77).map (·.size) = some 11 := by kernel_rfl
theorem zr77 : (Try.prog.info? 77).map (·.zero) = some (some (.agg #[(.int .u64 0), (.int .u64 0), (.int .u32 0), (.int .u8 0), (.int .u8 0), (.int .u8 0), (.int .u8 0), .nilFunc, (.pointer none), (.int .i32 0), (.int .i32 0)])) := by kernel_rfl
theorem zs77 : (Try.prog.info? 77).map (fun i => (i.zero, i.size)) = some (some (.agg #[(.int .u64 0), (.int .u64 0), (.int .u32 0), (.int .u8 0), (.int .u8 0), (.int .u8 0), (.int .u8 0), .nilFunc, (.pointer none), (.int .i32 0), (.int .i32 0)]), 11) := by kernel_rfl
theorem zb77 : (Try.prog.info? 77).map (fun i => (i.zero, i.size, i.bytes)) = some (some (.agg #[(.int .u64 0), (.int .u64 0), (.int .u32 0), (.int .u8 0), (.int .u8 0), (.int .u8 0), (.int .u8 0), .nilFunc, (.pointer none), (.int .i32 0), (.int .i32 0)]), 11, 48) := by kernel_rfl
theorem sz78 : (Try.prog.info? 78).map (·.size) = some 1 := by kernel_rfl
theorem zr78 : (Try.prog.info? 78).map (·.zero) = some (some (.pointer none)) := by kernel_rfl
theorem zs78 : (Try.prog.info? 78).map (fun i => (i.zero, i.size)) = some (some (.pointer none), 1) := by kernel_rfl
theorem zb78 : (Try.prog.info? 78).map (fun i => (i.zero, i.size, i.bytes)) = some (some (.pointer none), 1, 8) := by kernel_rfl
theorem pl7 : Places Try.prog #[⟨"x", 2, 0, false, "", "runtime", 0⟩, ⟨"y", 3, 1, false, "", "runtime", 8⟩, ⟨"signed", 4, 2, false, "", "runtime", 16⟩, ⟨"code", 6, 3, false, "", "runtime", 17⟩] #[(0, 1), (1, 1), (2, 1), (3, 1)] := fun w => by kernel_rfl
theorem pl8 : Places Try.prog #[⟨"x", 2, 0, false, "", "runtime", 0⟩, ⟨"y", 3, 1, false, "", "runtime", 8⟩, ⟨"signed", 4, 2, false, "", "runtime", 16⟩, ⟨"code", 6, 3, false, "", "runtime", 17⟩] #[(0, 1), (1, 1), (2, 1), (3, 1)] := fun w => by kernel_rfl
theorem pl13 : Places Try.prog #[⟨"msg", 9, 0, false, "", "runtime", 0⟩, ⟨"addr", 12, 1, false, "", "runtime", 16⟩] #[(0, 1), (1, 1)] := fun w => by kernel_rfl
theorem pl14 : Places Try.prog #[⟨"msg", 9, 0, false, "", "runtime", 0⟩, ⟨"addr", 12, 1, false, "", "runtime", 16⟩] #[(0, 1), (1, 1)] := fun w => by kernel_rfl
theorem pl18 : Places Try.prog #[⟨"typ", 17, 0, false, "", "internal/runtime/maps", 0⟩] #[(0, 1)] := fun w => by kernel_rfl
theorem pl19 : Places Try.prog #[⟨"typ", 17, 0, false, "", "internal/runtime/maps", 0⟩] #[(0, 1)] := fun w => by kernel_rfl
theorem pl27 : Places Try.prog #[⟨"Number", 5, 0, false, "", "", 0⟩, ⟨"Data", 26, 1, false, "", "", 8⟩] #[(0, 1), (1, 1)] := fun w => by kernel_rfl
theorem pl28 : Places Try.prog #[⟨"Number", 5, 0, false, "", "", 0⟩, ⟨"Data", 26, 1, false, "", "", 8⟩] #[(0, 1), (1, 1)] := fun w => by kernel_rfl
theorem pl30 : Places Try.prog #[⟨"Tries", 3, 0, false, "", "", 0⟩, ⟨"Wait", 3, 1, false, "", "", 8⟩] #[(0, 1), (1, 1)] := fun w => by kernel_rfl
theorem pl31 : Places Try.prog #[⟨"Tries", 3, 0, false, "", "", 0⟩, ⟨"Wait", 3, 1, false, "", "", 8⟩] #[(0, 1), (1, 1)] := fun w => by kernel_rfl
theorem pl53 : Places Try.prog #[⟨"config", 31, 0, false, "", "lifeline/sender", 0⟩, ⟨"blocks", 24, 2, false, "", "lifeline/sender", 16⟩, ⟨"close", 4, 3, false, "", "lifeline/sender", 40⟩, ⟨"crc", 4, 4, false, "", "lifeline/sender", 41⟩, ⟨"phase", 52, 5, false, "", "lifeline/sender", 48⟩, ⟨"at", 3, 6, false, "", "lifeline/sender", 56⟩, ⟨"tries", 3, 7, false, "", "lifeline/sender", 64⟩, ⟨"left", 3, 8, false, "", "lifeline/sender", 72⟩, ⟨"can", 4, 9, false, "", "lifeline/sender", 80⟩, ⟨"err", 47, 10, false, "", "lifeline/sender", 88⟩] #[(0, 2), (2, 1), (3, 1), (4, 1), (5, 1), (6, 1), (7, 1), (8, 1), (9, 1), (10, 1)] := fun w => by kernel_rfl
theorem pl54 : Places Try.prog #[⟨"config", 31, 0, false, "", "lifeline/sender", 0⟩, ⟨"blocks", 24, 2, false, "", "lifeline/sender", 16⟩, ⟨"close", 4, 3, false, "", "lifeline/sender", 40⟩, ⟨"crc", 4, 4, false, "", "lifeline/sender", 41⟩, ⟨"phase", 52, 5, false, "", "lifeline/sender", 48⟩, ⟨"at", 3, 6, false, "", "lifeline/sender", 56⟩, ⟨"tries", 3, 7, false, "", "lifeline/sender", 64⟩, ⟨"left", 3, 8, false, "", "lifeline/sender", 72⟩, ⟨"can", 4, 9, false, "", "lifeline/sender", 80⟩, ⟨"err", 47, 10, false, "", "lifeline/sender", 88⟩] #[(0, 2), (2, 1), (3, 1), (4, 1), (5, 1), (6, 1), (7, 1), (8, 1), (9, 1), (10, 1)] := fun w => by kernel_rfl
theorem pl64 : Places Try.prog #[⟨"_interface", 17, 0, false, "", "runtime", 0⟩, ⟨"concrete", 17, 1, false, "", "runtime", 8⟩, ⟨"asserted", 17, 2, false, "", "runtime", 16⟩, ⟨"missingMethod", 9, 3, false, "", "runtime", 24⟩] #[(0, 1), (1, 1), (2, 1), (3, 1)] := fun w => by kernel_rfl
theorem pl65 : Places Try.prog #[⟨"_interface", 17, 0, false, "", "runtime", 0⟩, ⟨"concrete", 17, 1, false, "", "runtime", 8⟩, ⟨"asserted", 17, 2, false, "", "runtime", 16⟩, ⟨"missingMethod", 9, 3, false, "", "runtime", 24⟩] #[(0, 1), (1, 1), (2, 1), (3, 1)] := fun w => by kernel_rfl
theorem pl67 : Places Try.prog #[⟨"_", 66, 0, false, "", "runtime", 0⟩] #[(0, 0)] := fun w => by kernel_rfl
theorem pl68 : Places Try.prog #[⟨"_", 66, 0, false, "", "runtime", 0⟩] #[(0, 0)] := fun w => by kernel_rfl
theorem pl76 : Places Try.prog #[⟨"Size_", 12, 0, false, "", "", 0⟩, ⟨"PtrBytes", 12, 1, false, "", "", 8⟩, ⟨"Hash", 69, 2, false, "", "", 16⟩, ⟨"TFlag", 70, 3, false, "", "", 20⟩, ⟨"Align_", 5, 4, false, "", "", 21⟩, ⟨"FieldAlign_", 5, 5, false, "", "", 22⟩, ⟨"Kind_", 71, 6, false, "", "", 23⟩, ⟨"Equal", 72, 7, false, "", "", 24⟩, ⟨"GCData", 73, 8, false, "", "", 32⟩, ⟨"Str", 74, 9, false, "", "", 40⟩, ⟨"PtrToThis", 75, 10, false, "", "", 44⟩] #[(0, 1), (1, 1), (2, 1), (3, 1), (4, 1), (5, 1), (6, 1), (7, 1), (8, 1), (9, 1), (10, 1)] := fun w => by kernel_rfl
theorem pl77 : Places Try.prog #[⟨"Size_", 12, 0, false, "", "", 0⟩, ⟨"PtrBytes", 12, 1, false, "", "", 8⟩, ⟨"Hash", 69, 2, false, "", "", 16⟩, ⟨"TFlag", 70, 3, false, "", "", 20⟩, ⟨"Align_", 5, 4, false, "", "", 21⟩, ⟨"FieldAlign_", 5, 5, false, "", "", 22⟩, ⟨"Kind_", 71, 6, false, "", "", 23⟩, ⟨"Equal", 72, 7, false, "", "", 24⟩, ⟨"GCData", 73, 8, false, "", "", 32⟩, ⟨"Str", 74, 9, false, "", "", 40⟩, ⟨"PtrToThis", 75, 10, false, "", "", 44⟩] #[(0, 1), (1, 1), (2, 1), (3, 1), (4, 1), (5, 1), (6, 1), (7, 1), (8, 1), (9, 1), (10, 1)] := fun w => by kernel_rfl
theorem call3 : CallOk Try.prog 3 := callOk_of Try.func3 (by kernel_rfl) (by kernel_rfl)
theorem call4 : CallOk Try.prog 4 := callOk_of Try.func4 (by kernel_rfl) (by kernel_rfl)
theorem call5 : CallOk Try.prog 5 := callOk_of Try.func5 (by kernel_rfl) (by kernel_rfl)
theorem call6 : CallOk Try.prog 6 := callOk_of Try.func6 (by kernel_rfl) (by kernel_rfl)
theorem call7 : CallOk Try.prog 7 := callOk_of Try.func7 (by kernel_rfl) (by kernel_rfl)
theorem call8 : CallOk Try.prog 8 := callOk_of Try.func8 (by kernel_rfl) (by kernel_rfl)
theorem call9 : CallOk Try.prog 9 := callOk_of Try.func9 (by kernel_rfl) (by kernel_rfl)
theorem call10 : CallOk Try.prog 10 := callOk_of Try.func10 (by kernel_rfl) (by kernel_rfl)
theorem call11 : CallOk Try.prog 11 := callOk_of Try.func11 (by kernel_rfl) (by kernel_rfl)
theorem call12 : CallOk Try.prog 12 := callOk_of Try.func12 (by kernel_rfl) (by kernel_rfl)
theorem call13 : CallOk Try.prog 13 := callOk_of Try.func13 (by kernel_rfl) (by kernel_rfl)
theorem call14 : CallOk Try.prog 14 := callOk_of Try.func14 (by kernel_rfl) (by kernel_rfl)
theorem call15 : CallOk Try.prog 15 := callOk_of Try.func15 (by kernel_rfl) (by kernel_rfl)
theorem call16 : CallOk Try.prog 16 := callOk_of Try.func16 (by kernel_rfl) (by kernel_rfl)
theorem call17 : CallOk Try.prog 17 := callOk_of Try.func17 (by kernel_rfl) (by kernel_rfl)
theorem call18 : CallOk Try.prog 18 := callOk_of Try.func18 (by kernel_rfl) (by kernel_rfl)
theorem call19 : CallOk Try.prog 19 := callOk_of Try.func19 (by kernel_rfl) (by kernel_rfl)
theorem call20 : CallOk Try.prog 20 := callOk_of Try.func20 (by kernel_rfl) (by kernel_rfl)
theorem call21 : CallOk Try.prog 21 := callOk_of Try.func21 (by kernel_rfl) (by kernel_rfl)
theorem call22 : CallOk Try.prog 22 := callOk_of Try.func22 (by kernel_rfl) (by kernel_rfl)
theorem call23 : CallOk Try.prog 23 := callOk_of Try.func23 (by kernel_rfl) (by kernel_rfl)
theorem call24 : CallOk Try.prog 24 := callOk_of Try.func24 (by kernel_rfl) (by kernel_rfl)
theorem call25 : CallOk Try.prog 25 := callOk_of Try.func25 (by kernel_rfl) (by kernel_rfl)
theorem call26 : CallOk Try.prog 26 := callOk_of Try.func26 (by kernel_rfl) (by kernel_rfl)
theorem call27 : CallOk Try.prog 27 := callOk_of Try.func27 (by kernel_rfl) (by kernel_rfl)
theorem mixed : Try.prog.follows .mixedOrders = true := by kernel_rfl
end Go.Proofs.Ytpfcpookdocikaa.SL
