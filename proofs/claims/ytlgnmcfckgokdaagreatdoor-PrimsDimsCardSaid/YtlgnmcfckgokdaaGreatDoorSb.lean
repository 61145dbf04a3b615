/-
  What Sig answers at fill, ge, gt, index, iota, le, lt, max, min.
-/
import Derived.Test.YtlgnmcfckgokdaaGreatDoorTc

set_option maxRecDepth 1000000
namespace Fw.Tz
open Go Go.Proofs Fw.X
def sg_fill : V := (.tuple [(.agg [(.d (.str [102, 105, 108, 108])), (.d (.bool false)), (.d (.bool false)), (.d (.bool false)), (.d (.list [[(.str [107])]])), (.d (.list [[(.str [65]), (.str []), (.list [])]])), (.d (.str [65])), (.d (.str [])), (.d (.list [[(.int .i64 0), (.list [[(.str [107]), (.int .i64 1)]])]])), (.d (.list [[(.int .i64 0), (.list [[(.str [107]), (.int .i64 1)]])]]))]), (.d (.bool true))])
theorem ks_fill (W : World) : pcT W 40 17 [.d (.str [102, 105, 108, 108])] = some sg_fill := by kernel_rfl
def sg_ge : V := (.tuple [(.agg [(.d (.str [103, 101])), (.d (.bool true)), (.d (.bool false)), (.d (.bool false)), (.d (.list [])), (.d (.list [[(.str [105, 110, 116]), (.str []), (.list [])], [(.str [105, 110, 116]), (.str []), (.list [])]])), (.d (.str [98, 111, 111, 108])), (.d (.str [])), (.d (.list [])), (.d (.list []))]), (.d (.bool true))])
theorem ks_ge (W : World) : pcT W 40 17 [.d (.str [103, 101])] = some sg_ge := by kernel_rfl
def sg_gt : V := (.tuple [(.agg [(.d (.str [103, 116])), (.d (.bool true)), (.d (.bool false)), (.d (.bool false)), (.d (.list [])), (.d (.list [[(.str [105, 110, 116]), (.str []), (.list [])], [(.str [105, 110, 116]), (.str []), (.list [])]])), (.d (.str [98, 111, 111, 108])), (.d (.str [])), (.d (.list [])), (.d (.list []))]), (.d (.bool true))])
theorem ks_gt (W : World) : pcT W 40 17 [.d (.str [103, 116])] = some sg_gt := by kernel_rfl
def sg_index : V := (.tuple [(.agg [(.d (.str [105, 110, 100, 101, 120])), (.d (.bool false)), (.d (.bool false)), (.d (.bool true)), (.d (.list [])), (.d (.list [[(.str [65]), (.str []), (.list [[(.int .i64 0), (.list [[(.str [110]), (.int .i64 1)]])]])], [(.str [105, 110, 116]), (.str []), (.list [])]])), (.d (.str [65])), (.d (.str [])), (.d (.list [])), (.d (.list []))]), (.d (.bool true))])
theorem ks_index (W : World) : pcT W 40 17 [.d (.str [105, 110, 100, 101, 120])] = some sg_index := by kernel_rfl
def sg_iota : V := (.tuple [(.agg [(.d (.str [105, 111, 116, 97])), (.d (.bool false)), (.d (.bool false)), (.d (.bool false)), (.d (.list [[(.str [107])]])), (.d (.list [])), (.d (.str [105, 110, 116])), (.d (.str [])), (.d (.list [[(.int .i64 0), (.list [[(.str [107]), (.int .i64 1)]])]])), (.d (.list [[(.int .i64 0), (.list [[(.str [107]), (.int .i64 1)]])]]))]), (.d (.bool true))])
theorem ks_iota (W : World) : pcT W 40 17 [.d (.str [105, 111, 116, 97])] = some sg_iota := by kernel_rfl
def sg_le : V := (.tuple [(.agg [(.d (.str [108, 101])), (.d (.bool true)), (.d (.bool false)), (.d (.bool false)), (.d (.list [])), (.d (.list [[(.str [105, 110, 116]), (.str []), (.list [])], [(.str [105, 110, 116]), (.str []), (.list [])]])), (.d (.str [98, 111, 111, 108])), (.d (.str [])), (.d (.list [])), (.d (.list []))]), (.d (.bool true))])
theorem ks_le (W : World) : pcT W 40 17 [.d (.str [108, 101])] = some sg_le := by kernel_rfl
def sg_lt : V := (.tuple [(.agg [(.d (.str [108, 116])), (.d (.bool true)), (.d (.bool false)), (.d (.bool false)), (.d (.list [])), (.d (.list [[(.str [105, 110, 116]), (.str []), (.list [])], [(.str [105, 110, 116]), (.str []), (.list [])]])), (.d (.str [98, 111, 111, 108])), (.d (.str [])), (.d (.list [])), (.d (.list []))]), (.d (.bool true))])
theorem ks_lt (W : World) : pcT W 40 17 [.d (.str [108, 116])] = some sg_lt := by kernel_rfl
def sg_max : V := (.tuple [(.agg [(.d (.str [109, 97, 120])), (.d (.bool true)), (.d (.bool false)), (.d (.bool false)), (.d (.list [])), (.d (.list [[(.str [105, 110, 116]), (.str []), (.list [])], [(.str [105, 110, 116]), (.str []), (.list [])]])), (.d (.str [105, 110, 116])), (.d (.str [])), (.d (.list [])), (.d (.list []))]), (.d (.bool true))])
theorem ks_max (W : World) : pcT W 40 17 [.d (.str [109, 97, 120])] = some sg_max := by kernel_rfl
def sg_min : V := (.tuple [(.agg [(.d (.str [109, 105, 110])), (.d (.bool true)), (.d (.bool false)), (.d (.bool false)), (.d (.list [])), (.d (.list [[(.str [105, 110, 116]), (.str []), (.list [])], [(.str [105, 110, 116]), (.str []), (.list [])]])), (.d (.str [105, 110, 116])), (.d (.str [])), (.d (.list [])), (.d (.list []))]), (.d (.bool true))])
theorem ks_min (W : World) : pcT W 40 17 [.d (.str [109, 105, 110])] = some sg_min := by kernel_rfl
end Fw.Tz
