/-
  What Sig answers at sub, take, toint, transpose, update, windows, xor.
-/
import Derived.Test.YtlgnmcfckgokdaaGreatDoorTc

set_option maxRecDepth 1000000
namespace Fw.Tz
open Go Go.Proofs Fw.X
def sg_sub : V := (.tuple [(.agg [(.d (.str [115, 117, 98])), (.d (.bool true)), (.d (.bool false)), (.d (.bool false)), (.d (.list [])), (.d (.list [[(.str [105, 110, 116]), (.str []), (.list [])], [(.str [105, 110, 116]), (.str []), (.list [])]])), (.d (.str [105, 110, 116])), (.d (.str [])), (.d (.list [])), (.d (.list []))]), (.d (.bool true))])
theorem ks_sub (W : World) : pcT W 40 17 [.d (.str [115, 117, 98])] = some sg_sub := by kernel_rfl
def sg_take : V := (.tuple [(.agg [(.d (.str [116, 97, 107, 101])), (.d (.bool false)), (.d (.bool false)), (.d (.bool false)), (.d (.list [[(.str [107])]])), (.d (.list [[(.str [65]), (.str []), (.list [[(.int .i64 0), (.list [[(.str [110]), (.int .i64 1)]])]])]])), (.d (.str [65])), (.d (.str [])), (.d (.list [[(.int .i64 0), (.list [[(.str [107]), (.int .i64 1)]])]])), (.d (.list [[(.int .i64 0), (.list [[(.str [107]), (.int .i64 1)]])], [(.int .i64 0), (.list [[(.str [107]), (.int .i64 (-1))], [(.str [110]), (.int .i64 1)]])]]))]), (.d (.bool true))])
theorem ks_take (W : World) : pcT W 40 17 [.d (.str [116, 97, 107, 101])] = some sg_take := by kernel_rfl
def sg_toint : V := (.tuple [(.agg [(.d (.str [116, 111, 105, 110, 116])), (.d (.bool true)), (.d (.bool false)), (.d (.bool false)), (.d (.list [])), (.d (.list [[(.str [98, 111, 111, 108]), (.str []), (.list [])]])), (.d (.str [105, 110, 116])), (.d (.str [])), (.d (.list [])), (.d (.list []))]), (.d (.bool true))])
theorem ks_toint (W : World) : pcT W 40 17 [.d (.str [116, 111, 105, 110, 116])] = some sg_toint := by kernel_rfl
def sg_transpose : V := (.tuple [(.agg [(.d (.str [116, 114, 97, 110, 115, 112, 111, 115, 101])), (.d (.bool false)), (.d (.bool false)), (.d (.bool false)), (.d (.list [])), (.d (.list [[(.str [65]), (.str []), (.list [[(.int .i64 0), (.list [[(.str [110]), (.int .i64 1)]])], [(.int .i64 0), (.list [[(.str [109]), (.int .i64 1)]])]])]])), (.d (.str [65])), (.d (.str [])), (.d (.list [[(.int .i64 0), (.list [[(.str [109]), (.int .i64 1)]])], [(.int .i64 0), (.list [[(.str [110]), (.int .i64 1)]])]])), (.d (.list []))]), (.d (.bool true))])
theorem ks_transpose (W : World) : pcT W 40 17 [.d (.str [116, 114, 97, 110, 115, 112, 111, 115, 101])] = some sg_transpose := by kernel_rfl
def sg_update : V := (.tuple [(.agg [(.d (.str [117, 112, 100, 97, 116, 101])), (.d (.bool false)), (.d (.bool false)), (.d (.bool true)), (.d (.list [])), (.d (.list [[(.str [65]), (.str []), (.list [[(.int .i64 0), (.list [[(.str [110]), (.int .i64 1)]])]])], [(.str [105, 110, 116]), (.str []), (.list [])], [(.str [65]), (.str []), (.list [])]])), (.d (.str [65])), (.d (.str [])), (.d (.list [[(.int .i64 0), (.list [[(.str [110]), (.int .i64 1)]])]])), (.d (.list []))]), (.d (.bool true))])
theorem ks_update (W : World) : pcT W 40 17 [.d (.str [117, 112, 100, 97, 116, 101])] = some sg_update := by kernel_rfl
def sg_windows : V := (.tuple [(.agg [(.d (.str [119, 105, 110, 100, 111, 119, 115])), (.d (.bool false)), (.d (.bool false)), (.d (.bool false)), (.d (.list [[(.str [107])]])), (.d (.list [[(.str [65]), (.str []), (.list [[(.int .i64 0), (.list [[(.str [110]), (.int .i64 1)]])]])]])), (.d (.str [65])), (.d (.str [])), (.d (.list [[(.int .i64 1), (.list [[(.str [107]), (.int .i64 (-1))], [(.str [110]), (.int .i64 1)]])], [(.int .i64 0), (.list [[(.str [107]), (.int .i64 1)]])]])), (.d (.list [[(.int .i64 0), (.list [[(.str [107]), (.int .i64 1)]])], [(.int .i64 0), (.list [[(.str [107]), (.int .i64 (-1))], [(.str [110]), (.int .i64 1)]])]]))]), (.d (.bool true))])
theorem ks_windows (W : World) : pcT W 40 17 [.d (.str [119, 105, 110, 100, 111, 119, 115])] = some sg_windows := by kernel_rfl
def sg_xor : V := (.tuple [(.agg [(.d (.str [120, 111, 114])), (.d (.bool true)), (.d (.bool false)), (.d (.bool false)), (.d (.list [])), (.d (.list [[(.str [98, 111, 111, 108]), (.str []), (.list [])], [(.str [98, 111, 111, 108]), (.str []), (.list [])]])), (.d (.str [98, 111, 111, 108])), (.d (.str [])), (.d (.list [])), (.d (.list []))]), (.d (.bool true))])
theorem ks_xor (W : World) : pcT W 40 17 [.d (.str [120, 111, 114])] = some sg_xor := by kernel_rfl
end Fw.Tz
