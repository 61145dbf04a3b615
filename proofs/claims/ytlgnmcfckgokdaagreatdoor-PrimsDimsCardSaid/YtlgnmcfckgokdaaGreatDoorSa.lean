/-
  What Sig answers at abs, add, and, append, chunk, diagonal, div, drop, eq.
-/
import Derived.Test.YtlgnmcfckgokdaaGreatDoorTc

set_option maxRecDepth 1000000
namespace Fw.Tz
open Go Go.Proofs Fw.X
def sg_abs : V := (.tuple [(.agg [(.d (.str [97, 98, 115])), (.d (.bool true)), (.d (.bool false)), (.d (.bool false)), (.d (.list [])), (.d (.list [[(.str [105, 110, 116]), (.str []), (.list [])]])), (.d (.str [105, 110, 116])), (.d (.str [])), (.d (.list [])), (.d (.list []))]), (.d (.bool true))])
theorem ks_abs (W : World) : pcT W 40 17 [.d (.str [97, 98, 115])] = some sg_abs := by kernel_rfl
def sg_add : V := (.tuple [(.agg [(.d (.str [97, 100, 100])), (.d (.bool true)), (.d (.bool false)), (.d (.bool false)), (.d (.list [])), (.d (.list [[(.str [105, 110, 116]), (.str []), (.list [])], [(.str [105, 110, 116]), (.str []), (.list [])]])), (.d (.str [105, 110, 116])), (.d (.str [])), (.d (.list [])), (.d (.list []))]), (.d (.bool true))])
theorem ks_add (W : World) : pcT W 40 17 [.d (.str [97, 100, 100])] = some sg_add := by kernel_rfl
def sg_and : V := (.tuple [(.agg [(.d (.str [97, 110, 100])), (.d (.bool true)), (.d (.bool false)), (.d (.bool false)), (.d (.list [])), (.d (.list [[(.str [98, 111, 111, 108]), (.str []), (.list [])], [(.str [98, 111, 111, 108]), (.str []), (.list [])]])), (.d (.str [98, 111, 111, 108])), (.d (.str [])), (.d (.list [])), (.d (.list []))]), (.d (.bool true))])
theorem ks_and (W : World) : pcT W 40 17 [.d (.str [97, 110, 100])] = some sg_and := by kernel_rfl
def sg_append : V := (.tuple [(.agg [(.d (.str [97, 112, 112, 101, 110, 100])), (.d (.bool false)), (.d (.bool false)), (.d (.bool false)), (.d (.list [])), (.d (.list [[(.str [65]), (.str []), (.list [[(.int .i64 0), (.list [[(.str [110]), (.int .i64 1)]])]])], [(.str [65]), (.str []), (.list [[(.int .i64 0), (.list [[(.str [109]), (.int .i64 1)]])]])]])), (.d (.str [65])), (.d (.str [])), (.d (.list [[(.int .i64 0), (.list [[(.str [109]), (.int .i64 1)], [(.str [110]), (.int .i64 1)]])]])), (.d (.list []))]), (.d (.bool true))])
theorem ks_append (W : World) : pcT W 40 17 [.d (.str [97, 112, 112, 101, 110, 100])] = some sg_append := by kernel_rfl
def sg_chunk : V := (.tuple [(.agg [(.d (.str [99, 104, 117, 110, 107])), (.d (.bool false)), (.d (.bool true)), (.d (.bool false)), (.d (.list [])), (.d (.list [[(.str [65]), (.str []), (.list [[(.int .i64 0), (.list [[(.str [110]), (.int .i64 1)]])]])]])), (.d (.str [65])), (.d (.str [])), (.d (.list [[(.int .i64 0), (.list [[(.str [110]), (.int .i64 1)]])], [(.int .i64 1), (.list [])]])), (.d (.list []))]), (.d (.bool true))])
theorem ks_chunk (W : World) : pcT W 40 17 [.d (.str [99, 104, 117, 110, 107])] = some sg_chunk := by kernel_rfl
def sg_diagonal : V := (.tuple [(.agg [(.d (.str [100, 105, 97, 103, 111, 110, 97, 108])), (.d (.bool false)), (.d (.bool false)), (.d (.bool false)), (.d (.list [])), (.d (.list [[(.str [65]), (.str []), (.list [[(.int .i64 0), (.list [[(.str [110]), (.int .i64 1)]])], [(.int .i64 0), (.list [[(.str [110]), (.int .i64 1)]])]])]])), (.d (.str [65])), (.d (.str [])), (.d (.list [[(.int .i64 0), (.list [[(.str [110]), (.int .i64 1)]])]])), (.d (.list []))]), (.d (.bool true))])
theorem ks_diagonal (W : World) : pcT W 40 17 [.d (.str [100, 105, 97, 103, 111, 110, 97, 108])] = some sg_diagonal := by kernel_rfl
def sg_div : V := (.tuple [(.agg [(.d (.str [100, 105, 118])), (.d (.bool true)), (.d (.bool false)), (.d (.bool false)), (.d (.list [])), (.d (.list [[(.str [105, 110, 116]), (.str []), (.list [])], [(.str [105, 110, 116]), (.str []), (.list [])]])), (.d (.str [105, 110, 116])), (.d (.str [])), (.d (.list [])), (.d (.list []))]), (.d (.bool true))])
theorem ks_div (W : World) : pcT W 40 17 [.d (.str [100, 105, 118])] = some sg_div := by kernel_rfl
def sg_drop : V := (.tuple [(.agg [(.d (.str [100, 114, 111, 112])), (.d (.bool false)), (.d (.bool false)), (.d (.bool false)), (.d (.list [[(.str [107])]])), (.d (.list [[(.str [65]), (.str []), (.list [[(.int .i64 0), (.list [[(.str [110]), (.int .i64 1)]])]])]])), (.d (.str [65])), (.d (.str [])), (.d (.list [[(.int .i64 0), (.list [[(.str [107]), (.int .i64 (-1))], [(.str [110]), (.int .i64 1)]])]])), (.d (.list [[(.int .i64 0), (.list [[(.str [107]), (.int .i64 1)]])], [(.int .i64 0), (.list [[(.str [107]), (.int .i64 (-1))], [(.str [110]), (.int .i64 1)]])]]))]), (.d (.bool true))])
theorem ks_drop (W : World) : pcT W 40 17 [.d (.str [100, 114, 111, 112])] = some sg_drop := by kernel_rfl
def sg_eq : V := (.tuple [(.agg [(.d (.str [101, 113])), (.d (.bool true)), (.d (.bool false)), (.d (.bool false)), (.d (.list [])), (.d (.list [[(.str [65]), (.str []), (.list [])], [(.str [65]), (.str []), (.list [])]])), (.d (.str [98, 111, 111, 108])), (.d (.str [])), (.d (.list [])), (.d (.list []))]), (.d (.bool true))])
theorem ks_eq (W : World) : pcT W 40 17 [.d (.str [101, 113])] = some sg_eq := by kernel_rfl
end Fw.Tz
