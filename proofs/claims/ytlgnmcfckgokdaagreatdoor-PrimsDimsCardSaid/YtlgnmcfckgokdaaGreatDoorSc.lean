/-
  What Sig answers at mod, mul, ne, neg, not, or, reverse, select, sign.
-/
import Derived.Test.YtlgnmcfckgokdaaGreatDoorTc

set_option maxRecDepth 1000000
namespace Fw.Tz
open Go Go.Proofs Fw.X
def sg_mod : V := (.tuple [(.agg [(.d (.str [109, 111, 100])), (.d (.bool true)), (.d (.bool false)), (.d (.bool false)), (.d (.list [])), (.d (.list [[(.str [105, 110, 116]), (.str []), (.list [])], [(.str [105, 110, 116]), (.str []), (.list [])]])), (.d (.str [105, 110, 116])), (.d (.str [])), (.d (.list [])), (.d (.list []))]), (.d (.bool true))])
theorem ks_mod (W : World) : pcT W 40 17 [.d (.str [109, 111, 100])] = some sg_mod := by kernel_rfl
def sg_mul : V := (.tuple [(.agg [(.d (.str [109, 117, 108])), (.d (.bool true)), (.d (.bool false)), (.d (.bool false)), (.d (.list [])), (.d (.list [[(.str [105, 110, 116]), (.str []), (.list [])], [(.str [105, 110, 116]), (.str []), (.list [])]])), (.d (.str [105, 110, 116])), (.d (.str [])), (.d (.list [])), (.d (.list []))]), (.d (.bool true))])
theorem ks_mul (W : World) : pcT W 40 17 [.d (.str [109, 117, 108])] = some sg_mul := by kernel_rfl
def sg_ne : V := (.tuple [(.agg [(.d (.str [110, 101])), (.d (.bool true)), (.d (.bool false)), (.d (.bool false)), (.d (.list [])), (.d (.list [[(.str [65]), (.str []), (.list [])], [(.str [65]), (.str []), (.list [])]])), (.d (.str [98, 111, 111, 108])), (.d (.str [])), (.d (.list [])), (.d (.list []))]), (.d (.bool true))])
theorem ks_ne (W : World) : pcT W 40 17 [.d (.str [110, 101])] = some sg_ne := by kernel_rfl
def sg_neg : V := (.tuple [(.agg [(.d (.str [110, 101, 103])), (.d (.bool true)), (.d (.bool false)), (.d (.bool false)), (.d (.list [])), (.d (.list [[(.str [105, 110, 116]), (.str []), (.list [])]])), (.d (.str [105, 110, 116])), (.d (.str [])), (.d (.list [])), (.d (.list []))]), (.d (.bool true))])
theorem ks_neg (W : World) : pcT W 40 17 [.d (.str [110, 101, 103])] = some sg_neg := by kernel_rfl
def sg_not : V := (.tuple [(.agg [(.d (.str [110, 111, 116])), (.d (.bool true)), (.d (.bool false)), (.d (.bool false)), (.d (.list [])), (.d (.list [[(.str [98, 111, 111, 108]), (.str []), (.list [])]])), (.d (.str [98, 111, 111, 108])), (.d (.str [])), (.d (.list [])), (.d (.list []))]), (.d (.bool true))])
theorem ks_not (W : World) : pcT W 40 17 [.d (.str [110, 111, 116])] = some sg_not := by kernel_rfl
def sg_or : V := (.tuple [(.agg [(.d (.str [111, 114])), (.d (.bool true)), (.d (.bool false)), (.d (.bool false)), (.d (.list [])), (.d (.list [[(.str [98, 111, 111, 108]), (.str []), (.list [])], [(.str [98, 111, 111, 108]), (.str []), (.list [])]])), (.d (.str [98, 111, 111, 108])), (.d (.str [])), (.d (.list [])), (.d (.list []))]), (.d (.bool true))])
theorem ks_or (W : World) : pcT W 40 17 [.d (.str [111, 114])] = some sg_or := by kernel_rfl
def sg_reverse : V := (.tuple [(.agg [(.d (.str [114, 101, 118, 101, 114, 115, 101])), (.d (.bool false)), (.d (.bool false)), (.d (.bool false)), (.d (.list [])), (.d (.list [[(.str [65]), (.str []), (.list [[(.int .i64 0), (.list [[(.str [110]), (.int .i64 1)]])]])]])), (.d (.str [65])), (.d (.str [])), (.d (.list [[(.int .i64 0), (.list [[(.str [110]), (.int .i64 1)]])]])), (.d (.list []))]), (.d (.bool true))])
theorem ks_reverse (W : World) : pcT W 40 17 [.d (.str [114, 101, 118, 101, 114, 115, 101])] = some sg_reverse := by kernel_rfl
def sg_select : V := (.tuple [(.agg [(.d (.str [115, 101, 108, 101, 99, 116])), (.d (.bool true)), (.d (.bool false)), (.d (.bool false)), (.d (.list [])), (.d (.list [[(.str [98, 111, 111, 108]), (.str []), (.list [])], [(.str [65]), (.str []), (.list [])], [(.str [65]), (.str []), (.list [])]])), (.d (.str [65])), (.d (.str [])), (.d (.list [])), (.d (.list []))]), (.d (.bool true))])
theorem ks_select (W : World) : pcT W 40 17 [.d (.str [115, 101, 108, 101, 99, 116])] = some sg_select := by kernel_rfl
def sg_sign : V := (.tuple [(.agg [(.d (.str [115, 105, 103, 110])), (.d (.bool true)), (.d (.bool false)), (.d (.bool false)), (.d (.list [])), (.d (.list [[(.str [105, 110, 116]), (.str []), (.list [])]])), (.d (.str [105, 110, 116])), (.d (.str [])), (.d (.list [])), (.d (.list []))]), (.d (.bool true))])
theorem ks_sign (W : World) : pcT W 40 17 [.d (.str [115, 105, 103, 110])] = some sg_sign := by kernel_rfl
end Fw.Tz
