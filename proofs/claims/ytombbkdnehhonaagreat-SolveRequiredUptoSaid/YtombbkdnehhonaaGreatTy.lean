/- What the tables of the program say of types. -/
import Derived.Test.YtombbkdnehhonaaGreatProg
import Derived.Test.YtombbkdnehhonaaGreatFacts
import Derived.Test.YtombbkdnehhonaaGreatMore
namespace Go.Proofs.YtombbkdnehhonaaGreat
theorem tyB4:Tryz.prog.underlying 4=some .bool:=by kernel_rfl
theorem tyF29_0:fieldT Tryz.prog 29 0=some 0:=by kernel_rfl
theorem tyF29_1:fieldT Tryz.prog 29 1=some 1:=by kernel_rfl
theorem tyF29_2:fieldT Tryz.prog 29 2=some 2:=by kernel_rfl
theorem tyF31_0:fieldT Tryz.prog 31 0=some 0:=by kernel_rfl
theorem tyF31_1:fieldT Tryz.prog 31 1=some 1:=by kernel_rfl
theorem tyF31_2:fieldT Tryz.prog 31 2=some 2:=by kernel_rfl
theorem tyF34_0:fieldT Tryz.prog 34 0=some 0:=by kernel_rfl
theorem tyF34_1:fieldT Tryz.prog 34 1=some 1:=by kernel_rfl
theorem tyF39_0:fieldT Tryz.prog 39 0=some 0:=by kernel_rfl
theorem tyF39_1:fieldT Tryz.prog 39 1=some 1:=by kernel_rfl
theorem tyF46_0:fieldT Tryz.prog 46 0=some 0:=by kernel_rfl
theorem tyF46_1:fieldT Tryz.prog 46 1=some 1:=by kernel_rfl
theorem tyF76_0:fieldT Tryz.prog 76 0=some 0:=by kernel_rfl
theorem tyF76_1:fieldT Tryz.prog 76 1=some 1:=by kernel_rfl
theorem tyF76_2:fieldT Tryz.prog 76 2=some 2:=by kernel_rfl
theorem tyFP29_1:fieldPT Tryz.prog 29 1=some 1:=by kernel_rfl
theorem tyG29:aggT Tryz.prog 29=some 3:=by kernel_rfl
theorem tyG31:aggT Tryz.prog 31=some 5:=by kernel_rfl
theorem tyG34:aggT Tryz.prog 34=some 2:=by kernel_rfl
theorem tyG39:aggT Tryz.prog 39=some 2:=by kernel_rfl
theorem tyG46:aggT Tryz.prog 46=some 4:=by kernel_rfl
theorem tyI117:intT Tryz.prog 117=some .u64:=by kernel_rfl
theorem tyI3:intT Tryz.prog 3=some .i64:=by kernel_rfl
theorem tyI5:intT Tryz.prog 5=some .u8:=by kernel_rfl
theorem tyI85:intT Tryz.prog 85=some .u64:=by kernel_rfl
theorem tyI88:intT Tryz.prog 88=some .u32:=by kernel_rfl
theorem tyP22:plainT Tryz.prog 22=true:=by kernel_rfl
theorem tyP23:plainT Tryz.prog 23=true:=by kernel_rfl
theorem tyP26:plainT Tryz.prog 26=true:=by kernel_rfl
theorem tyP27:plainT Tryz.prog 27=true:=by kernel_rfl
theorem tyP3:plainT Tryz.prog 3=true:=by kernel_rfl
theorem tyP32:plainT Tryz.prog 32=true:=by kernel_rfl
theorem tyP4:plainT Tryz.prog 4=true:=by kernel_rfl
theorem tyP88:plainT Tryz.prog 88=true:=by kernel_rfl
theorem tyS109:sliceT Tryz.prog 109=some (4,1):=by kernel_rfl
theorem tyS22:sliceT Tryz.prog 22=some (31,5):=by kernel_rfl
theorem tyS23:sliceT Tryz.prog 23=some (29,3):=by kernel_rfl
theorem tyS26:sliceT Tryz.prog 26=some (46,4):=by kernel_rfl
theorem tyS27:sliceT Tryz.prog 27=some (88,1):=by kernel_rfl
theorem tyS32:sliceT Tryz.prog 32=some (3,1):=by kernel_rfl
theorem tyS59:sliceT Tryz.prog 59=some (23,1):=by kernel_rfl
theorem tyS65:sliceT Tryz.prog 65=some (3,1):=by kernel_rfl
theorem tyStr9:Tryz.prog.underlying 9=some .string:=by kernel_rfl
theorem tyZ23:zeroT Tryz.prog 23=some (.slice none 0 0,1,24):=by kernel_rfl
theorem tyZ29:zeroT Tryz.prog 29=some (.agg #[.bool false,.slice none 0 0,.slice none 0 0],3,56):=by kernel_rfl
theorem tyZ3:zeroT Tryz.prog 3=some (.int .i64 0,1,8):=by kernel_rfl
theorem tyZ31:zeroT Tryz.prog 31=some (.agg #[.int .i64 0,.slice none 0 0,.bool false,.slice none 0 0,.slice none 0 0],5,88):=by kernel_rfl
theorem tyZ32:zeroT Tryz.prog 32=some (.slice none 0 0,1,24):=by kernel_rfl
theorem tyZ34:zeroT Tryz.prog 34=some (.agg #[.slice none 0 0,.slice none 0 0],2,48):=by kernel_rfl
theorem tyZ39:zeroT Tryz.prog 39=some (.agg #[.slice none 0 0,.slice none 0 0],2,48):=by kernel_rfl
theorem tyZ4:zeroT Tryz.prog 4=some (.bool false,1,1):=by kernel_rfl
theorem tyZ46:zeroT Tryz.prog 46=some (.agg #[.int .i64 0,.bool false,.slice none 0 0,.slice none 0 0],4,64):=by kernel_rfl
theorem tyZ88:zeroT Tryz.prog 88=some (.int .u32 0,1,4):=by kernel_rfl
end Go.Proofs.YtombbkdnehhonaaGreat
