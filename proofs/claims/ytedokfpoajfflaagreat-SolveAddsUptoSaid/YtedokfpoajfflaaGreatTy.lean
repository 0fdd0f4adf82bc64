/- What the tables of the program say of types. -/
import Derived.Test.YtedokfpoajfflaaGreatProg
import Derived.Test.YtedokfpoajfflaaGreatFacts
import Derived.Test.YtedokfpoajfflaaGreatMore
namespace Go.Proofs.YtedokfpoajfflaaGreat
theorem tyB4:Tryz.prog.underlying 4=some .bool:=by kernel_rfl
theorem tyF26_0:fieldT Tryz.prog 26 0=some 0:=by kernel_rfl
theorem tyF26_1:fieldT Tryz.prog 26 1=some 1:=by kernel_rfl
theorem tyF26_2:fieldT Tryz.prog 26 2=some 2:=by kernel_rfl
theorem tyF31_0:fieldT Tryz.prog 31 0=some 0:=by kernel_rfl
theorem tyF31_1:fieldT Tryz.prog 31 1=some 1:=by kernel_rfl
theorem tyF36_0:fieldT Tryz.prog 36 0=some 0:=by kernel_rfl
theorem tyF36_1:fieldT Tryz.prog 36 1=some 1:=by kernel_rfl
theorem tyF43_0:fieldT Tryz.prog 43 0=some 0:=by kernel_rfl
theorem tyF43_1:fieldT Tryz.prog 43 1=some 1:=by kernel_rfl
theorem tyF47_0:fieldT Tryz.prog 47 0=some 0:=by kernel_rfl
theorem tyF47_1:fieldT Tryz.prog 47 1=some 1:=by kernel_rfl
theorem tyF47_2:fieldT Tryz.prog 47 2=some 2:=by kernel_rfl
theorem tyF82_0:fieldT Tryz.prog 82 0=some 0:=by kernel_rfl
theorem tyF82_1:fieldT Tryz.prog 82 1=some 1:=by kernel_rfl
theorem tyF82_2:fieldT Tryz.prog 82 2=some 2:=by kernel_rfl
theorem tyFP26_1:fieldPT Tryz.prog 26 1=some 1:=by kernel_rfl
theorem tyG26:aggT Tryz.prog 26=some 3:=by kernel_rfl
theorem tyG31:aggT Tryz.prog 31=some 2:=by kernel_rfl
theorem tyG36:aggT Tryz.prog 36=some 2:=by kernel_rfl
theorem tyG43:aggT Tryz.prog 43=some 4:=by kernel_rfl
theorem tyG47:aggT Tryz.prog 47=some 5:=by kernel_rfl
theorem tyI3:intT Tryz.prog 3=some .i64:=by kernel_rfl
theorem tyI5:intT Tryz.prog 5=some .u8:=by kernel_rfl
theorem tyI64:intT Tryz.prog 64=some .u64:=by kernel_rfl
theorem tyI67:intT Tryz.prog 67=some .u32:=by kernel_rfl
theorem tyI90:intT Tryz.prog 90=some .u64:=by kernel_rfl
theorem tyP22:plainT Tryz.prog 22=true:=by kernel_rfl
theorem tyP23:plainT Tryz.prog 23=true:=by kernel_rfl
theorem tyP24:plainT Tryz.prog 24=true:=by kernel_rfl
theorem tyP29:plainT Tryz.prog 29=true:=by kernel_rfl
theorem tyP3:plainT Tryz.prog 3=true:=by kernel_rfl
theorem tyP4:plainT Tryz.prog 4=true:=by kernel_rfl
theorem tyP44:plainT Tryz.prog 44=true:=by kernel_rfl
theorem tyP67:plainT Tryz.prog 67=true:=by kernel_rfl
theorem tyS109:sliceT Tryz.prog 109=some (4,1):=by kernel_rfl
theorem tyS22:sliceT Tryz.prog 22=some (47,5):=by kernel_rfl
theorem tyS23:sliceT Tryz.prog 23=some (26,3):=by kernel_rfl
theorem tyS24:sliceT Tryz.prog 24=some (67,1):=by kernel_rfl
theorem tyS29:sliceT Tryz.prog 29=some (3,1):=by kernel_rfl
theorem tyS44:sliceT Tryz.prog 44=some (43,4):=by kernel_rfl
theorem tyS71:sliceT Tryz.prog 71=some (3,1):=by kernel_rfl
theorem tyStr9:Tryz.prog.underlying 9=some .string:=by kernel_rfl
theorem tyZ26:zeroT Tryz.prog 26=some (.agg #[.bool false,.slice none 0 0,.slice none 0 0],3,56):=by kernel_rfl
theorem tyZ29:zeroT Tryz.prog 29=some (.slice none 0 0,1,24):=by kernel_rfl
theorem tyZ3:zeroT Tryz.prog 3=some (.int .i64 0,1,8):=by kernel_rfl
theorem tyZ31:zeroT Tryz.prog 31=some (.agg #[.slice none 0 0,.slice none 0 0],2,48):=by kernel_rfl
theorem tyZ36:zeroT Tryz.prog 36=some (.agg #[.slice none 0 0,.slice none 0 0],2,48):=by kernel_rfl
theorem tyZ4:zeroT Tryz.prog 4=some (.bool false,1,1):=by kernel_rfl
theorem tyZ43:zeroT Tryz.prog 43=some (.agg #[.int .i64 0,.bool false,.slice none 0 0,.slice none 0 0],4,64):=by kernel_rfl
theorem tyZ47:zeroT Tryz.prog 47=some (.agg #[.int .i64 0,.slice none 0 0,.bool false,.slice none 0 0,.slice none 0 0],5,88):=by kernel_rfl
theorem tyZ67:zeroT Tryz.prog 67=some (.int .u32 0,1,4):=by kernel_rfl
end Go.Proofs.YtedokfpoajfflaaGreat
