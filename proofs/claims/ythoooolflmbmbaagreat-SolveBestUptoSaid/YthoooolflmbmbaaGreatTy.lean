/- What the tables of the program say of types. -/
import Derived.Test.YthoooolflmbmbaaGreatProg
import Derived.Test.YthoooolflmbmbaaGreatFacts
import Derived.Test.YthoooolflmbmbaaGreatMore
namespace Go.Proofs.YthoooolflmbmbaaGreat
theorem tyB4:Tryz.prog.underlying 4=some .bool:=by kernel_rfl
theorem tyF28_0:fieldT Tryz.prog 28 0=some 0:=by kernel_rfl
theorem tyF28_1:fieldT Tryz.prog 28 1=some 1:=by kernel_rfl
theorem tyF33_0:fieldT Tryz.prog 33 0=some 0:=by kernel_rfl
theorem tyF33_1:fieldT Tryz.prog 33 1=some 1:=by kernel_rfl
theorem tyF40_0:fieldT Tryz.prog 40 0=some 0:=by kernel_rfl
theorem tyF40_1:fieldT Tryz.prog 40 1=some 1:=by kernel_rfl
theorem tyF40_2:fieldT Tryz.prog 40 2=some 2:=by kernel_rfl
theorem tyF42_0:fieldT Tryz.prog 42 0=some 0:=by kernel_rfl
theorem tyF42_1:fieldT Tryz.prog 42 1=some 1:=by kernel_rfl
theorem tyF42_2:fieldT Tryz.prog 42 2=some 2:=by kernel_rfl
theorem tyF47_0:fieldT Tryz.prog 47 0=some 0:=by kernel_rfl
theorem tyF47_1:fieldT Tryz.prog 47 1=some 1:=by kernel_rfl
theorem tyF78_0:fieldT Tryz.prog 78 0=some 0:=by kernel_rfl
theorem tyF78_1:fieldT Tryz.prog 78 1=some 1:=by kernel_rfl
theorem tyF78_2:fieldT Tryz.prog 78 2=some 2:=by kernel_rfl
theorem tyFP40_1:fieldPT Tryz.prog 40 1=some 1:=by kernel_rfl
theorem tyG28:aggT Tryz.prog 28=some 2:=by kernel_rfl
theorem tyG33:aggT Tryz.prog 33=some 2:=by kernel_rfl
theorem tyG40:aggT Tryz.prog 40=some 3:=by kernel_rfl
theorem tyG42:aggT Tryz.prog 42=some 5:=by kernel_rfl
theorem tyG47:aggT Tryz.prog 47=some 4:=by kernel_rfl
theorem tyI117:intT Tryz.prog 117=some .u64:=by kernel_rfl
theorem tyI3:intT Tryz.prog 3=some .i64:=by kernel_rfl
theorem tyI5:intT Tryz.prog 5=some .u8:=by kernel_rfl
theorem tyI87:intT Tryz.prog 87=some .u64:=by kernel_rfl
theorem tyI90:intT Tryz.prog 90=some .u32:=by kernel_rfl
theorem tyP22:plainT Tryz.prog 22=true:=by kernel_rfl
theorem tyP23:plainT Tryz.prog 23=true:=by kernel_rfl
theorem tyP26:plainT Tryz.prog 26=true:=by kernel_rfl
theorem tyP3:plainT Tryz.prog 3=true:=by kernel_rfl
theorem tyP37:plainT Tryz.prog 37=true:=by kernel_rfl
theorem tyP38:plainT Tryz.prog 38=true:=by kernel_rfl
theorem tyP4:plainT Tryz.prog 4=true:=by kernel_rfl
theorem tyP90:plainT Tryz.prog 90=true:=by kernel_rfl
theorem Q110:sliceT Tryz.prog 110=some (4,1):=by kernel_rfl
theorem Q22:sliceT Tryz.prog 22=some (42,5):=by kernel_rfl
theorem Q23:sliceT Tryz.prog 23=some (40,3):=by kernel_rfl
theorem Q26:sliceT Tryz.prog 26=some (3,1):=by kernel_rfl
theorem Q37:sliceT Tryz.prog 37=some (47,4):=by kernel_rfl
theorem Q38:sliceT Tryz.prog 38=some (90,1):=by kernel_rfl
theorem Q67:sliceT Tryz.prog 67=some (3,1):=by kernel_rfl
theorem Q92:sliceT Tryz.prog 92=some (23,1):=by kernel_rfl
theorem tyStr9:Tryz.prog.underlying 9=some .string:=by kernel_rfl
theorem tyZ23:zeroT Tryz.prog 23=some (.slice none 0 0,1,24):=by kernel_rfl
theorem tyZ26:zeroT Tryz.prog 26=some (.slice none 0 0,1,24):=by kernel_rfl
theorem tyZ28:zeroT Tryz.prog 28=some (.agg #[.slice none 0 0,.slice none 0 0],2,48):=by kernel_rfl
theorem tyZ3:zeroT Tryz.prog 3=some (.int .i64 0,1,8):=by kernel_rfl
theorem tyZ33:zeroT Tryz.prog 33=some (.agg #[.slice none 0 0,.slice none 0 0],2,48):=by kernel_rfl
theorem tyZ4:zeroT Tryz.prog 4=some (.bool false,1,1):=by kernel_rfl
theorem tyZ40:zeroT Tryz.prog 40=some (.agg #[.bool false,.slice none 0 0,.slice none 0 0],3,56):=by kernel_rfl
theorem tyZ42:zeroT Tryz.prog 42=some (.agg #[.int .i64 0,.slice none 0 0,.bool false,.slice none 0 0,.slice none 0 0],5,88):=by kernel_rfl
theorem tyZ47:zeroT Tryz.prog 47=some (.agg #[.int .i64 0,.bool false,.slice none 0 0,.slice none 0 0],4,64):=by kernel_rfl
theorem tyZ90:zeroT Tryz.prog 90=some (.int .u32 0,1,4):=by kernel_rfl
end Go.Proofs.YthoooolflmbmbaaGreat
