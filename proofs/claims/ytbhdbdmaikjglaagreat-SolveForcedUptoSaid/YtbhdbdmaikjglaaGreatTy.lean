/- What the tables of the program say of types. -/
import Derived.Test.YtbhdbdmaikjglaaGreatProg
import Derived.Test.YtbhdbdmaikjglaaGreatFacts
import Derived.Test.YtbhdbdmaikjglaaGreatMore
namespace Go.Proofs.YtbhdbdmaikjglaaGreat
theorem tyB4:Tryz.prog.underlying 4=some .bool:=by kernel_rfl
theorem tyF28_0:fieldT Tryz.prog 28 0=some 0:=by kernel_rfl
theorem tyF28_1:fieldT Tryz.prog 28 1=some 1:=by kernel_rfl
theorem tyF39_0:fieldT Tryz.prog 39 0=some 0:=by kernel_rfl
theorem tyF39_1:fieldT Tryz.prog 39 1=some 1:=by kernel_rfl
theorem tyF39_2:fieldT Tryz.prog 39 2=some 2:=by kernel_rfl
theorem tyF41_0:fieldT Tryz.prog 41 0=some 0:=by kernel_rfl
theorem tyF41_1:fieldT Tryz.prog 41 1=some 1:=by kernel_rfl
theorem tyF41_2:fieldT Tryz.prog 41 2=some 2:=by kernel_rfl
theorem tyF45_0:fieldT Tryz.prog 45 0=some 0:=by kernel_rfl
theorem tyF45_1:fieldT Tryz.prog 45 1=some 1:=by kernel_rfl
theorem tyF76_0:fieldT Tryz.prog 76 0=some 0:=by kernel_rfl
theorem tyF76_1:fieldT Tryz.prog 76 1=some 1:=by kernel_rfl
theorem tyF76_2:fieldT Tryz.prog 76 2=some 2:=by kernel_rfl
theorem tyFP39_1:fieldPT Tryz.prog 39 1=some 1:=by kernel_rfl
theorem tyG28:aggT Tryz.prog 28=some 2:=by kernel_rfl
theorem tyG39:aggT Tryz.prog 39=some 3:=by kernel_rfl
theorem tyG41:aggT Tryz.prog 41=some 5:=by kernel_rfl
theorem tyG45:aggT Tryz.prog 45=some 4:=by kernel_rfl
theorem tyI106:intT Tryz.prog 106=some .u64:=by kernel_rfl
theorem tyI3:intT Tryz.prog 3=some .i64:=by kernel_rfl
theorem tyI5:intT Tryz.prog 5=some .u8:=by kernel_rfl
theorem tyI80:intT Tryz.prog 80=some .u64:=by kernel_rfl
theorem tyI83:intT Tryz.prog 83=some .u32:=by kernel_rfl
theorem tyP22:plainT Tryz.prog 22=true:=by kernel_rfl
theorem tyP23:plainT Tryz.prog 23=true:=by kernel_rfl
theorem tyP26:plainT Tryz.prog 26=true:=by kernel_rfl
theorem tyP3:plainT Tryz.prog 3=true:=by kernel_rfl
theorem tyP36:plainT Tryz.prog 36=true:=by kernel_rfl
theorem tyP37:plainT Tryz.prog 37=true:=by kernel_rfl
theorem tyP4:plainT Tryz.prog 4=true:=by kernel_rfl
theorem tyP83:plainT Tryz.prog 83=true:=by kernel_rfl
theorem tyS22:sliceT Tryz.prog 22=some (41,5):=by kernel_rfl
theorem tyS23:sliceT Tryz.prog 23=some (39,3):=by kernel_rfl
theorem tyS26:sliceT Tryz.prog 26=some (3,1):=by kernel_rfl
theorem tyS36:sliceT Tryz.prog 36=some (45,4):=by kernel_rfl
theorem tyS37:sliceT Tryz.prog 37=some (83,1):=by kernel_rfl
theorem tyS59:sliceT Tryz.prog 59=some (23,1):=by kernel_rfl
theorem tyS66:sliceT Tryz.prog 66=some (3,1):=by kernel_rfl
theorem tyS84:sliceT Tryz.prog 84=some (4,1):=by kernel_rfl
theorem tyStr9:Tryz.prog.underlying 9=some .string:=by kernel_rfl
theorem tyZ23:zeroT Tryz.prog 23=some (.slice none 0 0,1,24):=by kernel_rfl
theorem tyZ26:zeroT Tryz.prog 26=some (.slice none 0 0,1,24):=by kernel_rfl
theorem tyZ28:zeroT Tryz.prog 28=some (.agg #[.slice none 0 0,.slice none 0 0],2,48):=by kernel_rfl
theorem tyZ3:zeroT Tryz.prog 3=some (.int .i64 0,1,8):=by kernel_rfl
theorem tyZ39:zeroT Tryz.prog 39=some (.agg #[.bool false,.slice none 0 0,.slice none 0 0],3,56):=by kernel_rfl
theorem tyZ4:zeroT Tryz.prog 4=some (.bool false,1,1):=by kernel_rfl
theorem tyZ41:zeroT Tryz.prog 41=some (.agg #[.int .i64 0,.slice none 0 0,.bool false,.slice none 0 0,.slice none 0 0],5,88):=by kernel_rfl
theorem tyZ45:zeroT Tryz.prog 45=some (.agg #[.int .i64 0,.bool false,.slice none 0 0,.slice none 0 0],4,64):=by kernel_rfl
theorem tyZ83:zeroT Tryz.prog 83=some (.int .u32 0,1,4):=by kernel_rfl
end Go.Proofs.YtbhdbdmaikjglaaGreat
