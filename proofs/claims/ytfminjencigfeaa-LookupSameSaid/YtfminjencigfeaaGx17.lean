/- Written by a program of this session for this seat: contracts of the functions that its laws reach, or the row of a law over its plain part. -/
import Derived.Test.YtfminjencigfeaaGx0
import Derived.Test.YtfminjencigfeaaGx1
import Derived.Test.YtfminjencigfeaaGx2
import Derived.Test.YtfminjencigfeaaGx4
import Derived.Test.YtfminjencigfeaaGx6
import Derived.Test.YtfminjencigfeaaGx7
import Derived.Test.YtfminjencigfeaaGx20
namespace Go.Proofs.Ytfminjencigfeaa.G
open Go.RowKit Go.Proofs.YtfminjencigfeaaW.PrintWords Go.Proofs.YtfminjencigfeaaW.PrintLast Go.Proofs.YtfminjencigfeaaW.PrintMore
attribute [local go_sem] max2_int min2_int max_two min_two max_three min_three max_four min_four   -- for this text's walks alone
set_option linter.unusedVariables false
set_option linter.unusedSimpArgs false

attribute [local go_sem high] eqA33 eqA42
/-! ### zoneinfolaw23_LookupSame: function 6 -/
mutual
abbrev mk17_0_ : Array Bool := #[false, false, false, false, false, false, false, false, false, false, false, false, false, false, false, false, false, false, false, false, false, false, false, false, false, false, false, false, false, false, false, false, false, false, false]
abbrev mk17_1_ : Array Bool := #[false, true, false, false, false, false, false, false, false, false, false, false, false, false, false, false, false, false, false, false, false, false, false, false, false, false, false, false, false, false, false, false, false, false, false]
abbrev mk17_2_ : Array Bool := #[false, true, true, false, false, false, false, false, false, false, false, false, false, false, false, false, false, false, false, false, false, false, false, false, false, false, false, false, false, false, false, false, false, false, false]
abbrev mk17_3_ : Array Bool := #[true, true, true, false, false, false, false, false, false, false, false, false, false, false, false, false, false, false, false, false, false, false, false, false, false, false, false, false, false, false, false, false, false, false, false]
abbrev mk17_4_ : Array Bool := #[true, true, true, true, false, false, false, false, false, false, false, false, false, false, false, false, false, false, false, false, false, false, false, false, false, false, false, false, false, false, false, false, false, false, false]
abbrev mk17_5_ : Array Bool := #[true, true, true, true, true, false, false, false, false, false, false, false, false, false, false, false, false, false, false, false, false, false, false, false, false, false, false, false, false, false, false, false, false, false, false]
abbrev mk17_6_ : Array Bool := #[true, true, true, true, true, true, false, false, false, false, false, false, false, false, false, false, false, false, false, false, false, false, false, false, false, false, false, false, false, false, false, false, false, false, false]
abbrev mk17_7_ : Array Bool := #[true, true, true, true, true, true, false, true, false, false, false, false, false, false, false, false, false, false, false, false, false, false, false, false, false, false, false, false, false, false, false, false, false, false, false]
abbrev mk17_8_ : Array Bool := #[true, true, true, true, true, true, false, true, true, false, false, false, false, false, false, false, false, false, false, false, false, false, false, false, false, false, false, false, false, false, false, false, false, false, false]
abbrev mk17_9_ : Array Bool := #[true, true, true, true, true, true, false, true, true, false, false, true, false, false, false, false, false, false, false, false, false, false, false, false, false, false, false, false, false, false, false, false, false, false, false]
abbrev mk17_10_ : Array Bool := #[true, true, true, true, true, true, false, true, true, false, false, true, true, false, false, false, false, false, false, false, false, false, false, false, false, false, false, false, false, false, false, false, false, false, false]
abbrev mk17_11_ : Array Bool := #[true, true, true, true, true, true, true, true, true, false, false, true, true, false, false, false, false, false, false, false, false, false, false, false, false, false, false, false, false, false, false, false, false, false, false]
abbrev mk17_12_ : Array Bool := #[true, true, true, true, true, true, true, true, true, false, true, true, true, false, false, false, false, false, false, false, false, false, false, false, false, false, false, false, false, false, false, false, false, false, false]
abbrev mk17_13_ : Array Bool := #[true, true, true, true, true, true, true, true, true, true, true, true, true, false, false, false, false, false, false, false, false, false, false, false, false, false, false, false, false, false, false, false, false, false, false]
abbrev mk17_14_ : Array Bool := #[true, true, true, true, true, true, true, true, true, true, true, true, true, true, false, false, false, false, false, false, false, false, false, false, false, false, false, false, false, false, false, false, false, false, false]
abbrev mk17_15_ : Array Bool := #[true, true, true, true, true, true, true, true, true, true, true, true, true, true, true, false, false, false, false, false, false, false, false, false, false, false, false, false, false, false, false, false, false, false, false]
abbrev mk17_16_ : Array Bool := #[true, true, true, true, true, true, true, true, true, true, true, true, true, true, true, true, false, false, false, false, false, false, false, false, false, false, false, false, false, false, false, false, false, false, false]
abbrev mk17_17_ : Array Bool := #[true, true, true, true, true, true, true, true, true, true, true, true, true, true, true, true, true, false, false, false, false, false, false, false, false, false, false, false, false, false, false, false, false, false, false]
abbrev mk17_18_ : Array Bool := #[true, true, true, true, true, true, true, true, true, true, true, true, true, true, true, true, true, true, false, false, false, false, false, false, false, false, false, false, false, false, false, false, false, false, false]
abbrev mk17_19_ : Array Bool := #[true, true, true, true, true, true, true, true, true, true, true, true, true, true, true, true, true, true, true, false, false, false, false, false, false, false, false, false, false, false, false, false, false, false, false]
abbrev mk17_20_ : Array Bool := #[true, true, true, true, true, true, true, true, true, true, true, true, true, true, true, true, true, true, true, true, false, false, false, false, false, false, false, false, false, false, false, false, false, false, false]
abbrev mk17_21_ : Array Bool := #[true, true, true, true, true, true, true, true, true, true, true, true, true, true, true, true, true, true, true, true, true, false, false, false, false, false, false, false, false, false, false, false, false, false, false]
abbrev mk17_22_ : Array Bool := #[true, true, true, true, true, true, true, true, true, true, true, true, true, true, true, true, true, true, true, true, true, true, false, false, false, false, false, false, false, false, false, false, false, false, false]
abbrev mk17_23_ : Array Bool := #[true, true, true, true, true, true, true, true, true, true, true, true, true, true, true, true, true, true, true, true, true, true, true, false, false, false, false, false, false, false, false, false, false, false, false]
abbrev mk17_24_ : Array Bool := #[true, true, true, true, true, true, true, true, true, true, true, true, true, true, true, true, true, true, true, true, true, true, true, true, false, false, false, false, false, false, false, false, false, false, false]
abbrev mk17_25_ : Array Bool := #[true, true, true, true, true, true, true, true, true, true, true, true, true, true, true, true, true, true, true, true, true, true, true, true, true, false, false, false, false, false, false, false, false, false, false]
abbrev mk17_26_ : Array Bool := #[true, true, true, true, true, true, true, true, true, true, true, true, true, true, true, true, true, true, true, true, true, true, true, true, true, true, false, false, false, false, false, false, false, false, false]
abbrev mk17_27_ : Array Bool := #[true, true, true, true, true, true, true, true, true, true, true, true, true, true, true, true, true, true, true, true, true, true, true, true, true, true, true, false, false, false, false, false, false, false, false]
abbrev mk17_28_ : Array Bool := #[true, true, true, true, true, true, true, true, true, true, true, true, true, true, true, true, true, true, true, true, true, true, true, true, true, true, true, true, false, false, false, false, false, false, false]
abbrev mk17_29_ : Array Bool := #[true, true, true, true, true, true, true, true, true, true, true, true, true, true, true, true, true, true, true, true, true, true, true, true, true, true, true, true, true, false, false, false, false, false, false]
abbrev mk17_30_ : Array Bool := #[true, true, true, true, true, true, true, true, true, true, true, true, true, true, true, true, true, true, true, true, true, true, true, true, true, true, true, true, true, true, false, false, false, false, false]
abbrev mk17_31_ : Array Bool := #[true, true, true, true, true, true, true, true, true, true, true, true, true, true, true, true, true, true, true, true, true, true, true, true, true, true, true, true, true, true, true, false, false, false, false]
abbrev mk17_32_ : Array Bool := #[true, true, true, true, true, true, true, true, true, true, true, true, true, true, true, true, true, true, true, true, true, true, true, true, true, true, true, true, true, true, true, true, false, false, false]
abbrev mk17_33_ : Array Bool := #[true, true, true, true, true, true, true, true, true, true, true, true, true, true, true, true, true, true, true, true, true, true, true, true, true, true, true, true, true, true, true, true, true, false, false]
abbrev mk17_34_ : Array Bool := #[true, true, true, true, true, true, true, true, true, true, true, true, true, true, true, true, true, true, true, true, true, true, true, true, true, true, true, true, true, true, true, true, true, true, false]
abbrev mk17_35_ : Array Bool := #[true, true, true, true, true, true, true, true, true, true, true, true, true, true, true, true, true, true, true, true, true, true, true, true, true, true, true, true, true, true, true, true, true, true, true]
abbrev mk17_36_ : Array Bool := #[true, true, true, true, true, true, true, true, true, true, true, true, true, true, true, true, true, false, true, false, false, false, false, false, false, false, false, false, false, false, false, false, false, false, false]
abbrev mk17_37_ : Array Bool := #[true, true, true, true, true, true, true, true, true, true, true, true, true, true, true, true, true, false, true, true, false, false, false, false, false, false, false, false, false, false, false, false, false, false, false]
abbrev mk17_38_ : Array Bool := #[true, true, true, true, true, true, true, true, true, true, true, true, true, true, true, true, true, true, true, true, true, true, false, true, false, false, false, false, false, false, false, false, false, false, false]
abbrev mk17_39_ : Array Bool := #[true, true, true, true, true, true, true, true, true, true, true, true, true, true, true, true, true, true, true, true, true, true, false, true, true, false, false, false, false, false, false, false, false, false, false]
abbrev mk17_40_ : Array Bool := #[false, false, false, false, false, false, false, false, false, false, false, false, false, false, false, false, false, false]
abbrev mk17_41_ : Array Bool := #[true, false, false, false, false, false, false, false, false, false, false, false, false, false, false, false, false, false]
abbrev mk17_42_ : Array Bool := #[true, false, true, false, false, false, false, false, false, false, false, false, false, false, false, false, false, false]
abbrev mk17_43_ : Array Bool := #[true, false, true, false, false, true, false, false, false, false, false, false, false, false, false, false, false, false]
abbrev mk17_44_ : Array Bool := #[true, false, true, false, false, true, false, true, false, false, false, false, false, false, false, false, false, false]
abbrev mk17_45_ : Array Bool := #[true, true, true, false, false, true, false, true, false, false, false, false, false, false, false, false, false, false]
abbrev mk17_46_ : Array Bool := #[true, true, true, true, false, true, false, true, false, false, false, false, false, false, false, false, false, false]
abbrev mk17_47_ : Array Bool := #[true, true, true, true, true, true, false, true, false, false, false, false, false, false, false, false, false, false]
abbrev mk17_48_ : Array Bool := #[true, true, true, true, true, true, true, true, false, false, false, false, false, false, false, false, false, false]
abbrev mk17_49_ : Array Bool := #[true, true, true, true, true, true, true, true, true, false, false, false, false, false, false, false, false, false]
abbrev mk17_50_ : Array Bool := #[true, true, true, true, true, true, true, true, true, true, false, false, false, false, false, false, false, false]
abbrev mk17_51_ : Array Bool := #[true, true, true, true, true, true, true, true, true, true, true, false, false, false, false, false, false, false]
abbrev mk17_52_ : Array Bool := #[true, true, true, true, true, true, true, true, true, true, true, true, false, false, false, false, false, false]
abbrev mk17_53_ : Array Bool := #[true, true, true, true, true, true, true, true, true, true, true, true, true, true, true, false, false, false]
abbrev mk17_54_ : Array Bool := #[true, true, true, true, true, true, true, true, true, true, true, true, true, true, true, true, false, false]
abbrev mk17_55_ : Array Bool := #[true, true, true, true, true, true, true, true, true, true, true, true, true, true, true, true, true, false]
abbrev mk17_56_ : Array Bool := #[true, true, true, true, true, true, true, true, true, true, true, true, true, true, true, true, true, true]
abbrev mk17_57_ : Array Bool := #[false, false, false, false, false, false, false, false, false, false, false, false, false, false, false, false, false, false, false, false, false, false, false, false, false, false, false, false, false, false, false, false, false, false]
abbrev mk17_58_ : Array Bool := #[false, true, false, false, false, false, false, false, false, false, false, false, false, false, false, false, false, false, false, false, false, false, false, false, false, false, false, false, false, false, false, false, false, false]
abbrev mk17_59_ : Array Bool := #[false, true, true, false, false, false, false, false, false, false, false, false, false, false, false, false, false, false, false, false, false, false, false, false, false, false, false, false, false, false, false, false, false, false]
abbrev mk17_60_ : Array Bool := #[true, true, true, false, false, false, false, false, false, false, false, false, false, false, false, false, false, false, false, false, false, false, false, false, false, false, false, false, false, false, false, false, false, false]
abbrev mk17_61_ : Array Bool := #[true, true, true, true, false, false, false, false, false, false, false, false, false, false, false, false, false, false, false, false, false, false, false, false, false, false, false, false, false, false, false, false, false, false]
abbrev mk17_62_ : Array Bool := #[true, true, true, true, true, false, false, false, false, false, false, false, false, false, false, false, false, false, false, false, false, false, false, false, false, false, false, false, false, false, false, false, false, false]
abbrev mk17_63_ : Array Bool := #[true, true, true, true, true, true, false, false, false, false, false, false, false, false, false, false, false, false, false, false, false, false, false, false, false, false, false, false, false, false, false, false, false, false]
abbrev mk17_64_ : Array Bool := #[true, true, true, true, true, true, true, true, true, true, true, false, false, false, false, false, false, false, false, false, false, false, false, false, false, false, false, false, false, false, false, false, false, false]
abbrev mk17_65_ : Array Bool := #[true, true, true, true, true, true, true, true, true, true, true, true, false, false, false, false, false, false, false, false, false, false, false, false, false, false, false, false, false, false, false, false, false, false]
abbrev mk17_66_ : Array Bool := #[true, true, true, true, true, true, true, true, true, true, true, true, true, false, false, false, false, false, false, false, false, false, false, false, false, false, false, false, false, false, false, false, false, false]
abbrev mk17_67_ : Array Bool := #[true, true, true, true, true, true, true, true, true, true, true, true, true, true, false, false, false, false, false, false, false, false, false, false, false, false, false, false, false, false, false, false, false, false]
abbrev mk17_68_ : Array Bool := #[true, true, true, true, true, true, true, true, true, true, true, true, true, true, true, false, false, false, false, false, false, false, false, false, false, false, false, false, false, false, false, false, false, false]
abbrev mk17_69_ : Array Bool := #[true, true, true, true, true, true, true, true, true, true, true, true, true, true, true, false, true, false, false, false, false, false, false, false, false, false, false, false, false, false, false, false, false, false]
abbrev mk17_70_ : Array Bool := #[true, true, true, true, true, true, true, true, true, true, true, true, true, true, true, false, true, true, false, false, false, false, false, false, false, false, false, false, false, false, false, false, false, false]
abbrev mk17_71_ : Array Bool := #[true, true, true, true, true, true, true, true, true, true, true, true, true, true, true, true, true, true, false, false, false, false, false, false, false, false, false, false, false, false, false, false, false, false]
abbrev mk17_72_ : Array Bool := #[true, true, true, true, true, true, true, true, true, true, true, true, true, true, true, true, true, true, true, false, false, false, false, false, false, false, false, false, false, false, false, false, false, false]
abbrev mk17_73_ : Array Bool := #[true, true, true, true, true, true, true, true, true, true, true, true, true, true, true, true, true, true, true, true, false, false, false, false, false, false, false, false, false, false, false, false, false, false]
abbrev mk17_74_ : Array Bool := #[true, true, true, true, true, true, true, true, true, true, true, true, true, true, true, true, true, true, true, true, true, false, false, false, false, false, false, false, false, false, false, false, false, false]
abbrev mk17_75_ : Array Bool := #[true, true, true, true, true, true, true, true, true, true, true, true, true, true, true, true, true, true, true, true, true, true, true, true, true, true, true, true, false, false, false, false, false, false]
abbrev mk17_76_ : Array Bool := #[true, true, true, true, true, true, true, true, true, true, true, true, true, true, true, true, true, true, true, true, true, true, true, true, true, true, true, true, true, false, false, false, false, false]
abbrev mk17_77_ : Array Bool := #[true, true, true, true, true, true, true, true, true, true, true, true, true, true, true, true, true, true, true, true, true, true, true, true, true, true, true, true, true, true, false, false, false, false]
abbrev mk17_78_ : Array Bool := #[true, true, true, true, true, true, true, true, true, true, true, true, true, true, true, true, true, true, true, true, true, true, true, true, true, true, true, true, true, true, true, false, false, false]
abbrev mk17_79_ : Array Bool := #[true, true, true, true, true, true, true, true, true, true, true, true, true, true, true, true, true, true, true, true, true, true, true, true, true, true, true, true, true, true, true, true, false, false]
abbrev mk17_80_ : Array Bool := #[true, true, true, true, true, true, true, true, true, true, true, true, true, true, true, true, true, true, true, true, true, true, true, true, true, true, true, true, true, true, true, true, true, false]
abbrev mk17_81_ : Array Bool := #[true, true, true, true, true, true, true, true, true, true, true, true, true, true, true, true, true, true, true, true, true, true, true, true, true, true, true, true, true, true, true, true, true, true]
def zoneinfolaw23_LookupSame.j0 : Nat → Int → Int → Int → Bool → List Int → List Int → List (S42) → List Int → List (S55) → List Bool → List Bool → Option (Bool)
  | 0, _, _, _, _, _, _, _, _, _, _, _ => none
  | k + 1, x1, x2, x3, x18, x304000, x304001, x304002, x304003, x304004, x304005, x304006 => if x18 = true then ((zoneinfolaw23_awake.f k).bind fun t306 => (some t306)) else (if (x304002.length : Int) = 0 then (none) else ((lookup_Same.f x304000 x304001 x304002 x304003 x304004 x304005 x304006 (Int.tmod (wrap64 (x1)) (x304002.length : Int)) (Int.tmod (wrap64 (x1)) (x304002.length : Int))).bind fun t307 => (if t307 = true then ((lookup_Same.f x304000 x304001 x304002 x304003 x304004 x304005 x304006 (Int.tmod (wrap64 (x1)) (x304002.length : Int)) (Int.tmod (wrap64 (x2)) (x304002.length : Int))).bind fun t308 => ((lookup_Same.f x304000 x304001 x304002 x304003 x304004 x304005 x304006 (Int.tmod (wrap64 (x2)) (x304002.length : Int)) (Int.tmod (wrap64 (x1)) (x304002.length : Int))).bind fun t309 => (if (t308 != t309) = true then (zoneinfolaw23_LookupSame.j1 k (Int.tmod (wrap64 (x1)) (x304002.length : Int)) (Int.tmod (wrap64 (x2)) (x304002.length : Int)) true x304000 x304001 x304002 x304003 x304004 x304005 x304006) else ((lookup_Same.f x304000 x304001 x304002 x304003 x304004 x304005 x304006 (Int.tmod (wrap64 (x1)) (x304002.length : Int)) (Int.tmod (wrap64 (x2)) (x304002.length : Int))).bind fun t310 => (if t310 = true then ((lookup_Same.f x304000 x304001 x304002 x304003 x304004 x304005 x304006 (Int.tmod (wrap64 (x2)) (x304002.length : Int)) (Int.tmod (wrap64 (x3)) (x304002.length : Int))).bind fun t311 => (if t311 = true then ((lookup_Same.f x304000 x304001 x304002 x304003 x304004 x304005 x304006 (Int.tmod (wrap64 (x1)) (x304002.length : Int)) (Int.tmod (wrap64 (x3)) (x304002.length : Int))).bind fun t312 => (zoneinfolaw23_LookupSame.j1 k (Int.tmod (wrap64 (x1)) (x304002.length : Int)) (Int.tmod (wrap64 (x2)) (x304002.length : Int)) (!t312) x304000 x304001 x304002 x304003 x304004 x304005 x304006)) else (zoneinfolaw23_LookupSame.j1 k (Int.tmod (wrap64 (x1)) (x304002.length : Int)) (Int.tmod (wrap64 (x2)) (x304002.length : Int)) false x304000 x304001 x304002 x304003 x304004 x304005 x304006))) else (zoneinfolaw23_LookupSame.j1 k (Int.tmod (wrap64 (x1)) (x304002.length : Int)) (Int.tmod (wrap64 (x2)) (x304002.length : Int)) false x304000 x304001 x304002 x304003 x304004 x304005 x304006)))))) else (zoneinfolaw23_LookupSame.j1 k (Int.tmod (wrap64 (x1)) (x304002.length : Int)) (Int.tmod (wrap64 (x2)) (x304002.length : Int)) true x304000 x304001 x304002 x304003 x304004 x304005 x304006))))
def zoneinfolaw23_LookupSame.j1 : Nat → Int → Int → Bool → List Int → List Int → List (S42) → List Int → List (S55) → List Bool → List Bool → Option (Bool)
  | 0, _, _, _, _, _, _, _, _, _, _ => none
  | k + 1, x9, x10, x72, x304000, x304001, x304002, x304003, x304004, x304005, x304006 => if x72 = true then (none) else (if 0 ≤ x9 then (if x9 < (x304002.length : Int) then (if 0 ≤ x10 then (if x10 < (x304002.length : Int) then (if (((rd_T42 x304002 x9).f0) == ((rd_T42 x304002 x10).f0) && (((rd_T42 x304002 x9).f1) == ((rd_T42 x304002 x10).f1) && (((rd_T42 x304002 x9).f2) == ((rd_T42 x304002 x10).f2)))) = true then ((lookup_Same.f x304000 x304001 x304002 x304003 x304004 x304005 x304006 x9 x10).bind fun t315 => (zoneinfolaw23_LookupSame.j2 k x9 x10 (!t315) x304000 x304001 x304002 x304003 x304004 x304005 x304006)) else (zoneinfolaw23_LookupSame.j2 k x9 x10 false x304000 x304001 x304002 x304003 x304004 x304005 x304006)) else (none)) else (none)) else (none)) else (none))
def zoneinfolaw23_LookupSame.j2 : Nat → Int → Int → Bool → List Int → List Int → List (S42) → List Int → List (S55) → List Bool → List Bool → Option (Bool)
  | 0, _, _, _, _, _, _, _, _, _, _ => none
  | k + 1, x9, x10, x90, x304000, x304001, x304002, x304003, x304004, x304005, x304006 => if x90 = true then (none) else ((lookup_Same.f x304000 x304001 x304002 x304003 x304004 x304005 x304006 x9 x10).bind fun t316 => (if t316 = true then ((lookup_TypeResult.f x304000 x304001 x304002 x304003 x304004 x304005 x304006 x9).bind fun bt317 => ((lookup_TypeResult.f x304000 x304001 x304002 x304003 x304004 x304005 x304006 x10).bind fun bt321 => (if (bt317.1 == bt321.1 && (bt317.2.1 == bt321.2.1 && (bt317.2.2.1 == bt321.2.2.1 && (bt317.2.2.2.toList == bt321.2.2.2.toList)))) = true then ((lookup_Same.f x304000 x304001 x304002 x304003 x304004 x304005 x304006 x9 x10).bind fun t325 => (if t325 = true then (some true) else (if 0 ≤ x9 then (if x9 < (x304002.length : Int) then (if 0 ≤ x10 then (if x10 < (x304002.length : Int) then (some (!(((rd_T42 x304002 x9).f0) == ((rd_T42 x304002 x10).f0)) || (!(((rd_T42 x304002 x9).f1) == ((rd_T42 x304002 x10).f1)) || (!(((rd_T42 x304002 x9).f2) == ((rd_T42 x304002 x10).f2)))))) else (none)) else (none)) else (none)) else (none)))) else (none)))) else ((lookup_Same.f x304000 x304001 x304002 x304003 x304004 x304005 x304006 x9 x10).bind fun t328 => (if t328 = true then (some true) else (if 0 ≤ x9 then (if x9 < (x304002.length : Int) then (if 0 ≤ x10 then (if x10 < (x304002.length : Int) then (some (!(((rd_T42 x304002 x9).f0) == ((rd_T42 x304002 x10).f0)) || (!(((rd_T42 x304002 x9).f1) == ((rd_T42 x304002 x10).f1)) || (!(((rd_T42 x304002 x9).f2) == ((rd_T42 x304002 x10).f2)))))) else (none)) else (none)) else (none)) else (none))))))
end
def zoneinfolaw23_LookupSame.f (k : Nat) (l0_0 : List Int) (l0_1 : List Int) (l0_2 : List (S42)) (l0_3 : List Int) (l0_4 : List (S55)) (l0_5 : List Bool) (l0_6 : List Bool) (a1 : Int) (a2 : Int) (a3 : Int) : Option (Bool) := (zoneinfolaw23_awake.f k).bind fun t304 => (if t304 = true then ((zoneinfolaw23_valid.f k l0_0 l0_1 l0_2 l0_3 l0_4 l0_5 l0_6).bind fun t305 => (zoneinfolaw23_LookupSame.j0 k a1 a2 a3 (!t305) l0_0 l0_1 l0_2 l0_3 l0_4 l0_5 l0_6)) else (zoneinfolaw23_LookupSame.j0 k a1 a2 a3 true l0_0 l0_1 l0_2 l0_3 l0_4 l0_5 l0_6))
theorem zoneinfolaw23_LookupSame.mono_l : ∀ k, (∀ y0 y1 y2 y3 y4 y5 y6 y7 y8 y9 y10, LeO (zoneinfolaw23_LookupSame.j0 k y0 y1 y2 y3 y4 y5 y6 y7 y8 y9 y10) (zoneinfolaw23_LookupSame.j0 (k + 1) y0 y1 y2 y3 y4 y5 y6 y7 y8 y9 y10)) ∧ (∀ y0 y1 y2 y3 y4 y5 y6 y7 y8 y9, LeO (zoneinfolaw23_LookupSame.j1 k y0 y1 y2 y3 y4 y5 y6 y7 y8 y9) (zoneinfolaw23_LookupSame.j1 (k + 1) y0 y1 y2 y3 y4 y5 y6 y7 y8 y9)) ∧ (∀ y0 y1 y2 y3 y4 y5 y6 y7 y8 y9, LeO (zoneinfolaw23_LookupSame.j2 k y0 y1 y2 y3 y4 y5 y6 y7 y8 y9) (zoneinfolaw23_LookupSame.j2 (k + 1) y0 y1 y2 y3 y4 y5 y6 y7 y8 y9))
  | 0 => ⟨fun _ _ _ _ _ _ _ _ _ _ _ r h => by simp [zoneinfolaw23_LookupSame.j0] at h, fun _ _ _ _ _ _ _ _ _ _ r h => by simp [zoneinfolaw23_LookupSame.j1] at h, fun _ _ _ _ _ _ _ _ _ _ r h => by simp [zoneinfolaw23_LookupSame.j2] at h⟩
  | k + 1 => by
    obtain ⟨ih0, ih1, ih2⟩ := zoneinfolaw23_LookupSame.mono_l k; refine ⟨?_, ?_, ?_⟩
    · intro y0 y1 y2 y3 y4 y5 y6 y7 y8 y9 y10
      unfold zoneinfolaw23_LookupSame.j0
      repeat' first
      | (with_reducible exact ih0 _ _ _ _ _ _ _ _ _ _ _)
      | (with_reducible exact ih1 _ _ _ _ _ _ _ _ _ _)
      | (with_reducible exact ih2 _ _ _ _ _ _ _ _ _ _)
      | (with_reducible exact zoneinfolaw23_awake.mono _)
      | (with_reducible exact zoneinfolaw23_valid.mono _ _ _ _ _ _ _ _)
      | (with_reducible exact LeO.refl _)
      | (with_reducible exact LeO.none _)
      | (with_reducible refine LeO.ite ?_ ?_)
      | (with_reducible refine LeO.bind ?_ (fun _ => ?_))
      | exact ih0 _ _ _ _ _ _ _ _ _ _ _
      | exact ih1 _ _ _ _ _ _ _ _ _ _
      | exact ih2 _ _ _ _ _ _ _ _ _ _
      | exact zoneinfolaw23_awake.mono _
      | exact zoneinfolaw23_valid.mono _ _ _ _ _ _ _ _
      | exact LeO.none _
      | refine LeO.ite ?_ ?_
      | refine LeO.bind ?_ (fun _ => ?_)
    · intro y0 y1 y2 y3 y4 y5 y6 y7 y8 y9
      unfold zoneinfolaw23_LookupSame.j1
      repeat' first
      | (with_reducible exact ih0 _ _ _ _ _ _ _ _ _ _ _)
      | (with_reducible exact ih1 _ _ _ _ _ _ _ _ _ _)
      | (with_reducible exact ih2 _ _ _ _ _ _ _ _ _ _)
      | (with_reducible exact zoneinfolaw23_awake.mono _)
      | (with_reducible exact zoneinfolaw23_valid.mono _ _ _ _ _ _ _ _)
      | (with_reducible exact LeO.refl _)
      | (with_reducible exact LeO.none _)
      | (with_reducible refine LeO.ite ?_ ?_)
      | (with_reducible refine LeO.bind ?_ (fun _ => ?_))
      | exact ih0 _ _ _ _ _ _ _ _ _ _ _
      | exact ih1 _ _ _ _ _ _ _ _ _ _
      | exact ih2 _ _ _ _ _ _ _ _ _ _
      | exact zoneinfolaw23_awake.mono _
      | exact zoneinfolaw23_valid.mono _ _ _ _ _ _ _ _
      | exact LeO.none _
      | refine LeO.ite ?_ ?_
      | refine LeO.bind ?_ (fun _ => ?_)
    · intro y0 y1 y2 y3 y4 y5 y6 y7 y8 y9
      unfold zoneinfolaw23_LookupSame.j2
      repeat' first
      | (with_reducible exact ih0 _ _ _ _ _ _ _ _ _ _ _)
      | (with_reducible exact ih1 _ _ _ _ _ _ _ _ _ _)
      | (with_reducible exact ih2 _ _ _ _ _ _ _ _ _ _)
      | (with_reducible exact zoneinfolaw23_awake.mono _)
      | (with_reducible exact zoneinfolaw23_valid.mono _ _ _ _ _ _ _ _)
      | (with_reducible exact LeO.refl _)
      | (with_reducible exact LeO.none _)
      | (with_reducible refine LeO.ite ?_ ?_)
      | (with_reducible refine LeO.bind ?_ (fun _ => ?_))
      | exact ih0 _ _ _ _ _ _ _ _ _ _ _
      | exact ih1 _ _ _ _ _ _ _ _ _ _
      | exact ih2 _ _ _ _ _ _ _ _ _ _
      | exact zoneinfolaw23_awake.mono _
      | exact zoneinfolaw23_valid.mono _ _ _ _ _ _ _ _
      | exact LeO.none _
      | refine LeO.ite ?_ ?_
      | refine LeO.bind ?_ (fun _ => ?_)
theorem zoneinfolaw23_LookupSame.mono : ∀ a0 a1 a2 a3 a4 a5 a6 a7 a8 a9 k, LeO (zoneinfolaw23_LookupSame.f k a0 a1 a2 a3 a4 a5 a6 a7 a8 a9) (zoneinfolaw23_LookupSame.f (k + 1) a0 a1 a2 a3 a4 a5 a6 a7 a8 a9) := by
  intro a0 a1 a2 a3 a4 a5 a6 a7 a8 a9 k; obtain ⟨ih0, ih1, ih2⟩ := zoneinfolaw23_LookupSame.mono_l k
  unfold zoneinfolaw23_LookupSame.f
  repeat' first
      | (with_reducible exact ih0 _ _ _ _ _ _ _ _ _ _ _)
      | (with_reducible exact ih1 _ _ _ _ _ _ _ _ _ _)
      | (with_reducible exact ih2 _ _ _ _ _ _ _ _ _ _)
      | (with_reducible exact zoneinfolaw23_awake.mono _)
      | (with_reducible exact zoneinfolaw23_valid.mono _ _ _ _ _ _ _ _)
      | (with_reducible exact LeO.refl _)
      | (with_reducible exact LeO.none _)
      | (with_reducible refine LeO.ite ?_ ?_)
      | (with_reducible refine LeO.bind ?_ (fun _ => ?_))
      | exact ih0 _ _ _ _ _ _ _ _ _ _ _
      | exact ih1 _ _ _ _ _ _ _ _ _ _
      | exact ih2 _ _ _ _ _ _ _ _ _ _
      | exact zoneinfolaw23_awake.mono _
      | exact zoneinfolaw23_valid.mono _ _ _ _ _ _ _ _
      | exact LeO.none _
      | refine LeO.ite ?_ ?_
      | refine LeO.bind ?_ (fun _ => ?_)
def zoneinfolaw23_LookupSame.T6 : Bool × List (List Nat × List Nat) := (true, [([], []), ([], []), ([], []), ([0, 1, 2], [0, 1, 2]), ([3], [3]), ([4, 3], [4]), ([5], [5]), ([5], [5]), ([5], [5]), ([6, 7, 8, 5, 5], [5, 6, 7, 8]), ([5], [5]), ([5], [5]), ([5], [5]), ([10, 11, 12, 9, 5], [5, 10, 11, 12]), ([9, 13, 5], [5, 9, 13]), ([5, 14], [5, 14]), ([15, 13], [15]), ([16], [16]), ([16], [16]), ([16], [16]), ([17, 18, 19, 16, 16], [16, 17, 18, 19]), ([20, 20, 16], [16, 20]), ([21], [21]), ([21], [21]), ([21], [21]), ([22, 23, 24, 21, 21], [21, 22, 23, 24]), ([21, 25, 16], [16, 21, 25]), ([26, 25, 16], [16, 26]), ([27], [27]), ([27], [27]), ([27], [27]), ([28, 29, 30, 27, 27], [27, 28, 29, 30]), ([31, 27], [27, 31]), ([27, 32, 16], [16, 27, 32]), ([16, 33], [16, 33])])
def zoneinfolaw23_LookupSame.B6 : List Nat := [0, 0, 0, 7, 15, 31, 63, 63, 63, 511, 63, 63, 63, 8191, 16383, 32767, 65535, 131071, 131071, 131071, 1048575, 2097151, 4194303, 4194303, 4194303, 33554431, 67108863, 134217727, 268435455, 268435455, 268435455, 2147483647, 4294967295, 8589934591, 17179869183]
theorem zoneinfolaw23_LookupSame.tab6 : rtab .any (opsOf Try.f6 6) = zoneinfolaw23_LookupSame.T6 := by kernel_rfl
theorem zoneinfolaw23_LookupSame.bits6 : waitsOk zoneinfolaw23_LookupSame.T6.2 zoneinfolaw23_LookupSame.B6 = true := by kernel_rfl
def zoneinfolaw23_LookupSame.T8 : Bool × List (List Nat × List Nat) := (true, [([], []), ([0], [0]), ([], []), ([1, 2], [1, 2]), ([3], [3]), ([], []), ([5], [5]), ([], []), ([6, 7], [6, 7]), ([8], [8]), ([4, 9], [4, 9]), ([10], [10]), ([11], [11]), ([11], [11]), ([11], [11]), ([12, 13, 14, 11, 11], [11, 12, 13, 14]), ([15, 11], [11, 15]), ([11, 16], [11, 16])])
def zoneinfolaw23_LookupSame.B8 : List Nat := [0, 1, 0, 7, 15, 0, 32, 0, 224, 480, 1023, 2047, 4095, 4095, 4095, 32767, 65535, 131071]
theorem zoneinfolaw23_LookupSame.tab8 : rtab .any (opsOf Try.f6 8) = zoneinfolaw23_LookupSame.T8 := by kernel_rfl
theorem zoneinfolaw23_LookupSame.bits8 : waitsOk zoneinfolaw23_LookupSame.T8.2 zoneinfolaw23_LookupSame.B8 = true := by kernel_rfl
def zoneinfolaw23_LookupSame.T10 : Bool × List (List Nat × List Nat) := (true, [([], []), ([], []), ([], []), ([0, 1, 2], [0, 1, 2]), ([3], [3]), ([4, 3], [4]), ([5], [5]), ([5], [5]), ([6, 7, 5, 5], [5, 6, 7]), ([5], [5]), ([5], [5]), ([9, 10, 8, 5], [5, 9, 10]), ([8, 11, 5], [5, 8, 11]), ([5, 12], [5, 12]), ([13, 11], [13]), ([14], [14]), ([14], [14]), ([14], [14]), ([15, 16, 17, 14, 14], [14, 15, 16, 17]), ([18, 18, 14], [14, 18]), ([19], [19]), ([20, 19], [19, 20]), ([19], [19]), ([21, 22, 19], [19, 21, 22]), ([23, 19], [19, 23]), ([19], [19]), ([25, 19], [19, 25]), ([19], [19]), ([26, 27, 19], [19, 26, 27]), ([28, 19], [19, 28]), ([24, 29, 19], [19, 24, 29]), ([19, 30, 14], [14, 19, 30]), ([14, 31], [14, 31]), ([32, 19, 0, 1, 2, 3, 4, 5, 6, 7, 8, 9, 10, 11, 12, 13, 14, 15, 16, 17, 18, 19, 20, 21, 22, 23, 24, 25, 26, 27, 28, 29, 30, 31, 32], [32])])
def zoneinfolaw23_LookupSame.B10 : List Nat := [0, 0, 0, 7, 15, 31, 63, 63, 255, 63, 63, 2047, 4095, 8191, 16383, 32767, 32767, 32767, 262143, 524287, 1048575, 2097151, 1048575, 8388607, 16777215, 1048575, 34603007, 1048575, 235929599, 504365055, 1073741823, 2147483647, 4294967295, 8589934591]
theorem zoneinfolaw23_LookupSame.tab10 : rtab .any (opsOf Try.f6 10) = zoneinfolaw23_LookupSame.T10 := by kernel_rfl
theorem zoneinfolaw23_LookupSame.bits10 : waitsOk zoneinfolaw23_LookupSame.T10.2 zoneinfolaw23_LookupSame.B10 = true := by kernel_rfl
end Go.Proofs.Ytfminjencigfeaa.G
