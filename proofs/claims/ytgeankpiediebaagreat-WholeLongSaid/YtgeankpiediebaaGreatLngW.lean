/-
  WholeLong is true whatever the numbers: its 288 ways joined.
-/
import Derived.Test.YtgeankpiediebaaGreatLng0
import Derived.Test.YtgeankpiediebaaGreatLng1
import Derived.Test.YtgeankpiediebaaGreatLng2
import Derived.Test.YtgeankpiediebaaGreatLng3
import Derived.Test.YtgeankpiediebaaGreatLng4
import Derived.Test.YtgeankpiediebaaGreatLng5
import Derived.Test.YtgeankpiediebaaGreatLng6
import Derived.Test.YtgeankpiediebaaGreatLng7
import Derived.Test.YtgeankpiediebaaGreatLng8
import Derived.Test.YtgeankpiediebaaGreatLng9
import Derived.Test.YtgeankpiediebaaGreatLng10
import Derived.Test.YtgeankpiediebaaGreatLng11
import Derived.Test.YtgeankpiediebaaGreatLng12
import Derived.Test.YtgeankpiediebaaGreatLng13
import Derived.Test.YtgeankpiediebaaGreatLng14
import Derived.Test.YtgeankpiediebaaGreatLng15
import Derived.Test.YtgeankpiediebaaGreatLng16
import Derived.Test.YtgeankpiediebaaGreatLng17
import Derived.Test.YtgeankpiediebaaGreatLng18
import Derived.Test.YtgeankpiediebaaGreatLng19
import Derived.Test.YtgeankpiediebaaGreatLng20
import Derived.Test.YtgeankpiediebaaGreatLng21
import Derived.Test.YtgeankpiediebaaGreatLng22
import Derived.Test.YtgeankpiediebaaGreatLng23
import Derived.Test.YtgeankpiediebaaGreatLng24
import Derived.Test.YtgeankpiediebaaGreatLng25
import Derived.Test.YtgeankpiediebaaGreatLng26
import Derived.Test.YtgeankpiediebaaGreatLng27
import Derived.Test.YtgeankpiediebaaGreatLng28
import Derived.Test.YtgeankpiediebaaGreatLng29
import Derived.Test.YtgeankpiediebaaGreatLng30
import Derived.Test.YtgeankpiediebaaGreatLng31
import Derived.Test.YtgeankpiediebaaGreatKnz
import Derived.Laws.Runes
namespace Go.Proofs.YtgeankpiediebaaGreat
open Go.Fx Go.RowKit
set_option linter.unusedVariables false
theorem lng_all : ∀ (less : Bool) (a c : K3) (b d : Option K3), lngWay less a c b d
  | true, .h, .h, none, (some .h) => (List.cons.inj lng_0).1
  | true, .h, .h, none, (some .r) => (List.cons.inj (List.cons.inj lng_0).2).1
  | true, .h, .h, none, (some .n) => (List.cons.inj (List.cons.inj (List.cons.inj lng_0).2).2).1
  | true, .h, .h, (some .h), (some .h) => (List.cons.inj lng_1).1
  | true, .h, .h, (some .h), (some .r) => (List.cons.inj (List.cons.inj lng_1).2).1
  | true, .h, .h, (some .h), (some .n) => (List.cons.inj (List.cons.inj (List.cons.inj lng_1).2).2).1
  | true, .h, .h, (some .r), (some .h) => (List.cons.inj lng_2).1
  | true, .h, .h, (some .r), (some .r) => (List.cons.inj (List.cons.inj lng_2).2).1
  | true, .h, .h, (some .r), (some .n) => (List.cons.inj (List.cons.inj (List.cons.inj lng_2).2).2).1
  | true, .h, .h, (some .n), (some .h) => (List.cons.inj lng_3).1
  | true, .h, .h, (some .n), (some .r) => (List.cons.inj (List.cons.inj lng_3).2).1
  | true, .h, .h, (some .n), (some .n) => (List.cons.inj (List.cons.inj (List.cons.inj lng_3).2).2).1
  | true, .h, .h, (some .h), none => (List.cons.inj lng_4).1
  | true, .h, .h, (some .r), none => (List.cons.inj (List.cons.inj lng_4).2).1
  | true, .h, .h, (some .n), none => (List.cons.inj (List.cons.inj (List.cons.inj lng_4).2).2).1
  | true, .h, .r, none, (some .h) => (List.cons.inj lng_5).1
  | true, .h, .r, none, (some .r) => (List.cons.inj (List.cons.inj lng_5).2).1
  | true, .h, .r, none, (some .n) => (List.cons.inj (List.cons.inj (List.cons.inj lng_5).2).2).1
  | true, .h, .r, (some .h), (some .h) => (List.cons.inj lng_6).1
  | true, .h, .r, (some .h), (some .r) => (List.cons.inj (List.cons.inj lng_6).2).1
  | true, .h, .r, (some .h), (some .n) => (List.cons.inj (List.cons.inj (List.cons.inj lng_6).2).2).1
  | true, .h, .r, (some .r), (some .h) => (List.cons.inj lng_7).1
  | true, .h, .r, (some .r), (some .r) => (List.cons.inj (List.cons.inj lng_7).2).1
  | true, .h, .r, (some .r), (some .n) => (List.cons.inj (List.cons.inj (List.cons.inj lng_7).2).2).1
  | true, .h, .r, (some .n), (some .h) => (List.cons.inj lng_8).1
  | true, .h, .r, (some .n), (some .r) => (List.cons.inj (List.cons.inj lng_8).2).1
  | true, .h, .r, (some .n), (some .n) => (List.cons.inj (List.cons.inj (List.cons.inj lng_8).2).2).1
  | true, .h, .r, (some .h), none => (List.cons.inj lng_9).1
  | true, .h, .r, (some .r), none => (List.cons.inj (List.cons.inj lng_9).2).1
  | true, .h, .r, (some .n), none => (List.cons.inj (List.cons.inj (List.cons.inj lng_9).2).2).1
  | true, .h, .n, none, (some .h) => (List.cons.inj lng_10).1
  | true, .h, .n, none, (some .r) => (List.cons.inj (List.cons.inj lng_10).2).1
  | true, .h, .n, none, (some .n) => (List.cons.inj (List.cons.inj (List.cons.inj lng_10).2).2).1
  | true, .h, .n, (some .h), (some .h) => (List.cons.inj lng_11).1
  | true, .h, .n, (some .h), (some .r) => (List.cons.inj (List.cons.inj lng_11).2).1
  | true, .h, .n, (some .h), (some .n) => (List.cons.inj (List.cons.inj (List.cons.inj lng_11).2).2).1
  | true, .h, .n, (some .r), (some .h) => (List.cons.inj lng_12).1
  | true, .h, .n, (some .r), (some .r) => (List.cons.inj (List.cons.inj lng_12).2).1
  | true, .h, .n, (some .r), (some .n) => (List.cons.inj (List.cons.inj (List.cons.inj lng_12).2).2).1
  | true, .h, .n, (some .n), (some .h) => (List.cons.inj lng_13).1
  | true, .h, .n, (some .n), (some .r) => (List.cons.inj (List.cons.inj lng_13).2).1
  | true, .h, .n, (some .n), (some .n) => (List.cons.inj (List.cons.inj (List.cons.inj lng_13).2).2).1
  | true, .h, .n, (some .h), none => (List.cons.inj lng_14).1
  | true, .h, .n, (some .r), none => (List.cons.inj (List.cons.inj lng_14).2).1
  | true, .h, .n, (some .n), none => (List.cons.inj (List.cons.inj (List.cons.inj lng_14).2).2).1
  | true, .h, .h, none, none => (List.cons.inj lng_15).1
  | true, .h, .r, none, none => (List.cons.inj (List.cons.inj lng_15).2).1
  | true, .h, .n, none, none => (List.cons.inj (List.cons.inj (List.cons.inj lng_15).2).2).1
  | true, .r, .h, none, (some .h) => (List.cons.inj lng_16).1
  | true, .r, .h, none, (some .r) => (List.cons.inj (List.cons.inj lng_16).2).1
  | true, .r, .h, none, (some .n) => (List.cons.inj (List.cons.inj (List.cons.inj lng_16).2).2).1
  | true, .r, .h, (some .h), (some .h) => (List.cons.inj lng_17).1
  | true, .r, .h, (some .h), (some .r) => (List.cons.inj (List.cons.inj lng_17).2).1
  | true, .r, .h, (some .h), (some .n) => (List.cons.inj (List.cons.inj (List.cons.inj lng_17).2).2).1
  | true, .r, .h, (some .r), (some .h) => (List.cons.inj lng_18).1
  | true, .r, .h, (some .r), (some .r) => (List.cons.inj (List.cons.inj lng_18).2).1
  | true, .r, .h, (some .r), (some .n) => (List.cons.inj (List.cons.inj (List.cons.inj lng_18).2).2).1
  | true, .r, .h, (some .n), (some .h) => (List.cons.inj lng_19).1
  | true, .r, .h, (some .n), (some .r) => (List.cons.inj (List.cons.inj lng_19).2).1
  | true, .r, .h, (some .n), (some .n) => (List.cons.inj (List.cons.inj (List.cons.inj lng_19).2).2).1
  | true, .r, .h, (some .h), none => (List.cons.inj lng_20).1
  | true, .r, .h, (some .r), none => (List.cons.inj (List.cons.inj lng_20).2).1
  | true, .r, .h, (some .n), none => (List.cons.inj (List.cons.inj (List.cons.inj lng_20).2).2).1
  | true, .r, .r, none, (some .h) => (List.cons.inj lng_21).1
  | true, .r, .r, none, (some .r) => (List.cons.inj (List.cons.inj lng_21).2).1
  | true, .r, .r, none, (some .n) => (List.cons.inj (List.cons.inj (List.cons.inj lng_21).2).2).1
  | true, .r, .r, (some .h), (some .h) => (List.cons.inj lng_22).1
  | true, .r, .r, (some .h), (some .r) => (List.cons.inj (List.cons.inj lng_22).2).1
  | true, .r, .r, (some .h), (some .n) => (List.cons.inj (List.cons.inj (List.cons.inj lng_22).2).2).1
  | true, .r, .r, (some .r), (some .h) => (List.cons.inj lng_23).1
  | true, .r, .r, (some .r), (some .r) => (List.cons.inj (List.cons.inj lng_23).2).1
  | true, .r, .r, (some .r), (some .n) => (List.cons.inj (List.cons.inj (List.cons.inj lng_23).2).2).1
  | true, .r, .r, (some .n), (some .h) => (List.cons.inj lng_24).1
  | true, .r, .r, (some .n), (some .r) => (List.cons.inj (List.cons.inj lng_24).2).1
  | true, .r, .r, (some .n), (some .n) => (List.cons.inj (List.cons.inj (List.cons.inj lng_24).2).2).1
  | true, .r, .r, (some .h), none => (List.cons.inj lng_25).1
  | true, .r, .r, (some .r), none => (List.cons.inj (List.cons.inj lng_25).2).1
  | true, .r, .r, (some .n), none => (List.cons.inj (List.cons.inj (List.cons.inj lng_25).2).2).1
  | true, .r, .n, none, (some .h) => (List.cons.inj lng_26).1
  | true, .r, .n, none, (some .r) => (List.cons.inj (List.cons.inj lng_26).2).1
  | true, .r, .n, none, (some .n) => (List.cons.inj (List.cons.inj (List.cons.inj lng_26).2).2).1
  | true, .r, .n, (some .h), (some .h) => (List.cons.inj lng_27).1
  | true, .r, .n, (some .h), (some .r) => (List.cons.inj (List.cons.inj lng_27).2).1
  | true, .r, .n, (some .h), (some .n) => (List.cons.inj (List.cons.inj (List.cons.inj lng_27).2).2).1
  | true, .r, .n, (some .r), (some .h) => (List.cons.inj lng_28).1
  | true, .r, .n, (some .r), (some .r) => (List.cons.inj (List.cons.inj lng_28).2).1
  | true, .r, .n, (some .r), (some .n) => (List.cons.inj (List.cons.inj (List.cons.inj lng_28).2).2).1
  | true, .r, .n, (some .n), (some .h) => (List.cons.inj lng_29).1
  | true, .r, .n, (some .n), (some .r) => (List.cons.inj (List.cons.inj lng_29).2).1
  | true, .r, .n, (some .n), (some .n) => (List.cons.inj (List.cons.inj (List.cons.inj lng_29).2).2).1
  | true, .r, .n, (some .h), none => (List.cons.inj lng_30).1
  | true, .r, .n, (some .r), none => (List.cons.inj (List.cons.inj lng_30).2).1
  | true, .r, .n, (some .n), none => (List.cons.inj (List.cons.inj (List.cons.inj lng_30).2).2).1
  | true, .r, .h, none, none => (List.cons.inj lng_31).1
  | true, .r, .r, none, none => (List.cons.inj (List.cons.inj lng_31).2).1
  | true, .r, .n, none, none => (List.cons.inj (List.cons.inj (List.cons.inj lng_31).2).2).1
  | true, .n, .h, none, (some .h) => (List.cons.inj lng_32).1
  | true, .n, .h, none, (some .r) => (List.cons.inj (List.cons.inj lng_32).2).1
  | true, .n, .h, none, (some .n) => (List.cons.inj (List.cons.inj (List.cons.inj lng_32).2).2).1
  | true, .n, .h, (some .h), (some .h) => (List.cons.inj lng_33).1
  | true, .n, .h, (some .h), (some .r) => (List.cons.inj (List.cons.inj lng_33).2).1
  | true, .n, .h, (some .h), (some .n) => (List.cons.inj (List.cons.inj (List.cons.inj lng_33).2).2).1
  | true, .n, .h, (some .r), (some .h) => (List.cons.inj lng_34).1
  | true, .n, .h, (some .r), (some .r) => (List.cons.inj (List.cons.inj lng_34).2).1
  | true, .n, .h, (some .r), (some .n) => (List.cons.inj (List.cons.inj (List.cons.inj lng_34).2).2).1
  | true, .n, .h, (some .n), (some .h) => (List.cons.inj lng_35).1
  | true, .n, .h, (some .n), (some .r) => (List.cons.inj (List.cons.inj lng_35).2).1
  | true, .n, .h, (some .n), (some .n) => (List.cons.inj (List.cons.inj (List.cons.inj lng_35).2).2).1
  | true, .n, .h, (some .h), none => (List.cons.inj lng_36).1
  | true, .n, .h, (some .r), none => (List.cons.inj (List.cons.inj lng_36).2).1
  | true, .n, .h, (some .n), none => (List.cons.inj (List.cons.inj (List.cons.inj lng_36).2).2).1
  | true, .n, .r, none, (some .h) => (List.cons.inj lng_37).1
  | true, .n, .r, none, (some .r) => (List.cons.inj (List.cons.inj lng_37).2).1
  | true, .n, .r, none, (some .n) => (List.cons.inj (List.cons.inj (List.cons.inj lng_37).2).2).1
  | true, .n, .r, (some .h), (some .h) => (List.cons.inj lng_38).1
  | true, .n, .r, (some .h), (some .r) => (List.cons.inj (List.cons.inj lng_38).2).1
  | true, .n, .r, (some .h), (some .n) => (List.cons.inj (List.cons.inj (List.cons.inj lng_38).2).2).1
  | true, .n, .r, (some .r), (some .h) => (List.cons.inj lng_39).1
  | true, .n, .r, (some .r), (some .r) => (List.cons.inj (List.cons.inj lng_39).2).1
  | true, .n, .r, (some .r), (some .n) => (List.cons.inj (List.cons.inj (List.cons.inj lng_39).2).2).1
  | true, .n, .r, (some .n), (some .h) => (List.cons.inj lng_40).1
  | true, .n, .r, (some .n), (some .r) => (List.cons.inj (List.cons.inj lng_40).2).1
  | true, .n, .r, (some .n), (some .n) => (List.cons.inj (List.cons.inj (List.cons.inj lng_40).2).2).1
  | true, .n, .r, (some .h), none => (List.cons.inj lng_41).1
  | true, .n, .r, (some .r), none => (List.cons.inj (List.cons.inj lng_41).2).1
  | true, .n, .r, (some .n), none => (List.cons.inj (List.cons.inj (List.cons.inj lng_41).2).2).1
  | true, .n, .n, none, (some .h) => (List.cons.inj lng_42).1
  | true, .n, .n, none, (some .r) => (List.cons.inj (List.cons.inj lng_42).2).1
  | true, .n, .n, none, (some .n) => (List.cons.inj (List.cons.inj (List.cons.inj lng_42).2).2).1
  | true, .n, .n, (some .h), (some .h) => (List.cons.inj lng_43).1
  | true, .n, .n, (some .h), (some .r) => (List.cons.inj (List.cons.inj lng_43).2).1
  | true, .n, .n, (some .h), (some .n) => (List.cons.inj (List.cons.inj (List.cons.inj lng_43).2).2).1
  | true, .n, .n, (some .r), (some .h) => (List.cons.inj lng_44).1
  | true, .n, .n, (some .r), (some .r) => (List.cons.inj (List.cons.inj lng_44).2).1
  | true, .n, .n, (some .r), (some .n) => (List.cons.inj (List.cons.inj (List.cons.inj lng_44).2).2).1
  | true, .n, .n, (some .n), (some .h) => (List.cons.inj lng_45).1
  | true, .n, .n, (some .n), (some .r) => (List.cons.inj (List.cons.inj lng_45).2).1
  | true, .n, .n, (some .n), (some .n) => (List.cons.inj (List.cons.inj (List.cons.inj lng_45).2).2).1
  | true, .n, .n, (some .h), none => (List.cons.inj lng_46).1
  | true, .n, .n, (some .r), none => (List.cons.inj (List.cons.inj lng_46).2).1
  | true, .n, .n, (some .n), none => (List.cons.inj (List.cons.inj (List.cons.inj lng_46).2).2).1
  | true, .n, .h, none, none => (List.cons.inj lng_47).1
  | true, .n, .r, none, none => (List.cons.inj (List.cons.inj lng_47).2).1
  | true, .n, .n, none, none => (List.cons.inj (List.cons.inj (List.cons.inj lng_47).2).2).1
  | false, .h, .h, none, (some .h) => (List.cons.inj lng_48).1
  | false, .h, .h, none, (some .r) => (List.cons.inj (List.cons.inj lng_48).2).1
  | false, .h, .h, none, (some .n) => (List.cons.inj (List.cons.inj (List.cons.inj lng_48).2).2).1
  | false, .h, .h, (some .h), (some .h) => (List.cons.inj lng_49).1
  | false, .h, .h, (some .h), (some .r) => (List.cons.inj (List.cons.inj lng_49).2).1
  | false, .h, .h, (some .h), (some .n) => (List.cons.inj (List.cons.inj (List.cons.inj lng_49).2).2).1
  | false, .h, .h, (some .r), (some .h) => (List.cons.inj lng_50).1
  | false, .h, .h, (some .r), (some .r) => (List.cons.inj (List.cons.inj lng_50).2).1
  | false, .h, .h, (some .r), (some .n) => (List.cons.inj (List.cons.inj (List.cons.inj lng_50).2).2).1
  | false, .h, .h, (some .n), (some .h) => (List.cons.inj lng_51).1
  | false, .h, .h, (some .n), (some .r) => (List.cons.inj (List.cons.inj lng_51).2).1
  | false, .h, .h, (some .n), (some .n) => (List.cons.inj (List.cons.inj (List.cons.inj lng_51).2).2).1
  | false, .h, .h, (some .h), none => (List.cons.inj lng_52).1
  | false, .h, .h, (some .r), none => (List.cons.inj (List.cons.inj lng_52).2).1
  | false, .h, .h, (some .n), none => (List.cons.inj (List.cons.inj (List.cons.inj lng_52).2).2).1
  | false, .h, .r, none, (some .h) => (List.cons.inj lng_53).1
  | false, .h, .r, none, (some .r) => (List.cons.inj (List.cons.inj lng_53).2).1
  | false, .h, .r, none, (some .n) => (List.cons.inj (List.cons.inj (List.cons.inj lng_53).2).2).1
  | false, .h, .r, (some .h), (some .h) => (List.cons.inj lng_54).1
  | false, .h, .r, (some .h), (some .r) => (List.cons.inj (List.cons.inj lng_54).2).1
  | false, .h, .r, (some .h), (some .n) => (List.cons.inj (List.cons.inj (List.cons.inj lng_54).2).2).1
  | false, .h, .r, (some .r), (some .h) => (List.cons.inj lng_55).1
  | false, .h, .r, (some .r), (some .r) => (List.cons.inj (List.cons.inj lng_55).2).1
  | false, .h, .r, (some .r), (some .n) => (List.cons.inj (List.cons.inj (List.cons.inj lng_55).2).2).1
  | false, .h, .r, (some .n), (some .h) => (List.cons.inj lng_56).1
  | false, .h, .r, (some .n), (some .r) => (List.cons.inj (List.cons.inj lng_56).2).1
  | false, .h, .r, (some .n), (some .n) => (List.cons.inj (List.cons.inj (List.cons.inj lng_56).2).2).1
  | false, .h, .r, (some .h), none => (List.cons.inj lng_57).1
  | false, .h, .r, (some .r), none => (List.cons.inj (List.cons.inj lng_57).2).1
  | false, .h, .r, (some .n), none => (List.cons.inj (List.cons.inj (List.cons.inj lng_57).2).2).1
  | false, .h, .n, none, (some .h) => (List.cons.inj lng_58).1
  | false, .h, .n, none, (some .r) => (List.cons.inj (List.cons.inj lng_58).2).1
  | false, .h, .n, none, (some .n) => (List.cons.inj (List.cons.inj (List.cons.inj lng_58).2).2).1
  | false, .h, .n, (some .h), (some .h) => (List.cons.inj lng_59).1
  | false, .h, .n, (some .h), (some .r) => (List.cons.inj (List.cons.inj lng_59).2).1
  | false, .h, .n, (some .h), (some .n) => (List.cons.inj (List.cons.inj (List.cons.inj lng_59).2).2).1
  | false, .h, .n, (some .r), (some .h) => (List.cons.inj lng_60).1
  | false, .h, .n, (some .r), (some .r) => (List.cons.inj (List.cons.inj lng_60).2).1
  | false, .h, .n, (some .r), (some .n) => (List.cons.inj (List.cons.inj (List.cons.inj lng_60).2).2).1
  | false, .h, .n, (some .n), (some .h) => (List.cons.inj lng_61).1
  | false, .h, .n, (some .n), (some .r) => (List.cons.inj (List.cons.inj lng_61).2).1
  | false, .h, .n, (some .n), (some .n) => (List.cons.inj (List.cons.inj (List.cons.inj lng_61).2).2).1
  | false, .h, .n, (some .h), none => (List.cons.inj lng_62).1
  | false, .h, .n, (some .r), none => (List.cons.inj (List.cons.inj lng_62).2).1
  | false, .h, .n, (some .n), none => (List.cons.inj (List.cons.inj (List.cons.inj lng_62).2).2).1
  | false, .h, .h, none, none => (List.cons.inj lng_63).1
  | false, .h, .r, none, none => (List.cons.inj (List.cons.inj lng_63).2).1
  | false, .h, .n, none, none => (List.cons.inj (List.cons.inj (List.cons.inj lng_63).2).2).1
  | false, .r, .h, none, (some .h) => (List.cons.inj lng_64).1
  | false, .r, .h, none, (some .r) => (List.cons.inj (List.cons.inj lng_64).2).1
  | false, .r, .h, none, (some .n) => (List.cons.inj (List.cons.inj (List.cons.inj lng_64).2).2).1
  | false, .r, .h, (some .h), (some .h) => (List.cons.inj lng_65).1
  | false, .r, .h, (some .h), (some .r) => (List.cons.inj (List.cons.inj lng_65).2).1
  | false, .r, .h, (some .h), (some .n) => (List.cons.inj (List.cons.inj (List.cons.inj lng_65).2).2).1
  | false, .r, .h, (some .r), (some .h) => (List.cons.inj lng_66).1
  | false, .r, .h, (some .r), (some .r) => (List.cons.inj (List.cons.inj lng_66).2).1
  | false, .r, .h, (some .r), (some .n) => (List.cons.inj (List.cons.inj (List.cons.inj lng_66).2).2).1
  | false, .r, .h, (some .n), (some .h) => (List.cons.inj lng_67).1
  | false, .r, .h, (some .n), (some .r) => (List.cons.inj (List.cons.inj lng_67).2).1
  | false, .r, .h, (some .n), (some .n) => (List.cons.inj (List.cons.inj (List.cons.inj lng_67).2).2).1
  | false, .r, .h, (some .h), none => (List.cons.inj lng_68).1
  | false, .r, .h, (some .r), none => (List.cons.inj (List.cons.inj lng_68).2).1
  | false, .r, .h, (some .n), none => (List.cons.inj (List.cons.inj (List.cons.inj lng_68).2).2).1
  | false, .r, .r, none, (some .h) => (List.cons.inj lng_69).1
  | false, .r, .r, none, (some .r) => (List.cons.inj (List.cons.inj lng_69).2).1
  | false, .r, .r, none, (some .n) => (List.cons.inj (List.cons.inj (List.cons.inj lng_69).2).2).1
  | false, .r, .r, (some .h), (some .h) => (List.cons.inj lng_70).1
  | false, .r, .r, (some .h), (some .r) => (List.cons.inj (List.cons.inj lng_70).2).1
  | false, .r, .r, (some .h), (some .n) => (List.cons.inj (List.cons.inj (List.cons.inj lng_70).2).2).1
  | false, .r, .r, (some .r), (some .h) => (List.cons.inj lng_71).1
  | false, .r, .r, (some .r), (some .r) => (List.cons.inj (List.cons.inj lng_71).2).1
  | false, .r, .r, (some .r), (some .n) => (List.cons.inj (List.cons.inj (List.cons.inj lng_71).2).2).1
  | false, .r, .r, (some .n), (some .h) => (List.cons.inj lng_72).1
  | false, .r, .r, (some .n), (some .r) => (List.cons.inj (List.cons.inj lng_72).2).1
  | false, .r, .r, (some .n), (some .n) => (List.cons.inj (List.cons.inj (List.cons.inj lng_72).2).2).1
  | false, .r, .r, (some .h), none => (List.cons.inj lng_73).1
  | false, .r, .r, (some .r), none => (List.cons.inj (List.cons.inj lng_73).2).1
  | false, .r, .r, (some .n), none => (List.cons.inj (List.cons.inj (List.cons.inj lng_73).2).2).1
  | false, .r, .n, none, (some .h) => (List.cons.inj lng_74).1
  | false, .r, .n, none, (some .r) => (List.cons.inj (List.cons.inj lng_74).2).1
  | false, .r, .n, none, (some .n) => (List.cons.inj (List.cons.inj (List.cons.inj lng_74).2).2).1
  | false, .r, .n, (some .h), (some .h) => (List.cons.inj lng_75).1
  | false, .r, .n, (some .h), (some .r) => (List.cons.inj (List.cons.inj lng_75).2).1
  | false, .r, .n, (some .h), (some .n) => (List.cons.inj (List.cons.inj (List.cons.inj lng_75).2).2).1
  | false, .r, .n, (some .r), (some .h) => (List.cons.inj lng_76).1
  | false, .r, .n, (some .r), (some .r) => (List.cons.inj (List.cons.inj lng_76).2).1
  | false, .r, .n, (some .r), (some .n) => (List.cons.inj (List.cons.inj (List.cons.inj lng_76).2).2).1
  | false, .r, .n, (some .n), (some .h) => (List.cons.inj lng_77).1
  | false, .r, .n, (some .n), (some .r) => (List.cons.inj (List.cons.inj lng_77).2).1
  | false, .r, .n, (some .n), (some .n) => (List.cons.inj (List.cons.inj (List.cons.inj lng_77).2).2).1
  | false, .r, .n, (some .h), none => (List.cons.inj lng_78).1
  | false, .r, .n, (some .r), none => (List.cons.inj (List.cons.inj lng_78).2).1
  | false, .r, .n, (some .n), none => (List.cons.inj (List.cons.inj (List.cons.inj lng_78).2).2).1
  | false, .r, .h, none, none => (List.cons.inj lng_79).1
  | false, .r, .r, none, none => (List.cons.inj (List.cons.inj lng_79).2).1
  | false, .r, .n, none, none => (List.cons.inj (List.cons.inj (List.cons.inj lng_79).2).2).1
  | false, .n, .h, none, (some .h) => (List.cons.inj lng_80).1
  | false, .n, .h, none, (some .r) => (List.cons.inj (List.cons.inj lng_80).2).1
  | false, .n, .h, none, (some .n) => (List.cons.inj (List.cons.inj (List.cons.inj lng_80).2).2).1
  | false, .n, .h, (some .h), (some .h) => (List.cons.inj lng_81).1
  | false, .n, .h, (some .h), (some .r) => (List.cons.inj (List.cons.inj lng_81).2).1
  | false, .n, .h, (some .h), (some .n) => (List.cons.inj (List.cons.inj (List.cons.inj lng_81).2).2).1
  | false, .n, .h, (some .r), (some .h) => (List.cons.inj lng_82).1
  | false, .n, .h, (some .r), (some .r) => (List.cons.inj (List.cons.inj lng_82).2).1
  | false, .n, .h, (some .r), (some .n) => (List.cons.inj (List.cons.inj (List.cons.inj lng_82).2).2).1
  | false, .n, .h, (some .n), (some .h) => (List.cons.inj lng_83).1
  | false, .n, .h, (some .n), (some .r) => (List.cons.inj (List.cons.inj lng_83).2).1
  | false, .n, .h, (some .n), (some .n) => (List.cons.inj (List.cons.inj (List.cons.inj lng_83).2).2).1
  | false, .n, .h, (some .h), none => (List.cons.inj lng_84).1
  | false, .n, .h, (some .r), none => (List.cons.inj (List.cons.inj lng_84).2).1
  | false, .n, .h, (some .n), none => (List.cons.inj (List.cons.inj (List.cons.inj lng_84).2).2).1
  | false, .n, .r, none, (some .h) => (List.cons.inj lng_85).1
  | false, .n, .r, none, (some .r) => (List.cons.inj (List.cons.inj lng_85).2).1
  | false, .n, .r, none, (some .n) => (List.cons.inj (List.cons.inj (List.cons.inj lng_85).2).2).1
  | false, .n, .r, (some .h), (some .h) => (List.cons.inj lng_86).1
  | false, .n, .r, (some .h), (some .r) => (List.cons.inj (List.cons.inj lng_86).2).1
  | false, .n, .r, (some .h), (some .n) => (List.cons.inj (List.cons.inj (List.cons.inj lng_86).2).2).1
  | false, .n, .r, (some .r), (some .h) => (List.cons.inj lng_87).1
  | false, .n, .r, (some .r), (some .r) => (List.cons.inj (List.cons.inj lng_87).2).1
  | false, .n, .r, (some .r), (some .n) => (List.cons.inj (List.cons.inj (List.cons.inj lng_87).2).2).1
  | false, .n, .r, (some .n), (some .h) => (List.cons.inj lng_88).1
  | false, .n, .r, (some .n), (some .r) => (List.cons.inj (List.cons.inj lng_88).2).1
  | false, .n, .r, (some .n), (some .n) => (List.cons.inj (List.cons.inj (List.cons.inj lng_88).2).2).1
  | false, .n, .r, (some .h), none => (List.cons.inj lng_89).1
  | false, .n, .r, (some .r), none => (List.cons.inj (List.cons.inj lng_89).2).1
  | false, .n, .r, (some .n), none => (List.cons.inj (List.cons.inj (List.cons.inj lng_89).2).2).1
  | false, .n, .n, none, (some .h) => (List.cons.inj lng_90).1
  | false, .n, .n, none, (some .r) => (List.cons.inj (List.cons.inj lng_90).2).1
  | false, .n, .n, none, (some .n) => (List.cons.inj (List.cons.inj (List.cons.inj lng_90).2).2).1
  | false, .n, .n, (some .h), (some .h) => (List.cons.inj lng_91).1
  | false, .n, .n, (some .h), (some .r) => (List.cons.inj (List.cons.inj lng_91).2).1
  | false, .n, .n, (some .h), (some .n) => (List.cons.inj (List.cons.inj (List.cons.inj lng_91).2).2).1
  | false, .n, .n, (some .r), (some .h) => (List.cons.inj lng_92).1
  | false, .n, .n, (some .r), (some .r) => (List.cons.inj (List.cons.inj lng_92).2).1
  | false, .n, .n, (some .r), (some .n) => (List.cons.inj (List.cons.inj (List.cons.inj lng_92).2).2).1
  | false, .n, .n, (some .n), (some .h) => (List.cons.inj lng_93).1
  | false, .n, .n, (some .n), (some .r) => (List.cons.inj (List.cons.inj lng_93).2).1
  | false, .n, .n, (some .n), (some .n) => (List.cons.inj (List.cons.inj (List.cons.inj lng_93).2).2).1
  | false, .n, .n, (some .h), none => (List.cons.inj lng_94).1
  | false, .n, .n, (some .r), none => (List.cons.inj (List.cons.inj lng_94).2).1
  | false, .n, .n, (some .n), none => (List.cons.inj (List.cons.inj (List.cons.inj lng_94).2).2).1
  | false, .n, .h, none, none => (List.cons.inj lng_95).1
  | false, .n, .r, none, none => (List.cons.inj (List.cons.inj lng_95).2).1
  | false, .n, .n, none, none => (List.cons.inj (List.cons.inj (List.cons.inj lng_95).2).2).1

/-! ### Which way it is -/
def lngEnv (a b : Int) : Env := ⟨fun x => match x with | 0 => a | _ => b, fun _ => false⟩
def k3Of (ρ : Env) (i s : Nat) : K3 := if ρ.b (lngH i s) = true then .h else if ρ.b (lngR i s) = true then .r else .n
def k4Of (ρ : Env) (s : Nat) : Option K3 := if ρ.b (lngD s) = true then none else some (k3Of ρ 1 s)
theorem k3_dec (ρ : Env) (i s : Nat) : ∀ x b, (x, b) ∈ (k3Of ρ i s).dec i s → ρ.b x = b := by
  intro x b hx
  unfold k3Of at hx
  split at hx
  · rename_i h
    simp only [K3.dec, List.mem_cons, Prod.mk.injEq, List.not_mem_nil, or_false] at hx
    obtain ⟨rfl, rfl⟩ := hx
    exact h
  · rename_i h
    split at hx
    · rename_i k
      simp only [K3.dec, List.mem_cons, Prod.mk.injEq, List.not_mem_nil, or_false] at hx
      rcases hx with ⟨rfl, rfl⟩ | ⟨rfl, rfl⟩
      · simpa using h
      · exact k
    · rename_i k
      simp only [K3.dec, List.mem_cons, Prod.mk.injEq, List.not_mem_nil, or_false] at hx
      rcases hx with ⟨rfl, rfl⟩ | ⟨rfl, rfl⟩
      · simpa using h
      · simpa using k
theorem wrap64 (n : Int) : IntKind.u64.wrap n = n % 18446744073709551616 := by simp [IntKind.wrap, IntKind.bits, IntKind.signed]
theorem eval_v (ρ : Env) (i : Nat) : SE.eval ρ (.v .u64 i) = IntKind.u64.wrap (ρ.n i) := rfl
theorem b_cmp (ρ : Env) (a b : SE) : ρ.b (.cmp .eql a b) = (a.eval ρ == b.eval ρ) := by
  show decide (one01 (a.eval ρ == b.eval ρ) = 1) = _
  rw [one01_dec]
/-- what a byte tells is small -/
theorem fits_small (ρ : Env) (s : Nat) (h : ρ.b (lngD s) = true) : ρ.b (lngH 1 s) = true := by
  unfold lngD at h
  unfold lngH
  rw [b_cmp] at h ⊢
  have h := eq_of_beq h
  rw [beq_iff_eq]
  have e8 : SE.eval ρ (.ext (.v .u64 1) s 8) = (SE.eval ρ (.ext (.v .u64 1) s 32)) % 256 := by
    show (SE.eval ρ (.v .u64 1) / 2 ^ s) % 2 ^ 8 = (SE.eval ρ (.v .u64 1) / 2 ^ s) % 2 ^ 32 % 256
    omega
  have hx0 : 0 ≤ SE.eval ρ (.ext (.v .u64 1) s 32) ∧ SE.eval ρ (.ext (.v .u64 1) s 32) < 4294967296 := by
    show 0 ≤ (SE.eval ρ (.v .u64 1) / 2 ^ s) % 2 ^ 32 ∧ (SE.eval ρ (.v .u64 1) / 2 ^ s) % 2 ^ 32 < 4294967296
    omega
  have h : (sgn (SE.eval ρ (.ext (.v .u64 1) s 8) % 2 ^ 8) 8 / 2 ^ 0) % 2 ^ 32 = SE.eval ρ (.ext (.v .u64 1) s 32) := h
  show sgn (((SE.eval ρ (.ext (.v .u64 1) s 32) - sgn (SE.eval ρ (.ext (.v .u64 1) s 32) % 2 ^ 12) 12) % 2 ^ 32) % 2 ^ 32) 32 = 0
  rw [e8] at h
  generalize SE.eval ρ (.ext (.v .u64 1) s 32) = x at h hx0 ⊢
  simp only [sgn_def] at h ⊢
  simp only [Int.reducePow, Int.ediv_one] at h ⊢
  split at h <;> split <;> split <;> omega
theorem k4_dec (ρ : Env) (s : Nat) : ρ.b (lngD s) = fitB (k4Of ρ s) ∧ ∀ x b, (x, b) ∈ (parts3 (k4Of ρ s)).dec 1 s → ρ.b x = b := by
  unfold k4Of
  split
  · rename_i h
    refine ⟨h, fun x b hx => ?_⟩
    simp only [parts3, K3.dec, List.mem_cons, Prod.mk.injEq, List.not_mem_nil, or_false] at hx
    obtain ⟨rfl, rfl⟩ := hx
    exact fits_small ρ s h
  · rename_i h
    exact ⟨by simpa [fitB] using h, k3_dec ρ 1 s⟩

/-! ### What comes out -/
theorem x_eval (ρ : Env) (i s : Nat) : SE.eval ρ (lngX i s) = (SE.eval ρ (.v .u64 i) / 2 ^ s) % 4294967296 := rfl
theorem lngO_ok (ρ : Env) (less : Bool) (ha : 0 ≤ SE.eval ρ (.v .u64 0) ∧ SE.eval ρ (.v .u64 0) < 18446744073709551616) (hb : 0 ≤ SE.eval ρ (.v .u64 1) ∧ SE.eval ρ (.v .u64 1) < 18446744073709551616) : ρ.b (lngO less) = true := by
  cases less with
  | true =>
    unfold lngO
    rw [b_cmp, beq_iff_eq]
    show IntKind.u32.wrap (SE.eval ρ (lngX 0 0) - SE.eval ρ (lngX 1 0)) = (IntKind.u64.wrap (SE.eval ρ (.v .u64 0) - SE.eval ρ (.v .u64 1)) / 2 ^ 0) % 2 ^ 32
    rw [x_eval, x_eval, IntKind.wrap_u32, wrap64]
    generalize SE.eval ρ (.v .u64 0) = a at *
    generalize SE.eval ρ (.v .u64 1) = b at *
    omega
  | false =>
    unfold lngO
    rw [b_cmp, beq_iff_eq]
    show IntKind.u32.wrap (SE.eval ρ (lngX 0 0) + SE.eval ρ (lngX 1 0)) = (IntKind.u64.wrap (SE.eval ρ (.v .u64 0) + SE.eval ρ (.v .u64 1)) / 2 ^ 0) % 2 ^ 32
    rw [x_eval, x_eval, IntKind.wrap_u32, wrap64]
    generalize SE.eval ρ (.v .u64 0) = a at *
    generalize SE.eval ρ (.v .u64 1) = b at *
    omega
theorem sub_high (a b : Int) : ((a / 2 ^ 32 % 4294967296 - b / 2 ^ 32 % 4294967296) % 4294967296 - one01 (decide (a / 2 ^ 0 % 4294967296 < b / 2 ^ 0 % 4294967296))) % 4294967296 = (a - b) % 18446744073709551616 / 2 ^ 32 % 2 ^ 32 := by
  simp only [Int.reducePow, Int.ediv_one]
  by_cases h : a % 4294967296 < b % 4294967296
  · rw [decide_eq_true h]
    show ((a / 4294967296 % 4294967296 - b / 4294967296 % 4294967296) % 4294967296 - 1) % 4294967296 = _
    omega
  · rw [decide_eq_false h]
    show ((a / 4294967296 % 4294967296 - b / 4294967296 % 4294967296) % 4294967296 - 0) % 4294967296 = _
    omega
theorem add_high (a b : Int) : ((a / 2 ^ 32 % 4294967296 + b / 2 ^ 32 % 4294967296) % 4294967296 + one01 (decide ((a / 2 ^ 0 % 4294967296 + b / 2 ^ 0 % 4294967296) % 4294967296 < a / 2 ^ 0 % 4294967296))) % 4294967296 = (a + b) % 18446744073709551616 / 2 ^ 32 % 2 ^ 32 := by
  simp only [Int.reducePow, Int.ediv_one]
  by_cases h : (a % 4294967296 + b % 4294967296) % 4294967296 < a % 4294967296
  · rw [decide_eq_true h]
    show ((a / 4294967296 % 4294967296 + b / 4294967296 % 4294967296) % 4294967296 + 1) % 4294967296 = _
    omega
  · rw [decide_eq_false h]
    show ((a / 4294967296 % 4294967296 + b / 4294967296 % 4294967296) % 4294967296 + 0) % 4294967296 = _
    omega
theorem lngC_ok (ρ : Env) (less : Bool) : ρ.b (lngC less) = true := by
  cases less with
  | true =>
    unfold lngC
    rw [b_cmp, beq_iff_eq]
    show IntKind.u32.wrap (IntKind.u32.wrap (SE.eval ρ (lngX 0 32) - SE.eval ρ (lngX 1 32)) - one01 (decide (SE.eval ρ (lngX 0 0) < SE.eval ρ (lngX 1 0)))) = (IntKind.u64.wrap (SE.eval ρ (.v .u64 0) - SE.eval ρ (.v .u64 1)) / 2 ^ 32) % 2 ^ 32
    simp only [x_eval, IntKind.wrap_u32, wrap64]
    exact sub_high _ _
  | false =>
    unfold lngC
    rw [b_cmp, beq_iff_eq]
    show IntKind.u32.wrap (IntKind.u32.wrap (SE.eval ρ (lngX 0 32) + SE.eval ρ (lngX 1 32)) + one01 (decide (IntKind.u32.wrap (SE.eval ρ (lngX 0 0) + SE.eval ρ (lngX 1 0)) < SE.eval ρ (lngX 0 0)))) = (IntKind.u64.wrap (SE.eval ρ (.v .u64 0) + SE.eval ρ (.v .u64 1)) / 2 ^ 32) % 2 ^ 32
    simp only [x_eval, IntKind.wrap_u32, wrap64]
    exact add_high _ _
theorem lngMet_ok (ρ : Env) (less : Bool) (ha : 0 ≤ SE.eval ρ (.v .u64 0) ∧ SE.eval ρ (.v .u64 0) < 18446744073709551616) (hb : 0 ≤ SE.eval ρ (.v .u64 1) ∧ SE.eval ρ (.v .u64 1) < 18446744073709551616) :
    (lngMet less (k3Of ρ 0 0) (k3Of ρ 0 32) (k4Of ρ 0) (k4Of ρ 32)).ok ρ (isTr ρ) := by
  obtain ⟨f0, d0⟩ := k4_dec ρ 0
  obtain ⟨f1, d1⟩ := k4_dec ρ 32
  refine ⟨fun e he => (by cases he), fun x t hx => ?_, fun x n hx => (by cases hx), fun ι => ?_⟩
  · have hx : (x, t) ∈ lngDec less (k3Of ρ 0 0) (k3Of ρ 0 32) (k4Of ρ 0) (k4Of ρ 32) := hx
    simp only [lngDec, List.mem_cons, List.mem_append, Prod.mk.injEq, List.not_mem_nil, or_false] at hx
    rcases hx with ⟨rfl, rfl⟩ | ⟨rfl, rfl⟩ | hx | hx | hx | hx | ⟨rfl, rfl⟩
    · exact f0
    · exact f1
    · exact k3_dec ρ 0 0 x t hx
    · exact k3_dec ρ 0 32 x t hx
    · exact d0 x t hx
    · exact d1 x t hx
    · exact lngC_ok ρ less
  · show Value.bool (xor (ρ.b (lngO less)) false) = _
    rw [lngO_ok ρ less ha hb]; rfl
theorem lng_bare (less : Bool) : ∀ x ∈ lngArgs less, x.bare := by
  intro x hx
  simp only [lngArgs, List.mem_cons, List.not_mem_nil, or_false] at hx
  rcases hx with rfl | rfl | rfl <;> exact fun _ _ => trivial
theorem lng_args {a b : Int} {less : Bool} (ha : 0 ≤ a ∧ a ≤ 18446744073709551615) (hb : 0 ≤ b ∧ b ≤ 18446744073709551615) : ((lngArgs less).map (V.den (lngEnv a b) noloc)).toArray = #[.int .u64 a, .int .u64 b, .bool less] := by
  have e0 : IntKind.u64.wrap a = a := by rw [wrap64, Int.emod_eq_of_lt ha.1 (by omega)]
  have e1 : IntKind.u64.wrap b = b := by rw [wrap64, Int.emod_eq_of_lt hb.1 (by omega)]
  show #[Value.int .u64 (IntKind.u64.wrap a), Value.int .u64 (IntKind.u64.wrap b), Value.bool less] = _
  rw [e0, e1]
theorem wf_u64' {a : Int} (h : (Lit.int .u64 a).wf = true) : 0 ≤ a ∧ a ≤ 18446744073709551615 := by
  simpa [Lit.wf, IntKind.has, IntKind.min, IntKind.max, IntKind.bits, IntKind.signed] using h
theorem WholeLong_walk (a0 : Int) (a1 : Int) (a2 : Bool) (w0 : (Lit.int .u64 a0).wf = true) (w1 : (Lit.int .u64 a1).wf = true) (w : World) :
    Calls Tryz.prog 10 #[.int .u64 a0, .int .u64 a1, .bool a2] w fun e w' => e = .returned (.bool true) ∧ Below w.heap.size w w' := by
  have h0 := wf_u64' w0
  have h1 := wf_u64' w1
  rw [← lng_args h0 h1]
  have v0 : 0 ≤ SE.eval (lngEnv a0 a1) (.v .u64 0) ∧ SE.eval (lngEnv a0 a1) (.v .u64 0) < 18446744073709551616 := by
    show 0 ≤ IntKind.u64.wrap a0 ∧ IntKind.u64.wrap a0 < _
    rw [wrap64]; omega
  have v1 : 0 ≤ SE.eval (lngEnv a0 a1) (.v .u64 1) ∧ SE.eval (lngEnv a0 a1) (.v .u64 1) < 18446744073709551616 := by
    show 0 ≤ IntKind.u64.wrap a1 ∧ IntKind.u64.wrap a1 < _
    rw [wrap64]; omega
  exact law_way (ρ := lngEnv a0 a1) (lng_all a2 _ _ _ _) (lngMet_ok _ a2 v0 v1) (lng_bare a2) w
end Go.Proofs.YtgeankpiediebaaGreat
