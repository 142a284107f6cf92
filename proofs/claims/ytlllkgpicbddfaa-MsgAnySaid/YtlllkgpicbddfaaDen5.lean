/- A part of the proof of this claim (part 5): own work: a lifting of compiled code into pure functions, and laws on them. -/
import Derived.Test.YtlllkgpicbddfaaDen4
import Derived.KernelRfl
set_option linter.all false
set_option linter.unusedSimpArgs false
set_option linter.unusedVariables false
section
open Go Go.Proofs.DenT
set_option maxRecDepth 1000000
set_option linter.unusedVariables false
namespace Go.Proofs.DenT

/-! folkmoot/folkmootref28.SameMsg -/
def c_folkmootref28_SameMsg : C' :=
  .seq (.ops false [
    ⟨some 2, .lbox 0 147 (.t 0) false, none⟩,
    ⟨some 3, .lbox 1 147 (.t 1) false, none⟩,
    ⟨some 4, .mov (.c (.b false)), none⟩])
  (.seq (.seq (.ops false [
    ⟨some 6, .fa (.t 2) 0, none⟩,
    ⟨some 7, .lload 0 (.t 6) (.one (.i .i64)), none⟩,
    ⟨some 8, .fa (.t 3) 0, none⟩,
    ⟨some 9, .lload 1 (.t 8) (.one (.i .i64)), none⟩,
    ⟨some 10, .cmp .neq .i64 (.t 7) (.t 9), none⟩,
    ⟨some 11, .mov (.t 10), none⟩,
    ⟨some 12, .fa (.t 2) 1, some (11, false, false)⟩,
    ⟨some 13, .lload 0 (.t 12) (.one (.i .i64)), some (11, false, false)⟩,
    ⟨some 14, .fa (.t 3) 1, some (11, false, false)⟩,
    ⟨some 15, .lload 1 (.t 14) (.one (.i .i64)), some (11, false, false)⟩,
    ⟨some 16, .cmp .neq .i64 (.t 13) (.t 15), some (11, false, false)⟩,
    ⟨some 17, .pick (.t 11) (.c (.b true)) (.t 16), none⟩,
    ⟨some 18, .mov (.t 17), none⟩,
    ⟨some 19, .fa (.t 2) 2, some (18, false, false)⟩,
    ⟨some 20, .lload 0 (.t 19) (.one (.i .i64)), some (18, false, false)⟩,
    ⟨some 21, .fa (.t 3) 2, some (18, false, false)⟩,
    ⟨some 22, .lload 1 (.t 21) (.one (.i .i64)), some (18, false, false)⟩,
    ⟨some 23, .cmp .neq .i64 (.t 20) (.t 22), some (18, false, false)⟩,
    ⟨some 24, .pick (.t 18) (.c (.b true)) (.t 23), none⟩,
    ⟨some 25, .mov (.t 24), none⟩,
    ⟨some 26, .fa (.t 2) 3, some (25, false, false)⟩,
    ⟨some 27, .lload 0 (.t 26) (.agg 5), some (25, false, false)⟩,
    ⟨some 28, .fa (.t 3) 3, some (25, false, false)⟩,
    ⟨some 29, .lload 1 (.t 28) (.agg 5), some (25, false, false)⟩,
    ⟨some 30, .aeq true [.i64, .i64, .i64, .i64, .i64] (.t 27) (.t 29), some (25, false, false)⟩,
    ⟨some 31, .pick (.t 25) (.c (.b true)) (.t 30), none⟩,
    ⟨some 32, .mov (.t 31), none⟩,
    ⟨some 33, .fa (.t 2) 8, some (32, false, false)⟩,
    ⟨some 34, .lload 0 (.t 33) (.agg 24), some (32, false, false)⟩,
    ⟨some 35, .fa (.t 3) 8, some (32, false, false)⟩,
    ⟨some 36, .lload 1 (.t 35) (.agg 24), some (32, false, false)⟩,
    ⟨some 37, .call true false 38 [(.t 34), (.t 36)], some (32, false, false)⟩,
    ⟨some 38, .not (.t 37), some (32, false, false)⟩,
    ⟨some 39, .pick (.t 32) (.c (.b true)) (.t 38), none⟩,
    ⟨some 40, .mov (.t 39), none⟩,
    ⟨some 41, .fa (.t 2) 32, some (40, false, false)⟩,
    ⟨some 42, .lload 0 (.t 41) (.agg 6), some (40, false, false)⟩,
    ⟨some 43, .fa (.t 3) 32, some (40, false, false)⟩,
    ⟨some 44, .lload 1 (.t 43) (.agg 6), some (40, false, false)⟩,
    ⟨some 45, .call true false 39 [(.t 42), (.t 44)], some (40, false, false)⟩,
    ⟨some 46, .not (.t 45), some (40, false, false)⟩,
    ⟨some 47, .pick (.t 40) (.c (.b true)) (.t 46), none⟩,
    ⟨some 48, .mov (.t 47), none⟩,
    ⟨some 49, .fa (.t 2) 38, some (48, false, false)⟩,
    ⟨some 50, .fa (.t 49) 0, some (48, false, false)⟩,
    ⟨some 51, .lload 0 (.t 50) (.one (.i .u64)), some (48, false, false)⟩,
    ⟨some 52, .fa (.t 3) 38, some (48, false, false)⟩,
    ⟨some 53, .fa (.t 52) 0, some (48, false, false)⟩,
    ⟨some 54, .lload 1 (.t 53) (.one (.i .u64)), some (48, false, false)⟩,
    ⟨some 55, .cmp .neq .u64 (.t 51) (.t 54), some (48, false, false)⟩,
    ⟨some 56, .pick (.t 48) (.c (.b true)) (.t 55), none⟩,
    ⟨some 57, .mov (.t 56), none⟩,
    ⟨some 58, .fa (.t 2) 38, some (57, false, false)⟩,
    ⟨some 59, .fa (.t 58) 1, some (57, false, false)⟩,
    ⟨some 60, .lload 0 (.t 59) (.one (.i .i64)), some (57, false, false)⟩,
    ⟨some 61, .fa (.t 3) 38, some (57, false, false)⟩,
    ⟨some 62, .fa (.t 61) 1, some (57, false, false)⟩,
    ⟨some 63, .lload 1 (.t 62) (.one (.i .i64)), some (57, false, false)⟩,
    ⟨some 64, .cmp .neq .i64 (.t 60) (.t 63), some (57, false, false)⟩,
    ⟨some 65, .pick (.t 57) (.c (.b true)) (.t 64), none⟩,
    ⟨some 66, .mov (.t 65), none⟩,
    ⟨some 67, .fa (.t 2) 38, some (66, false, false)⟩,
    ⟨some 68, .fa (.t 67) 2, some (66, false, false)⟩,
    ⟨some 69, .lload 0 (.t 68) (.agg 21), some (66, false, false)⟩,
    ⟨some 70, .fa (.t 3) 38, some (66, false, false)⟩,
    ⟨some 71, .fa (.t 70) 2, some (66, false, false)⟩,
    ⟨some 72, .lload 1 (.t 71) (.agg 21), some (66, false, false)⟩,
    ⟨some 73, .call true false 40 [(.t 69), (.t 72)], some (66, false, false)⟩,
    ⟨some 74, .not (.t 73), some (66, false, false)⟩,
    ⟨some 75, .pick (.t 66) (.c (.b true)) (.t 74), none⟩,
    ⟨some 76, .mov (.t 75), none⟩,
    ⟨some 77, .fa (.t 2) 61, some (76, false, false)⟩,
    ⟨some 78, .lload 0 (.t 77) (.one (.i .i64)), some (76, false, false)⟩,
    ⟨some 79, .fa (.t 3) 61, some (76, false, false)⟩,
    ⟨some 80, .lload 1 (.t 79) (.one (.i .i64)), some (76, false, false)⟩,
    ⟨some 81, .cmp .neq .i64 (.t 78) (.t 80), some (76, false, false)⟩,
    ⟨some 82, .pick (.t 76) (.c (.b true)) (.t 81), none⟩,
    ⟨some 83, .mov (.t 82), none⟩,
    ⟨some 84, .fa (.t 2) 62, some (83, false, false)⟩,
    ⟨some 85, .lload 0 (.t 84) (.one (.i .i64)), some (83, false, false)⟩,
    ⟨some 86, .fa (.t 3) 62, some (83, false, false)⟩,
    ⟨some 87, .lload 1 (.t 86) (.one (.i .i64)), some (83, false, false)⟩,
    ⟨some 88, .cmp .neq .i64 (.t 85) (.t 87), some (83, false, false)⟩,
    ⟨some 89, .pick (.t 83) (.c (.b true)) (.t 88), none⟩])
  (.cond (.t 89) (.seq (.ops false [
    ⟨some 4, .mov (.c (.b false)), none⟩])
  (.ret)) (.skip)))
  (.seq (.seq (.ops false [
    ⟨some 90, .fa (.t 2) 63, none⟩,
    ⟨some 91, .lload 0 (.t 90) (.agg 25), none⟩,
    ⟨some 92, .fa (.t 3) 63, none⟩,
    ⟨some 93, .lload 1 (.t 92) (.agg 25), none⟩,
    ⟨some 94, .call true false 41 [(.t 91), (.t 93)], none⟩,
    ⟨some 95, .not (.t 94), none⟩,
    ⟨some 96, .mov (.t 95), none⟩,
    ⟨some 97, .fa (.t 2) 88, some (96, false, false)⟩,
    ⟨some 98, .lload 0 (.t 97) (.agg 8), some (96, false, false)⟩,
    ⟨some 99, .fa (.t 3) 88, some (96, false, false)⟩,
    ⟨some 100, .lload 1 (.t 99) (.agg 8), some (96, false, false)⟩,
    ⟨some 101, .call true false 14 [(.t 98), (.t 100)], some (96, false, false)⟩,
    ⟨some 102, .not (.t 101), some (96, false, false)⟩,
    ⟨some 103, .pick (.t 96) (.c (.b true)) (.t 102), none⟩,
    ⟨some 104, .mov (.t 103), none⟩,
    ⟨some 105, .fa (.t 2) 96, some (104, false, false)⟩,
    ⟨some 106, .lload 0 (.t 105) (.agg 24), some (104, false, false)⟩,
    ⟨some 107, .fa (.t 3) 96, some (104, false, false)⟩,
    ⟨some 108, .lload 1 (.t 107) (.agg 24), some (104, false, false)⟩,
    ⟨some 109, .call true false 42 [(.t 106), (.t 108)], some (104, false, false)⟩,
    ⟨some 110, .not (.t 109), some (104, false, false)⟩,
    ⟨some 111, .pick (.t 104) (.c (.b true)) (.t 110), none⟩,
    ⟨some 112, .mov (.t 111), none⟩,
    ⟨some 113, .fa (.t 2) 120, some (112, false, false)⟩,
    ⟨some 114, .lload 0 (.t 113) (.agg 26), some (112, false, false)⟩,
    ⟨some 115, .fa (.t 3) 120, some (112, false, false)⟩,
    ⟨some 116, .lload 1 (.t 115) (.agg 26), some (112, false, false)⟩,
    ⟨some 117, .call true false 43 [(.t 114), (.t 116)], some (112, false, false)⟩,
    ⟨some 118, .not (.t 117), some (112, false, false)⟩,
    ⟨some 119, .pick (.t 112) (.c (.b true)) (.t 118), none⟩,
    ⟨some 120, .mov (.t 119), none⟩,
    ⟨some 121, .fa (.t 2) 146, some (120, false, false)⟩,
    ⟨some 122, .lload 0 (.t 121) (.one (.sl 8)), some (120, false, false)⟩,
    ⟨some 123, .lenL (.t 122) 8, some (120, false, false)⟩,
    ⟨some 124, .fa (.t 3) 146, some (120, false, false)⟩,
    ⟨some 125, .lload 1 (.t 124) (.one (.sl 8)), some (120, false, false)⟩,
    ⟨some 126, .lenL (.t 125) 8, some (120, false, false)⟩,
    ⟨some 127, .cmp .neq .i64 (.t 123) (.t 126), some (120, false, false)⟩,
    ⟨some 128, .pick (.t 120) (.c (.b true)) (.t 127), none⟩])
  (.cond (.t 128) (.seq (.ops false [
    ⟨some 4, .mov (.c (.b false)), none⟩])
  (.ret)) (.skip)))
  (.seq (.seq (.ops false [
    ⟨some 5, .mov (.c (.i .i64 0)), none⟩])
  (.loopR 0 (.seq (.seq (.ops false [
    ⟨some 129, .mov (.t 5), none⟩,
    ⟨some 130, .fa (.t 2) 146, none⟩,
    ⟨some 131, .lload 0 (.t 130) (.one (.sl 8)), none⟩,
    ⟨some 132, .lenL (.t 131) 8, none⟩,
    ⟨some 133, .cmp .lss .i64 (.t 129) (.t 132), none⟩])
  (.cond (.t 133) (.skip) (.exit 0)))
  (.seq (.block 1 (.seq (.ops true [
    ⟨some 136, .fa (.t 2) 146, none⟩,
    ⟨some 137, .lload 0 (.t 136) (.one (.sl 8)), none⟩,
    ⟨some 138, .mov (.t 5), none⟩,
    ⟨some 139, .ixa (.t 137) (.t 138) .i64 8, none⟩,
    ⟨some 140, .iload (.t 139) (.agg 8), none⟩,
    ⟨some 141, .fa (.t 3) 146, none⟩,
    ⟨some 142, .lload 1 (.t 141) (.one (.sl 8)), none⟩,
    ⟨some 143, .mov (.t 5), none⟩,
    ⟨some 144, .ixa (.t 142) (.t 143) .i64 8, none⟩,
    ⟨some 145, .iload (.t 144) (.agg 8), none⟩,
    ⟨some 146, .call true false 14 [(.t 140), (.t 145)], none⟩,
    ⟨some 147, .not (.t 146), none⟩])
  (.cond (.t 147) (.seq (.ops false [
    ⟨some 4, .mov (.c (.b false)), none⟩])
  (.ret)) (.skip))))
  (.ops false [
    ⟨some 134, .mov (.t 5), none⟩,
    ⟨some 135, .arith .add .i64 (.t 134) (.c (.i .i64 1)), none⟩,
    ⟨some 5, .mov (.t 135), none⟩]))) [⟨2, .loc, (.lpc 0)⟩, ⟨3, .loc, (.lpc 1)⟩, ⟨5, .glob, (.i .i64)⟩] [⟨0, 147, []⟩, ⟨1, 147, []⟩] [] [⟨4, .glob, .b⟩]))
  (.seq (.ops false [
    ⟨some 4, .mov (.c (.b true)), none⟩])
  (.ret)))))
def fd_folkmootref28_SameMsg : FD := ⟨148, 2, [.ag, .ag], [.tmp 4 .glob .b], c_folkmootref28_SameMsg⟩
noncomputable def G_folkmootref28_SameMsg (N : Nat) : Env := [(14, S_folkmootref21_Same N), (38, S_folkmootref15_SameStamp N), (39, S_folkmootref15_SameCert N), (40, S_folkmootref6_SameSig N), (41, S_folkmootref15_SameReport N), (42, S_folkmootref21_SameVote N), (43, S_folkmootref21_SameView N)]
noncomputable def F_folkmootref28_SameMsg (N : Nat) (v : List AV × List AV × Unit) (H : Heap) : Res (Bool × Unit) :=
  reqB (v.1.length == 147) (Tup.d [.b]) <| reqB (v.2.1.length == 147) (Tup.d [.b]) <| reqB ((nth v.1 0 .junk).isI .i64) (Tup.d [.b]) <| reqB ((nth v.2.1 0 .junk).isI .i64) (Tup.d [.b]) <| let t1 : Bool := COp.run ((nth v.1 0 .junk).num) ((nth v.2.1 0 .junk).num) .neq; reqG (!t1) ((nth v.1 1 .junk).isI .i64) <| req (imp (!t1) (!t1)) <| reqG (!t1) ((nth v.2.1 1 .junk).isI .i64) <| req (imp (!t1) (!t1)) <| req (imp (!t1) (!t1)) <| req (imp (!t1) (!t1)) <| let t2 : Bool := COp.run ((nth v.1 1 .junk).num) ((nth v.2.1 1 .junk).num) .neq; req (imp (!t1) (!t1)) <| reqG (!(t1 || t2)) ((nth v.1 2 .junk).isI .i64) <| req (imp (!(t1 || t2)) (!(t1 || t2))) <| reqG (!(t1 || t2)) ((nth v.2.1 2 .junk).isI .i64) <| req (imp (!(t1 || t2)) (!(t1 || t2))) <| req (imp (!(t1 || t2)) (!(t1 || t2))) <| req (imp (!(t1 || t2)) (!(t1 || t2))) <| let t3 : Bool := COp.run ((nth v.1 2 .junk).num) ((nth v.2.1 2 .junk).num) .neq; req (imp (!(t1 || t2)) (!(t1 || t2))) <| req (imp (!((t1 || t2) || t3)) (!((t1 || t2) || t3))) <| req (imp (!((t1 || t2) || t3)) (!((t1 || t2) || t3))) <| reqG (!((t1 || t2) || t3)) (allI [.i64, .i64, .i64, .i64, .i64] (sub v.1 3 5)) <| reqG (!((t1 || t2) || t3)) (allI [.i64, .i64, .i64, .i64, .i64] (sub v.2.1 3 5)) <| req (imp (!((t1 || t2) || t3)) (!((t1 || t2) || t3))) <| req (imp (!((t1 || t2) || t3)) (!((t1 || t2) || t3))) <| let t4 : Bool := !(eqI 5 (sub v.1 3 5) (sub v.2.1 3 5)); req (imp (!((t1 || t2) || t3)) (!((t1 || t2) || t3))) <| let t5 : Bool := (((t1 || t2) || t3) || t4); req (imp (!t5) (!t5)) <| req (imp (!t5) (!t5)) <| let r6 := F_folkmootref15_SameStamp N (sub v.1 8 24, sub v.2.1 8 24, ()) H; req (imp (!t5) (!t5)) <| req (imp (!t5) (!t5)) <| req (imp (!t5) r6.pre) <| req (imp (!t5) (!t5)) <| req (imp (!t5) (!t5)) <| req (imp (!(t5 || (!r6.out.1))) (!(t5 || (!r6.out.1)))) <| req (imp (!(t5 || (!r6.out.1))) (!(t5 || (!r6.out.1)))) <| let r7 := F_folkmootref15_SameCert N (sub v.1 32 6, sub v.2.1 32 6, ()) H; req (imp (!(t5 || (!r6.out.1))) (!(t5 || (!r6.out.1)))) <| req (imp (!(t5 || (!r6.out.1))) (!(t5 || (!r6.out.1)))) <| req (imp (!(t5 || (!r6.out.1))) r7.pre) <| req (imp (!(t5 || (!r6.out.1))) (!(t5 || (!r6.out.1)))) <| req (imp (!(t5 || (!r6.out.1))) (!(t5 || (!r6.out.1)))) <| let t8 : Bool := ((t5 || (!r6.out.1)) || (!r7.out.1)); req (imp (!t8) (!t8)) <| reqG (!t8) ((nth v.1 38 .junk).isI .u64) <| req (imp (!t8) (!t8)) <| req (imp (!t8) (!t8)) <| reqG (!t8) ((nth v.2.1 38 .junk).isI .u64) <| req (imp (!t8) (!t8)) <| let t9 : Int := (nth v.2.1 38 .junk).num; req (imp (!t8) (!t8)) <| req (imp (!t8) (!t8)) <| let t10 : Bool := COp.run ((nth v.1 38 .junk).num) t9 .neq; req (imp (!t8) (!t8)) <| req (imp (!(t8 || t10)) (!(t8 || t10))) <| reqG (!(t8 || t10)) ((nth v.1 39 .junk).isI .i64) <| req (imp (!(t8 || t10)) (!(t8 || t10))) <| req (imp (!(t8 || t10)) (!(t8 || t10))) <| reqG (!(t8 || t10)) ((nth v.2.1 39 .junk).isI .i64) <| req (imp (!(t8 || t10)) (!(t8 || t10))) <| let t11 : Int := (nth v.2.1 39 .junk).num; req (imp (!(t8 || t10)) (!(t8 || t10))) <| req (imp (!(t8 || t10)) (!(t8 || t10))) <| let t12 : Bool := COp.run ((nth v.1 39 .junk).num) t11 .neq; req (imp (!(t8 || t10)) (!(t8 || t10))) <| req (imp (!((t8 || t10) || t12)) (!((t8 || t10) || t12))) <| req (imp (!((t8 || t10) || t12)) (!((t8 || t10) || t12))) <| req (imp (!((t8 || t10) || t12)) (!((t8 || t10) || t12))) <| req (imp (!((t8 || t10) || t12)) (!((t8 || t10) || t12))) <| let r13 := F_folkmootref6_SameSig N (sub v.1 40 21, sub v.2.1 40 21, ()) H; req (imp (!((t8 || t10) || t12)) (!((t8 || t10) || t12))) <| req (imp (!((t8 || t10) || t12)) (!((t8 || t10) || t12))) <| req (imp (!((t8 || t10) || t12)) r13.pre) <| req (imp (!((t8 || t10) || t12)) (!((t8 || t10) || t12))) <| req (imp (!((t8 || t10) || t12)) (!((t8 || t10) || t12))) <| let t14 : Bool := (((t8 || t10) || t12) || (!r13.out.1)); reqG (!t14) ((nth v.1 61 .junk).isI .i64) <| req (imp (!t14) (!t14)) <| reqG (!t14) ((nth v.2.1 61 .junk).isI .i64) <| req (imp (!t14) (!t14)) <| let t15 : Int := (nth v.2.1 61 .junk).num; req (imp (!t14) (!t14)) <| req (imp (!t14) (!t14)) <| let t16 : Bool := COp.run ((nth v.1 61 .junk).num) t15 .neq; req (imp (!t14) (!t14)) <| reqG (!(t14 || t16)) ((nth v.1 62 .junk).isI .i64) <| req (imp (!(t14 || t16)) (!(t14 || t16))) <| reqG (!(t14 || t16)) ((nth v.2.1 62 .junk).isI .i64) <| req (imp (!(t14 || t16)) (!(t14 || t16))) <| let t17 : Int := (nth v.2.1 62 .junk).num; req (imp (!(t14 || t16)) (!(t14 || t16))) <| req (imp (!(t14 || t16)) (!(t14 || t16))) <| let t18 : Bool := COp.run ((nth v.1 62 .junk).num) t17 .neq; req (imp (!(t14 || t16)) (!(t14 || t16))) <| (match ((t14 || t16) || t18) with | true => (ok (false, ()) H) | false => (let r19 := F_folkmootref15_SameReport N (sub v.1 63 25, sub v.2.1 63 25, ()) H; req (r19.pre) <| req (imp (!(!r19.out.1)) (!(!r19.out.1))) <| req (imp (!(!r19.out.1)) (!(!r19.out.1))) <| let r20 := F_folkmootref21_Same N (sub v.1 88 8, sub v.2.1 88 8, ()) H; req (imp (!(!r19.out.1)) (!(!r19.out.1))) <| req (imp (!(!r19.out.1)) (!(!r19.out.1))) <| req (imp (!(!r19.out.1)) r20.pre) <| req (imp (!(!r19.out.1)) (!(!r19.out.1))) <| req (imp (!(!r19.out.1)) (!(!r19.out.1))) <| let t21 : Bool := ((!r19.out.1) || (!r20.out.1)); req (imp (!t21) (!t21)) <| req (imp (!t21) (!t21)) <| let r22 := F_folkmootref21_SameVote N (sub v.1 96 24, sub v.2.1 96 24, ()) H; req (imp (!t21) (!t21)) <| req (imp (!t21) (!t21)) <| req (imp (!t21) r22.pre) <| req (imp (!t21) (!t21)) <| req (imp (!t21) (!t21)) <| req (imp (!(t21 || (!r22.out.1))) (!(t21 || (!r22.out.1)))) <| req (imp (!(t21 || (!r22.out.1))) (!(t21 || (!r22.out.1)))) <| let r23 := F_folkmootref21_SameView N (sub v.1 120 26, sub v.2.1 120 26, ()) H; req (imp (!(t21 || (!r22.out.1))) (!(t21 || (!r22.out.1)))) <| req (imp (!(t21 || (!r22.out.1))) (!(t21 || (!r22.out.1)))) <| req (imp (!(t21 || (!r22.out.1))) r23.pre) <| req (imp (!(t21 || (!r22.out.1))) (!(t21 || (!r22.out.1)))) <| req (imp (!(t21 || (!r22.out.1))) (!(t21 || (!r22.out.1)))) <| let t24 : Bool := ((t21 || (!r22.out.1)) || (!r23.out.1)); reqG (!t24) ((nth v.1 146 .junk).isSl 8) <| req (imp (!t24) (!t24)) <| req (imp (!t24) (!t24)) <| let t25 : Int := (((nth v.1 146 .junk).els).length : Int); reqG (!t24) ((nth v.2.1 146 .junk).isSl 8) <| req (imp (!t24) (!t24)) <| let t26 : List (List AV) := (nth v.2.1 146 .junk).els; req (imp (!t24) (!t24)) <| req (imp (!t24) (!t24)) <| req (imp (!t24) (!t24)) <| let t27 : Bool := COp.run t25 (t26.length : Int) .neq; req (imp (!t24) (!t24)) <| (match (t24 || t27) with | true => (ok (false, ()) H) | false => (let r31 := iter (α := Unit × Unit × Int × List AV × List AV × Unit) (β := Sum (List AV × List AV × Unit) (Bool × List AV × List AV × Unit)) (Sum.inl (Tup.d [.ag, .ag])) (fun R29 v28 H30 => reqB ((nth v28.2.2.2.1 146 .junk).isSl 8) (Sum.inl (Tup.d [.ag, .ag])) <| let t32 : List (List AV) := (nth v28.2.2.2.1 146 .junk).els; let t33 : Bool := COp.run v28.2.2.1 (t32.length : Int) .lss; (match t33 with | true => (reqB ((nth v28.2.2.2.1 146 .junk).isSl 8) (Sum.inl (Tup.d [.ag, .ag])) <| let t34 : List (List AV) := (nth v28.2.2.2.1 146 .junk).els; reqB (inb v28.2.2.1 t34.length) (Sum.inl (Tup.d [.ag, .ag])) <| let t35 : List AV := nth t34 v28.2.2.1.toNat []; reqB ((nth v28.2.2.2.2.1 146 .junk).isSl 8) (Sum.inl (Tup.d [.ag, .ag])) <| let t36 : List (List AV) := (nth v28.2.2.2.2.1 146 .junk).els; reqB (inb v28.2.2.1 t36.length) (Sum.inl (Tup.d [.ag, .ag])) <| let t37 : List AV := nth t36 v28.2.2.1.toNat []; let r38 := F_folkmootref21_Same N (t35, t37, ()) H30; req (r38.pre) <| (match !r38.out.1 with | true => (ok (Sum.inr (false, v28.2.2.2.1, v28.2.2.2.2.1, ())) H30) | false => (let t39 : Int := AOp.run .i64 v28.2.2.1 1 .add; R29 ((), (), t39, v28.2.2.2.1, v28.2.2.2.2.1, ()) H30))) | false => (ok (Sum.inl (v28.2.2.2.1, v28.2.2.2.2.1, ())) H30))) N ((), (), 0, v.1, v.2.1, ()) H; req r31.pre <| sumElim r31.out (fun w40 => ok (true, ()) r31.H) (fun w41 => ok (w41.1, ()) r31.H)))))
noncomputable def S_folkmootref28_SameMsg (N : Nat) : Sem := ⟨[.ag, .ag], [.b], .glob, true, F_folkmootref28_SameMsg N⟩
theorem den_folkmootref28_SameMsg (N : Nat) (v : List AV × List AV × Unit) (H : Heap) : fd_folkmootref28_SameMsg.sem N (G_folkmootref28_SameMsg N) v H = F_folkmootref28_SameMsg N v H := by kernel_rfl

/-! folkmoot/folkmootlaw9.Of -/
def c_folkmootlaw9_Of : C' :=
  .seq (.ops false [
    ⟨some 1, .lbox 0 5 (.t 0) false, none⟩,
    ⟨some 2, .lalloc 1 5 [.i .i64 0, .i .i64 0, .i .i64 0, .i .i64 0, .i .i64 0] [], none⟩])
  (.seq (.ops false [
    ⟨some 3, .fa (.t 1) 0, none⟩,
    ⟨some 4, .lload 0 (.t 3) (.one (.i .i64)), none⟩,
    ⟨some 5, .fa (.t 1) 1, none⟩,
    ⟨some 6, .lload 0 (.t 5) (.one (.i .i64)), none⟩,
    ⟨some 7, .fa (.t 1) 2, none⟩,
    ⟨some 8, .lload 0 (.t 7) (.one (.i .i64)), none⟩,
    ⟨some 9, .fa (.t 1) 3, none⟩,
    ⟨some 10, .lload 0 (.t 9) (.one (.i .i64)), none⟩,
    ⟨some 11, .fa (.t 1) 4, none⟩,
    ⟨some 12, .lload 0 (.t 11) (.one (.i .i64)), none⟩,
    ⟨some 13, .build [.i .i64 0, .i .i64 0, .i .i64 0, .i .i64 0, .i .i64 0] [((.t 4), 0, 1), ((.t 6), 1, 1), ((.t 8), 2, 1), ((.t 10), 3, 1), ((.t 12), 4, 1)], none⟩,
    ⟨none, .lstore 1 (.t 2) (.agg 5) (.t 13), none⟩])
  (.ret))
def fd_folkmootlaw9_Of : FD := ⟨14, 2, [.ag], [.cell 2 (.agg 5) .ag], c_folkmootlaw9_Of⟩
noncomputable def G_folkmootlaw9_Of (N : Nat) : Env := []
noncomputable def F_folkmootlaw9_Of (N : Nat) (v : List AV × Unit) (H : Heap) : Res (List AV × Unit) :=
  reqB (v.1.length == 5) (Tup.d [.ag]) <| reqB ((nth v.1 0 .junk).isI .i64) (Tup.d [.ag]) <| reqB ((nth v.1 1 .junk).isI .i64) (Tup.d [.ag]) <| reqB ((nth v.1 2 .junk).isI .i64) (Tup.d [.ag]) <| reqB ((nth v.1 3 .junk).isI .i64) (Tup.d [.ag]) <| reqB ((nth v.1 4 .junk).isI .i64) (Tup.d [.ag]) <| ok ([.i .i64 ((nth v.1 0 .junk).num), .i .i64 ((nth v.1 1 .junk).num), .i .i64 ((nth v.1 2 .junk).num), .i .i64 ((nth v.1 3 .junk).num), .i .i64 ((nth v.1 4 .junk).num)], ()) H
noncomputable def S_folkmootlaw9_Of (N : Nat) : Sem := ⟨[.ag], [.ag], .glob, true, F_folkmootlaw9_Of N⟩
theorem den_folkmootlaw9_Of (N : Nat) (v : List AV × Unit) (H : Heap) : fd_folkmootlaw9_Of.sem N (G_folkmootlaw9_Of N) v H = F_folkmootlaw9_Of N v H := by kernel_rfl

/-! folkmoot/folkmootlaw3.Of -/
def c_folkmootlaw3_Of : C' :=
  .seq (.ops false [
    ⟨some 1, .lbox 0 18 (.t 0) false, none⟩,
    ⟨some 2, .lalloc 1 18 [.i .u64 0, .i .u64 0, .i .u64 0, .i .u64 0, .i .u64 0, .i .u64 0, .i .u64 0, .i .u64 0, .i .u64 0, .i .u64 0, .i .u64 0, .i .u64 0, .i .u64 0, .i .u64 0, .i .u64 0, .i .u64 0, .i .u64 0, .i .u64 0] [], none⟩])
  (.seq (.ops false [
    ⟨some 3, .lalloc 2 18 [.i .u64 0, .i .u64 0, .i .u64 0, .i .u64 0, .i .u64 0, .i .u64 0, .i .u64 0, .i .u64 0, .i .u64 0, .i .u64 0, .i .u64 0, .i .u64 0, .i .u64 0, .i .u64 0, .i .u64 0, .i .u64 0, .i .u64 0, .i .u64 0] [], none⟩])
  (.seq (.seq (.ops false [
    ⟨some 4, .mov (.c (.i .i64 0)), none⟩])
  (.loop 0 (.seq (.seq (.ops false [
    ⟨some 5, .mov (.t 4), none⟩,
    ⟨some 6, .cmp .lss .i64 (.t 5) (.c (.i .i64 18)), none⟩])
  (.cond (.t 6) (.skip) (.exit 0)))
  (.seq (.block 1 (.ops false [
    ⟨some 9, .mov (.t 4), none⟩,
    ⟨some 10, .mov (.t 4), none⟩,
    ⟨some 11, .ixp (.t 1) (.t 10) .i64 18 1, none⟩,
    ⟨some 12, .lload 0 (.t 11) (.one (.i .u64)), none⟩,
    ⟨some 13, .ixp (.t 3) (.t 9) .i64 18 1, none⟩,
    ⟨none, .lstore 2 (.t 13) (.one (.i .u64)) (.t 12), none⟩]))
  (.ops false [
    ⟨some 7, .mov (.t 4), none⟩,
    ⟨some 8, .arith .add .i64 (.t 7) (.c (.i .i64 1)), none⟩,
    ⟨some 4, .mov (.t 8), none⟩]))) [⟨1, .loc, (.lpc 0)⟩, ⟨2, .loc, (.lpc 1)⟩, ⟨3, .loc, (.lpc 2)⟩, ⟨4, .glob, (.i .i64)⟩] [⟨0, 18, []⟩, ⟨1, 18, []⟩, ⟨2, 18, []⟩] [⟨2, .loc, (.lpc 1)⟩, ⟨3, .loc, (.lpc 2)⟩]))
  (.seq (.ops false [
    ⟨some 14, .lload 2 (.t 3) (.agg 18), none⟩,
    ⟨none, .lstore 1 (.t 2) (.agg 18) (.t 14), none⟩])
  (.ret))))
def fd_folkmootlaw3_Of : FD := ⟨15, 3, [.ag], [.cell 2 (.agg 18) .ag], c_folkmootlaw3_Of⟩
noncomputable def G_folkmootlaw3_Of (N : Nat) : Env := []
noncomputable def F_folkmootlaw3_Of (N : Nat) (v : List AV × Unit) (H : Heap) : Res (List AV × Unit) :=
  reqB (v.1.length == 18) (Tup.d [.ag]) <| let r4 := iter (α := Unit × Unit × Unit × Int × List AV × List AV × List AV × Unit) (β := Unit × Unit × List AV × List AV × List AV × Unit) (Tup.d [(.lpc 1), (.lpc 2), .ag, .ag, .ag]) (fun R2 v1 H3 => let t5 : Bool := COp.run v1.2.2.2.1 18 .lss; (match t5 with | true => (reqB (inb v1.2.2.2.1 18) (Tup.d [(.lpc 1), (.lpc 2), .ag, .ag, .ag]) <| let t6 : Nat := 0 + (v1.2.2.2.1.toNat * 1); reqB (decide (t6 < 18) && (nth v1.2.2.2.2.1 t6 .junk).isI .u64) (Tup.d [(.lpc 1), (.lpc 2), .ag, .ag, .ag]) <| let t7 : Int := (nth v1.2.2.2.2.1 t6 .junk).num; reqB (inb v1.2.2.2.1 18) (Tup.d [(.lpc 1), (.lpc 2), .ag, .ag, .ag]) <| let t8 : Nat := 0 + (v1.2.2.2.1.toNat * 1); reqB (decide (t8 + 1 ≤ 18)) (Tup.d [(.lpc 1), (.lpc 2), .ag, .ag, .ag]) <| let t9 : List AV := upd v1.2.2.2.2.2.2.1 t8 (.i .u64 t7); let t10 : Int := AOp.run .i64 v1.2.2.2.1 1 .add; R2 ((), (), (), t10, v1.2.2.2.2.1, v1.2.2.2.2.2.1, t9, ()) H3) | false => (ok ((), (), v1.2.2.2.2.1, v1.2.2.2.2.2.1, v1.2.2.2.2.2.2.1, ()) H3))) N ((), (), (), 0, v.1, [.i .u64 0, .i .u64 0, .i .u64 0, .i .u64 0, .i .u64 0, .i .u64 0, .i .u64 0, .i .u64 0, .i .u64 0, .i .u64 0, .i .u64 0, .i .u64 0, .i .u64 0, .i .u64 0, .i .u64 0, .i .u64 0, .i .u64 0, .i .u64 0], [.i .u64 0, .i .u64 0, .i .u64 0, .i .u64 0, .i .u64 0, .i .u64 0, .i .u64 0, .i .u64 0, .i .u64 0, .i .u64 0, .i .u64 0, .i .u64 0, .i .u64 0, .i .u64 0, .i .u64 0, .i .u64 0, .i .u64 0, .i .u64 0], ()) H; req r4.pre <| reqB (r4.out.2.2.2.2.1.length == 18) (Tup.d [.ag]) <| ok (r4.out.2.2.2.2.1, ()) r4.H
noncomputable def S_folkmootlaw3_Of (N : Nat) : Sem := ⟨[.ag], [.ag], .glob, true, F_folkmootlaw3_Of N⟩
theorem den_folkmootlaw3_Of (N : Nat) (v : List AV × Unit) (H : Heap) : fd_folkmootlaw3_Of.sem N (G_folkmootlaw3_Of N) v H = F_folkmootlaw3_Of N v H := by kernel_rfl

/-! folkmoot/folkmootlaw4.Of -/
def c_folkmootlaw4_Of : C' :=
  .seq (.ops false [
    ⟨some 2, .mov (.co (.sl 1 [])), none⟩])
  (.seq (.ops false [
    ⟨some 3, .mov (.co (.sl 1 [])), none⟩])
  (.seq (.seq (.ops false [
    ⟨some 4, .mov (.c (.i .i64 0)), none⟩])
  (.loop 0 (.seq (.seq (.ops false [
    ⟨some 5, .mov (.t 4), none⟩,
    ⟨some 6, .mov (.t 0), none⟩,
    ⟨some 7, .lenL (.t 6) 1, none⟩,
    ⟨some 8, .cmp .lss .i64 (.t 5) (.t 7), none⟩])
  (.cond (.t 8) (.skip) (.exit 0)))
  (.seq (.block 1 (.ops false [
    ⟨some 11, .movO 3, none⟩,
    ⟨some 12, .mov (.t 0), none⟩,
    ⟨some 13, .mov (.t 4), none⟩,
    ⟨some 14, .ixa (.t 12) (.t 13) .i64 1, none⟩,
    ⟨some 15, .iload (.t 14) (.one (.i .u64)), none⟩,
    ⟨some 16, .bslice 1 1 [.i .u64 0] [((.t 15), 0)], none⟩,
    ⟨some 17, .app 11 (.t 16) 1 8, none⟩,
    ⟨some 3, .movO 17, none⟩]))
  (.ops false [
    ⟨some 9, .mov (.t 4), none⟩,
    ⟨some 10, .arith .add .i64 (.t 9) (.c (.i .i64 1)), none⟩,
    ⟨some 4, .mov (.t 10), none⟩]))) [⟨0, .glob, (.sl 1)⟩, ⟨3, .own, (.sl 1)⟩, ⟨4, .glob, (.i .i64)⟩] [] [⟨3, .own, (.sl 1)⟩]))
  (.seq (.ops false [
    ⟨some 18, .mov (.t 3), none⟩,
    ⟨some 2, .mov (.t 18), none⟩])
  (.ret))))
def fd_folkmootlaw4_Of : FD := ⟨19, 0, [(.sl 1)], [.tmp 2 .glob (.sl 1)], c_folkmootlaw4_Of⟩
noncomputable def G_folkmootlaw4_Of (N : Nat) : Env := []
noncomputable def F_folkmootlaw4_Of (N : Nat) (v : List (List AV) × Unit) (H : Heap) : Res (List (List AV) × Unit) :=
  let r4 := iter (α := List (List AV) × List (List AV) × Int × Unit) (β := List (List AV) × Unit) (Tup.d [(.sl 1)]) (fun R2 v1 H3 => let t5 : Bool := COp.run v1.2.2.1 (v1.1.length : Int) .lss; (match t5 with | true => (reqB (inb v1.2.2.1 v1.1.length) (Tup.d [(.sl 1)]) <| let t6 : List AV := nth v1.1 v1.2.2.1.toNat []; reqB ((nth t6 0 .junk).isI .u64) (Tup.d [(.sl 1)]) <| let t7 : List (List AV) := [[.i .u64 ((nth t6 0 .junk).num)]]; reqB (roomL v1.2.1 t7 8) (Tup.d [(.sl 1)]) <| let t8 : Int := AOp.run .i64 v1.2.2.1 1 .add; R2 (v1.1, cat v1.2.1 t7, t8, ()) H3) | false => (ok (v1.2.1, ()) H3))) N (v.1, [], 0, ()) H; req r4.pre <| ok (r4.out.1, ()) r4.H
noncomputable def S_folkmootlaw4_Of (N : Nat) : Sem := ⟨[(.sl 1)], [(.sl 1)], .glob, true, F_folkmootlaw4_Of N⟩
theorem den_folkmootlaw4_Of (N : Nat) (v : List (List AV) × Unit) (H : Heap) : fd_folkmootlaw4_Of.sem N (G_folkmootlaw4_Of N) v H = F_folkmootlaw4_Of N v H := by kernel_rfl

/-! folkmoot/folkmootlaw5.Of -/
def c_folkmootlaw5_Of : C' :=
  .seq (.ops false [
    ⟨some 1, .lbox 0 21 (.t 0) false, none⟩,
    ⟨some 2, .lalloc 1 21 [.i .i64 0, .i .i64 0, .i .u64 0, .i .u64 0, .i .u64 0, .i .u64 0, .i .u64 0, .i .u64 0, .i .u64 0, .i .u64 0, .i .u64 0, .i .u64 0, .i .u64 0, .i .u64 0, .i .u64 0, .i .u64 0, .i .u64 0, .i .u64 0, .i .u64 0, .i .u64 0, .sl 1 []] [20], none⟩])
  (.seq (.ops true [
    ⟨some 3, .fa (.t 1) 0, none⟩,
    ⟨some 4, .lload 0 (.t 3) (.one (.i .i64)), none⟩,
    ⟨some 5, .fa (.t 1) 1, none⟩,
    ⟨some 6, .lload 0 (.t 5) (.one (.i .i64)), none⟩,
    ⟨some 7, .fa (.t 1) 2, none⟩,
    ⟨some 8, .lload 0 (.t 7) (.agg 18), none⟩,
    ⟨some 9, .call true false 79 [(.t 8)], none⟩,
    ⟨some 10, .fa (.t 1) 20, none⟩,
    ⟨some 11, .lload 0 (.t 10) (.one (.sl 1)), none⟩,
    ⟨some 12, .call true false 80 [(.t 11)], none⟩,
    ⟨some 13, .build [.i .i64 0, .i .i64 0, .i .u64 0, .i .u64 0, .i .u64 0, .i .u64 0, .i .u64 0, .i .u64 0, .i .u64 0, .i .u64 0, .i .u64 0, .i .u64 0, .i .u64 0, .i .u64 0, .i .u64 0, .i .u64 0, .i .u64 0, .i .u64 0, .i .u64 0, .i .u64 0, .sl 1 []] [((.t 4), 0, 1), ((.t 6), 1, 1), ((.t 9), 2, 18), ((.t 12), 20, 1)], none⟩,
    ⟨none, .lstore 1 (.t 2) (.agg 21) (.t 13), none⟩])
  (.ret))
def fd_folkmootlaw5_Of : FD := ⟨14, 2, [.ag], [.cell 2 (.agg 21) .ag], c_folkmootlaw5_Of⟩
noncomputable def G_folkmootlaw5_Of (N : Nat) : Env := [(79, S_folkmootlaw3_Of N), (80, S_folkmootlaw4_Of N)]
noncomputable def F_folkmootlaw5_Of (N : Nat) (v : List AV × Unit) (H : Heap) : Res (List AV × Unit) :=
  reqB (v.1.length == 21) (Tup.d [.ag]) <| reqB ((nth v.1 0 .junk).isI .i64) (Tup.d [.ag]) <| reqB ((nth v.1 1 .junk).isI .i64) (Tup.d [.ag]) <| let r1 := F_folkmootlaw3_Of N (sub v.1 2 18, ()) H; req (r1.pre) <| reqB ((nth v.1 20 .junk).isSl 1) (Tup.d [.ag]) <| let r2 := F_folkmootlaw4_Of N ((nth v.1 20 .junk).els, ()) H; req (r2.pre) <| reqB ((r1.out.1.length == 18)) (Tup.d [.ag]) <| ok ([.i .i64 ((nth v.1 0 .junk).num), .i .i64 ((nth v.1 1 .junk).num), nth r1.out.1 0 .junk, nth r1.out.1 1 .junk, nth r1.out.1 2 .junk, nth r1.out.1 3 .junk, nth r1.out.1 4 .junk, nth r1.out.1 5 .junk, nth r1.out.1 6 .junk, nth r1.out.1 7 .junk, nth r1.out.1 8 .junk, nth r1.out.1 9 .junk, nth r1.out.1 10 .junk, nth r1.out.1 11 .junk, nth r1.out.1 12 .junk, nth r1.out.1 13 .junk, nth r1.out.1 14 .junk, nth r1.out.1 15 .junk, nth r1.out.1 16 .junk, nth r1.out.1 17 .junk, .sl 1 r2.out.1], ()) H
noncomputable def S_folkmootlaw5_Of (N : Nat) : Sem := ⟨[.ag], [.ag], .glob, true, F_folkmootlaw5_Of N⟩
theorem den_folkmootlaw5_Of (N : Nat) (v : List AV × Unit) (H : Heap) : fd_folkmootlaw5_Of.sem N (G_folkmootlaw5_Of N) v H = F_folkmootlaw5_Of N v H := by kernel_rfl

/-! folkmoot/folkmootlaw11.Of -/
def c_folkmootlaw11_Of : C' :=
  .seq (.ops false [
    ⟨some 1, .lbox 0 24 (.t 0) false, none⟩,
    ⟨some 2, .lalloc 1 24 [.i .u64 0, .i .i64 0, .i .i64 0, .i .i64 0, .i .i64 0, .i .u64 0, .i .u64 0, .i .u64 0, .i .u64 0, .i .u64 0, .i .u64 0, .i .u64 0, .i .u64 0, .i .u64 0, .i .u64 0, .i .u64 0, .i .u64 0, .i .u64 0, .i .u64 0, .i .u64 0, .i .u64 0, .i .u64 0, .i .u64 0, .sl 1 []] [23], none⟩])
  (.seq (.ops true [
    ⟨some 3, .fa (.t 1) 0, none⟩,
    ⟨some 4, .lload 0 (.t 3) (.one (.i .u64)), none⟩,
    ⟨some 5, .fa (.t 1) 1, none⟩,
    ⟨some 6, .lload 0 (.t 5) (.one (.i .i64)), none⟩,
    ⟨some 7, .fa (.t 1) 2, none⟩,
    ⟨some 8, .lload 0 (.t 7) (.one (.i .i64)), none⟩,
    ⟨some 9, .fa (.t 1) 3, none⟩,
    ⟨some 10, .lload 0 (.t 9) (.agg 21), none⟩,
    ⟨some 11, .call true false 73 [(.t 10)], none⟩,
    ⟨some 12, .build [.i .u64 0, .i .i64 0, .i .i64 0, .i .i64 0, .i .i64 0, .i .u64 0, .i .u64 0, .i .u64 0, .i .u64 0, .i .u64 0, .i .u64 0, .i .u64 0, .i .u64 0, .i .u64 0, .i .u64 0, .i .u64 0, .i .u64 0, .i .u64 0, .i .u64 0, .i .u64 0, .i .u64 0, .i .u64 0, .i .u64 0, .sl 1 []] [((.t 4), 0, 1), ((.t 6), 1, 1), ((.t 8), 2, 1), ((.t 11), 3, 21)], none⟩,
    ⟨none, .lstore 1 (.t 2) (.agg 24) (.t 12), none⟩])
  (.ret))
def fd_folkmootlaw11_Of : FD := ⟨13, 2, [.ag], [.cell 2 (.agg 24) .ag], c_folkmootlaw11_Of⟩
noncomputable def G_folkmootlaw11_Of (N : Nat) : Env := [(73, S_folkmootlaw5_Of N)]
noncomputable def F_folkmootlaw11_Of (N : Nat) (v : List AV × Unit) (H : Heap) : Res (List AV × Unit) :=
  reqB (v.1.length == 24) (Tup.d [.ag]) <| reqB ((nth v.1 0 .junk).isI .u64) (Tup.d [.ag]) <| reqB ((nth v.1 1 .junk).isI .i64) (Tup.d [.ag]) <| reqB ((nth v.1 2 .junk).isI .i64) (Tup.d [.ag]) <| let r1 := F_folkmootlaw5_Of N (sub v.1 3 21, ()) H; req (r1.pre) <| reqB ((r1.out.1.length == 21)) (Tup.d [.ag]) <| ok ([.i .u64 ((nth v.1 0 .junk).num), .i .i64 ((nth v.1 1 .junk).num), .i .i64 ((nth v.1 2 .junk).num), nth r1.out.1 0 .junk, nth r1.out.1 1 .junk, nth r1.out.1 2 .junk, nth r1.out.1 3 .junk, nth r1.out.1 4 .junk, nth r1.out.1 5 .junk, nth r1.out.1 6 .junk, nth r1.out.1 7 .junk, nth r1.out.1 8 .junk, nth r1.out.1 9 .junk, nth r1.out.1 10 .junk, nth r1.out.1 11 .junk, nth r1.out.1 12 .junk, nth r1.out.1 13 .junk, nth r1.out.1 14 .junk, nth r1.out.1 15 .junk, nth r1.out.1 16 .junk, nth r1.out.1 17 .junk, nth r1.out.1 18 .junk, nth r1.out.1 19 .junk, nth r1.out.1 20 .junk], ()) H
noncomputable def S_folkmootlaw11_Of (N : Nat) : Sem := ⟨[.ag], [.ag], .glob, true, F_folkmootlaw11_Of N⟩
theorem den_folkmootlaw11_Of (N : Nat) (v : List AV × Unit) (H : Heap) : fd_folkmootlaw11_Of.sem N (G_folkmootlaw11_Of N) v H = F_folkmootlaw11_Of N v H := by kernel_rfl

/-! folkmoot/folkmootlaw11.OfAll -/
def c_folkmootlaw11_OfAll : C' :=
  .seq (.ops false [
    ⟨some 2, .mov (.co (.sl 24 [])), none⟩])
  (.seq (.ops false [
    ⟨some 3, .mov (.co (.sl 24 [])), none⟩])
  (.seq (.seq (.ops false [
    ⟨some 4, .mov (.c (.i .i64 0)), none⟩])
  (.loop 0 (.seq (.seq (.ops false [
    ⟨some 5, .mov (.t 4), none⟩,
    ⟨some 6, .mov (.t 0), none⟩,
    ⟨some 7, .lenL (.t 6) 24, none⟩,
    ⟨some 8, .cmp .lss .i64 (.t 5) (.t 7), none⟩])
  (.cond (.t 8) (.skip) (.exit 0)))
  (.seq (.block 1 (.ops false [
    ⟨some 11, .movO 3, none⟩,
    ⟨some 12, .mov (.t 0), none⟩,
    ⟨some 13, .mov (.t 4), none⟩,
    ⟨some 14, .ixa (.t 12) (.t 13) .i64 24, none⟩,
    ⟨some 15, .iload (.t 14) (.agg 24), none⟩,
    ⟨some 16, .call true false 60 [(.t 15)], none⟩,
    ⟨some 17, .bslice 24 1 [.i .u64 0, .i .i64 0, .i .i64 0, .i .i64 0, .i .i64 0, .i .u64 0, .i .u64 0, .i .u64 0, .i .u64 0, .i .u64 0, .i .u64 0, .i .u64 0, .i .u64 0, .i .u64 0, .i .u64 0, .i .u64 0, .i .u64 0, .i .u64 0, .i .u64 0, .i .u64 0, .i .u64 0, .i .u64 0, .i .u64 0, .sl 1 []] [((.t 16), 0)], none⟩,
    ⟨some 18, .app 11 (.t 17) 24 208, none⟩,
    ⟨some 3, .movO 18, none⟩]))
  (.ops false [
    ⟨some 9, .mov (.t 4), none⟩,
    ⟨some 10, .arith .add .i64 (.t 9) (.c (.i .i64 1)), none⟩,
    ⟨some 4, .mov (.t 10), none⟩]))) [⟨0, .glob, (.sl 24)⟩, ⟨3, .own, (.sl 24)⟩, ⟨4, .glob, (.i .i64)⟩] [] [⟨3, .own, (.sl 24)⟩]))
  (.seq (.ops false [
    ⟨some 19, .mov (.t 3), none⟩,
    ⟨some 2, .mov (.t 19), none⟩])
  (.ret))))
def fd_folkmootlaw11_OfAll : FD := ⟨20, 0, [(.sl 24)], [.tmp 2 .glob (.sl 24)], c_folkmootlaw11_OfAll⟩
noncomputable def G_folkmootlaw11_OfAll (N : Nat) : Env := [(60, S_folkmootlaw11_Of N)]
noncomputable def F_folkmootlaw11_OfAll (N : Nat) (v : List (List AV) × Unit) (H : Heap) : Res (List (List AV) × Unit) :=
  let r4 := iter (α := List (List AV) × List (List AV) × Int × Unit) (β := List (List AV) × Unit) (Tup.d [(.sl 24)]) (fun R2 v1 H3 => let t5 : Bool := COp.run v1.2.2.1 (v1.1.length : Int) .lss; (match t5 with | true => (reqB (inb v1.2.2.1 v1.1.length) (Tup.d [(.sl 24)]) <| let t6 : List AV := nth v1.1 v1.2.2.1.toNat []; let r7 := F_folkmootlaw11_Of N (t6, ()) H3; req (r7.pre) <| reqB ((r7.out.1.length == 24)) (Tup.d [(.sl 24)]) <| reqB (roomL v1.2.1 [r7.out.1] 208) (Tup.d [(.sl 24)]) <| let t8 : Int := AOp.run .i64 v1.2.2.1 1 .add; R2 (v1.1, cat v1.2.1 [r7.out.1], t8, ()) H3) | false => (ok (v1.2.1, ()) H3))) N (v.1, [], 0, ()) H; req r4.pre <| ok (r4.out.1, ()) r4.H
noncomputable def S_folkmootlaw11_OfAll (N : Nat) : Sem := ⟨[(.sl 24)], [(.sl 24)], .glob, true, F_folkmootlaw11_OfAll N⟩
theorem den_folkmootlaw11_OfAll (N : Nat) (v : List (List AV) × Unit) (H : Heap) : fd_folkmootlaw11_OfAll.sem N (G_folkmootlaw11_OfAll N) v H = F_folkmootlaw11_OfAll N v H := by kernel_rfl

/-! folkmoot/folkmootlaw12.Of -/
def c_folkmootlaw12_Of : C' :=
  .seq (.ops false [
    ⟨some 1, .lbox 0 6 (.t 0) false, none⟩,
    ⟨some 2, .lalloc 1 6 [.i .i64 0, .i .i64 0, .i .i64 0, .i .i64 0, .i .i64 0, .sl 24 []] [5], none⟩])
  (.seq (.ops true [
    ⟨some 3, .fa (.t 1) 0, none⟩,
    ⟨some 4, .lload 0 (.t 3) (.agg 5), none⟩,
    ⟨some 5, .call true false 59 [(.t 4)], none⟩,
    ⟨some 6, .fa (.t 1) 5, none⟩,
    ⟨some 7, .lload 0 (.t 6) (.one (.sl 24)), none⟩,
    ⟨some 8, .call true false 74 [(.t 7)], none⟩,
    ⟨some 9, .build [.i .i64 0, .i .i64 0, .i .i64 0, .i .i64 0, .i .i64 0, .sl 24 []] [((.t 5), 0, 5), ((.t 8), 5, 1)], none⟩,
    ⟨none, .lstore 1 (.t 2) (.agg 6) (.t 9), none⟩])
  (.ret))
def fd_folkmootlaw12_Of : FD := ⟨10, 2, [.ag], [.cell 2 (.agg 6) .ag], c_folkmootlaw12_Of⟩
noncomputable def G_folkmootlaw12_Of (N : Nat) : Env := [(59, S_folkmootlaw9_Of N), (74, S_folkmootlaw11_OfAll N)]
noncomputable def F_folkmootlaw12_Of (N : Nat) (v : List AV × Unit) (H : Heap) : Res (List AV × Unit) :=
  reqB (v.1.length == 6) (Tup.d [.ag]) <| let r1 := F_folkmootlaw9_Of N (sub v.1 0 5, ()) H; req (r1.pre) <| reqB ((nth v.1 5 .junk).isSl 24) (Tup.d [.ag]) <| let r2 := F_folkmootlaw11_OfAll N ((nth v.1 5 .junk).els, ()) H; req (r2.pre) <| reqB ((r1.out.1.length == 5)) (Tup.d [.ag]) <| ok ([nth r1.out.1 0 .junk, nth r1.out.1 1 .junk, nth r1.out.1 2 .junk, nth r1.out.1 3 .junk, nth r1.out.1 4 .junk, .sl 24 r2.out.1], ()) H
noncomputable def S_folkmootlaw12_Of (N : Nat) : Sem := ⟨[.ag], [.ag], .glob, true, F_folkmootlaw12_Of N⟩
theorem den_folkmootlaw12_Of (N : Nat) (v : List AV × Unit) (H : Heap) : fd_folkmootlaw12_Of.sem N (G_folkmootlaw12_Of N) v H = F_folkmootlaw12_Of N v H := by kernel_rfl

/-! folkmoot/folkmootlaw14.Of -/
def c_folkmootlaw14_Of : C' :=
  .seq (.ops false [
    ⟨some 1, .lbox 0 23 (.t 0) false, none⟩,
    ⟨some 2, .lalloc 1 23 [.i .u64 0, .i .i64 0, .i .i64 0, .i .i64 0, .i .u64 0, .i .u64 0, .i .u64 0, .i .u64 0, .i .u64 0, .i .u64 0, .i .u64 0, .i .u64 0, .i .u64 0, .i .u64 0, .i .u64 0, .i .u64 0, .i .u64 0, .i .u64 0, .i .u64 0, .i .u64 0, .i .u64 0, .i .u64 0, .sl 1 []] [22], none⟩])
  (.seq (.ops true [
    ⟨some 3, .fa (.t 1) 0, none⟩,
    ⟨some 4, .lload 0 (.t 3) (.one (.i .u64)), none⟩,
    ⟨some 5, .fa (.t 1) 1, none⟩,
    ⟨some 6, .lload 0 (.t 5) (.one (.i .i64)), none⟩,
    ⟨some 7, .fa (.t 1) 2, none⟩,
    ⟨some 8, .lload 0 (.t 7) (.agg 21), none⟩,
    ⟨some 9, .call true false 73 [(.t 8)], none⟩,
    ⟨some 10, .build [.i .u64 0, .i .i64 0, .i .i64 0, .i .i64 0, .i .u64 0, .i .u64 0, .i .u64 0, .i .u64 0, .i .u64 0, .i .u64 0, .i .u64 0, .i .u64 0, .i .u64 0, .i .u64 0, .i .u64 0, .i .u64 0, .i .u64 0, .i .u64 0, .i .u64 0, .i .u64 0, .i .u64 0, .i .u64 0, .sl 1 []] [((.t 4), 0, 1), ((.t 6), 1, 1), ((.t 9), 2, 21)], none⟩,
    ⟨none, .lstore 1 (.t 2) (.agg 23) (.t 10), none⟩])
  (.ret))
def fd_folkmootlaw14_Of : FD := ⟨11, 2, [.ag], [.cell 2 (.agg 23) .ag], c_folkmootlaw14_Of⟩
noncomputable def G_folkmootlaw14_Of (N : Nat) : Env := [(73, S_folkmootlaw5_Of N)]
noncomputable def F_folkmootlaw14_Of (N : Nat) (v : List AV × Unit) (H : Heap) : Res (List AV × Unit) :=
  reqB (v.1.length == 23) (Tup.d [.ag]) <| reqB ((nth v.1 0 .junk).isI .u64) (Tup.d [.ag]) <| reqB ((nth v.1 1 .junk).isI .i64) (Tup.d [.ag]) <| let r1 := F_folkmootlaw5_Of N (sub v.1 2 21, ()) H; req (r1.pre) <| reqB ((r1.out.1.length == 21)) (Tup.d [.ag]) <| ok ([.i .u64 ((nth v.1 0 .junk).num), .i .i64 ((nth v.1 1 .junk).num), nth r1.out.1 0 .junk, nth r1.out.1 1 .junk, nth r1.out.1 2 .junk, nth r1.out.1 3 .junk, nth r1.out.1 4 .junk, nth r1.out.1 5 .junk, nth r1.out.1 6 .junk, nth r1.out.1 7 .junk, nth r1.out.1 8 .junk, nth r1.out.1 9 .junk, nth r1.out.1 10 .junk, nth r1.out.1 11 .junk, nth r1.out.1 12 .junk, nth r1.out.1 13 .junk, nth r1.out.1 14 .junk, nth r1.out.1 15 .junk, nth r1.out.1 16 .junk, nth r1.out.1 17 .junk, nth r1.out.1 18 .junk, nth r1.out.1 19 .junk, nth r1.out.1 20 .junk], ()) H
noncomputable def S_folkmootlaw14_Of (N : Nat) : Sem := ⟨[.ag], [.ag], .glob, true, F_folkmootlaw14_Of N⟩
theorem den_folkmootlaw14_Of (N : Nat) (v : List AV × Unit) (H : Heap) : fd_folkmootlaw14_Of.sem N (G_folkmootlaw14_Of N) v H = F_folkmootlaw14_Of N v H := by kernel_rfl

/-! folkmoot/folkmootlaw12.OfAll -/
def c_folkmootlaw12_OfAll : C' :=
  .seq (.ops false [
    ⟨some 2, .mov (.co (.sl 6 [])), none⟩])
  (.seq (.ops false [
    ⟨some 3, .mov (.co (.sl 6 [])), none⟩])
  (.seq (.seq (.ops false [
    ⟨some 4, .mov (.c (.i .i64 0)), none⟩])
  (.loop 0 (.seq (.seq (.ops false [
    ⟨some 5, .mov (.t 4), none⟩,
    ⟨some 6, .mov (.t 0), none⟩,
    ⟨some 7, .lenL (.t 6) 6, none⟩,
    ⟨some 8, .cmp .lss .i64 (.t 5) (.t 7), none⟩])
  (.cond (.t 8) (.skip) (.exit 0)))
  (.seq (.block 1 (.ops false [
    ⟨some 11, .movO 3, none⟩,
    ⟨some 12, .mov (.t 0), none⟩,
    ⟨some 13, .mov (.t 4), none⟩,
    ⟨some 14, .ixa (.t 12) (.t 13) .i64 6, none⟩,
    ⟨some 15, .iload (.t 14) (.agg 6), none⟩,
    ⟨some 16, .call true false 61 [(.t 15)], none⟩,
    ⟨some 17, .bslice 6 1 [.i .i64 0, .i .i64 0, .i .i64 0, .i .i64 0, .i .i64 0, .sl 24 []] [((.t 16), 0)], none⟩,
    ⟨some 18, .app 11 (.t 17) 6 64, none⟩,
    ⟨some 3, .movO 18, none⟩]))
  (.ops false [
    ⟨some 9, .mov (.t 4), none⟩,
    ⟨some 10, .arith .add .i64 (.t 9) (.c (.i .i64 1)), none⟩,
    ⟨some 4, .mov (.t 10), none⟩]))) [⟨0, .glob, (.sl 6)⟩, ⟨3, .own, (.sl 6)⟩, ⟨4, .glob, (.i .i64)⟩] [] [⟨3, .own, (.sl 6)⟩]))
  (.seq (.ops false [
    ⟨some 19, .mov (.t 3), none⟩,
    ⟨some 2, .mov (.t 19), none⟩])
  (.ret))))
def fd_folkmootlaw12_OfAll : FD := ⟨20, 0, [(.sl 6)], [.tmp 2 .glob (.sl 6)], c_folkmootlaw12_OfAll⟩
noncomputable def G_folkmootlaw12_OfAll (N : Nat) : Env := [(61, S_folkmootlaw12_Of N)]
noncomputable def F_folkmootlaw12_OfAll (N : Nat) (v : List (List AV) × Unit) (H : Heap) : Res (List (List AV) × Unit) :=
  let r4 := iter (α := List (List AV) × List (List AV) × Int × Unit) (β := List (List AV) × Unit) (Tup.d [(.sl 6)]) (fun R2 v1 H3 => let t5 : Bool := COp.run v1.2.2.1 (v1.1.length : Int) .lss; (match t5 with | true => (reqB (inb v1.2.2.1 v1.1.length) (Tup.d [(.sl 6)]) <| let t6 : List AV := nth v1.1 v1.2.2.1.toNat []; let r7 := F_folkmootlaw12_Of N (t6, ()) H3; req (r7.pre) <| reqB ((r7.out.1.length == 6)) (Tup.d [(.sl 6)]) <| reqB (roomL v1.2.1 [r7.out.1] 64) (Tup.d [(.sl 6)]) <| let t8 : Int := AOp.run .i64 v1.2.2.1 1 .add; R2 (v1.1, cat v1.2.1 [r7.out.1], t8, ()) H3) | false => (ok (v1.2.1, ()) H3))) N (v.1, [], 0, ()) H; req r4.pre <| ok (r4.out.1, ()) r4.H
noncomputable def S_folkmootlaw12_OfAll (N : Nat) : Sem := ⟨[(.sl 6)], [(.sl 6)], .glob, true, F_folkmootlaw12_OfAll N⟩
theorem den_folkmootlaw12_OfAll (N : Nat) (v : List (List AV) × Unit) (H : Heap) : fd_folkmootlaw12_OfAll.sem N (G_folkmootlaw12_OfAll N) v H = F_folkmootlaw12_OfAll N v H := by kernel_rfl

/-! folkmoot/folkmootlaw15.Of -/
def c_folkmootlaw15_Of : C' :=
  .seq (.ops false [
    ⟨some 1, .lbox 0 25 (.t 0) false, none⟩,
    ⟨some 2, .lalloc 1 25 [.i .i64 0, .i .i64 0, .i .i64 0, .sl 6 [], .i .i64 0, .i .i64 0, .i .u64 0, .i .u64 0, .i .u64 0, .i .u64 0, .i .u64 0, .i .u64 0, .i .u64 0, .i .u64 0, .i .u64 0, .i .u64 0, .i .u64 0, .i .u64 0, .i .u64 0, .i .u64 0, .i .u64 0, .i .u64 0, .i .u64 0, .i .u64 0, .sl 1 []] [3, 24], none⟩])
  (.seq (.ops true [
    ⟨some 3, .fa (.t 1) 0, none⟩,
    ⟨some 4, .lload 0 (.t 3) (.one (.i .i64)), none⟩,
    ⟨some 5, .fa (.t 1) 1, none⟩,
    ⟨some 6, .lload 0 (.t 5) (.one (.i .i64)), none⟩,
    ⟨some 7, .fa (.t 1) 2, none⟩,
    ⟨some 8, .lload 0 (.t 7) (.one (.i .i64)), none⟩,
    ⟨some 9, .fa (.t 1) 3, none⟩,
    ⟨some 10, .lload 0 (.t 9) (.one (.sl 6)), none⟩,
    ⟨some 11, .call true false 75 [(.t 10)], none⟩,
    ⟨some 12, .fa (.t 1) 4, none⟩,
    ⟨some 13, .lload 0 (.t 12) (.agg 21), none⟩,
    ⟨some 14, .call true false 73 [(.t 13)], none⟩,
    ⟨some 15, .build [.i .i64 0, .i .i64 0, .i .i64 0, .sl 6 [], .i .i64 0, .i .i64 0, .i .u64 0, .i .u64 0, .i .u64 0, .i .u64 0, .i .u64 0, .i .u64 0, .i .u64 0, .i .u64 0, .i .u64 0, .i .u64 0, .i .u64 0, .i .u64 0, .i .u64 0, .i .u64 0, .i .u64 0, .i .u64 0, .i .u64 0, .i .u64 0, .sl 1 []] [((.t 4), 0, 1), ((.t 6), 1, 1), ((.t 8), 2, 1), ((.t 11), 3, 1), ((.t 14), 4, 21)], none⟩,
    ⟨none, .lstore 1 (.t 2) (.agg 25) (.t 15), none⟩])
  (.ret))
def fd_folkmootlaw15_Of : FD := ⟨16, 2, [.ag], [.cell 2 (.agg 25) .ag], c_folkmootlaw15_Of⟩
noncomputable def G_folkmootlaw15_Of (N : Nat) : Env := [(73, S_folkmootlaw5_Of N), (75, S_folkmootlaw12_OfAll N)]
noncomputable def F_folkmootlaw15_Of (N : Nat) (v : List AV × Unit) (H : Heap) : Res (List AV × Unit) :=
  reqB (v.1.length == 25) (Tup.d [.ag]) <| reqB ((nth v.1 0 .junk).isI .i64) (Tup.d [.ag]) <| reqB ((nth v.1 1 .junk).isI .i64) (Tup.d [.ag]) <| reqB ((nth v.1 2 .junk).isI .i64) (Tup.d [.ag]) <| reqB ((nth v.1 3 .junk).isSl 6) (Tup.d [.ag]) <| let r1 := F_folkmootlaw12_OfAll N ((nth v.1 3 .junk).els, ()) H; req (r1.pre) <| let r2 := F_folkmootlaw5_Of N (sub v.1 4 21, ()) H; req (r2.pre) <| reqB ((r2.out.1.length == 21)) (Tup.d [.ag]) <| ok ([.i .i64 ((nth v.1 0 .junk).num), .i .i64 ((nth v.1 1 .junk).num), .i .i64 ((nth v.1 2 .junk).num), .sl 6 r1.out.1, nth r2.out.1 0 .junk, nth r2.out.1 1 .junk, nth r2.out.1 2 .junk, nth r2.out.1 3 .junk, nth r2.out.1 4 .junk, nth r2.out.1 5 .junk, nth r2.out.1 6 .junk, nth r2.out.1 7 .junk, nth r2.out.1 8 .junk, nth r2.out.1 9 .junk, nth r2.out.1 10 .junk, nth r2.out.1 11 .junk, nth r2.out.1 12 .junk, nth r2.out.1 13 .junk, nth r2.out.1 14 .junk, nth r2.out.1 15 .junk, nth r2.out.1 16 .junk, nth r2.out.1 17 .junk, nth r2.out.1 18 .junk, nth r2.out.1 19 .junk, nth r2.out.1 20 .junk], ()) H
noncomputable def S_folkmootlaw15_Of (N : Nat) : Sem := ⟨[.ag], [.ag], .glob, true, F_folkmootlaw15_Of N⟩
theorem den_folkmootlaw15_Of (N : Nat) (v : List AV × Unit) (H : Heap) : fd_folkmootlaw15_Of.sem N (G_folkmootlaw15_Of N) v H = F_folkmootlaw15_Of N v H := by kernel_rfl

/-! folkmoot/folkmootlaw16.OfVote -/
def c_folkmootlaw16_OfVote : C' :=
  .seq (.ops false [
    ⟨some 1, .lbox 0 24 (.t 0) false, none⟩,
    ⟨some 2, .lalloc 1 24 [.i .i64 0, .i .u64 0, .i .i64 0, .i .i64 0, .i .i64 0, .i .u64 0, .i .u64 0, .i .u64 0, .i .u64 0, .i .u64 0, .i .u64 0, .i .u64 0, .i .u64 0, .i .u64 0, .i .u64 0, .i .u64 0, .i .u64 0, .i .u64 0, .i .u64 0, .i .u64 0, .i .u64 0, .i .u64 0, .i .u64 0, .sl 1 []] [23], none⟩])
  (.seq (.ops true [
    ⟨some 3, .fa (.t 1) 0, none⟩,
    ⟨some 4, .lload 0 (.t 3) (.one (.i .i64)), none⟩,
    ⟨some 5, .fa (.t 1) 1, none⟩,
    ⟨some 6, .lload 0 (.t 5) (.one (.i .u64)), none⟩,
    ⟨some 7, .fa (.t 1) 2, none⟩,
    ⟨some 8, .lload 0 (.t 7) (.one (.i .i64)), none⟩,
    ⟨some 9, .fa (.t 1) 3, none⟩,
    ⟨some 10, .lload 0 (.t 9) (.agg 21), none⟩,
    ⟨some 11, .call true false 73 [(.t 10)], none⟩,
    ⟨some 12, .build [.i .i64 0, .i .u64 0, .i .i64 0, .i .i64 0, .i .i64 0, .i .u64 0, .i .u64 0, .i .u64 0, .i .u64 0, .i .u64 0, .i .u64 0, .i .u64 0, .i .u64 0, .i .u64 0, .i .u64 0, .i .u64 0, .i .u64 0, .i .u64 0, .i .u64 0, .i .u64 0, .i .u64 0, .i .u64 0, .i .u64 0, .sl 1 []] [((.t 4), 0, 1), ((.t 6), 1, 1), ((.t 8), 2, 1), ((.t 11), 3, 21)], none⟩,
    ⟨none, .lstore 1 (.t 2) (.agg 24) (.t 12), none⟩])
  (.ret))
def fd_folkmootlaw16_OfVote : FD := ⟨13, 2, [.ag], [.cell 2 (.agg 24) .ag], c_folkmootlaw16_OfVote⟩
noncomputable def G_folkmootlaw16_OfVote (N : Nat) : Env := [(73, S_folkmootlaw5_Of N)]
noncomputable def F_folkmootlaw16_OfVote (N : Nat) (v : List AV × Unit) (H : Heap) : Res (List AV × Unit) :=
  reqB (v.1.length == 24) (Tup.d [.ag]) <| reqB ((nth v.1 0 .junk).isI .i64) (Tup.d [.ag]) <| reqB ((nth v.1 1 .junk).isI .u64) (Tup.d [.ag]) <| reqB ((nth v.1 2 .junk).isI .i64) (Tup.d [.ag]) <| let r1 := F_folkmootlaw5_Of N (sub v.1 3 21, ()) H; req (r1.pre) <| reqB ((r1.out.1.length == 21)) (Tup.d [.ag]) <| ok ([.i .i64 ((nth v.1 0 .junk).num), .i .u64 ((nth v.1 1 .junk).num), .i .i64 ((nth v.1 2 .junk).num), nth r1.out.1 0 .junk, nth r1.out.1 1 .junk, nth r1.out.1 2 .junk, nth r1.out.1 3 .junk, nth r1.out.1 4 .junk, nth r1.out.1 5 .junk, nth r1.out.1 6 .junk, nth r1.out.1 7 .junk, nth r1.out.1 8 .junk, nth r1.out.1 9 .junk, nth r1.out.1 10 .junk, nth r1.out.1 11 .junk, nth r1.out.1 12 .junk, nth r1.out.1 13 .junk, nth r1.out.1 14 .junk, nth r1.out.1 15 .junk, nth r1.out.1 16 .junk, nth r1.out.1 17 .junk, nth r1.out.1 18 .junk, nth r1.out.1 19 .junk, nth r1.out.1 20 .junk], ()) H
noncomputable def S_folkmootlaw16_OfVote (N : Nat) : Sem := ⟨[.ag], [.ag], .glob, true, F_folkmootlaw16_OfVote N⟩
theorem den_folkmootlaw16_OfVote (N : Nat) (v : List AV × Unit) (H : Heap) : fd_folkmootlaw16_OfVote.sem N (G_folkmootlaw16_OfVote N) v H = F_folkmootlaw16_OfVote N v H := by kernel_rfl

/-! folkmoot/folkmootlaw16.OfQC -/
def c_folkmootlaw16_OfQC : C' :=
  .seq (.ops false [
    ⟨some 1, .lbox 0 3 (.t 0) false, none⟩,
    ⟨some 2, .lalloc 1 3 [.i .i64 0, .i .u64 0, .sl 24 []] [2], none⟩])
  (.seq (.ops false [
    ⟨some 5, .fa (.t 1) 0, none⟩,
    ⟨some 6, .lload 0 (.t 5) (.one (.i .i64)), none⟩,
    ⟨some 7, .fa (.t 1) 1, none⟩,
    ⟨some 8, .lload 0 (.t 7) (.one (.i .u64)), none⟩,
    ⟨some 9, .build [.i .i64 0, .i .u64 0, .sl 24 []] [((.t 6), 0, 1), ((.t 8), 1, 1)], none⟩,
    ⟨some 3, .lalloc 2 3 [.i .i64 0, .i .u64 0, .sl 24 []] [2], none⟩,
    ⟨none, .lstore 2 (.t 3) (.agg 3) (.t 9), none⟩])
  (.seq (.seq (.ops false [
    ⟨some 4, .mov (.c (.i .i64 0)), none⟩])
  (.loop 0 (.seq (.seq (.ops false [
    ⟨some 10, .mov (.t 4), none⟩,
    ⟨some 11, .fa (.t 1) 2, none⟩,
    ⟨some 12, .lload 0 (.t 11) (.one (.sl 24)), none⟩,
    ⟨some 13, .lenL (.t 12) 24, none⟩,
    ⟨some 14, .cmp .lss .i64 (.t 10) (.t 13), none⟩])
  (.cond (.t 14) (.skip) (.exit 0)))
  (.seq (.block 1 (.ops true [
    ⟨some 17, .fa (.t 3) 2, none⟩,
    ⟨some 18, .lloadO 2 (.t 17) 24, none⟩,
    ⟨some 19, .fa (.t 1) 2, none⟩,
    ⟨some 20, .lload 0 (.t 19) (.one (.sl 24)), none⟩,
    ⟨some 21, .mov (.t 4), none⟩,
    ⟨some 22, .ixa (.t 20) (.t 21) .i64 24, none⟩,
    ⟨some 23, .iload (.t 22) (.agg 24), none⟩,
    ⟨some 24, .call true false 65 [(.t 23)], none⟩,
    ⟨some 25, .bslice 24 1 [.i .i64 0, .i .u64 0, .i .i64 0, .i .i64 0, .i .i64 0, .i .u64 0, .i .u64 0, .i .u64 0, .i .u64 0, .i .u64 0, .i .u64 0, .i .u64 0, .i .u64 0, .i .u64 0, .i .u64 0, .i .u64 0, .i .u64 0, .i .u64 0, .i .u64 0, .i .u64 0, .i .u64 0, .i .u64 0, .i .u64 0, .sl 1 []] [((.t 24), 0)], none⟩,
    ⟨some 26, .app 18 (.t 25) 24 208, none⟩,
    ⟨some 27, .fa (.t 3) 2, none⟩,
    ⟨none, .lstoreO 2 (.t 27) 26, none⟩]))
  (.ops false [
    ⟨some 15, .mov (.t 4), none⟩,
    ⟨some 16, .arith .add .i64 (.t 15) (.c (.i .i64 1)), none⟩,
    ⟨some 4, .mov (.t 16), none⟩]))) [⟨1, .loc, (.lpc 0)⟩, ⟨2, .loc, (.lpc 1)⟩, ⟨3, .loc, (.lpc 2)⟩, ⟨4, .glob, (.i .i64)⟩] [⟨0, 3, []⟩, ⟨1, 3, [2]⟩, ⟨2, 3, [2]⟩] [⟨2, .loc, (.lpc 1)⟩, ⟨3, .loc, (.lpc 2)⟩]))
  (.seq (.ops false [
    ⟨some 28, .lload 2 (.t 3) (.agg 3), none⟩,
    ⟨none, .lstore 1 (.t 2) (.agg 3) (.t 28), none⟩])
  (.ret))))
def fd_folkmootlaw16_OfQC : FD := ⟨29, 3, [.ag], [.cell 2 (.agg 3) .ag], c_folkmootlaw16_OfQC⟩
noncomputable def G_folkmootlaw16_OfQC (N : Nat) : Env := [(65, S_folkmootlaw16_OfVote N)]
noncomputable def F_folkmootlaw16_OfQC (N : Nat) (v : List AV × Unit) (H : Heap) : Res (List AV × Unit) :=
  reqB (v.1.length == 3) (Tup.d [.ag]) <| reqB ((nth v.1 0 .junk).isI .i64) (Tup.d [.ag]) <| reqB ((nth v.1 1 .junk).isI .u64) (Tup.d [.ag]) <| let r4 := iter (α := Unit × Unit × Unit × Int × List AV × List AV × List AV × Unit) (β := Unit × Unit × List AV × List AV × List AV × Unit) (Tup.d [(.lpc 1), (.lpc 2), .ag, .ag, .ag]) (fun R2 v1 H3 => reqB ((nth v1.2.2.2.2.1 2 .junk).isSl 24) (Tup.d [(.lpc 1), (.lpc 2), .ag, .ag, .ag]) <| let t5 : List (List AV) := (nth v1.2.2.2.2.1 2 .junk).els; let t6 : Bool := COp.run v1.2.2.2.1 (t5.length : Int) .lss; (match t6 with | true => (reqB ((nth v1.2.2.2.2.2.2.1 2 .junk).isSl 24) (Tup.d [(.lpc 1), (.lpc 2), .ag, .ag, .ag]) <| reqB ((nth v1.2.2.2.2.1 2 .junk).isSl 24) (Tup.d [(.lpc 1), (.lpc 2), .ag, .ag, .ag]) <| let t7 : List (List AV) := (nth v1.2.2.2.2.1 2 .junk).els; reqB (inb v1.2.2.2.1 t7.length) (Tup.d [(.lpc 1), (.lpc 2), .ag, .ag, .ag]) <| let t8 : List AV := nth t7 v1.2.2.2.1.toNat []; let r9 := F_folkmootlaw16_OfVote N (t8, ()) H3; req (r9.pre) <| reqB ((r9.out.1.length == 24)) (Tup.d [(.lpc 1), (.lpc 2), .ag, .ag, .ag]) <| reqB (roomL ((nth v1.2.2.2.2.2.2.1 2 .junk).els) [r9.out.1] 208) (Tup.d [(.lpc 1), (.lpc 2), .ag, .ag, .ag]) <| let t10 : List (List AV) := cat ((nth v1.2.2.2.2.2.2.1 2 .junk).els) [r9.out.1]; let t11 : Int := AOp.run .i64 v1.2.2.2.1 1 .add; R2 ((), (), (), t11, v1.2.2.2.2.1, v1.2.2.2.2.2.1, upd v1.2.2.2.2.2.2.1 2 (.sl 24 t10), ()) H3) | false => (ok ((), (), v1.2.2.2.2.1, v1.2.2.2.2.2.1, v1.2.2.2.2.2.2.1, ()) H3))) N ((), (), (), 0, v.1, [.i .i64 0, .i .u64 0, .sl 24 []], [.i .i64 ((nth v.1 0 .junk).num), .i .u64 ((nth v.1 1 .junk).num), .sl 24 []], ()) H; req r4.pre <| reqB (r4.out.2.2.2.2.1.length == 3) (Tup.d [.ag]) <| ok (r4.out.2.2.2.2.1, ()) r4.H
noncomputable def S_folkmootlaw16_OfQC (N : Nat) : Sem := ⟨[.ag], [.ag], .glob, true, F_folkmootlaw16_OfQC N⟩
theorem den_folkmootlaw16_OfQC (N : Nat) (v : List AV × Unit) (H : Heap) : fd_folkmootlaw16_OfQC.sem N (G_folkmootlaw16_OfQC N) v H = F_folkmootlaw16_OfQC N v H := by kernel_rfl

/-! folkmoot/folkmootlaw15.OfAll -/
def c_folkmootlaw15_OfAll : C' :=
  .seq (.ops false [
    ⟨some 2, .mov (.co (.sl 25 [])), none⟩])
  (.seq (.ops false [
    ⟨some 3, .mov (.co (.sl 25 [])), none⟩])
  (.seq (.seq (.ops false [
    ⟨some 4, .mov (.c (.i .i64 0)), none⟩])
  (.loop 0 (.seq (.seq (.ops false [
    ⟨some 5, .mov (.t 4), none⟩,
    ⟨some 6, .mov (.t 0), none⟩,
    ⟨some 7, .lenL (.t 6) 25, none⟩,
    ⟨some 8, .cmp .lss .i64 (.t 5) (.t 7), none⟩])
  (.cond (.t 8) (.skip) (.exit 0)))
  (.seq (.block 1 (.ops false [
    ⟨some 11, .movO 3, none⟩,
    ⟨some 12, .mov (.t 0), none⟩,
    ⟨some 13, .mov (.t 4), none⟩,
    ⟨some 14, .ixa (.t 12) (.t 13) .i64 25, none⟩,
    ⟨some 15, .iload (.t 14) (.agg 25), none⟩,
    ⟨some 16, .call true false 63 [(.t 15)], none⟩,
    ⟨some 17, .bslice 25 1 [.i .i64 0, .i .i64 0, .i .i64 0, .sl 6 [], .i .i64 0, .i .i64 0, .i .u64 0, .i .u64 0, .i .u64 0, .i .u64 0, .i .u64 0, .i .u64 0, .i .u64 0, .i .u64 0, .i .u64 0, .i .u64 0, .i .u64 0, .i .u64 0, .i .u64 0, .i .u64 0, .i .u64 0, .i .u64 0, .i .u64 0, .i .u64 0, .sl 1 []] [((.t 16), 0)], none⟩,
    ⟨some 18, .app 11 (.t 17) 25 232, none⟩,
    ⟨some 3, .movO 18, none⟩]))
  (.ops false [
    ⟨some 9, .mov (.t 4), none⟩,
    ⟨some 10, .arith .add .i64 (.t 9) (.c (.i .i64 1)), none⟩,
    ⟨some 4, .mov (.t 10), none⟩]))) [⟨0, .glob, (.sl 25)⟩, ⟨3, .own, (.sl 25)⟩, ⟨4, .glob, (.i .i64)⟩] [] [⟨3, .own, (.sl 25)⟩]))
  (.seq (.ops false [
    ⟨some 19, .mov (.t 3), none⟩,
    ⟨some 2, .mov (.t 19), none⟩])
  (.ret))))
def fd_folkmootlaw15_OfAll : FD := ⟨20, 0, [(.sl 25)], [.tmp 2 .glob (.sl 25)], c_folkmootlaw15_OfAll⟩
noncomputable def G_folkmootlaw15_OfAll (N : Nat) : Env := [(63, S_folkmootlaw15_Of N)]
noncomputable def F_folkmootlaw15_OfAll (N : Nat) (v : List (List AV) × Unit) (H : Heap) : Res (List (List AV) × Unit) :=
  let r4 := iter (α := List (List AV) × List (List AV) × Int × Unit) (β := List (List AV) × Unit) (Tup.d [(.sl 25)]) (fun R2 v1 H3 => let t5 : Bool := COp.run v1.2.2.1 (v1.1.length : Int) .lss; (match t5 with | true => (reqB (inb v1.2.2.1 v1.1.length) (Tup.d [(.sl 25)]) <| let t6 : List AV := nth v1.1 v1.2.2.1.toNat []; let r7 := F_folkmootlaw15_Of N (t6, ()) H3; req (r7.pre) <| reqB ((r7.out.1.length == 25)) (Tup.d [(.sl 25)]) <| reqB (roomL v1.2.1 [r7.out.1] 232) (Tup.d [(.sl 25)]) <| let t8 : Int := AOp.run .i64 v1.2.2.1 1 .add; R2 (v1.1, cat v1.2.1 [r7.out.1], t8, ()) H3) | false => (ok (v1.2.1, ()) H3))) N (v.1, [], 0, ()) H; req r4.pre <| ok (r4.out.1, ()) r4.H
noncomputable def S_folkmootlaw15_OfAll (N : Nat) : Sem := ⟨[(.sl 25)], [(.sl 25)], .glob, true, F_folkmootlaw15_OfAll N⟩
theorem den_folkmootlaw15_OfAll (N : Nat) (v : List (List AV) × Unit) (H : Heap) : fd_folkmootlaw15_OfAll.sem N (G_folkmootlaw15_OfAll N) v H = F_folkmootlaw15_OfAll N v H := by kernel_rfl

/-! folkmoot/folkmootlaw16.Of -/
def c_folkmootlaw16_Of : C' :=
  .seq (.ops false [
    ⟨some 1, .lbox 0 8 (.t 0) false, none⟩,
    ⟨some 2, .lalloc 1 8 [.i .i64 0, .i .u64 0, .i .i64 0, .i .u64 0, .sl 24 [], .i .i64 0, .i .i64 0, .sl 25 []] [4, 7], none⟩])
  (.seq (.ops true [
    ⟨some 3, .fa (.t 1) 0, none⟩,
    ⟨some 4, .lload 0 (.t 3) (.one (.i .i64)), none⟩,
    ⟨some 5, .fa (.t 1) 1, none⟩,
    ⟨some 6, .lload 0 (.t 5) (.one (.i .u64)), none⟩,
    ⟨some 7, .fa (.t 1) 2, none⟩,
    ⟨some 8, .lload 0 (.t 7) (.agg 3), none⟩,
    ⟨some 9, .call true false 76 [(.t 8)], none⟩,
    ⟨some 10, .fa (.t 1) 5, none⟩,
    ⟨some 11, .lload 0 (.t 10) (.one (.i .i64)), none⟩,
    ⟨some 12, .fa (.t 1) 6, none⟩,
    ⟨some 13, .lload 0 (.t 12) (.one (.i .i64)), none⟩,
    ⟨some 14, .fa (.t 1) 7, none⟩,
    ⟨some 15, .lload 0 (.t 14) (.one (.sl 25)), none⟩,
    ⟨some 16, .call true false 77 [(.t 15)], none⟩,
    ⟨some 17, .build [.i .i64 0, .i .u64 0, .i .i64 0, .i .u64 0, .sl 24 [], .i .i64 0, .i .i64 0, .sl 25 []] [((.t 4), 0, 1), ((.t 6), 1, 1), ((.t 9), 2, 3), ((.t 11), 5, 1), ((.t 13), 6, 1), ((.t 16), 7, 1)], none⟩,
    ⟨none, .lstore 1 (.t 2) (.agg 8) (.t 17), none⟩])
  (.ret))
def fd_folkmootlaw16_Of : FD := ⟨18, 2, [.ag], [.cell 2 (.agg 8) .ag], c_folkmootlaw16_Of⟩
noncomputable def G_folkmootlaw16_Of (N : Nat) : Env := [(76, S_folkmootlaw16_OfQC N), (77, S_folkmootlaw15_OfAll N)]
noncomputable def F_folkmootlaw16_Of (N : Nat) (v : List AV × Unit) (H : Heap) : Res (List AV × Unit) :=
  reqB (v.1.length == 8) (Tup.d [.ag]) <| reqB ((nth v.1 0 .junk).isI .i64) (Tup.d [.ag]) <| reqB ((nth v.1 1 .junk).isI .u64) (Tup.d [.ag]) <| let r1 := F_folkmootlaw16_OfQC N (sub v.1 2 3, ()) H; req (r1.pre) <| reqB ((nth v.1 5 .junk).isI .i64) (Tup.d [.ag]) <| reqB ((nth v.1 6 .junk).isI .i64) (Tup.d [.ag]) <| reqB ((nth v.1 7 .junk).isSl 25) (Tup.d [.ag]) <| let r2 := F_folkmootlaw15_OfAll N ((nth v.1 7 .junk).els, ()) H; req (r2.pre) <| reqB ((r1.out.1.length == 3)) (Tup.d [.ag]) <| ok ([.i .i64 ((nth v.1 0 .junk).num), .i .u64 ((nth v.1 1 .junk).num), nth r1.out.1 0 .junk, nth r1.out.1 1 .junk, nth r1.out.1 2 .junk, .i .i64 ((nth v.1 5 .junk).num), .i .i64 ((nth v.1 6 .junk).num), .sl 25 r2.out.1], ()) H
noncomputable def S_folkmootlaw16_Of (N : Nat) : Sem := ⟨[.ag], [.ag], .glob, true, F_folkmootlaw16_Of N⟩
theorem den_folkmootlaw16_Of (N : Nat) (v : List AV × Unit) (H : Heap) : fd_folkmootlaw16_Of.sem N (G_folkmootlaw16_Of N) v H = F_folkmootlaw16_Of N v H := by kernel_rfl

/-! folkmoot/folkmootlaw19.Of -/
def c_folkmootlaw19_Of : C' :=
  .seq (.ops false [
    ⟨some 1, .lbox 0 26 (.t 0) false, none⟩,
    ⟨some 2, .lalloc 1 26 [.i .i64 0, .i .i64 0, .i .i64 0, .i .u64 0, .sl 24 [], .i .i64 0, .i .i64 0, .i .u64 0, .i .u64 0, .i .u64 0, .i .u64 0, .i .u64 0, .i .u64 0, .i .u64 0, .i .u64 0, .i .u64 0, .i .u64 0, .i .u64 0, .i .u64 0, .i .u64 0, .i .u64 0, .i .u64 0, .i .u64 0, .i .u64 0, .i .u64 0, .sl 1 []] [4, 25], none⟩])
  (.seq (.ops true [
    ⟨some 3, .fa (.t 1) 0, none⟩,
    ⟨some 4, .lload 0 (.t 3) (.one (.i .i64)), none⟩,
    ⟨some 5, .fa (.t 1) 1, none⟩,
    ⟨some 6, .lload 0 (.t 5) (.one (.i .i64)), none⟩,
    ⟨some 7, .fa (.t 1) 2, none⟩,
    ⟨some 8, .lload 0 (.t 7) (.agg 3), none⟩,
    ⟨some 9, .call true false 76 [(.t 8)], none⟩,
    ⟨some 10, .fa (.t 1) 5, none⟩,
    ⟨some 11, .lload 0 (.t 10) (.agg 21), none⟩,
    ⟨some 12, .call true false 73 [(.t 11)], none⟩,
    ⟨some 13, .build [.i .i64 0, .i .i64 0, .i .i64 0, .i .u64 0, .sl 24 [], .i .i64 0, .i .i64 0, .i .u64 0, .i .u64 0, .i .u64 0, .i .u64 0, .i .u64 0, .i .u64 0, .i .u64 0, .i .u64 0, .i .u64 0, .i .u64 0, .i .u64 0, .i .u64 0, .i .u64 0, .i .u64 0, .i .u64 0, .i .u64 0, .i .u64 0, .i .u64 0, .sl 1 []] [((.t 4), 0, 1), ((.t 6), 1, 1), ((.t 9), 2, 3), ((.t 12), 5, 21)], none⟩,
    ⟨none, .lstore 1 (.t 2) (.agg 26) (.t 13), none⟩])
  (.ret))
def fd_folkmootlaw19_Of : FD := ⟨14, 2, [.ag], [.cell 2 (.agg 26) .ag], c_folkmootlaw19_Of⟩
noncomputable def G_folkmootlaw19_Of (N : Nat) : Env := [(73, S_folkmootlaw5_Of N), (76, S_folkmootlaw16_OfQC N)]
noncomputable def F_folkmootlaw19_Of (N : Nat) (v : List AV × Unit) (H : Heap) : Res (List AV × Unit) :=
  reqB (v.1.length == 26) (Tup.d [.ag]) <| reqB ((nth v.1 0 .junk).isI .i64) (Tup.d [.ag]) <| reqB ((nth v.1 1 .junk).isI .i64) (Tup.d [.ag]) <| let r1 := F_folkmootlaw16_OfQC N (sub v.1 2 3, ()) H; req (r1.pre) <| let r2 := F_folkmootlaw5_Of N (sub v.1 5 21, ()) H; req (r2.pre) <| reqB ((r1.out.1.length == 3)) (Tup.d [.ag]) <| reqB ((r2.out.1.length == 21)) (Tup.d [.ag]) <| ok ([.i .i64 ((nth v.1 0 .junk).num), .i .i64 ((nth v.1 1 .junk).num), nth r1.out.1 0 .junk, nth r1.out.1 1 .junk, nth r1.out.1 2 .junk, nth r2.out.1 0 .junk, nth r2.out.1 1 .junk, nth r2.out.1 2 .junk, nth r2.out.1 3 .junk, nth r2.out.1 4 .junk, nth r2.out.1 5 .junk, nth r2.out.1 6 .junk, nth r2.out.1 7 .junk, nth r2.out.1 8 .junk, nth r2.out.1 9 .junk, nth r2.out.1 10 .junk, nth r2.out.1 11 .junk, nth r2.out.1 12 .junk, nth r2.out.1 13 .junk, nth r2.out.1 14 .junk, nth r2.out.1 15 .junk, nth r2.out.1 16 .junk, nth r2.out.1 17 .junk, nth r2.out.1 18 .junk, nth r2.out.1 19 .junk, nth r2.out.1 20 .junk], ()) H
noncomputable def S_folkmootlaw19_Of (N : Nat) : Sem := ⟨[.ag], [.ag], .glob, true, F_folkmootlaw19_Of N⟩
theorem den_folkmootlaw19_Of (N : Nat) (v : List AV × Unit) (H : Heap) : fd_folkmootlaw19_Of.sem N (G_folkmootlaw19_Of N) v H = F_folkmootlaw19_Of N v H := by kernel_rfl

/-! folkmoot/folkmootlaw22.Of -/
def c_folkmootlaw22_Of : C' :=
  .seq (.ops false [
    ⟨some 1, .lbox 0 147 (.t 0) false, none⟩,
    ⟨some 2, .lalloc 1 147 [.i .i64 0, .i .i64 0, .i .i64 0, .i .i64 0, .i .i64 0, .i .i64 0, .i .i64 0, .i .i64 0, .i .u64 0, .i .i64 0, .i .i64 0, .i .i64 0, .i .i64 0, .i .u64 0, .i .u64 0, .i .u64 0, .i .u64 0, .i .u64 0, .i .u64 0, .i .u64 0, .i .u64 0, .i .u64 0, .i .u64 0, .i .u64 0, .i .u64 0, .i .u64 0, .i .u64 0, .i .u64 0, .i .u64 0, .i .u64 0, .i .u64 0, .sl 1 [], .i .i64 0, .i .i64 0, .i .i64 0, .i .i64 0, .i .i64 0, .sl 24 [], .i .u64 0, .i .i64 0, .i .i64 0, .i .i64 0, .i .u64 0, .i .u64 0, .i .u64 0, .i .u64 0, .i .u64 0, .i .u64 0, .i .u64 0, .i .u64 0, .i .u64 0, .i .u64 0, .i .u64 0, .i .u64 0, .i .u64 0, .i .u64 0, .i .u64 0, .i .u64 0, .i .u64 0, .i .u64 0, .sl 1 [], .i .i64 0, .i .i64 0, .i .i64 0, .i .i64 0, .i .i64 0, .sl 6 [], .i .i64 0, .i .i64 0, .i .u64 0, .i .u64 0, .i .u64 0, .i .u64 0, .i .u64 0, .i .u64 0, .i .u64 0, .i .u64 0, .i .u64 0, .i .u64 0, .i .u64 0, .i .u64 0, .i .u64 0, .i .u64 0, .i .u64 0, .i .u64 0, .i .u64 0, .i .u64 0, .sl 1 [], .i .i64 0, .i .u64 0, .i .i64 0, .i .u64 0, .sl 24 [], .i .i64 0, .i .i64 0, .sl 25 [], .i .i64 0, .i .u64 0, .i .i64 0, .i .i64 0, .i .i64 0, .i .u64 0, .i .u64 0, .i .u64 0, .i .u64 0, .i .u64 0, .i .u64 0, .i .u64 0, .i .u64 0, .i .u64 0, .i .u64 0, .i .u64 0, .i .u64 0, .i .u64 0, .i .u64 0, .i .u64 0, .i .u64 0, .i .u64 0, .i .u64 0, .sl 1 [], .i .i64 0, .i .i64 0, .i .i64 0, .i .u64 0, .sl 24 [], .i .i64 0, .i .i64 0, .i .u64 0, .i .u64 0, .i .u64 0, .i .u64 0, .i .u64 0, .i .u64 0, .i .u64 0, .i .u64 0, .i .u64 0, .i .u64 0, .i .u64 0, .i .u64 0, .i .u64 0, .i .u64 0, .i .u64 0, .i .u64 0, .i .u64 0, .i .u64 0, .sl 1 [], .sl 8 []] [31, 37, 60, 66, 87, 92, 95, 119, 124, 145, 146], none⟩])
  (.seq (.ops true [
    ⟨some 5, .fa (.t 1) 0, none⟩,
    ⟨some 6, .lload 0 (.t 5) (.one (.i .i64)), none⟩,
    ⟨some 7, .fa (.t 1) 1, none⟩,
    ⟨some 8, .lload 0 (.t 7) (.one (.i .i64)), none⟩,
    ⟨some 9, .fa (.t 1) 2, none⟩,
    ⟨some 10, .lload 0 (.t 9) (.one (.i .i64)), none⟩,
    ⟨some 11, .fa (.t 1) 3, none⟩,
    ⟨some 12, .lload 0 (.t 11) (.agg 5), none⟩,
    ⟨some 13, .call true false 59 [(.t 12)], none⟩,
    ⟨some 14, .fa (.t 1) 8, none⟩,
    ⟨some 15, .lload 0 (.t 14) (.agg 24), none⟩,
    ⟨some 16, .call true false 60 [(.t 15)], none⟩,
    ⟨some 17, .fa (.t 1) 32, none⟩,
    ⟨some 18, .lload 0 (.t 17) (.agg 6), none⟩,
    ⟨some 19, .call true false 61 [(.t 18)], none⟩,
    ⟨some 20, .fa (.t 1) 38, none⟩,
    ⟨some 21, .lload 0 (.t 20) (.agg 23), none⟩,
    ⟨some 22, .call true false 62 [(.t 21)], none⟩,
    ⟨some 23, .fa (.t 1) 61, none⟩,
    ⟨some 24, .lload 0 (.t 23) (.one (.i .i64)), none⟩,
    ⟨some 25, .fa (.t 1) 62, none⟩,
    ⟨some 26, .lload 0 (.t 25) (.one (.i .i64)), none⟩,
    ⟨some 27, .fa (.t 1) 63, none⟩,
    ⟨some 28, .lload 0 (.t 27) (.agg 25), none⟩,
    ⟨some 29, .call true false 63 [(.t 28)], none⟩,
    ⟨some 30, .fa (.t 1) 88, none⟩,
    ⟨some 31, .lload 0 (.t 30) (.agg 8), none⟩,
    ⟨some 32, .call true false 64 [(.t 31)], none⟩,
    ⟨some 33, .fa (.t 1) 96, none⟩,
    ⟨some 34, .lload 0 (.t 33) (.agg 24), none⟩,
    ⟨some 35, .call true false 65 [(.t 34)], none⟩,
    ⟨some 36, .fa (.t 1) 120, none⟩,
    ⟨some 37, .lload 0 (.t 36) (.agg 26), none⟩,
    ⟨some 38, .call true false 66 [(.t 37)], none⟩,
    ⟨some 39, .build [.i .i64 0, .i .i64 0, .i .i64 0, .i .i64 0, .i .i64 0, .i .i64 0, .i .i64 0, .i .i64 0, .i .u64 0, .i .i64 0, .i .i64 0, .i .i64 0, .i .i64 0, .i .u64 0, .i .u64 0, .i .u64 0, .i .u64 0, .i .u64 0, .i .u64 0, .i .u64 0, .i .u64 0, .i .u64 0, .i .u64 0, .i .u64 0, .i .u64 0, .i .u64 0, .i .u64 0, .i .u64 0, .i .u64 0, .i .u64 0, .i .u64 0, .sl 1 [], .i .i64 0, .i .i64 0, .i .i64 0, .i .i64 0, .i .i64 0, .sl 24 [], .i .u64 0, .i .i64 0, .i .i64 0, .i .i64 0, .i .u64 0, .i .u64 0, .i .u64 0, .i .u64 0, .i .u64 0, .i .u64 0, .i .u64 0, .i .u64 0, .i .u64 0, .i .u64 0, .i .u64 0, .i .u64 0, .i .u64 0, .i .u64 0, .i .u64 0, .i .u64 0, .i .u64 0, .i .u64 0, .sl 1 [], .i .i64 0, .i .i64 0, .i .i64 0, .i .i64 0, .i .i64 0, .sl 6 [], .i .i64 0, .i .i64 0, .i .u64 0, .i .u64 0, .i .u64 0, .i .u64 0, .i .u64 0, .i .u64 0, .i .u64 0, .i .u64 0, .i .u64 0, .i .u64 0, .i .u64 0, .i .u64 0, .i .u64 0, .i .u64 0, .i .u64 0, .i .u64 0, .i .u64 0, .i .u64 0, .sl 1 [], .i .i64 0, .i .u64 0, .i .i64 0, .i .u64 0, .sl 24 [], .i .i64 0, .i .i64 0, .sl 25 [], .i .i64 0, .i .u64 0, .i .i64 0, .i .i64 0, .i .i64 0, .i .u64 0, .i .u64 0, .i .u64 0, .i .u64 0, .i .u64 0, .i .u64 0, .i .u64 0, .i .u64 0, .i .u64 0, .i .u64 0, .i .u64 0, .i .u64 0, .i .u64 0, .i .u64 0, .i .u64 0, .i .u64 0, .i .u64 0, .i .u64 0, .sl 1 [], .i .i64 0, .i .i64 0, .i .i64 0, .i .u64 0, .sl 24 [], .i .i64 0, .i .i64 0, .i .u64 0, .i .u64 0, .i .u64 0, .i .u64 0, .i .u64 0, .i .u64 0, .i .u64 0, .i .u64 0, .i .u64 0, .i .u64 0, .i .u64 0, .i .u64 0, .i .u64 0, .i .u64 0, .i .u64 0, .i .u64 0, .i .u64 0, .i .u64 0, .sl 1 [], .sl 8 []] [((.t 6), 0, 1), ((.t 8), 1, 1), ((.t 10), 2, 1), ((.t 13), 3, 5), ((.t 16), 8, 24), ((.t 19), 32, 6), ((.t 22), 38, 23), ((.t 24), 61, 1), ((.t 26), 62, 1), ((.t 29), 63, 25), ((.t 32), 88, 8), ((.t 35), 96, 24), ((.t 38), 120, 26)], none⟩,
    ⟨some 3, .lalloc 2 147 [.i .i64 0, .i .i64 0, .i .i64 0, .i .i64 0, .i .i64 0, .i .i64 0, .i .i64 0, .i .i64 0, .i .u64 0, .i .i64 0, .i .i64 0, .i .i64 0, .i .i64 0, .i .u64 0, .i .u64 0, .i .u64 0, .i .u64 0, .i .u64 0, .i .u64 0, .i .u64 0, .i .u64 0, .i .u64 0, .i .u64 0, .i .u64 0, .i .u64 0, .i .u64 0, .i .u64 0, .i .u64 0, .i .u64 0, .i .u64 0, .i .u64 0, .sl 1 [], .i .i64 0, .i .i64 0, .i .i64 0, .i .i64 0, .i .i64 0, .sl 24 [], .i .u64 0, .i .i64 0, .i .i64 0, .i .i64 0, .i .u64 0, .i .u64 0, .i .u64 0, .i .u64 0, .i .u64 0, .i .u64 0, .i .u64 0, .i .u64 0, .i .u64 0, .i .u64 0, .i .u64 0, .i .u64 0, .i .u64 0, .i .u64 0, .i .u64 0, .i .u64 0, .i .u64 0, .i .u64 0, .sl 1 [], .i .i64 0, .i .i64 0, .i .i64 0, .i .i64 0, .i .i64 0, .sl 6 [], .i .i64 0, .i .i64 0, .i .u64 0, .i .u64 0, .i .u64 0, .i .u64 0, .i .u64 0, .i .u64 0, .i .u64 0, .i .u64 0, .i .u64 0, .i .u64 0, .i .u64 0, .i .u64 0, .i .u64 0, .i .u64 0, .i .u64 0, .i .u64 0, .i .u64 0, .i .u64 0, .sl 1 [], .i .i64 0, .i .u64 0, .i .i64 0, .i .u64 0, .sl 24 [], .i .i64 0, .i .i64 0, .sl 25 [], .i .i64 0, .i .u64 0, .i .i64 0, .i .i64 0, .i .i64 0, .i .u64 0, .i .u64 0, .i .u64 0, .i .u64 0, .i .u64 0, .i .u64 0, .i .u64 0, .i .u64 0, .i .u64 0, .i .u64 0, .i .u64 0, .i .u64 0, .i .u64 0, .i .u64 0, .i .u64 0, .i .u64 0, .i .u64 0, .i .u64 0, .sl 1 [], .i .i64 0, .i .i64 0, .i .i64 0, .i .u64 0, .sl 24 [], .i .i64 0, .i .i64 0, .i .u64 0, .i .u64 0, .i .u64 0, .i .u64 0, .i .u64 0, .i .u64 0, .i .u64 0, .i .u64 0, .i .u64 0, .i .u64 0, .i .u64 0, .i .u64 0, .i .u64 0, .i .u64 0, .i .u64 0, .i .u64 0, .i .u64 0, .i .u64 0, .sl 1 [], .sl 8 []] [31, 37, 60, 66, 87, 92, 95, 119, 124, 145, 146], none⟩,
    ⟨none, .lstore 2 (.t 3) (.agg 147) (.t 39), none⟩])
  (.seq (.seq (.ops false [
    ⟨some 4, .mov (.c (.i .i64 0)), none⟩])
  (.loop 0 (.seq (.seq (.ops false [
    ⟨some 40, .mov (.t 4), none⟩,
    ⟨some 41, .fa (.t 1) 146, none⟩,
    ⟨some 42, .lload 0 (.t 41) (.one (.sl 8)), none⟩,
    ⟨some 43, .lenL (.t 42) 8, none⟩,
    ⟨some 44, .cmp .lss .i64 (.t 40) (.t 43), none⟩])
  (.cond (.t 44) (.skip) (.exit 0)))
  (.seq (.block 1 (.ops true [
    ⟨some 47, .fa (.t 3) 146, none⟩,
    ⟨some 48, .lloadO 2 (.t 47) 8, none⟩,
    ⟨some 49, .fa (.t 1) 146, none⟩,
    ⟨some 50, .lload 0 (.t 49) (.one (.sl 8)), none⟩,
    ⟨some 51, .mov (.t 4), none⟩,
    ⟨some 52, .ixa (.t 50) (.t 51) .i64 8, none⟩,
    ⟨some 53, .iload (.t 52) (.agg 8), none⟩,
    ⟨some 54, .call true false 64 [(.t 53)], none⟩,
    ⟨some 55, .bslice 8 1 [.i .i64 0, .i .u64 0, .i .i64 0, .i .u64 0, .sl 24 [], .i .i64 0, .i .i64 0, .sl 25 []] [((.t 54), 0)], none⟩,
    ⟨some 56, .app 48 (.t 55) 8 96, none⟩,
    ⟨some 57, .fa (.t 3) 146, none⟩,
    ⟨none, .lstoreO 2 (.t 57) 56, none⟩]))
  (.ops false [
    ⟨some 45, .mov (.t 4), none⟩,
    ⟨some 46, .arith .add .i64 (.t 45) (.c (.i .i64 1)), none⟩,
    ⟨some 4, .mov (.t 46), none⟩]))) [⟨1, .loc, (.lpc 0)⟩, ⟨2, .loc, (.lpc 1)⟩, ⟨3, .loc, (.lpc 2)⟩, ⟨4, .glob, (.i .i64)⟩] [⟨0, 147, []⟩, ⟨1, 147, [31, 37, 60, 66, 87, 92, 95, 119, 124, 145, 146]⟩, ⟨2, 147, [146]⟩] [⟨2, .loc, (.lpc 1)⟩, ⟨3, .loc, (.lpc 2)⟩]))
  (.seq (.ops false [
    ⟨some 58, .lload 2 (.t 3) (.agg 147), none⟩,
    ⟨none, .lstore 1 (.t 2) (.agg 147) (.t 58), none⟩])
  (.ret))))
def fd_folkmootlaw22_Of : FD := ⟨59, 3, [.ag], [.cell 2 (.agg 147) .ag], c_folkmootlaw22_Of⟩
noncomputable def G_folkmootlaw22_Of (N : Nat) : Env := [(59, S_folkmootlaw9_Of N), (60, S_folkmootlaw11_Of N), (61, S_folkmootlaw12_Of N), (62, S_folkmootlaw14_Of N), (63, S_folkmootlaw15_Of N), (64, S_folkmootlaw16_Of N), (65, S_folkmootlaw16_OfVote N), (66, S_folkmootlaw19_Of N)]
noncomputable def F_folkmootlaw22_Of (N : Nat) (v : List AV × Unit) (H : Heap) : Res (List AV × Unit) :=
  reqB (v.1.length == 147) (Tup.d [.ag]) <| reqB ((nth v.1 0 .junk).isI .i64) (Tup.d [.ag]) <| reqB ((nth v.1 1 .junk).isI .i64) (Tup.d [.ag]) <| reqB ((nth v.1 2 .junk).isI .i64) (Tup.d [.ag]) <| let r1 := F_folkmootlaw9_Of N (sub v.1 3 5, ()) H; req (r1.pre) <| let r2 := F_folkmootlaw11_Of N (sub v.1 8 24, ()) H; req (r2.pre) <| let r3 := F_folkmootlaw12_Of N (sub v.1 32 6, ()) H; req (r3.pre) <| let r4 := F_folkmootlaw14_Of N (sub v.1 38 23, ()) H; req (r4.pre) <| reqB ((nth v.1 61 .junk).isI .i64) (Tup.d [.ag]) <| reqB ((nth v.1 62 .junk).isI .i64) (Tup.d [.ag]) <| let r5 := F_folkmootlaw15_Of N (sub v.1 63 25, ()) H; req (r5.pre) <| let r6 := F_folkmootlaw16_Of N (sub v.1 88 8, ()) H; req (r6.pre) <| let r7 := F_folkmootlaw16_OfVote N (sub v.1 96 24, ()) H; req (r7.pre) <| let r8 := F_folkmootlaw19_Of N (sub v.1 120 26, ()) H; req (r8.pre) <| reqB ((r1.out.1.length == 5)) (Tup.d [.ag]) <| reqB ((r2.out.1.length == 24)) (Tup.d [.ag]) <| reqB ((r3.out.1.length == 6)) (Tup.d [.ag]) <| reqB ((r4.out.1.length == 23)) (Tup.d [.ag]) <| reqB ((r5.out.1.length == 25)) (Tup.d [.ag]) <| reqB ((r6.out.1.length == 8)) (Tup.d [.ag]) <| reqB ((r7.out.1.length == 24)) (Tup.d [.ag]) <| reqB ((r8.out.1.length == 26)) (Tup.d [.ag]) <| let r12 := iter (α := Unit × Unit × Unit × Int × List AV × List AV × List AV × Unit) (β := Unit × Unit × List AV × List AV × List AV × Unit) (Tup.d [(.lpc 1), (.lpc 2), .ag, .ag, .ag]) (fun R10 v9 H11 => reqB ((nth v9.2.2.2.2.1 146 .junk).isSl 8) (Tup.d [(.lpc 1), (.lpc 2), .ag, .ag, .ag]) <| let t13 : List (List AV) := (nth v9.2.2.2.2.1 146 .junk).els; let t14 : Bool := COp.run v9.2.2.2.1 (t13.length : Int) .lss; (match t14 with | true => (reqB ((nth v9.2.2.2.2.2.2.1 146 .junk).isSl 8) (Tup.d [(.lpc 1), (.lpc 2), .ag, .ag, .ag]) <| reqB ((nth v9.2.2.2.2.1 146 .junk).isSl 8) (Tup.d [(.lpc 1), (.lpc 2), .ag, .ag, .ag]) <| let t15 : List (List AV) := (nth v9.2.2.2.2.1 146 .junk).els; reqB (inb v9.2.2.2.1 t15.length) (Tup.d [(.lpc 1), (.lpc 2), .ag, .ag, .ag]) <| let t16 : List AV := nth t15 v9.2.2.2.1.toNat []; let r17 := F_folkmootlaw16_Of N (t16, ()) H11; req (r17.pre) <| reqB ((r17.out.1.length == 8)) (Tup.d [(.lpc 1), (.lpc 2), .ag, .ag, .ag]) <| reqB (roomL ((nth v9.2.2.2.2.2.2.1 146 .junk).els) [r17.out.1] 96) (Tup.d [(.lpc 1), (.lpc 2), .ag, .ag, .ag]) <| let t18 : List (List AV) := cat ((nth v9.2.2.2.2.2.2.1 146 .junk).els) [r17.out.1]; let t19 : Int := AOp.run .i64 v9.2.2.2.1 1 .add; R10 ((), (), (), t19, v9.2.2.2.2.1, v9.2.2.2.2.2.1, upd v9.2.2.2.2.2.2.1 146 (.sl 8 t18), ()) H11) | false => (ok ((), (), v9.2.2.2.2.1, v9.2.2.2.2.2.1, v9.2.2.2.2.2.2.1, ()) H11))) N ((), (), (), 0, v.1, [.i .i64 0, .i .i64 0, .i .i64 0, .i .i64 0, .i .i64 0, .i .i64 0, .i .i64 0, .i .i64 0, .i .u64 0, .i .i64 0, .i .i64 0, .i .i64 0, .i .i64 0, .i .u64 0, .i .u64 0, .i .u64 0, .i .u64 0, .i .u64 0, .i .u64 0, .i .u64 0, .i .u64 0, .i .u64 0, .i .u64 0, .i .u64 0, .i .u64 0, .i .u64 0, .i .u64 0, .i .u64 0, .i .u64 0, .i .u64 0, .i .u64 0, .sl 1 [], .i .i64 0, .i .i64 0, .i .i64 0, .i .i64 0, .i .i64 0, .sl 24 [], .i .u64 0, .i .i64 0, .i .i64 0, .i .i64 0, .i .u64 0, .i .u64 0, .i .u64 0, .i .u64 0, .i .u64 0, .i .u64 0, .i .u64 0, .i .u64 0, .i .u64 0, .i .u64 0, .i .u64 0, .i .u64 0, .i .u64 0, .i .u64 0, .i .u64 0, .i .u64 0, .i .u64 0, .i .u64 0, .sl 1 [], .i .i64 0, .i .i64 0, .i .i64 0, .i .i64 0, .i .i64 0, .sl 6 [], .i .i64 0, .i .i64 0, .i .u64 0, .i .u64 0, .i .u64 0, .i .u64 0, .i .u64 0, .i .u64 0, .i .u64 0, .i .u64 0, .i .u64 0, .i .u64 0, .i .u64 0, .i .u64 0, .i .u64 0, .i .u64 0, .i .u64 0, .i .u64 0, .i .u64 0, .i .u64 0, .sl 1 [], .i .i64 0, .i .u64 0, .i .i64 0, .i .u64 0, .sl 24 [], .i .i64 0, .i .i64 0, .sl 25 [], .i .i64 0, .i .u64 0, .i .i64 0, .i .i64 0, .i .i64 0, .i .u64 0, .i .u64 0, .i .u64 0, .i .u64 0, .i .u64 0, .i .u64 0, .i .u64 0, .i .u64 0, .i .u64 0, .i .u64 0, .i .u64 0, .i .u64 0, .i .u64 0, .i .u64 0, .i .u64 0, .i .u64 0, .i .u64 0, .i .u64 0, .sl 1 [], .i .i64 0, .i .i64 0, .i .i64 0, .i .u64 0, .sl 24 [], .i .i64 0, .i .i64 0, .i .u64 0, .i .u64 0, .i .u64 0, .i .u64 0, .i .u64 0, .i .u64 0, .i .u64 0, .i .u64 0, .i .u64 0, .i .u64 0, .i .u64 0, .i .u64 0, .i .u64 0, .i .u64 0, .i .u64 0, .i .u64 0, .i .u64 0, .i .u64 0, .sl 1 [], .sl 8 []], [.i .i64 ((nth v.1 0 .junk).num), .i .i64 ((nth v.1 1 .junk).num), .i .i64 ((nth v.1 2 .junk).num), nth r1.out.1 0 .junk, nth r1.out.1 1 .junk, nth r1.out.1 2 .junk, nth r1.out.1 3 .junk, nth r1.out.1 4 .junk, nth r2.out.1 0 .junk, nth r2.out.1 1 .junk, nth r2.out.1 2 .junk, nth r2.out.1 3 .junk, nth r2.out.1 4 .junk, nth r2.out.1 5 .junk, nth r2.out.1 6 .junk, nth r2.out.1 7 .junk, nth r2.out.1 8 .junk, nth r2.out.1 9 .junk, nth r2.out.1 10 .junk, nth r2.out.1 11 .junk, nth r2.out.1 12 .junk, nth r2.out.1 13 .junk, nth r2.out.1 14 .junk, nth r2.out.1 15 .junk, nth r2.out.1 16 .junk, nth r2.out.1 17 .junk, nth r2.out.1 18 .junk, nth r2.out.1 19 .junk, nth r2.out.1 20 .junk, nth r2.out.1 21 .junk, nth r2.out.1 22 .junk, nth r2.out.1 23 .junk, nth r3.out.1 0 .junk, nth r3.out.1 1 .junk, nth r3.out.1 2 .junk, nth r3.out.1 3 .junk, nth r3.out.1 4 .junk, nth r3.out.1 5 .junk, nth r4.out.1 0 .junk, nth r4.out.1 1 .junk, nth r4.out.1 2 .junk, nth r4.out.1 3 .junk, nth r4.out.1 4 .junk, nth r4.out.1 5 .junk, nth r4.out.1 6 .junk, nth r4.out.1 7 .junk, nth r4.out.1 8 .junk, nth r4.out.1 9 .junk, nth r4.out.1 10 .junk, nth r4.out.1 11 .junk, nth r4.out.1 12 .junk, nth r4.out.1 13 .junk, nth r4.out.1 14 .junk, nth r4.out.1 15 .junk, nth r4.out.1 16 .junk, nth r4.out.1 17 .junk, nth r4.out.1 18 .junk, nth r4.out.1 19 .junk, nth r4.out.1 20 .junk, nth r4.out.1 21 .junk, nth r4.out.1 22 .junk, .i .i64 ((nth v.1 61 .junk).num), .i .i64 ((nth v.1 62 .junk).num), nth r5.out.1 0 .junk, nth r5.out.1 1 .junk, nth r5.out.1 2 .junk, nth r5.out.1 3 .junk, nth r5.out.1 4 .junk, nth r5.out.1 5 .junk, nth r5.out.1 6 .junk, nth r5.out.1 7 .junk, nth r5.out.1 8 .junk, nth r5.out.1 9 .junk, nth r5.out.1 10 .junk, nth r5.out.1 11 .junk, nth r5.out.1 12 .junk, nth r5.out.1 13 .junk, nth r5.out.1 14 .junk, nth r5.out.1 15 .junk, nth r5.out.1 16 .junk, nth r5.out.1 17 .junk, nth r5.out.1 18 .junk, nth r5.out.1 19 .junk, nth r5.out.1 20 .junk, nth r5.out.1 21 .junk, nth r5.out.1 22 .junk, nth r5.out.1 23 .junk, nth r5.out.1 24 .junk, nth r6.out.1 0 .junk, nth r6.out.1 1 .junk, nth r6.out.1 2 .junk, nth r6.out.1 3 .junk, nth r6.out.1 4 .junk, nth r6.out.1 5 .junk, nth r6.out.1 6 .junk, nth r6.out.1 7 .junk, nth r7.out.1 0 .junk, nth r7.out.1 1 .junk, nth r7.out.1 2 .junk, nth r7.out.1 3 .junk, nth r7.out.1 4 .junk, nth r7.out.1 5 .junk, nth r7.out.1 6 .junk, nth r7.out.1 7 .junk, nth r7.out.1 8 .junk, nth r7.out.1 9 .junk, nth r7.out.1 10 .junk, nth r7.out.1 11 .junk, nth r7.out.1 12 .junk, nth r7.out.1 13 .junk, nth r7.out.1 14 .junk, nth r7.out.1 15 .junk, nth r7.out.1 16 .junk, nth r7.out.1 17 .junk, nth r7.out.1 18 .junk, nth r7.out.1 19 .junk, nth r7.out.1 20 .junk, nth r7.out.1 21 .junk, nth r7.out.1 22 .junk, nth r7.out.1 23 .junk, nth r8.out.1 0 .junk, nth r8.out.1 1 .junk, nth r8.out.1 2 .junk, nth r8.out.1 3 .junk, nth r8.out.1 4 .junk, nth r8.out.1 5 .junk, nth r8.out.1 6 .junk, nth r8.out.1 7 .junk, nth r8.out.1 8 .junk, nth r8.out.1 9 .junk, nth r8.out.1 10 .junk, nth r8.out.1 11 .junk, nth r8.out.1 12 .junk, nth r8.out.1 13 .junk, nth r8.out.1 14 .junk, nth r8.out.1 15 .junk, nth r8.out.1 16 .junk, nth r8.out.1 17 .junk, nth r8.out.1 18 .junk, nth r8.out.1 19 .junk, nth r8.out.1 20 .junk, nth r8.out.1 21 .junk, nth r8.out.1 22 .junk, nth r8.out.1 23 .junk, nth r8.out.1 24 .junk, nth r8.out.1 25 .junk, .sl 8 []], ()) H; req r12.pre <| reqB (r12.out.2.2.2.2.1.length == 147) (Tup.d [.ag]) <| ok (r12.out.2.2.2.2.1, ()) r12.H
noncomputable def S_folkmootlaw22_Of (N : Nat) : Sem := ⟨[.ag], [.ag], .glob, true, F_folkmootlaw22_Of N⟩
theorem den_folkmootlaw22_Of (N : Nat) (v : List AV × Unit) (H : Heap) : fd_folkmootlaw22_Of.sem N (G_folkmootlaw22_Of N) v H = F_folkmootlaw22_Of N v H := by kernel_rfl

/-! folkmoot/folkmootlaw22.SameAll -/
def c_folkmootlaw22_SameAll : C' :=
  .seq (.ops false [
    ⟨some 4, .mov (.c (.b false)), none⟩])
  (.seq (.seq (.ops false [
    ⟨some 6, .mov (.t 0), none⟩,
    ⟨some 7, .lenL (.t 6) 147, none⟩,
    ⟨some 8, .mov (.t 1), none⟩,
    ⟨some 9, .lenL (.t 8) 147, none⟩,
    ⟨some 10, .cmp .neq .i64 (.t 7) (.t 9), none⟩])
  (.cond (.t 10) (.seq (.ops false [
    ⟨some 4, .mov (.c (.b false)), none⟩])
  (.ret)) (.skip)))
  (.seq (.seq (.ops false [
    ⟨some 5, .mov (.c (.i .i64 0)), none⟩])
  (.loopR 0 (.seq (.seq (.ops false [
    ⟨some 11, .mov (.t 5), none⟩,
    ⟨some 12, .mov (.t 0), none⟩,
    ⟨some 13, .lenL (.t 12) 147, none⟩,
    ⟨some 14, .cmp .lss .i64 (.t 11) (.t 13), none⟩])
  (.cond (.t 14) (.skip) (.exit 0)))
  (.seq (.block 1 (.seq (.ops true [
    ⟨some 17, .mov (.t 0), none⟩,
    ⟨some 18, .mov (.t 5), none⟩,
    ⟨some 19, .ixa (.t 17) (.t 18) .i64 147, none⟩,
    ⟨some 20, .iload (.t 19) (.agg 147), none⟩,
    ⟨some 21, .call true false 44 [(.t 20)], none⟩,
    ⟨some 22, .mov (.t 1), none⟩,
    ⟨some 23, .mov (.t 5), none⟩,
    ⟨some 24, .ixa (.t 22) (.t 23) .i64 147, none⟩,
    ⟨some 25, .iload (.t 24) (.agg 147), none⟩,
    ⟨some 26, .call true false 10 [(.t 21), (.t 25)], none⟩,
    ⟨some 27, .not (.t 26), none⟩])
  (.cond (.t 27) (.seq (.ops false [
    ⟨some 4, .mov (.c (.b false)), none⟩])
  (.ret)) (.skip))))
  (.ops false [
    ⟨some 15, .mov (.t 5), none⟩,
    ⟨some 16, .arith .add .i64 (.t 15) (.c (.i .i64 1)), none⟩,
    ⟨some 5, .mov (.t 16), none⟩]))) [⟨0, .glob, (.sl 147)⟩, ⟨1, .glob, (.sl 147)⟩, ⟨5, .glob, (.i .i64)⟩] [] [] [⟨4, .glob, .b⟩]))
  (.seq (.ops false [
    ⟨some 4, .mov (.c (.b true)), none⟩])
  (.ret))))
def fd_folkmootlaw22_SameAll : FD := ⟨28, 0, [(.sl 147), (.sl 147)], [.tmp 4 .glob .b], c_folkmootlaw22_SameAll⟩
noncomputable def G_folkmootlaw22_SameAll (N : Nat) : Env := [(10, S_folkmootref28_SameMsg N), (44, S_folkmootlaw22_Of N)]
noncomputable def F_folkmootlaw22_SameAll (N : Nat) (v : List (List AV) × List (List AV) × Unit) (H : Heap) : Res (Bool × Unit) :=
  let t1 : Bool := COp.run (v.1.length : Int) (v.2.1.length : Int) .neq; (match t1 with | true => (ok (false, ()) H) | false => (let r5 := iter (α := List (List AV) × List (List AV) × Int × Unit) (β := Sum (Unit) (Bool × Unit)) (Sum.inl (Tup.d [])) (fun R3 v2 H4 => let t6 : Bool := COp.run v2.2.2.1 (v2.1.length : Int) .lss; (match t6 with | true => (reqB (inb v2.2.2.1 v2.1.length) (Sum.inl (Tup.d [])) <| let t7 : List AV := nth v2.1 v2.2.2.1.toNat []; let r8 := F_folkmootlaw22_Of N (t7, ()) H4; req (r8.pre) <| reqB (inb v2.2.2.1 v2.2.1.length) (Sum.inl (Tup.d [])) <| let t9 : List AV := nth v2.2.1 v2.2.2.1.toNat []; let r10 := F_folkmootref28_SameMsg N (r8.out.1, t9, ()) H4; req (r10.pre) <| (match !r10.out.1 with | true => (ok (Sum.inr (false, ())) H4) | false => (let t11 : Int := AOp.run .i64 v2.2.2.1 1 .add; R3 (v2.1, v2.2.1, t11, ()) H4))) | false => (ok (Sum.inl ()) H4))) N (v.1, v.2.1, 0, ()) H; req r5.pre <| sumElim r5.out (fun w12 => ok (true, ()) r5.H) (fun w13 => ok (w13.1, ()) r5.H)))
noncomputable def S_folkmootlaw22_SameAll (N : Nat) : Sem := ⟨[(.sl 147), (.sl 147)], [.b], .glob, true, F_folkmootlaw22_SameAll N⟩
theorem den_folkmootlaw22_SameAll (N : Nat) (v : List (List AV) × List (List AV) × Unit) (H : Heap) : fd_folkmootlaw22_SameAll.sem N (G_folkmootlaw22_SameAll N) v H = F_folkmootlaw22_SameAll N v H := by kernel_rfl

/-! folkmoot/folkmootref28.AllTo -/
def c_folkmootref28_AllTo : C' :=
  .seq (.ops false [
    ⟨some 5, .lbox 0 147 (.t 2) true, none⟩,
    ⟨some 6, .mov (.co (.sl 147 [])), none⟩])
  (.seq (.ops false [
    ⟨some 7, .mov (.co (.sl 147 [])), none⟩])
  (.seq (.seq (.ops false [
    ⟨some 8, .mov (.c (.i .i64 0)), none⟩])
  (.loop 0 (.seq (.seq (.ops false [
    ⟨some 9, .mov (.t 8), none⟩,
    ⟨some 10, .mov (.t 1), none⟩,
    ⟨some 11, .cmp .lss .i64 (.t 9) (.t 10), none⟩])
  (.cond (.t 11) (.skip) (.exit 0)))
  (.seq (.block 1 (.seq (.ops false [
    ⟨some 14, .mov (.t 0), none⟩,
    ⟨some 15, .fa (.t 5) 1, none⟩,
    ⟨none, .lstore 0 (.t 15) (.one (.i .i64)) (.t 14), none⟩])
  (.seq (.ops false [
    ⟨some 16, .mov (.t 8), none⟩,
    ⟨some 17, .fa (.t 5) 2, none⟩,
    ⟨none, .lstore 0 (.t 17) (.one (.i .i64)) (.t 16), none⟩])
  (.ops false [
    ⟨some 18, .movO 7, none⟩,
    ⟨some 19, .lload 0 (.t 5) (.agg 147), none⟩,
    ⟨some 20, .bslice 147 1 [.i .i64 0, .i .i64 0, .i .i64 0, .i .i64 0, .i .i64 0, .i .i64 0, .i .i64 0, .i .i64 0, .i .u64 0, .i .i64 0, .i .i64 0, .i .i64 0, .i .i64 0, .i .u64 0, .i .u64 0, .i .u64 0, .i .u64 0, .i .u64 0, .i .u64 0, .i .u64 0, .i .u64 0, .i .u64 0, .i .u64 0, .i .u64 0, .i .u64 0, .i .u64 0, .i .u64 0, .i .u64 0, .i .u64 0, .i .u64 0, .i .u64 0, .sl 1 [], .i .i64 0, .i .i64 0, .i .i64 0, .i .i64 0, .i .i64 0, .sl 24 [], .i .u64 0, .i .i64 0, .i .i64 0, .i .i64 0, .i .u64 0, .i .u64 0, .i .u64 0, .i .u64 0, .i .u64 0, .i .u64 0, .i .u64 0, .i .u64 0, .i .u64 0, .i .u64 0, .i .u64 0, .i .u64 0, .i .u64 0, .i .u64 0, .i .u64 0, .i .u64 0, .i .u64 0, .i .u64 0, .sl 1 [], .i .i64 0, .i .i64 0, .i .i64 0, .i .i64 0, .i .i64 0, .sl 6 [], .i .i64 0, .i .i64 0, .i .u64 0, .i .u64 0, .i .u64 0, .i .u64 0, .i .u64 0, .i .u64 0, .i .u64 0, .i .u64 0, .i .u64 0, .i .u64 0, .i .u64 0, .i .u64 0, .i .u64 0, .i .u64 0, .i .u64 0, .i .u64 0, .i .u64 0, .i .u64 0, .sl 1 [], .i .i64 0, .i .u64 0, .i .i64 0, .i .u64 0, .sl 24 [], .i .i64 0, .i .i64 0, .sl 25 [], .i .i64 0, .i .u64 0, .i .i64 0, .i .i64 0, .i .i64 0, .i .u64 0, .i .u64 0, .i .u64 0, .i .u64 0, .i .u64 0, .i .u64 0, .i .u64 0, .i .u64 0, .i .u64 0, .i .u64 0, .i .u64 0, .i .u64 0, .i .u64 0, .i .u64 0, .i .u64 0, .i .u64 0, .i .u64 0, .i .u64 0, .sl 1 [], .i .i64 0, .i .i64 0, .i .i64 0, .i .u64 0, .sl 24 [], .i .i64 0, .i .i64 0, .i .u64 0, .i .u64 0, .i .u64 0, .i .u64 0, .i .u64 0, .i .u64 0, .i .u64 0, .i .u64 0, .i .u64 0, .i .u64 0, .i .u64 0, .i .u64 0, .i .u64 0, .i .u64 0, .i .u64 0, .i .u64 0, .i .u64 0, .i .u64 0, .sl 1 [], .sl 8 []] [((.t 19), 0)], none⟩,
    ⟨some 21, .app 18 (.t 20) 147 1352, none⟩,
    ⟨some 7, .movO 21, none⟩]))))
  (.ops false [
    ⟨some 12, .mov (.t 8), none⟩,
    ⟨some 13, .arith .add .i64 (.t 12) (.c (.i .i64 1)), none⟩,
    ⟨some 8, .mov (.t 13), none⟩]))) [⟨0, .glob, (.i .i64)⟩, ⟨1, .glob, (.i .i64)⟩, ⟨5, .loc, (.lpc 0)⟩, ⟨7, .own, (.sl 147)⟩, ⟨8, .glob, (.i .i64)⟩] [⟨0, 147, []⟩] [⟨7, .own, (.sl 147)⟩]))
  (.seq (.ops false [
    ⟨some 22, .mov (.t 7), none⟩,
    ⟨some 6, .mov (.t 22), none⟩])
  (.ret))))
def fd_folkmootref28_AllTo : FD := ⟨23, 1, [(.i .i64), (.i .i64), .ag], [.tmp 6 .glob (.sl 147)], c_folkmootref28_AllTo⟩
noncomputable def G_folkmootref28_AllTo (N : Nat) : Env := []
noncomputable def F_folkmootref28_AllTo (N : Nat) (v : Int × Int × List AV × Unit) (H : Heap) : Res (List (List AV) × Unit) :=
  reqB (v.2.2.1.length == 147) (Tup.d [(.sl 147)]) <| let r4 := iter (α := Int × Int × Unit × List (List AV) × Int × List AV × Unit) (β := List (List AV) × List AV × Unit) (Tup.d [(.sl 147), .ag]) (fun R2 v1 H3 => let t5 : Bool := COp.run v1.2.2.2.2.1 v1.2.1 .lss; (match t5 with | true => (let t6 : List AV := upd v1.2.2.2.2.2.1 1 (.i .i64 v1.1); let t7 : List AV := upd t6 2 (.i .i64 v1.2.2.2.2.1); reqB ((t7.length == 147)) (Tup.d [(.sl 147), .ag]) <| reqB (roomL v1.2.2.2.1 [t7] 1352) (Tup.d [(.sl 147), .ag]) <| let t8 : Int := AOp.run .i64 v1.2.2.2.2.1 1 .add; R2 (v1.1, v1.2.1, (), cat v1.2.2.2.1 [t7], t8, t7, ()) H3) | false => (ok (v1.2.2.2.1, v1.2.2.2.2.2.1, ()) H3))) N (v.1, v.2.1, (), [], 0, [nth v.2.2.1 0 .junk, nth v.2.2.1 1 .junk, nth v.2.2.1 2 .junk, nth v.2.2.1 3 .junk, nth v.2.2.1 4 .junk, nth v.2.2.1 5 .junk, nth v.2.2.1 6 .junk, nth v.2.2.1 7 .junk, nth v.2.2.1 8 .junk, nth v.2.2.1 9 .junk, nth v.2.2.1 10 .junk, nth v.2.2.1 11 .junk, nth v.2.2.1 12 .junk, nth v.2.2.1 13 .junk, nth v.2.2.1 14 .junk, nth v.2.2.1 15 .junk, nth v.2.2.1 16 .junk, nth v.2.2.1 17 .junk, nth v.2.2.1 18 .junk, nth v.2.2.1 19 .junk, nth v.2.2.1 20 .junk, nth v.2.2.1 21 .junk, nth v.2.2.1 22 .junk, nth v.2.2.1 23 .junk, nth v.2.2.1 24 .junk, nth v.2.2.1 25 .junk, nth v.2.2.1 26 .junk, nth v.2.2.1 27 .junk, nth v.2.2.1 28 .junk, nth v.2.2.1 29 .junk, nth v.2.2.1 30 .junk, nth v.2.2.1 31 .junk, nth v.2.2.1 32 .junk, nth v.2.2.1 33 .junk, nth v.2.2.1 34 .junk, nth v.2.2.1 35 .junk, nth v.2.2.1 36 .junk, nth v.2.2.1 37 .junk, nth v.2.2.1 38 .junk, nth v.2.2.1 39 .junk, nth v.2.2.1 40 .junk, nth v.2.2.1 41 .junk, nth v.2.2.1 42 .junk, nth v.2.2.1 43 .junk, nth v.2.2.1 44 .junk, nth v.2.2.1 45 .junk, nth v.2.2.1 46 .junk, nth v.2.2.1 47 .junk, nth v.2.2.1 48 .junk, nth v.2.2.1 49 .junk, nth v.2.2.1 50 .junk, nth v.2.2.1 51 .junk, nth v.2.2.1 52 .junk, nth v.2.2.1 53 .junk, nth v.2.2.1 54 .junk, nth v.2.2.1 55 .junk, nth v.2.2.1 56 .junk, nth v.2.2.1 57 .junk, nth v.2.2.1 58 .junk, nth v.2.2.1 59 .junk, nth v.2.2.1 60 .junk, nth v.2.2.1 61 .junk, nth v.2.2.1 62 .junk, nth v.2.2.1 63 .junk, nth v.2.2.1 64 .junk, nth v.2.2.1 65 .junk, nth v.2.2.1 66 .junk, nth v.2.2.1 67 .junk, nth v.2.2.1 68 .junk, nth v.2.2.1 69 .junk, nth v.2.2.1 70 .junk, nth v.2.2.1 71 .junk, nth v.2.2.1 72 .junk, nth v.2.2.1 73 .junk, nth v.2.2.1 74 .junk, nth v.2.2.1 75 .junk, nth v.2.2.1 76 .junk, nth v.2.2.1 77 .junk, nth v.2.2.1 78 .junk, nth v.2.2.1 79 .junk, nth v.2.2.1 80 .junk, nth v.2.2.1 81 .junk, nth v.2.2.1 82 .junk, nth v.2.2.1 83 .junk, nth v.2.2.1 84 .junk, nth v.2.2.1 85 .junk, nth v.2.2.1 86 .junk, nth v.2.2.1 87 .junk, nth v.2.2.1 88 .junk, nth v.2.2.1 89 .junk, nth v.2.2.1 90 .junk, nth v.2.2.1 91 .junk, nth v.2.2.1 92 .junk, nth v.2.2.1 93 .junk, nth v.2.2.1 94 .junk, nth v.2.2.1 95 .junk, nth v.2.2.1 96 .junk, nth v.2.2.1 97 .junk, nth v.2.2.1 98 .junk, nth v.2.2.1 99 .junk, nth v.2.2.1 100 .junk, nth v.2.2.1 101 .junk, nth v.2.2.1 102 .junk, nth v.2.2.1 103 .junk, nth v.2.2.1 104 .junk, nth v.2.2.1 105 .junk, nth v.2.2.1 106 .junk, nth v.2.2.1 107 .junk, nth v.2.2.1 108 .junk, nth v.2.2.1 109 .junk, nth v.2.2.1 110 .junk, nth v.2.2.1 111 .junk, nth v.2.2.1 112 .junk, nth v.2.2.1 113 .junk, nth v.2.2.1 114 .junk, nth v.2.2.1 115 .junk, nth v.2.2.1 116 .junk, nth v.2.2.1 117 .junk, nth v.2.2.1 118 .junk, nth v.2.2.1 119 .junk, nth v.2.2.1 120 .junk, nth v.2.2.1 121 .junk, nth v.2.2.1 122 .junk, nth v.2.2.1 123 .junk, nth v.2.2.1 124 .junk, nth v.2.2.1 125 .junk, nth v.2.2.1 126 .junk, nth v.2.2.1 127 .junk, nth v.2.2.1 128 .junk, nth v.2.2.1 129 .junk, nth v.2.2.1 130 .junk, nth v.2.2.1 131 .junk, nth v.2.2.1 132 .junk, nth v.2.2.1 133 .junk, nth v.2.2.1 134 .junk, nth v.2.2.1 135 .junk, nth v.2.2.1 136 .junk, nth v.2.2.1 137 .junk, nth v.2.2.1 138 .junk, nth v.2.2.1 139 .junk, nth v.2.2.1 140 .junk, nth v.2.2.1 141 .junk, nth v.2.2.1 142 .junk, nth v.2.2.1 143 .junk, nth v.2.2.1 144 .junk, nth v.2.2.1 145 .junk, nth v.2.2.1 146 .junk], ()) H; req r4.pre <| ok (r4.out.1, ()) r4.H
noncomputable def S_folkmootref28_AllTo (N : Nat) : Sem := ⟨[(.i .i64), (.i .i64), .ag], [(.sl 147)], .glob, true, F_folkmootref28_AllTo N⟩
theorem den_folkmootref28_AllTo (N : Nat) (v : Int × Int × List AV × Unit) (H : Heap) : fd_folkmootref28_AllTo.sem N (G_folkmootref28_AllTo N) v H = F_folkmootref28_AllTo N v H := by kernel_rfl

/-! folkmoot/folkmootlaw22.MsgAny -/
def c_folkmootlaw22_MsgAny : C' :=
  .seq (.ops false [
    ⟨some 4, .lbox 0 147 (.t 0) false, none⟩,
    ⟨some 5, .lbox 1 147 (.t 1) false, none⟩,
    ⟨some 8, .mov (.c (.b false)), none⟩])
  (.seq (.seq (.ops false [
    ⟨some 11, .call true false 4 [], none⟩,
    ⟨some 12, .not (.t 11), none⟩])
  (.cond (.t 12) (.seq (.ops false [
    ⟨some 8, .mov (.c (.b false)), none⟩])
  (.ret)) (.skip)))
  (.seq (.seq (.ops false [
    ⟨some 13, .lload 0 (.t 4) (.agg 147), none⟩,
    ⟨some 14, .call true false 5 [(.t 13)], none⟩,
    ⟨some 15, .not (.t 14), none⟩,
    ⟨some 16, .mov (.t 15), none⟩,
    ⟨some 17, .lload 1 (.t 5) (.agg 147), some (16, false, false)⟩,
    ⟨some 18, .call true false 5 [(.t 17)], some (16, false, false)⟩,
    ⟨some 19, .not (.t 18), some (16, false, false)⟩,
    ⟨some 20, .pick (.t 16) (.c (.b true)) (.t 19), none⟩,
    ⟨some 21, .mov (.t 20), none⟩,
    ⟨some 22, .mov (.t 2), some (21, false, false)⟩,
    ⟨some 23, .cmp .gtr .i64 (.t 22) (.c (.i .i64 40)), some (21, false, false)⟩,
    ⟨some 24, .pick (.t 21) (.c (.b true)) (.t 23), none⟩])
  (.cond (.t 24) (.seq (.ops false [
    ⟨some 8, .mov (.c (.b true)), none⟩])
  (.ret)) (.skip)))
  (.seq (.ops true [
    ⟨some 25, .lload 0 (.t 4) (.agg 147), none⟩,
    ⟨some 26, .call true false 6 [(.t 25)], none⟩,
    ⟨some 27, .lload 1 (.t 5) (.agg 147), none⟩,
    ⟨some 28, .call true false 6 [(.t 27)], none⟩,
    ⟨some 9, .lalloc 2 147 [.i .i64 0, .i .i64 0, .i .i64 0, .i .i64 0, .i .i64 0, .i .i64 0, .i .i64 0, .i .i64 0, .i .u64 0, .i .i64 0, .i .i64 0, .i .i64 0, .i .i64 0, .i .u64 0, .i .u64 0, .i .u64 0, .i .u64 0, .i .u64 0, .i .u64 0, .i .u64 0, .i .u64 0, .i .u64 0, .i .u64 0, .i .u64 0, .i .u64 0, .i .u64 0, .i .u64 0, .i .u64 0, .i .u64 0, .i .u64 0, .i .u64 0, .sl 1 [], .i .i64 0, .i .i64 0, .i .i64 0, .i .i64 0, .i .i64 0, .sl 24 [], .i .u64 0, .i .i64 0, .i .i64 0, .i .i64 0, .i .u64 0, .i .u64 0, .i .u64 0, .i .u64 0, .i .u64 0, .i .u64 0, .i .u64 0, .i .u64 0, .i .u64 0, .i .u64 0, .i .u64 0, .i .u64 0, .i .u64 0, .i .u64 0, .i .u64 0, .i .u64 0, .i .u64 0, .i .u64 0, .sl 1 [], .i .i64 0, .i .i64 0, .i .i64 0, .i .i64 0, .i .i64 0, .sl 6 [], .i .i64 0, .i .i64 0, .i .u64 0, .i .u64 0, .i .u64 0, .i .u64 0, .i .u64 0, .i .u64 0, .i .u64 0, .i .u64 0, .i .u64 0, .i .u64 0, .i .u64 0, .i .u64 0, .i .u64 0, .i .u64 0, .i .u64 0, .i .u64 0, .i .u64 0, .i .u64 0, .sl 1 [], .i .i64 0, .i .u64 0, .i .i64 0, .i .u64 0, .sl 24 [], .i .i64 0, .i .i64 0, .sl 25 [], .i .i64 0, .i .u64 0, .i .i64 0, .i .i64 0, .i .i64 0, .i .u64 0, .i .u64 0, .i .u64 0, .i .u64 0, .i .u64 0, .i .u64 0, .i .u64 0, .i .u64 0, .i .u64 0, .i .u64 0, .i .u64 0, .i .u64 0, .i .u64 0, .i .u64 0, .i .u64 0, .i .u64 0, .i .u64 0, .i .u64 0, .sl 1 [], .i .i64 0, .i .i64 0, .i .i64 0, .i .u64 0, .sl 24 [], .i .i64 0, .i .i64 0, .i .u64 0, .i .u64 0, .i .u64 0, .i .u64 0, .i .u64 0, .i .u64 0, .i .u64 0, .i .u64 0, .i .u64 0, .i .u64 0, .i .u64 0, .i .u64 0, .i .u64 0, .i .u64 0, .i .u64 0, .i .u64 0, .i .u64 0, .i .u64 0, .sl 1 [], .sl 8 []] [31, 37, 60, 66, 87, 92, 95, 119, 124, 145, 146], none⟩,
    ⟨some 10, .lalloc 3 147 [.i .i64 0, .i .i64 0, .i .i64 0, .i .i64 0, .i .i64 0, .i .i64 0, .i .i64 0, .i .i64 0, .i .u64 0, .i .i64 0, .i .i64 0, .i .i64 0, .i .i64 0, .i .u64 0, .i .u64 0, .i .u64 0, .i .u64 0, .i .u64 0, .i .u64 0, .i .u64 0, .i .u64 0, .i .u64 0, .i .u64 0, .i .u64 0, .i .u64 0, .i .u64 0, .i .u64 0, .i .u64 0, .i .u64 0, .i .u64 0, .i .u64 0, .sl 1 [], .i .i64 0, .i .i64 0, .i .i64 0, .i .i64 0, .i .i64 0, .sl 24 [], .i .u64 0, .i .i64 0, .i .i64 0, .i .i64 0, .i .u64 0, .i .u64 0, .i .u64 0, .i .u64 0, .i .u64 0, .i .u64 0, .i .u64 0, .i .u64 0, .i .u64 0, .i .u64 0, .i .u64 0, .i .u64 0, .i .u64 0, .i .u64 0, .i .u64 0, .i .u64 0, .i .u64 0, .i .u64 0, .sl 1 [], .i .i64 0, .i .i64 0, .i .i64 0, .i .i64 0, .i .i64 0, .sl 6 [], .i .i64 0, .i .i64 0, .i .u64 0, .i .u64 0, .i .u64 0, .i .u64 0, .i .u64 0, .i .u64 0, .i .u64 0, .i .u64 0, .i .u64 0, .i .u64 0, .i .u64 0, .i .u64 0, .i .u64 0, .i .u64 0, .i .u64 0, .i .u64 0, .i .u64 0, .i .u64 0, .sl 1 [], .i .i64 0, .i .u64 0, .i .i64 0, .i .u64 0, .sl 24 [], .i .i64 0, .i .i64 0, .sl 25 [], .i .i64 0, .i .u64 0, .i .i64 0, .i .i64 0, .i .i64 0, .i .u64 0, .i .u64 0, .i .u64 0, .i .u64 0, .i .u64 0, .i .u64 0, .i .u64 0, .i .u64 0, .i .u64 0, .i .u64 0, .i .u64 0, .i .u64 0, .i .u64 0, .i .u64 0, .i .u64 0, .i .u64 0, .i .u64 0, .i .u64 0, .sl 1 [], .i .i64 0, .i .i64 0, .i .i64 0, .i .u64 0, .sl 24 [], .i .i64 0, .i .i64 0, .i .u64 0, .i .u64 0, .i .u64 0, .i .u64 0, .i .u64 0, .i .u64 0, .i .u64 0, .i .u64 0, .i .u64 0, .i .u64 0, .i .u64 0, .i .u64 0, .i .u64 0, .i .u64 0, .i .u64 0, .i .u64 0, .i .u64 0, .i .u64 0, .sl 1 [], .sl 8 []] [31, 37, 60, 66, 87, 92, 95, 119, 124, 145, 146], none⟩,
    ⟨none, .lstore 2 (.t 9) (.agg 147) (.t 26), none⟩,
    ⟨none, .lstore 3 (.t 10) (.agg 147) (.t 28), none⟩])
  (.seq (.ops true [
    ⟨some 29, .lload 2 (.t 9) (.agg 147), none⟩,
    ⟨some 30, .mov (.t 2), none⟩,
    ⟨some 31, .call true false 7 [(.t 29), (.t 30)], none⟩,
    ⟨some 32, .lload 0 (.t 4) (.agg 147), none⟩,
    ⟨some 33, .mov (.t 2), none⟩,
    ⟨some 34, .call true false 8 [(.t 32), (.t 33)], none⟩,
    ⟨some 35, .cmp .eql .i64 (.t 31) (.t 34), none⟩,
    ⟨some 36, .mov (.t 35), none⟩,
    ⟨some 37, .lload 2 (.t 9) (.agg 147), some (36, true, false)⟩,
    ⟨some 38, .lload 3 (.t 10) (.agg 147), some (36, true, false)⟩,
    ⟨some 39, .call true false 9 [(.t 37), (.t 38)], some (36, true, false)⟩,
    ⟨some 40, .lload 0 (.t 4) (.agg 147), some (36, true, false)⟩,
    ⟨some 41, .lload 1 (.t 5) (.agg 147), some (36, true, false)⟩,
    ⟨some 42, .call true false 10 [(.t 40), (.t 41)], some (36, true, false)⟩,
    ⟨some 43, .beq false (.t 39) (.t 42), some (36, true, false)⟩,
    ⟨some 44, .pick (.t 36) (.t 43) (.c (.b false)), none⟩,
    ⟨some 45, .mov (.t 44), none⟩,
    ⟨some 46, .lload 2 (.t 9) (.agg 147), some (45, true, false)⟩,
    ⟨some 47, .lload 0 (.t 4) (.agg 147), some (45, true, false)⟩,
    ⟨some 48, .call true false 6 [(.t 47)], some (45, true, false)⟩,
    ⟨some 49, .call true false 9 [(.t 46), (.t 48)], some (45, true, false)⟩,
    ⟨some 50, .pick (.t 45) (.t 49) (.c (.b false)), none⟩,
    ⟨some 51, .mov (.t 50), none⟩,
    ⟨some 52, .mov (.t 3), some (51, true, false)⟩,
    ⟨some 53, .mov (.t 2), some (51, true, false)⟩,
    ⟨some 54, .lload 2 (.t 9) (.agg 147), some (51, true, false)⟩,
    ⟨some 55, .call true false 12 [(.t 52), (.t 53), (.t 54)], some (51, true, false)⟩,
    ⟨some 56, .mov (.t 3), some (51, true, false)⟩,
    ⟨some 57, .mov (.t 2), some (51, true, false)⟩,
    ⟨some 58, .lload 0 (.t 4) (.agg 147), some (51, true, false)⟩,
    ⟨some 59, .call true false 13 [(.t 56), (.t 57), (.t 58)], some (51, true, false)⟩,
    ⟨some 60, .call true false 11 [(.t 55), (.t 59)], some (51, true, false)⟩,
    ⟨some 61, .pick (.t 51) (.t 60) (.c (.b false)), none⟩,
    ⟨some 62, .mov (.t 61), none⟩,
    ⟨some 63, .fa (.t 4) 88, some (62, true, false)⟩,
    ⟨some 64, .lload 0 (.t 63) (.agg 8), some (62, true, false)⟩,
    ⟨some 65, .fa (.t 4) 88, some (62, true, false)⟩,
    ⟨some 66, .lload 0 (.t 65) (.agg 8), some (62, true, false)⟩,
    ⟨some 67, .call true false 14 [(.t 64), (.t 66)], some (62, true, false)⟩,
    ⟨some 68, .pick (.t 62) (.t 67) (.c (.b false)), none⟩,
    ⟨some 8, .mov (.t 68), none⟩])
  (.ret)))))
def fd_folkmootlaw22_MsgAny : FD := ⟨69, 4, [.ag, .ag, (.i .i64), (.i .i64)], [.tmp 8 .glob .b], c_folkmootlaw22_MsgAny⟩
noncomputable def G_folkmootlaw22_MsgAny (N : Nat) : Env := [(4, S_folkmootlaw22_known N), (5, S_folkmootlaw22_Few N), (6, S_folkmootlaw22_To N), (7, S_msg_Check N), (8, S_folkmootref28_CheckMsg N), (9, S_msg_Same N), (10, S_folkmootref28_SameMsg N), (11, S_folkmootlaw22_SameAll N), (12, S_msg_All N), (13, S_folkmootref28_AllTo N), (14, S_folkmootref21_Same N)]
noncomputable def F_folkmootlaw22_MsgAny (N : Nat) (v : List AV × List AV × Int × Int × Unit) (H : Heap) : Res (Bool × Unit) :=
  reqB (v.1.length == 147) (Tup.d [.b]) <| reqB (v.2.1.length == 147) (Tup.d [.b]) <| let r1 := F_folkmootlaw22_known N () H; req (r1.pre) <| (match !r1.out.1 with | true => (ok (false, ()) H) | false => (let r2 := F_folkmootlaw22_Few N (v.1, ()) H; req (r2.pre) <| let r3 := F_folkmootlaw22_Few N (v.2.1, ()) H; req (imp (!(!r2.out.1)) (!(!r2.out.1))) <| req (imp (!(!r2.out.1)) r3.pre) <| req (imp (!(!r2.out.1)) (!(!r2.out.1))) <| req (imp (!(!r2.out.1)) (!(!r2.out.1))) <| let t4 : Bool := ((!r2.out.1) || (!r3.out.1)); req (imp (!t4) (!t4)) <| req (imp (!t4) (!t4)) <| let t5 : Bool := (t4 || (COp.run v.2.2.1 40 .gtr)); (match t5 with | true => (ok (true, ()) H) | false => (let r6 := F_folkmootlaw22_To N (v.1, ()) H; req (r6.pre) <| let r7 := F_folkmootlaw22_To N (v.2.1, ()) H; req (r7.pre) <| reqB (r6.out.1.length == 147) (Tup.d [.b]) <| reqB (r7.out.1.length == 147) (Tup.d [.b]) <| let r8 := F_msg_Check N (r6.out.1, v.2.2.1, ()) H; req (r8.pre) <| let r9 := F_folkmootref28_CheckMsg N (v.1, v.2.2.1, ()) H; req (r9.pre) <| let t10 : Bool := COp.run r8.out.1 r9.out.1 .eql; let r11 := F_msg_Same N (r6.out.1, r7.out.1, ()) H; req (imp t10 t10) <| req (imp t10 t10) <| req (imp t10 r11.pre) <| let r12 := F_folkmootref28_SameMsg N (v.1, v.2.1, ()) H; req (imp t10 t10) <| req (imp t10 t10) <| req (imp t10 r12.pre) <| req (imp t10 t10) <| req (imp t10 t10) <| req (imp t10 t10) <| let t13 : Bool := (t10 && (r11.out.1 == r12.out.1)); let r14 := F_folkmootlaw22_To N (v.1, ()) H; req (imp t13 t13) <| req (imp t13 r14.pre) <| let r15 := F_msg_Same N (r6.out.1, r14.out.1, ()) H; req (imp t13 t13) <| req (imp t13 t13) <| req (imp t13 r15.pre) <| req (imp t13 t13) <| let r16 := F_msg_All N (v.2.2.2.1, v.2.2.1, r6.out.1, ()) H; req (imp (t13 && r15.out.1) (t13 && r15.out.1)) <| req (imp (t13 && r15.out.1) (t13 && r15.out.1)) <| req (imp (t13 && r15.out.1) (t13 && r15.out.1)) <| req (imp (t13 && r15.out.1) r16.pre) <| let r17 := F_folkmootref28_AllTo N (v.2.2.2.1, v.2.2.1, v.1, ()) H; req (imp (t13 && r15.out.1) (t13 && r15.out.1)) <| req (imp (t13 && r15.out.1) (t13 && r15.out.1)) <| req (imp (t13 && r15.out.1) (t13 && r15.out.1)) <| req (imp (t13 && r15.out.1) r17.pre) <| let r18 := F_folkmootlaw22_SameAll N (r16.out.1, r17.out.1, ()) H; req (imp (t13 && r15.out.1) (t13 && r15.out.1)) <| req (imp (t13 && r15.out.1) (t13 && r15.out.1)) <| req (imp (t13 && r15.out.1) r18.pre) <| req (imp (t13 && r15.out.1) (t13 && r15.out.1)) <| let t19 : Bool := ((t13 && r15.out.1) && r18.out.1); req (imp t19 t19) <| req (imp t19 t19) <| let r20 := F_folkmootref21_Same N (sub v.1 88 8, sub v.1 88 8, ()) H; req (imp t19 t19) <| req (imp t19 t19) <| req (imp t19 r20.pre) <| req (imp t19 t19) <| ok ((t19 && r20.out.1), ()) H))))
noncomputable def S_folkmootlaw22_MsgAny (N : Nat) : Sem := ⟨[.ag, .ag, (.i .i64), (.i .i64)], [.b], .glob, true, F_folkmootlaw22_MsgAny N⟩
theorem den_folkmootlaw22_MsgAny (N : Nat) (v : List AV × List AV × Int × Int × Unit) (H : Heap) : fd_folkmootlaw22_MsgAny.sem N (G_folkmootlaw22_MsgAny N) v H = F_folkmootlaw22_MsgAny N v H := by kernel_rfl

end Go.Proofs.DenT
end
section
open Go
set_option linter.unusedVariables false
set_option linter.unusedSimpArgs false
set_option maxRecDepth 100000
namespace Go.Proofs.DenT
def csW : List CS := [.i .u64]
def csSig : List CS := [.i .i64, .i .i64, .i .u64, .i .u64, .i .u64, .i .u64, .i .u64, .i .u64, .i .u64, .i .u64, .i .u64, .i .u64, .i .u64, .i .u64, .i .u64, .i .u64, .i .u64, .i .u64, .i .u64, .i .u64, .sl csW]
def csCmd : List CS := [.i .i64, .i .i64, .i .i64, .i .i64, .i .i64]
def csStamp : List CS := [.i .u64, .i .i64, .i .i64, .i .i64, .i .i64, .i .u64, .i .u64, .i .u64, .i .u64, .i .u64, .i .u64, .i .u64, .i .u64, .i .u64, .i .u64, .i .u64, .i .u64, .i .u64, .i .u64, .i .u64, .i .u64, .i .u64, .i .u64, .sl csW]
def csCert : List CS := [.i .i64, .i .i64, .i .i64, .i .i64, .i .i64, .sl csStamp]
def csAck : List CS := [.i .u64, .i .i64, .i .i64, .i .i64, .i .u64, .i .u64, .i .u64, .i .u64, .i .u64, .i .u64, .i .u64, .i .u64, .i .u64, .i .u64, .i .u64, .i .u64, .i .u64, .i .u64, .i .u64, .i .u64, .i .u64, .i .u64, .sl csW]
def csReport : List CS := [.i .i64, .i .i64, .i .i64, .sl csCert, .i .i64, .i .i64, .i .u64, .i .u64, .i .u64, .i .u64, .i .u64, .i .u64, .i .u64, .i .u64, .i .u64, .i .u64, .i .u64, .i .u64, .i .u64, .i .u64, .i .u64, .i .u64, .i .u64, .i .u64, .sl csW]
def csVote : List CS := [.i .i64, .i .u64, .i .i64, .i .i64, .i .i64, .i .u64, .i .u64, .i .u64, .i .u64, .i .u64, .i .u64, .i .u64, .i .u64, .i .u64, .i .u64, .i .u64, .i .u64, .i .u64, .i .u64, .i .u64, .i .u64, .i .u64, .i .u64, .sl csW]
def csQC : List CS := [.i .i64, .i .u64, .sl csVote]
def csBlock : List CS := [.i .i64, .i .u64, .i .i64, .i .u64, .sl csVote, .i .i64, .i .i64, .sl csReport]
def csView : List CS := [.i .i64, .i .i64, .i .i64, .i .u64, .sl csVote, .i .i64, .i .i64, .i .u64, .i .u64, .i .u64, .i .u64, .i .u64, .i .u64, .i .u64, .i .u64, .i .u64, .i .u64, .i .u64, .i .u64, .i .u64, .i .u64, .i .u64, .i .u64, .i .u64, .i .u64, .sl csW]
def csMsg : List CS := [.i .i64, .i .i64, .i .i64, .i .i64, .i .i64, .i .i64, .i .i64, .i .i64, .i .u64, .i .i64, .i .i64, .i .i64, .i .i64, .i .u64, .i .u64, .i .u64, .i .u64, .i .u64, .i .u64, .i .u64, .i .u64, .i .u64, .i .u64, .i .u64, .i .u64, .i .u64, .i .u64, .i .u64, .i .u64, .i .u64, .i .u64, .sl csW, .i .i64, .i .i64, .i .i64, .i .i64, .i .i64, .sl csStamp, .i .u64, .i .i64, .i .i64, .i .i64, .i .u64, .i .u64, .i .u64, .i .u64, .i .u64, .i .u64, .i .u64, .i .u64, .i .u64, .i .u64, .i .u64, .i .u64, .i .u64, .i .u64, .i .u64, .i .u64, .i .u64, .i .u64, .sl csW, .i .i64, .i .i64, .i .i64, .i .i64, .i .i64, .sl csCert, .i .i64, .i .i64, .i .u64, .i .u64, .i .u64, .i .u64, .i .u64, .i .u64, .i .u64, .i .u64, .i .u64, .i .u64, .i .u64, .i .u64, .i .u64, .i .u64, .i .u64, .i .u64, .i .u64, .i .u64, .sl csW, .i .i64, .i .u64, .i .i64, .i .u64, .sl csVote, .i .i64, .i .i64, .sl csReport, .i .i64, .i .u64, .i .i64, .i .i64, .i .i64, .i .u64, .i .u64, .i .u64, .i .u64, .i .u64, .i .u64, .i .u64, .i .u64, .i .u64, .i .u64, .i .u64, .i .u64, .i .u64, .i .u64, .i .u64, .i .u64, .i .u64, .i .u64, .sl csW, .i .i64, .i .i64, .i .i64, .i .u64, .sl csVote, .i .i64, .i .i64, .i .u64, .i .u64, .i .u64, .i .u64, .i .u64, .i .u64, .i .u64, .i .u64, .i .u64, .i .u64, .i .u64, .i .u64, .i .u64, .i .u64, .i .u64, .i .u64, .i .u64, .i .u64, .sl csW, .sl csBlock]
variable {N n m : Nat} {H : Heap}
theorem imp_tt (p : Bool) : imp p true = true := by cases p <;> rfl
theorem TyL.atom_fn (f : Nat) (l : List AV) : (AV.fn f l).atom = true := rfl
theorem decide_congr {p q : Prop} [Decidable p] [Decidable q] (h : p ↔ q) : decide p = decide q := by
  by_cases hp : p
  · rw [decide_eq_true hp, decide_eq_true (h.1 hp)]
  · rw [decide_eq_false hp, decide_eq_false (fun hq => hp (h.2 hq))]
noncomputable instance partsDec : ∀ (a b : List AV) (l : List Nat) (o : Nat), Decidable (parts a b l o) := fun a b l o => Classical.propDecidable _
theorem neq_false {a b : Nat} (h : a = b) : COp.run (a : Int) (b : Int) .neq = false := by simp [COp.run, h]
theorem neq_true {a b : Nat} (h : a ≠ b) : COp.run (a : Int) (b : Int) .neq = true := by simp [COp.run]; omega
theorem eql_iff {a b : Int} : COp.run a b .eql = decide (a = b) := by simp [COp.run]; rfl
theorem neq_iff {a b : Int} : COp.run a b .neq = !decide (a = b) := by simp [COp.run]; rfl
noncomputable def eqFT (N z : Nat) (Γ : Env) (v : List (List AV) × List (List AV) × AV × Unit) (H : Heap) : Res (Bool × Unit) :=
  let t1 : Bool := COp.run (v.1.length : Int) (v.2.1.length : Int) .neq; (match t1 with | true => (ok (false, ()) H) | false => (reqB (v.2.2.1.atom) (Tup.d [.b]) <| let r5 := iter (α := List (List AV) × AV × List (List AV) × Int × Int × Unit) (β := Sum (Unit) (Bool × Unit)) (Sum.inl (Tup.d [])) (fun R3 v2 H4 => let t6 : Bool := COp.run v2.2.2.2.2.1 v2.2.2.2.1 .lss; (match t6 with | true => (reqB (inb v2.2.2.2.2.1 v2.2.2.1.length) (Sum.inl (Tup.d [])) <| let t7 : List AV := nth v2.2.2.1 v2.2.2.2.2.1.toNat []; reqB (t7.length == z) (Sum.inl (Tup.d [])) <| reqB (inb v2.2.2.2.2.1 v2.1.length) (Sum.inl (Tup.d [])) <| let t8 : List AV := nth v2.1 v2.2.2.2.2.1.toNat []; reqB (t8.length == z) (Sum.inl (Tup.d [])) <| let r9 := appV (Γ) v2.2.1 [.ag t7, .ag t8] H4; reqB (puV (Γ) v2.2.1) (Sum.inl (Tup.d [])) <| reqB (r9.out.length == 1) (Sum.inl (Tup.d [])) <| reqB ((r9.out.headD .junk).isB) (Sum.inl (Tup.d [])) <| req (r9.pre) <| let t10 : Bool := !((r9.out.headD .junk).bool); (match t10 with | true => (ok (Sum.inr (false, ())) H4) | false => (let t11 : Int := AOp.run .i64 v2.2.2.2.2.1 1 .add; reqB (v2.2.1.atom) (Sum.inl (Tup.d [])) <| R3 (v2.1, v2.2.1, v2.2.2.1, v2.2.2.2.1, t11, ()) H4))) | false => (ok (Sum.inl ()) H4))) N (v.2.1, v.2.2.1, v.1, (v.1.length : Int), 0, ()) H; req r5.pre <| sumElim r5.out (fun w12 => ok (true, ()) r5.H) (fun w13 => ok (w13.1, ()) r5.H)))
theorem eqFunc {Γ : Env} {x : AV} {a b : List (List AV)} (hx : x.atom = true) (hp : puV Γ x = true) (z : Nat) (h1 : ∀ k, k < a.length → (nth a k []).length = z) (h2 : ∀ k, k < b.length → (nth b k []).length = z)
    (hs : ∀ k, k < a.length → k < b.length → appV Γ x [.ag (nth a k []), .ag (nth b k [])] H = ok [.b (decide (nth a k [] = nth b k []))] H) (hN : a.length < N) (hM : a.length < 9223372036854775807) : eqFT N z Γ (a, b, x, ()) H = ok (decide (a = b), ()) H := by
  unfold eqFT
  dsimp only
  by_cases hq : a.length = b.length
  · generalize hr : iter _ _ N _ H = r
    obtain ⟨hx', hy'⟩ : (a = b → r = ok (.inl ()) H) ∧ (¬ a = b → r = ok (.inr (false, ())) H) := by
      rw [← hr]
      refine all_iter (fun k => (b, x, a, (a.length : Int), (k : Int), ())) a.length (fun k => nth a k [] = nth b k []) _ _ _ (rows_eq hq).symm (fun R => ?_) (fun R k hk => ?_) N (by omega)
      · dsimp only
        simp only [run_lss, Nat.lt_irrefl, decide_false]
      · dsimp only
        simp only [run_lss, hk, decide_true, inb_true hk, inb_true (hq ▸ hk), Int.toNat_natCast, h1 k hk, h2 k (hq ▸ hk), reqB_true, add_one (show k < 9223372036854775807 by omega), hs k hk (hq ▸ hk), beq_self_eq_true, ok_out, ok_pre, List.length_singleton, List.headD_cons, hx, hp, req_true, AV.isB, AV.bool]
        constructor
        · intro h; simp only [h, decide_true, Bool.not_true]
        · intro h; simp only [h, decide_false, Bool.not_false]
    rw [neq_false hq]
    dsimp only
    by_cases hab : a = b
    · rw [hx' hab]; simp [hab, sumElim, hx]
    · rw [hy' hab]; simp [hab, sumElim, hx]
  · rw [neq_true hq]
    dsimp only
    have : ¬ a = b := fun h => hq (by rw [h])
    simp [this]
theorem w_slices_Equal_hash_Digest_hash_Digest {a b : List (List AV)} (ha : Rows n csW a) (hb : Rows m csW b) (hn : n < N) (hM : N < 9223372036854775807) : F_slices_Equal_hash_Digest_hash_Digest N (a, b, ()) H = ok (decide (a = b), ()) H := by
  unfold F_slices_Equal_hash_Digest_hash_Digest
  dsimp only
  have hl := ha.1
  by_cases hq : a.length = b.length
  · generalize hr : iter _ _ N _ H = r
    obtain ⟨hx, hy⟩ : (a = b → r = ok (.inl ()) H) ∧ (¬ a = b → r = ok (.inr (false, ())) H) := by
      rw [← hr]
      refine all_iter (fun k => (a, b, (a.length : Int), (k : Int), ())) a.length (fun k => nth a k [] = nth b k []) _ _ _ (rows_eq hq).symm (fun R => ?_) (fun R k hk => ?_) N (by omega)
      · dsimp only
        simp only [run_lss, Nat.lt_irrefl, decide_false]
      · have h1 := ha.2 k hk
        have h2 := hb.2 k (by omega)
        dsimp only
        simp only [run_lss, hk, decide_true, inb_true hk, inb_true (hq ▸ hk), Int.toNat_natCast, h1.isI 0 .u64 rfl (by decide), h2.isI 0 .u64 rfl (by decide), reqB_true, add_one (show k < 9223372036854775807 by omega), neq_iff, h1.numeq h2 0 .u64 ⟨rfl, rfl, by decide, by decide⟩, eq_parts [1] h1.len h2.len, parts]
        constructor
        · intro h; simp only [h, decide_true, Bool.not_true]
        · intro h; simp only [h, decide_false, Bool.not_false]
    rw [neq_false hq]
    dsimp only
    by_cases hab : a = b
    · rw [hx hab]; simp [hab, sumElim]
    · rw [hy hab]; simp [hab, sumElim]
  · rw [neq_true hq]
    dsimp only
    have : ¬ a = b := fun h => hq (by rw [h])
    simp [this]

theorem w_key_Same {a b : List AV} (ha : TyL n csSig a) (hb : TyL m csSig b) (hn : n < N) (hM : N < 9223372036854775807) : F_key_Same N (a, b, ()) H = ok (decide (a = b), ()) H := by
  unfold F_key_Same
  dsimp only
  simp only [show (a.length == 21) = true by rw [ha.len]; rfl, show (b.length == 21) = true by rw [hb.len]; rfl, reqB_true, reqG_true, req_true, imp_self, imp_tt, ok_pre, ok_out, ok_H, eql_iff, TyL.atom_fn,
    ha.isI 0 .i64 rfl (by decide),
    ha.isI 1 .i64 rfl (by decide),
    ha.allI (o := 2) (m := 18) [.u64, .u64, .u64, .u64, .u64, .u64, .u64, .u64, .u64, .u64, .u64, .u64, .u64, .u64, .u64, .u64, .u64, .u64] rfl rfl,
    ha.isSl 20 1 csW rfl rfl (by decide),
    hb.isI 0 .i64 rfl (by decide),
    hb.isI 1 .i64 rfl (by decide),
    hb.allI (o := 2) (m := 18) [.u64, .u64, .u64, .u64, .u64, .u64, .u64, .u64, .u64, .u64, .u64, .u64, .u64, .u64, .u64, .u64, .u64, .u64] rfl rfl,
    hb.isSl 20 1 csW rfl rfl (by decide),
    ha.numeq hb 0 .i64 ⟨rfl, rfl, by decide, by decide⟩,
    ha.numeq hb 1 .i64 ⟨rfl, rfl, by decide, by decide⟩,
    ha.eqI hb (o := 2) (m := 18) .u64 rfl rfl,
    w_slices_Equal_hash_Digest_hash_Digest (N := N) (H := H) (ha.rows 20 csW rfl (by decide)) (hb.rows 20 csW rfl (by decide)) hn hM,
    ha.slseq hb 20 csW ⟨rfl, rfl, by decide, by decide⟩]
  rw [decide_congr (eq_parts [1, 1, 18, 1] ha.len hb.len)]
  simp only [parts, Bool.decide_and, Bool.and_assoc]

theorem w_stamp_Same {a b : List AV} (ha : TyL n csStamp a) (hb : TyL m csStamp b) (hn : n < N) (hM : N < 9223372036854775807) : F_stamp_Same N (a, b, ()) H = ok (decide (a = b), ()) H := by
  unfold F_stamp_Same
  dsimp only
  simp only [show (a.length == 24) = true by rw [ha.len]; rfl, show (b.length == 24) = true by rw [hb.len]; rfl, reqB_true, reqG_true, req_true, imp_self, imp_tt, ok_pre, ok_out, ok_H, eql_iff, TyL.atom_fn,
    ha.isI 0 .u64 rfl (by decide),
    ha.isI 1 .i64 rfl (by decide),
    ha.isI 2 .i64 rfl (by decide),
    hb.isI 0 .u64 rfl (by decide),
    hb.isI 1 .i64 rfl (by decide),
    hb.isI 2 .i64 rfl (by decide),
    ha.numeq hb 0 .u64 ⟨rfl, rfl, by decide, by decide⟩,
    ha.numeq hb 1 .i64 ⟨rfl, rfl, by decide, by decide⟩,
    ha.numeq hb 2 .i64 ⟨rfl, rfl, by decide, by decide⟩,
    w_key_Same (N := N) (H := H) (ha.sub (ds := csSig) 3 21 rfl rfl) (hb.sub (ds := csSig) 3 21 rfl rfl) hn hM]
  rw [decide_congr (eq_parts [1, 1, 1, 21] ha.len hb.len)]
  simp only [parts, Bool.decide_and, Bool.and_assoc]

theorem w_slices_EqualFunc_stamp_Stamp_stamp_Stamp_stamp_Stamp_stamp_Stamp {a b : List (List AV)} (ha : Rows n csStamp a) (hb : Rows m csStamp b) (hn : n < N) (hM : N < 9223372036854775807) : F_slices_EqualFunc_stamp_Stamp_stamp_Stamp_stamp_Stamp_stamp_Stamp N (a, b, .fn 30 [], ()) H = ok (decide (a = b), ()) H :=
  eqFunc (Γ := G_slices_EqualFunc_stamp_Stamp_stamp_Stamp_stamp_Stamp_stamp_Stamp N) (x := .fn 30 []) rfl rfl 24 (fun k hk => (ha.2 k hk).len) (fun k hk => (hb.2 k hk).len) (fun k hk hk' => by
    have e := w_stamp_Same (H := H) (ha.2 k hk) (hb.2 k hk') hn hM
    exact (show appV _ _ _ _ = (⟨(F_stamp_Same N (nth a k [], nth b k [], ()) H).pre, [.b (F_stamp_Same N (nth a k [], nth b k [], ()) H).out.1], (F_stamp_Same N (nth a k [], nth b k [], ()) H).H⟩ : Res _) from rfl).trans (by rw [e]; rfl)) (by have := ha.1; omega) (by have := ha.1; omega)

theorem w_median_Same {a b : List AV} (ha : TyL n csCert a) (hb : TyL m csCert b) (hn : n < N) (hM : N < 9223372036854775807) : F_median_Same N (a, b, ()) H = ok (decide (a = b), ()) H := by
  unfold F_median_Same
  dsimp only
  simp only [show (a.length == 6) = true by rw [ha.len]; rfl, show (b.length == 6) = true by rw [hb.len]; rfl, reqB_true, reqG_true, req_true, imp_self, imp_tt, ok_pre, ok_out, ok_H, eql_iff, TyL.atom_fn,
    ha.allI (o := 0) (m := 5) [.i64, .i64, .i64, .i64, .i64] rfl rfl,
    ha.isSl 5 24 csStamp rfl rfl (by decide),
    hb.allI (o := 0) (m := 5) [.i64, .i64, .i64, .i64, .i64] rfl rfl,
    hb.isSl 5 24 csStamp rfl rfl (by decide),
    ha.eqI hb (o := 0) (m := 5) .i64 rfl rfl,
    w_slices_EqualFunc_stamp_Stamp_stamp_Stamp_stamp_Stamp_stamp_Stamp (N := N) (H := H) (ha.rows 5 csStamp rfl (by decide)) (hb.rows 5 csStamp rfl (by decide)) hn hM,
    ha.slseq hb 5 csStamp ⟨rfl, rfl, by decide, by decide⟩]
  rw [decide_congr (eq_parts [5, 1] ha.len hb.len)]
  simp only [parts, Bool.decide_and, Bool.and_assoc]

theorem w_msg_sameAck {a b : List AV} (ha : TyL n csAck a) (hb : TyL m csAck b) (hn : n < N) (hM : N < 9223372036854775807) : F_msg_sameAck N (a, b, ()) H = ok (decide (a = b), ()) H := by
  unfold F_msg_sameAck
  dsimp only
  simp only [show (a.length == 23) = true by rw [ha.len]; rfl, show (b.length == 23) = true by rw [hb.len]; rfl, reqB_true, reqG_true, req_true, imp_self, imp_tt, ok_pre, ok_out, ok_H, eql_iff, TyL.atom_fn,
    ha.isI 0 .u64 rfl (by decide),
    ha.isI 1 .i64 rfl (by decide),
    hb.isI 0 .u64 rfl (by decide),
    hb.isI 1 .i64 rfl (by decide),
    ha.numeq hb 0 .u64 ⟨rfl, rfl, by decide, by decide⟩,
    ha.numeq hb 1 .i64 ⟨rfl, rfl, by decide, by decide⟩,
    w_key_Same (N := N) (H := H) (ha.sub (ds := csSig) 2 21 rfl rfl) (hb.sub (ds := csSig) 2 21 rfl rfl) hn hM]
  rw [decide_congr (eq_parts [1, 1, 21] ha.len hb.len)]
  simp only [parts, Bool.decide_and, Bool.and_assoc]

theorem w_slices_EqualFunc_median_Cert_median_Cert_median_Cert_median_Cert {a b : List (List AV)} (ha : Rows n csCert a) (hb : Rows m csCert b) (hn : n < N) (hM : N < 9223372036854775807) : F_slices_EqualFunc_median_Cert_median_Cert_median_Cert_median_Cert N (a, b, .fn 31 [], ()) H = ok (decide (a = b), ()) H :=
  eqFunc (Γ := G_slices_EqualFunc_median_Cert_median_Cert_median_Cert_median_Cert N) (x := .fn 31 []) rfl rfl 6 (fun k hk => (ha.2 k hk).len) (fun k hk => (hb.2 k hk).len) (fun k hk hk' => by
    have e := w_median_Same (H := H) (ha.2 k hk) (hb.2 k hk') hn hM
    exact (show appV _ _ _ _ = (⟨(F_median_Same N (nth a k [], nth b k [], ()) H).pre, [.b (F_median_Same N (nth a k [], nth b k [], ()) H).out.1], (F_median_Same N (nth a k [], nth b k [], ()) H).H⟩ : Res _) from rfl).trans (by rw [e]; rfl)) (by have := ha.1; omega) (by have := ha.1; omega)

theorem w_cut_Same {a b : List AV} (ha : TyL n csReport a) (hb : TyL m csReport b) (hn : n < N) (hM : N < 9223372036854775807) : F_cut_Same N (a, b, ()) H = ok (decide (a = b), ()) H := by
  unfold F_cut_Same
  dsimp only
  simp only [show (a.length == 25) = true by rw [ha.len]; rfl, show (b.length == 25) = true by rw [hb.len]; rfl, reqB_true, reqG_true, req_true, imp_self, imp_tt, ok_pre, ok_out, ok_H, eql_iff, TyL.atom_fn,
    ha.isI 0 .i64 rfl (by decide),
    ha.isI 1 .i64 rfl (by decide),
    ha.isI 2 .i64 rfl (by decide),
    ha.isSl 3 6 csCert rfl rfl (by decide),
    hb.isI 0 .i64 rfl (by decide),
    hb.isI 1 .i64 rfl (by decide),
    hb.isI 2 .i64 rfl (by decide),
    hb.isSl 3 6 csCert rfl rfl (by decide),
    ha.numeq hb 0 .i64 ⟨rfl, rfl, by decide, by decide⟩,
    ha.numeq hb 1 .i64 ⟨rfl, rfl, by decide, by decide⟩,
    ha.numeq hb 2 .i64 ⟨rfl, rfl, by decide, by decide⟩,
    w_slices_EqualFunc_median_Cert_median_Cert_median_Cert_median_Cert (N := N) (H := H) (ha.rows 3 csCert rfl (by decide)) (hb.rows 3 csCert rfl (by decide)) hn hM,
    ha.slseq hb 3 csCert ⟨rfl, rfl, by decide, by decide⟩,
    w_key_Same (N := N) (H := H) (ha.sub (ds := csSig) 4 21 rfl rfl) (hb.sub (ds := csSig) 4 21 rfl rfl) hn hM]
  rw [decide_congr (eq_parts [1, 1, 1, 1, 21] ha.len hb.len)]
  simp only [parts, Bool.decide_and, Bool.and_assoc]

theorem w_msg_sameVote {a b : List AV} (ha : TyL n csVote a) (hb : TyL m csVote b) (hn : n < N) (hM : N < 9223372036854775807) : F_msg_sameVote N (a, b, ()) H = ok (decide (a = b), ()) H := by
  unfold F_msg_sameVote
  dsimp only
  simp only [show (a.length == 24) = true by rw [ha.len]; rfl, show (b.length == 24) = true by rw [hb.len]; rfl, reqB_true, reqG_true, req_true, imp_self, imp_tt, ok_pre, ok_out, ok_H, eql_iff, TyL.atom_fn,
    ha.isI 0 .i64 rfl (by decide),
    ha.isI 1 .u64 rfl (by decide),
    ha.isI 2 .i64 rfl (by decide),
    hb.isI 0 .i64 rfl (by decide),
    hb.isI 1 .u64 rfl (by decide),
    hb.isI 2 .i64 rfl (by decide),
    ha.numeq hb 0 .i64 ⟨rfl, rfl, by decide, by decide⟩,
    ha.numeq hb 1 .u64 ⟨rfl, rfl, by decide, by decide⟩,
    ha.numeq hb 2 .i64 ⟨rfl, rfl, by decide, by decide⟩,
    w_key_Same (N := N) (H := H) (ha.sub (ds := csSig) 3 21 rfl rfl) (hb.sub (ds := csSig) 3 21 rfl rfl) hn hM]
  rw [decide_congr (eq_parts [1, 1, 1, 21] ha.len hb.len)]
  simp only [parts, Bool.decide_and, Bool.and_assoc]

theorem w_slices_EqualFunc_block_Vote_block_Vote_block_Vote_block_Vote {a b : List (List AV)} (ha : Rows n csVote a) (hb : Rows m csVote b) (hn : n < N) (hM : N < 9223372036854775807) : F_slices_EqualFunc_block_Vote_block_Vote_block_Vote_block_Vote N (a, b, .fn 35 [], ()) H = ok (decide (a = b), ()) H :=
  eqFunc (Γ := G_slices_EqualFunc_block_Vote_block_Vote_block_Vote_block_Vote N) (x := .fn 35 []) rfl rfl 24 (fun k hk => (ha.2 k hk).len) (fun k hk => (hb.2 k hk).len) (fun k hk hk' => by
    have e := w_msg_sameVote (H := H) (ha.2 k hk) (hb.2 k hk') hn hM
    exact (show appV _ _ _ _ = (⟨(F_msg_sameVote N (nth a k [], nth b k [], ()) H).pre, [.b (F_msg_sameVote N (nth a k [], nth b k [], ()) H).out.1], (F_msg_sameVote N (nth a k [], nth b k [], ()) H).H⟩ : Res _) from rfl).trans (by rw [e]; rfl)) (by have := ha.1; omega) (by have := ha.1; omega)

theorem w_msg_rows_block_Vote {a b : List (List AV)} (ha : Rows n csVote a) (hb : Rows m csVote b) (hn : n < N) (hM : N < 9223372036854775807) : F_msg_rows_block_Vote N (a, b, .fn 35 [], ()) H = ok (decide (a = b), ()) H := by
  unfold F_msg_rows_block_Vote
  dsimp only
  simp only [w_slices_EqualFunc_block_Vote_block_Vote_block_Vote_block_Vote (H := H) ha hb hn hM, TyL.atom_fn, reqB_true, ok_pre, ok_out, req_true]

theorem w_msg_sameQC {a b : List AV} (ha : TyL n csQC a) (hb : TyL m csQC b) (hn : n < N) (hM : N < 9223372036854775807) : F_msg_sameQC N (a, b, ()) H = ok (decide (a = b), ()) H := by
  unfold F_msg_sameQC
  dsimp only
  simp only [show (a.length == 3) = true by rw [ha.len]; rfl, show (b.length == 3) = true by rw [hb.len]; rfl, reqB_true, reqG_true, req_true, imp_self, imp_tt, ok_pre, ok_out, ok_H, eql_iff, TyL.atom_fn,
    ha.isI 0 .i64 rfl (by decide),
    ha.isI 1 .u64 rfl (by decide),
    ha.isSl 2 24 csVote rfl rfl (by decide),
    hb.isI 0 .i64 rfl (by decide),
    hb.isI 1 .u64 rfl (by decide),
    hb.isSl 2 24 csVote rfl rfl (by decide),
    ha.numeq hb 0 .i64 ⟨rfl, rfl, by decide, by decide⟩,
    ha.numeq hb 1 .u64 ⟨rfl, rfl, by decide, by decide⟩,
    w_msg_rows_block_Vote (N := N) (H := H) (ha.rows 2 csVote rfl (by decide)) (hb.rows 2 csVote rfl (by decide)) hn hM,
    ha.slseq hb 2 csVote ⟨rfl, rfl, by decide, by decide⟩]
  rw [decide_congr (eq_parts [1, 1, 1] ha.len hb.len)]
  simp only [parts, Bool.decide_and, Bool.and_assoc]

theorem w_slices_EqualFunc_cut_Report_cut_Report_cut_Report_cut_Report {a b : List (List AV)} (ha : Rows n csReport a) (hb : Rows m csReport b) (hn : n < N) (hM : N < 9223372036854775807) : F_slices_EqualFunc_cut_Report_cut_Report_cut_Report_cut_Report N (a, b, .fn 33 [], ()) H = ok (decide (a = b), ()) H :=
  eqFunc (Γ := G_slices_EqualFunc_cut_Report_cut_Report_cut_Report_cut_Report N) (x := .fn 33 []) rfl rfl 25 (fun k hk => (ha.2 k hk).len) (fun k hk => (hb.2 k hk).len) (fun k hk hk' => by
    have e := w_cut_Same (H := H) (ha.2 k hk) (hb.2 k hk') hn hM
    exact (show appV _ _ _ _ = (⟨(F_cut_Same N (nth a k [], nth b k [], ()) H).pre, [.b (F_cut_Same N (nth a k [], nth b k [], ()) H).out.1], (F_cut_Same N (nth a k [], nth b k [], ()) H).H⟩ : Res _) from rfl).trans (by rw [e]; rfl)) (by have := ha.1; omega) (by have := ha.1; omega)

theorem w_msg_rows_cut_Report {a b : List (List AV)} (ha : Rows n csReport a) (hb : Rows m csReport b) (hn : n < N) (hM : N < 9223372036854775807) : F_msg_rows_cut_Report N (a, b, .fn 33 [], ()) H = ok (decide (a = b), ()) H := by
  unfold F_msg_rows_cut_Report
  dsimp only
  simp only [w_slices_EqualFunc_cut_Report_cut_Report_cut_Report_cut_Report (H := H) ha hb hn hM, TyL.atom_fn, reqB_true, ok_pre, ok_out, req_true]

theorem w_msg_sameBlock {a b : List AV} (ha : TyL n csBlock a) (hb : TyL m csBlock b) (hn : n < N) (hM : N < 9223372036854775807) : F_msg_sameBlock N (a, b, ()) H = ok (decide (a = b), ()) H := by
  unfold F_msg_sameBlock
  dsimp only
  simp only [show (a.length == 8) = true by rw [ha.len]; rfl, show (b.length == 8) = true by rw [hb.len]; rfl, reqB_true, reqG_true, req_true, imp_self, imp_tt, ok_pre, ok_out, ok_H, eql_iff, TyL.atom_fn,
    ha.isI 0 .i64 rfl (by decide),
    ha.isI 1 .u64 rfl (by decide),
    ha.isI 5 .i64 rfl (by decide),
    ha.isI 6 .i64 rfl (by decide),
    ha.isSl 7 25 csReport rfl rfl (by decide),
    hb.isI 0 .i64 rfl (by decide),
    hb.isI 1 .u64 rfl (by decide),
    hb.isI 5 .i64 rfl (by decide),
    hb.isI 6 .i64 rfl (by decide),
    hb.isSl 7 25 csReport rfl rfl (by decide),
    ha.numeq hb 0 .i64 ⟨rfl, rfl, by decide, by decide⟩,
    ha.numeq hb 1 .u64 ⟨rfl, rfl, by decide, by decide⟩,
    w_msg_sameQC (N := N) (H := H) (ha.sub (ds := csQC) 2 3 rfl rfl) (hb.sub (ds := csQC) 2 3 rfl rfl) hn hM,
    ha.numeq hb 5 .i64 ⟨rfl, rfl, by decide, by decide⟩,
    ha.numeq hb 6 .i64 ⟨rfl, rfl, by decide, by decide⟩,
    w_msg_rows_cut_Report (N := N) (H := H) (ha.rows 7 csReport rfl (by decide)) (hb.rows 7 csReport rfl (by decide)) hn hM,
    ha.slseq hb 7 csReport ⟨rfl, rfl, by decide, by decide⟩]
  rw [decide_congr (eq_parts [1, 1, 3, 1, 1, 1] ha.len hb.len)]
  simp only [parts, Bool.decide_and, Bool.and_assoc]

theorem w_msg_sameView {a b : List AV} (ha : TyL n csView a) (hb : TyL m csView b) (hn : n < N) (hM : N < 9223372036854775807) : F_msg_sameView N (a, b, ()) H = ok (decide (a = b), ()) H := by
  unfold F_msg_sameView
  dsimp only
  simp only [show (a.length == 26) = true by rw [ha.len]; rfl, show (b.length == 26) = true by rw [hb.len]; rfl, reqB_true, reqG_true, req_true, imp_self, imp_tt, ok_pre, ok_out, ok_H, eql_iff, TyL.atom_fn,
    ha.isI 0 .i64 rfl (by decide),
    ha.isI 1 .i64 rfl (by decide),
    hb.isI 0 .i64 rfl (by decide),
    hb.isI 1 .i64 rfl (by decide),
    ha.numeq hb 0 .i64 ⟨rfl, rfl, by decide, by decide⟩,
    ha.numeq hb 1 .i64 ⟨rfl, rfl, by decide, by decide⟩,
    w_msg_sameQC (N := N) (H := H) (ha.sub (ds := csQC) 2 3 rfl rfl) (hb.sub (ds := csQC) 2 3 rfl rfl) hn hM,
    w_key_Same (N := N) (H := H) (ha.sub (ds := csSig) 5 21 rfl rfl) (hb.sub (ds := csSig) 5 21 rfl rfl) hn hM]
  rw [decide_congr (eq_parts [1, 1, 3, 21] ha.len hb.len)]
  simp only [parts, Bool.decide_and, Bool.and_assoc]

theorem w_slices_EqualFunc_block_Block_block_Block_block_Block_block_Block {a b : List (List AV)} (ha : Rows n csBlock a) (hb : Rows m csBlock b) (hn : n < N) (hM : N < 9223372036854775807) : F_slices_EqualFunc_block_Block_block_Block_block_Block_block_Block N (a, b, .fn 34 [], ()) H = ok (decide (a = b), ()) H :=
  eqFunc (Γ := G_slices_EqualFunc_block_Block_block_Block_block_Block_block_Block N) (x := .fn 34 []) rfl rfl 8 (fun k hk => (ha.2 k hk).len) (fun k hk => (hb.2 k hk).len) (fun k hk hk' => by
    have e := w_msg_sameBlock (H := H) (ha.2 k hk) (hb.2 k hk') hn hM
    exact (show appV _ _ _ _ = (⟨(F_msg_sameBlock N (nth a k [], nth b k [], ()) H).pre, [.b (F_msg_sameBlock N (nth a k [], nth b k [], ()) H).out.1], (F_msg_sameBlock N (nth a k [], nth b k [], ()) H).H⟩ : Res _) from rfl).trans (by rw [e]; rfl)) (by have := ha.1; omega) (by have := ha.1; omega)

theorem w_msg_rows_block_Block {a b : List (List AV)} (ha : Rows n csBlock a) (hb : Rows m csBlock b) (hn : n < N) (hM : N < 9223372036854775807) : F_msg_rows_block_Block N (a, b, .fn 34 [], ()) H = ok (decide (a = b), ()) H := by
  unfold F_msg_rows_block_Block
  dsimp only
  simp only [w_slices_EqualFunc_block_Block_block_Block_block_Block_block_Block (H := H) ha hb hn hM, TyL.atom_fn, reqB_true, ok_pre, ok_out, req_true]

theorem w_msg_Same {a b : List AV} (ha : TyL n csMsg a) (hb : TyL m csMsg b) (hn : n < N) (hM : N < 9223372036854775807) : F_msg_Same N (a, b, ()) H = ok (decide (a = b), ()) H := by
  unfold F_msg_Same
  dsimp only
  simp only [show (a.length == 147) = true by rw [ha.len]; rfl, show (b.length == 147) = true by rw [hb.len]; rfl, reqB_true, reqG_true, req_true, imp_self, imp_tt, ok_pre, ok_out, ok_H, eql_iff, TyL.atom_fn,
    ha.isI 0 .i64 rfl (by decide),
    ha.isI 1 .i64 rfl (by decide),
    ha.isI 2 .i64 rfl (by decide),
    ha.allI (o := 3) (m := 5) [.i64, .i64, .i64, .i64, .i64] rfl rfl,
    ha.isI 61 .i64 rfl (by decide),
    ha.isI 62 .i64 rfl (by decide),
    ha.isSl 146 8 csBlock rfl rfl (by decide),
    hb.isI 0 .i64 rfl (by decide),
    hb.isI 1 .i64 rfl (by decide),
    hb.isI 2 .i64 rfl (by decide),
    hb.allI (o := 3) (m := 5) [.i64, .i64, .i64, .i64, .i64] rfl rfl,
    hb.isI 61 .i64 rfl (by decide),
    hb.isI 62 .i64 rfl (by decide),
    hb.isSl 146 8 csBlock rfl rfl (by decide),
    ha.numeq hb 0 .i64 ⟨rfl, rfl, by decide, by decide⟩,
    ha.numeq hb 1 .i64 ⟨rfl, rfl, by decide, by decide⟩,
    ha.numeq hb 2 .i64 ⟨rfl, rfl, by decide, by decide⟩,
    ha.eqI hb (o := 3) (m := 5) .i64 rfl rfl,
    w_stamp_Same (N := N) (H := H) (ha.sub (ds := csStamp) 8 24 rfl rfl) (hb.sub (ds := csStamp) 8 24 rfl rfl) hn hM,
    w_median_Same (N := N) (H := H) (ha.sub (ds := csCert) 32 6 rfl rfl) (hb.sub (ds := csCert) 32 6 rfl rfl) hn hM,
    w_msg_sameAck (N := N) (H := H) (ha.sub (ds := csAck) 38 23 rfl rfl) (hb.sub (ds := csAck) 38 23 rfl rfl) hn hM,
    ha.numeq hb 61 .i64 ⟨rfl, rfl, by decide, by decide⟩,
    ha.numeq hb 62 .i64 ⟨rfl, rfl, by decide, by decide⟩,
    w_cut_Same (N := N) (H := H) (ha.sub (ds := csReport) 63 25 rfl rfl) (hb.sub (ds := csReport) 63 25 rfl rfl) hn hM,
    w_msg_sameBlock (N := N) (H := H) (ha.sub (ds := csBlock) 88 8 rfl rfl) (hb.sub (ds := csBlock) 88 8 rfl rfl) hn hM,
    w_msg_sameVote (N := N) (H := H) (ha.sub (ds := csVote) 96 24 rfl rfl) (hb.sub (ds := csVote) 96 24 rfl rfl) hn hM,
    w_msg_sameView (N := N) (H := H) (ha.sub (ds := csView) 120 26 rfl rfl) (hb.sub (ds := csView) 120 26 rfl rfl) hn hM,
    w_msg_rows_block_Block (N := N) (H := H) (ha.rows 146 csBlock rfl (by decide)) (hb.rows 146 csBlock rfl (by decide)) hn hM,
    ha.slseq hb 146 csBlock ⟨rfl, rfl, by decide, by decide⟩]
  rw [decide_congr (eq_parts [1, 1, 1, 5, 24, 6, 23, 1, 1, 25, 8, 24, 26, 1] ha.len hb.len)]
  simp only [parts, Bool.decide_and, Bool.and_assoc]

end Go.Proofs.DenT
end
section
open Go
set_option linter.unusedVariables false
set_option linter.unusedSimpArgs false
set_option maxRecDepth 100000
namespace Go.Proofs.DenT
variable {N n m : Nat} {H : Heap}
theorem w_folkmootref6_SameSig {a b : List AV} (ha : TyL n csSig a) (hb : TyL m csSig b) (hn : n < N) (hM : N < 9223372036854775807) : F_folkmootref6_SameSig N (a, b, ()) H = ok (decide (a = b), ()) H := by
  unfold F_folkmootref6_SameSig
  dsimp only
  simp only [show (a.length == 21) = true by rw [ha.len]; rfl, show (b.length == 21) = true by rw [hb.len]; rfl, reqB_true, reqG_true, req_true, imp_self, imp_tt, ok_pre, ok_out, ok_H, eql_iff, neq_iff, TyL.atom_fn,
    ha.isI 0 .i64 rfl (by decide),
    ha.isI 1 .i64 rfl (by decide),
    ha.allI (o := 2) (m := 18) [.u64, .u64, .u64, .u64, .u64, .u64, .u64, .u64, .u64, .u64, .u64, .u64, .u64, .u64, .u64, .u64, .u64, .u64] rfl rfl,
    ha.isSl 20 1 csW rfl rfl (by decide),
    hb.isI 0 .i64 rfl (by decide),
    hb.isI 1 .i64 rfl (by decide),
    hb.allI (o := 2) (m := 18) [.u64, .u64, .u64, .u64, .u64, .u64, .u64, .u64, .u64, .u64, .u64, .u64, .u64, .u64, .u64, .u64, .u64, .u64] rfl rfl,
    hb.isSl 20 1 csW rfl rfl (by decide),
    ha.numeq hb 0 .i64 ⟨rfl, rfl, by decide, by decide⟩,
    ha.numeq hb 1 .i64 ⟨rfl, rfl, by decide, by decide⟩,
    ha.eqI hb (o := 2) (m := 18) .u64 rfl rfl]
  rw [decide_congr (eq_parts [1, 1, 18, 1] ha.len hb.len)]
  simp only [parts]
  by_cases h0 : nth a 0 .junk = nth b 0 .junk
  rotate_left
  · simp [h0]
  by_cases h1 : nth a 1 .junk = nth b 1 .junk
  rotate_left
  · simp [h0, h1]
  by_cases h2 : sub a 2 18 = sub b 2 18
  rotate_left
  · simp [h0, h1, h2]
  have ra := ha.rows 20 csW rfl (by decide)
  have rb := hb.rows 20 csW rfl (by decide)
  by_cases hq : (nth a 20 .junk).els.length = (nth b 20 .junk).els.length
  rotate_left
  · have hne : ¬ nth a 20 .junk = nth b 20 .junk := fun h => hq (by rw [h])
    have hq' : ¬ ((nth a 20 .junk).els.length : Int) = ((nth b 20 .junk).els.length : Int) := by omega
    simp [hne, hq', h0, h1, h2]
  have hq' : ((nth a 20 .junk).els.length : Int) = ((nth b 20 .junk).els.length : Int) := by omega
  simp only [h0, h1, h2, hq', decide_true, Bool.not_true, Bool.or_self, true_and]
  generalize hr : iter _ _ N _ H = r
  obtain ⟨hx, hy⟩ : (nth a 20 .junk = nth b 20 .junk → r = ok (.inl (a, b, ())) H) ∧ (¬ nth a 20 .junk = nth b 20 .junk → r = ok (.inr (false, a, b, ())) H) := by
    rw [← hr]
    refine all_iter (fun k => ((), (), (k : Int), a, b, ())) (nth a 20 .junk).els.length (fun k => nth (nth a 20 .junk).els k [] = nth (nth b 20 .junk).els k []) _ _ _ ((rows_eq hq).symm.trans (ha.slseq hb 20 csW ⟨rfl, rfl, by decide, by decide⟩)) (fun R => ?_) (fun R k hk => ?_) N (by have := ra.1; omega)
    · dsimp only
      simp only [run_lss, Nat.lt_irrefl, decide_false, ha.isSl 20 1 csW rfl rfl (by decide), reqB_true]
    · have h1 := ra.2 k hk
      have h2 := rb.2 k (by omega)
      have hkM : k < 9223372036854775807 := by have := ra.1; omega
      dsimp only
      simp only [run_lss, hk, decide_true, inb_true hk, inb_true (hq ▸ hk), Int.toNat_natCast, ha.isSl 20 1 csW rfl rfl (by decide), hb.isSl 20 1 csW rfl rfl (by decide), reqB_true, req_true, ok_pre, ok_out, add_one hkM, neq_iff, h1.isI 0 .u64 rfl (by decide), h2.isI 0 .u64 rfl (by decide), h1.numeq h2 0 .u64 ⟨rfl, rfl, by decide, by decide⟩, eq_parts [1] h1.len h2.len, parts]
      constructor
      · intro h; simp only [h, decide_true, Bool.not_true]
      · intro h; simp only [h, decide_false, Bool.not_false]
  by_cases hab : nth a 20 .junk = nth b 20 .junk
  · rw [hx hab]; simp [hab, sumElim]
  · rw [hy hab]; simp [hab, sumElim]

theorem w_folkmootref15_SameStamp {a b : List AV} (ha : TyL n csStamp a) (hb : TyL m csStamp b) (hn : n < N) (hM : N < 9223372036854775807) : F_folkmootref15_SameStamp N (a, b, ()) H = ok (decide (a = b), ()) H := by
  unfold F_folkmootref15_SameStamp
  dsimp only
  simp only [show (a.length == 24) = true by rw [ha.len]; rfl, show (b.length == 24) = true by rw [hb.len]; rfl, reqB_true, reqG_true, req_true, imp_self, imp_tt, ok_pre, ok_out, ok_H, eql_iff, neq_iff, TyL.atom_fn,
    ha.isI 0 .u64 rfl (by decide),
    ha.isI 1 .i64 rfl (by decide),
    ha.isI 2 .i64 rfl (by decide),
    hb.isI 0 .u64 rfl (by decide),
    hb.isI 1 .i64 rfl (by decide),
    hb.isI 2 .i64 rfl (by decide),
    ha.numeq hb 0 .u64 ⟨rfl, rfl, by decide, by decide⟩,
    ha.numeq hb 1 .i64 ⟨rfl, rfl, by decide, by decide⟩,
    ha.numeq hb 2 .i64 ⟨rfl, rfl, by decide, by decide⟩,
    w_folkmootref6_SameSig (N := N) (H := H) (ha.sub (ds := csSig) 3 21 rfl rfl) (hb.sub (ds := csSig) 3 21 rfl rfl) hn hM]
  rw [decide_congr (eq_parts [1, 1, 1, 21] ha.len hb.len)]
  simp only [parts, Bool.decide_and, Bool.and_assoc]

theorem w_folkmootref15_SameCert {a b : List AV} (ha : TyL n csCert a) (hb : TyL m csCert b) (hn : n < N) (hM : N < 9223372036854775807) : F_folkmootref15_SameCert N (a, b, ()) H = ok (decide (a = b), ()) H := by
  unfold F_folkmootref15_SameCert
  dsimp only
  simp only [show (a.length == 6) = true by rw [ha.len]; rfl, show (b.length == 6) = true by rw [hb.len]; rfl, reqB_true, reqG_true, req_true, imp_self, imp_tt, ok_pre, ok_out, ok_H, eql_iff, neq_iff, TyL.atom_fn,
    ha.allI (o := 0) (m := 5) [.i64, .i64, .i64, .i64, .i64] rfl rfl,
    ha.isSl 5 24 csStamp rfl rfl (by decide),
    hb.allI (o := 0) (m := 5) [.i64, .i64, .i64, .i64, .i64] rfl rfl,
    hb.isSl 5 24 csStamp rfl rfl (by decide),
    ha.eqI hb (o := 0) (m := 5) .i64 rfl rfl]
  rw [decide_congr (eq_parts [5, 1] ha.len hb.len)]
  simp only [parts]
  by_cases h0 : sub a 0 5 = sub b 0 5
  rotate_left
  · simp [h0]
  have ra := ha.rows 5 csStamp rfl (by decide)
  have rb := hb.rows 5 csStamp rfl (by decide)
  by_cases hq : (nth a 5 .junk).els.length = (nth b 5 .junk).els.length
  rotate_left
  · have hne : ¬ nth a 5 .junk = nth b 5 .junk := fun h => hq (by rw [h])
    have hq' : ¬ ((nth a 5 .junk).els.length : Int) = ((nth b 5 .junk).els.length : Int) := by omega
    simp [hne, hq', h0]
  have hq' : ((nth a 5 .junk).els.length : Int) = ((nth b 5 .junk).els.length : Int) := by omega
  simp only [h0, hq', decide_true, Bool.not_true, Bool.or_self, true_and]
  generalize hr : iter _ _ N _ H = r
  obtain ⟨hx, hy⟩ : (nth a 5 .junk = nth b 5 .junk → r = ok (.inl (a, b, ())) H) ∧ (¬ nth a 5 .junk = nth b 5 .junk → r = ok (.inr (false, a, b, ())) H) := by
    rw [← hr]
    refine all_iter (fun k => ((), (), (k : Int), a, b, ())) (nth a 5 .junk).els.length (fun k => nth (nth a 5 .junk).els k [] = nth (nth b 5 .junk).els k []) _ _ _ ((rows_eq hq).symm.trans (ha.slseq hb 5 csStamp ⟨rfl, rfl, by decide, by decide⟩)) (fun R => ?_) (fun R k hk => ?_) N (by have := ra.1; omega)
    · dsimp only
      simp only [run_lss, Nat.lt_irrefl, decide_false, ha.isSl 5 24 csStamp rfl rfl (by decide), reqB_true]
    · have h1 := ra.2 k hk
      have h2 := rb.2 k (by omega)
      have hkM : k < 9223372036854775807 := by have := ra.1; omega
      dsimp only
      simp only [run_lss, hk, decide_true, inb_true hk, inb_true (hq ▸ hk), Int.toNat_natCast, ha.isSl 5 24 csStamp rfl rfl (by decide), hb.isSl 5 24 csStamp rfl rfl (by decide), reqB_true, req_true, ok_pre, ok_out, add_one hkM, neq_iff, w_folkmootref15_SameStamp (N := N) (H := H) h1 h2 hn hM]
      constructor
      · intro h; simp only [h, decide_true, Bool.not_true]
      · intro h; simp only [h, decide_false, Bool.not_false]
  by_cases hab : nth a 5 .junk = nth b 5 .junk
  · rw [hx hab]; simp [hab, sumElim]
  · rw [hy hab]; simp [hab, sumElim]

theorem w_folkmootref15_SameReport {a b : List AV} (ha : TyL n csReport a) (hb : TyL m csReport b) (hn : n < N) (hM : N < 9223372036854775807) : F_folkmootref15_SameReport N (a, b, ()) H = ok (decide (a = b), ()) H := by
  unfold F_folkmootref15_SameReport
  dsimp only
  simp only [show (a.length == 25) = true by rw [ha.len]; rfl, show (b.length == 25) = true by rw [hb.len]; rfl, reqB_true, reqG_true, req_true, imp_self, imp_tt, ok_pre, ok_out, ok_H, eql_iff, neq_iff, TyL.atom_fn,
    ha.isI 0 .i64 rfl (by decide),
    ha.isI 1 .i64 rfl (by decide),
    ha.isI 2 .i64 rfl (by decide),
    ha.isSl 3 6 csCert rfl rfl (by decide),
    hb.isI 0 .i64 rfl (by decide),
    hb.isI 1 .i64 rfl (by decide),
    hb.isI 2 .i64 rfl (by decide),
    hb.isSl 3 6 csCert rfl rfl (by decide),
    ha.numeq hb 0 .i64 ⟨rfl, rfl, by decide, by decide⟩,
    ha.numeq hb 1 .i64 ⟨rfl, rfl, by decide, by decide⟩,
    ha.numeq hb 2 .i64 ⟨rfl, rfl, by decide, by decide⟩,
    w_folkmootref6_SameSig (N := N) (H := H) (ha.sub (ds := csSig) 4 21 rfl rfl) (hb.sub (ds := csSig) 4 21 rfl rfl) hn hM]
  rw [decide_congr (eq_parts [1, 1, 1, 1, 21] ha.len hb.len)]
  simp only [parts]
  by_cases h0 : nth a 0 .junk = nth b 0 .junk
  rotate_left
  · simp [h0]
  by_cases h1 : nth a 1 .junk = nth b 1 .junk
  rotate_left
  · simp [h0, h1]
  by_cases h2 : nth a 2 .junk = nth b 2 .junk
  rotate_left
  · simp [h0, h1, h2]
  by_cases h4 : sub a 4 21 = sub b 4 21
  rotate_left
  · simp [h0, h1, h2, h4]
  have ra := ha.rows 3 csCert rfl (by decide)
  have rb := hb.rows 3 csCert rfl (by decide)
  by_cases hq : (nth a 3 .junk).els.length = (nth b 3 .junk).els.length
  rotate_left
  · have hne : ¬ nth a 3 .junk = nth b 3 .junk := fun h => hq (by rw [h])
    have hq' : ¬ ((nth a 3 .junk).els.length : Int) = ((nth b 3 .junk).els.length : Int) := by omega
    simp [hne, hq', h0, h1, h2, h4]
  have hq' : ((nth a 3 .junk).els.length : Int) = ((nth b 3 .junk).els.length : Int) := by omega
  simp only [h0, h1, h2, h4, hq', decide_true, Bool.not_true, Bool.or_self, true_and]
  generalize hr : iter _ _ N _ H = r
  obtain ⟨hx, hy⟩ : (nth a 3 .junk = nth b 3 .junk → r = ok (.inl (a, b, ())) H) ∧ (¬ nth a 3 .junk = nth b 3 .junk → r = ok (.inr (false, a, b, ())) H) := by
    rw [← hr]
    refine all_iter (fun k => ((), (), (k : Int), a, b, ())) (nth a 3 .junk).els.length (fun k => nth (nth a 3 .junk).els k [] = nth (nth b 3 .junk).els k []) _ _ _ ((rows_eq hq).symm.trans (ha.slseq hb 3 csCert ⟨rfl, rfl, by decide, by decide⟩)) (fun R => ?_) (fun R k hk => ?_) N (by have := ra.1; omega)
    · dsimp only
      simp only [run_lss, Nat.lt_irrefl, decide_false, ha.isSl 3 6 csCert rfl rfl (by decide), reqB_true]
    · have h1 := ra.2 k hk
      have h2 := rb.2 k (by omega)
      have hkM : k < 9223372036854775807 := by have := ra.1; omega
      dsimp only
      simp only [run_lss, hk, decide_true, inb_true hk, inb_true (hq ▸ hk), Int.toNat_natCast, ha.isSl 3 6 csCert rfl rfl (by decide), hb.isSl 3 6 csCert rfl rfl (by decide), reqB_true, req_true, ok_pre, ok_out, add_one hkM, neq_iff, w_folkmootref15_SameCert (N := N) (H := H) h1 h2 hn hM]
      constructor
      · intro h; simp only [h, decide_true, Bool.not_true]
      · intro h; simp only [h, decide_false, Bool.not_false]
  by_cases hab : nth a 3 .junk = nth b 3 .junk
  · rw [hx hab]; simp [hab, sumElim]
  · rw [hy hab]; simp [hab, sumElim]

theorem w_folkmootref21_SameVote {a b : List AV} (ha : TyL n csVote a) (hb : TyL m csVote b) (hn : n < N) (hM : N < 9223372036854775807) : F_folkmootref21_SameVote N (a, b, ()) H = ok (decide (a = b), ()) H := by
  unfold F_folkmootref21_SameVote
  dsimp only
  simp only [show (a.length == 24) = true by rw [ha.len]; rfl, show (b.length == 24) = true by rw [hb.len]; rfl, reqB_true, reqG_true, req_true, imp_self, imp_tt, ok_pre, ok_out, ok_H, eql_iff, neq_iff, TyL.atom_fn,
    ha.isI 0 .i64 rfl (by decide),
    ha.isI 1 .u64 rfl (by decide),
    ha.isI 2 .i64 rfl (by decide),
    hb.isI 0 .i64 rfl (by decide),
    hb.isI 1 .u64 rfl (by decide),
    hb.isI 2 .i64 rfl (by decide),
    ha.numeq hb 0 .i64 ⟨rfl, rfl, by decide, by decide⟩,
    ha.numeq hb 1 .u64 ⟨rfl, rfl, by decide, by decide⟩,
    ha.numeq hb 2 .i64 ⟨rfl, rfl, by decide, by decide⟩,
    w_folkmootref6_SameSig (N := N) (H := H) (ha.sub (ds := csSig) 3 21 rfl rfl) (hb.sub (ds := csSig) 3 21 rfl rfl) hn hM]
  rw [decide_congr (eq_parts [1, 1, 1, 21] ha.len hb.len)]
  simp only [parts, Bool.decide_and, Bool.and_assoc]

theorem w_folkmootref21_SameQC {a b : List AV} (ha : TyL n csQC a) (hb : TyL m csQC b) (hn : n < N) (hM : N < 9223372036854775807) : F_folkmootref21_SameQC N (a, b, ()) H = ok (decide (a = b), ()) H := by
  unfold F_folkmootref21_SameQC
  dsimp only
  simp only [show (a.length == 3) = true by rw [ha.len]; rfl, show (b.length == 3) = true by rw [hb.len]; rfl, reqB_true, reqG_true, req_true, imp_self, imp_tt, ok_pre, ok_out, ok_H, eql_iff, neq_iff, TyL.atom_fn,
    ha.isI 0 .i64 rfl (by decide),
    ha.isI 1 .u64 rfl (by decide),
    ha.isSl 2 24 csVote rfl rfl (by decide),
    hb.isI 0 .i64 rfl (by decide),
    hb.isI 1 .u64 rfl (by decide),
    hb.isSl 2 24 csVote rfl rfl (by decide),
    ha.numeq hb 0 .i64 ⟨rfl, rfl, by decide, by decide⟩,
    ha.numeq hb 1 .u64 ⟨rfl, rfl, by decide, by decide⟩]
  rw [decide_congr (eq_parts [1, 1, 1] ha.len hb.len)]
  simp only [parts]
  by_cases h0 : nth a 0 .junk = nth b 0 .junk
  rotate_left
  · simp [h0]
  by_cases h1 : nth a 1 .junk = nth b 1 .junk
  rotate_left
  · simp [h0, h1]
  have ra := ha.rows 2 csVote rfl (by decide)
  have rb := hb.rows 2 csVote rfl (by decide)
  by_cases hq : (nth a 2 .junk).els.length = (nth b 2 .junk).els.length
  rotate_left
  · have hne : ¬ nth a 2 .junk = nth b 2 .junk := fun h => hq (by rw [h])
    have hq' : ¬ ((nth a 2 .junk).els.length : Int) = ((nth b 2 .junk).els.length : Int) := by omega
    simp [hne, hq', h0, h1]
  have hq' : ((nth a 2 .junk).els.length : Int) = ((nth b 2 .junk).els.length : Int) := by omega
  simp only [h0, h1, hq', decide_true, Bool.not_true, Bool.or_self, true_and]
  generalize hr : iter _ _ N _ H = r
  obtain ⟨hx, hy⟩ : (nth a 2 .junk = nth b 2 .junk → r = ok (.inl (a, b, ())) H) ∧ (¬ nth a 2 .junk = nth b 2 .junk → r = ok (.inr (false, a, b, ())) H) := by
    rw [← hr]
    refine all_iter (fun k => ((), (), (k : Int), a, b, ())) (nth a 2 .junk).els.length (fun k => nth (nth a 2 .junk).els k [] = nth (nth b 2 .junk).els k []) _ _ _ ((rows_eq hq).symm.trans (ha.slseq hb 2 csVote ⟨rfl, rfl, by decide, by decide⟩)) (fun R => ?_) (fun R k hk => ?_) N (by have := ra.1; omega)
    · dsimp only
      simp only [run_lss, Nat.lt_irrefl, decide_false, ha.isSl 2 24 csVote rfl rfl (by decide), reqB_true]
    · have h1 := ra.2 k hk
      have h2 := rb.2 k (by omega)
      have hkM : k < 9223372036854775807 := by have := ra.1; omega
      dsimp only
      simp only [run_lss, hk, decide_true, inb_true hk, inb_true (hq ▸ hk), Int.toNat_natCast, ha.isSl 2 24 csVote rfl rfl (by decide), hb.isSl 2 24 csVote rfl rfl (by decide), reqB_true, req_true, ok_pre, ok_out, add_one hkM, neq_iff, w_folkmootref21_SameVote (N := N) (H := H) h1 h2 hn hM]
      constructor
      · intro h; simp only [h, decide_true, Bool.not_true]
      · intro h; simp only [h, decide_false, Bool.not_false]
  by_cases hab : nth a 2 .junk = nth b 2 .junk
  · rw [hx hab]; simp [hab, sumElim]
  · rw [hy hab]; simp [hab, sumElim]

theorem w_folkmootref21_Same {a b : List AV} (ha : TyL n csBlock a) (hb : TyL m csBlock b) (hn : n < N) (hM : N < 9223372036854775807) : F_folkmootref21_Same N (a, b, ()) H = ok (decide (a = b), ()) H := by
  unfold F_folkmootref21_Same
  dsimp only
  simp only [show (a.length == 8) = true by rw [ha.len]; rfl, show (b.length == 8) = true by rw [hb.len]; rfl, reqB_true, reqG_true, req_true, imp_self, imp_tt, ok_pre, ok_out, ok_H, eql_iff, neq_iff, TyL.atom_fn,
    ha.isI 0 .i64 rfl (by decide),
    ha.isI 1 .u64 rfl (by decide),
    ha.isI 5 .i64 rfl (by decide),
    ha.isI 6 .i64 rfl (by decide),
    ha.isSl 7 25 csReport rfl rfl (by decide),
    hb.isI 0 .i64 rfl (by decide),
    hb.isI 1 .u64 rfl (by decide),
    hb.isI 5 .i64 rfl (by decide),
    hb.isI 6 .i64 rfl (by decide),
    hb.isSl 7 25 csReport rfl rfl (by decide),
    ha.numeq hb 0 .i64 ⟨rfl, rfl, by decide, by decide⟩,
    ha.numeq hb 1 .u64 ⟨rfl, rfl, by decide, by decide⟩,
    w_folkmootref21_SameQC (N := N) (H := H) (ha.sub (ds := csQC) 2 3 rfl rfl) (hb.sub (ds := csQC) 2 3 rfl rfl) hn hM,
    ha.numeq hb 5 .i64 ⟨rfl, rfl, by decide, by decide⟩,
    ha.numeq hb 6 .i64 ⟨rfl, rfl, by decide, by decide⟩]
  rw [decide_congr (eq_parts [1, 1, 3, 1, 1, 1] ha.len hb.len)]
  simp only [parts]
  by_cases h0 : nth a 0 .junk = nth b 0 .junk
  rotate_left
  · simp [h0]
  by_cases h1 : nth a 1 .junk = nth b 1 .junk
  rotate_left
  · simp [h0, h1]
  by_cases h2 : sub a 2 3 = sub b 2 3
  rotate_left
  · simp [h0, h1, h2]
  by_cases h5 : nth a 5 .junk = nth b 5 .junk
  rotate_left
  · simp [h0, h1, h2, h5]
  by_cases h6 : nth a 6 .junk = nth b 6 .junk
  rotate_left
  · simp [h0, h1, h2, h5, h6]
  have ra := ha.rows 7 csReport rfl (by decide)
  have rb := hb.rows 7 csReport rfl (by decide)
  by_cases hq : (nth a 7 .junk).els.length = (nth b 7 .junk).els.length
  rotate_left
  · have hne : ¬ nth a 7 .junk = nth b 7 .junk := fun h => hq (by rw [h])
    have hq' : ¬ ((nth a 7 .junk).els.length : Int) = ((nth b 7 .junk).els.length : Int) := by omega
    simp [hne, hq', h0, h1, h2, h5, h6]
  have hq' : ((nth a 7 .junk).els.length : Int) = ((nth b 7 .junk).els.length : Int) := by omega
  simp only [h0, h1, h2, h5, h6, hq', decide_true, Bool.not_true, Bool.or_self, true_and]
  generalize hr : iter _ _ N _ H = r
  obtain ⟨hx, hy⟩ : (nth a 7 .junk = nth b 7 .junk → r = ok (.inl (a, b, ())) H) ∧ (¬ nth a 7 .junk = nth b 7 .junk → r = ok (.inr (false, a, b, ())) H) := by
    rw [← hr]
    refine all_iter (fun k => ((), (), (k : Int), a, b, ())) (nth a 7 .junk).els.length (fun k => nth (nth a 7 .junk).els k [] = nth (nth b 7 .junk).els k []) _ _ _ ((rows_eq hq).symm.trans (ha.slseq hb 7 csReport ⟨rfl, rfl, by decide, by decide⟩)) (fun R => ?_) (fun R k hk => ?_) N (by have := ra.1; omega)
    · dsimp only
      simp only [run_lss, Nat.lt_irrefl, decide_false, ha.isSl 7 25 csReport rfl rfl (by decide), reqB_true]
    · have h1 := ra.2 k hk
      have h2 := rb.2 k (by omega)
      have hkM : k < 9223372036854775807 := by have := ra.1; omega
      dsimp only
      simp only [run_lss, hk, decide_true, inb_true hk, inb_true (hq ▸ hk), Int.toNat_natCast, ha.isSl 7 25 csReport rfl rfl (by decide), hb.isSl 7 25 csReport rfl rfl (by decide), reqB_true, req_true, ok_pre, ok_out, add_one hkM, neq_iff, w_folkmootref15_SameReport (N := N) (H := H) h1 h2 hn hM]
      constructor
      · intro h; simp only [h, decide_true, Bool.not_true]
      · intro h; simp only [h, decide_false, Bool.not_false]
  by_cases hab : nth a 7 .junk = nth b 7 .junk
  · rw [hx hab]; simp [hab, sumElim]
  · rw [hy hab]; simp [hab, sumElim]

theorem w_folkmootref21_SameView {a b : List AV} (ha : TyL n csView a) (hb : TyL m csView b) (hn : n < N) (hM : N < 9223372036854775807) : F_folkmootref21_SameView N (a, b, ()) H = ok (decide (a = b), ()) H := by
  unfold F_folkmootref21_SameView
  dsimp only
  simp only [show (a.length == 26) = true by rw [ha.len]; rfl, show (b.length == 26) = true by rw [hb.len]; rfl, reqB_true, reqG_true, req_true, imp_self, imp_tt, ok_pre, ok_out, ok_H, eql_iff, neq_iff, TyL.atom_fn,
    ha.isI 0 .i64 rfl (by decide),
    ha.isI 1 .i64 rfl (by decide),
    hb.isI 0 .i64 rfl (by decide),
    hb.isI 1 .i64 rfl (by decide),
    ha.numeq hb 0 .i64 ⟨rfl, rfl, by decide, by decide⟩,
    ha.numeq hb 1 .i64 ⟨rfl, rfl, by decide, by decide⟩,
    w_folkmootref21_SameQC (N := N) (H := H) (ha.sub (ds := csQC) 2 3 rfl rfl) (hb.sub (ds := csQC) 2 3 rfl rfl) hn hM,
    w_folkmootref6_SameSig (N := N) (H := H) (ha.sub (ds := csSig) 5 21 rfl rfl) (hb.sub (ds := csSig) 5 21 rfl rfl) hn hM]
  rw [decide_congr (eq_parts [1, 1, 3, 21] ha.len hb.len)]
  simp only [parts, Bool.decide_and, Bool.and_assoc]

theorem w_folkmootref28_SameMsg {a b : List AV} (ha : TyL n csMsg a) (hb : TyL m csMsg b) (hn : n < N) (hM : N < 9223372036854775807) : F_folkmootref28_SameMsg N (a, b, ()) H = ok (decide (a = b), ()) H := by
  unfold F_folkmootref28_SameMsg
  dsimp only
  simp only [show (a.length == 147) = true by rw [ha.len]; rfl, show (b.length == 147) = true by rw [hb.len]; rfl, reqB_true, reqG_true, req_true, imp_self, imp_tt, ok_pre, ok_out, ok_H, eql_iff, neq_iff, TyL.atom_fn,
    ha.isI 0 .i64 rfl (by decide),
    ha.isI 1 .i64 rfl (by decide),
    ha.isI 2 .i64 rfl (by decide),
    ha.allI (o := 3) (m := 5) [.i64, .i64, .i64, .i64, .i64] rfl rfl,
    ha.isI 38 .u64 rfl (by decide),
    ha.isI 39 .i64 rfl (by decide),
    ha.isI 61 .i64 rfl (by decide),
    ha.isI 62 .i64 rfl (by decide),
    ha.isSl 146 8 csBlock rfl rfl (by decide),
    hb.isI 0 .i64 rfl (by decide),
    hb.isI 1 .i64 rfl (by decide),
    hb.isI 2 .i64 rfl (by decide),
    hb.allI (o := 3) (m := 5) [.i64, .i64, .i64, .i64, .i64] rfl rfl,
    hb.isI 38 .u64 rfl (by decide),
    hb.isI 39 .i64 rfl (by decide),
    hb.isI 61 .i64 rfl (by decide),
    hb.isI 62 .i64 rfl (by decide),
    hb.isSl 146 8 csBlock rfl rfl (by decide),
    ha.numeq hb 0 .i64 ⟨rfl, rfl, by decide, by decide⟩,
    ha.numeq hb 1 .i64 ⟨rfl, rfl, by decide, by decide⟩,
    ha.numeq hb 2 .i64 ⟨rfl, rfl, by decide, by decide⟩,
    ha.eqI hb (o := 3) (m := 5) .i64 rfl rfl,
    w_folkmootref15_SameStamp (N := N) (H := H) (ha.sub (ds := csStamp) 8 24 rfl rfl) (hb.sub (ds := csStamp) 8 24 rfl rfl) hn hM,
    w_folkmootref15_SameCert (N := N) (H := H) (ha.sub (ds := csCert) 32 6 rfl rfl) (hb.sub (ds := csCert) 32 6 rfl rfl) hn hM,
    ha.numeq hb 38 .u64 ⟨rfl, rfl, by decide, by decide⟩,
    ha.numeq hb 39 .i64 ⟨rfl, rfl, by decide, by decide⟩,
    w_folkmootref6_SameSig (N := N) (H := H) (ha.sub (ds := csSig) 40 21 rfl rfl) (hb.sub (ds := csSig) 40 21 rfl rfl) hn hM,
    ha.numeq hb 61 .i64 ⟨rfl, rfl, by decide, by decide⟩,
    ha.numeq hb 62 .i64 ⟨rfl, rfl, by decide, by decide⟩,
    w_folkmootref15_SameReport (N := N) (H := H) (ha.sub (ds := csReport) 63 25 rfl rfl) (hb.sub (ds := csReport) 63 25 rfl rfl) hn hM,
    w_folkmootref21_Same (N := N) (H := H) (ha.sub (ds := csBlock) 88 8 rfl rfl) (hb.sub (ds := csBlock) 88 8 rfl rfl) hn hM,
    w_folkmootref21_SameVote (N := N) (H := H) (ha.sub (ds := csVote) 96 24 rfl rfl) (hb.sub (ds := csVote) 96 24 rfl rfl) hn hM,
    w_folkmootref21_SameView (N := N) (H := H) (ha.sub (ds := csView) 120 26 rfl rfl) (hb.sub (ds := csView) 120 26 rfl rfl) hn hM]
  rw [decide_congr (eq_parts [1, 1, 1, 5, 24, 6, 1, 1, 21, 1, 1, 25, 8, 24, 26, 1] ha.len hb.len)]
  simp only [parts]
  by_cases h0 : nth a 0 .junk = nth b 0 .junk
  rotate_left
  · simp [h0]
  by_cases h1 : nth a 1 .junk = nth b 1 .junk
  rotate_left
  · simp [h0, h1]
  by_cases h2 : nth a 2 .junk = nth b 2 .junk
  rotate_left
  · simp [h0, h1, h2]
  by_cases h3 : sub a 3 5 = sub b 3 5
  rotate_left
  · simp [h0, h1, h2, h3]
  by_cases h8 : sub a 8 24 = sub b 8 24
  rotate_left
  · simp [h0, h1, h2, h3, h8]
  by_cases h32 : sub a 32 6 = sub b 32 6
  rotate_left
  · simp [h0, h1, h2, h3, h8, h32]
  by_cases h38 : nth a 38 .junk = nth b 38 .junk
  rotate_left
  · simp [h0, h1, h2, h3, h8, h32, h38]
  by_cases h39 : nth a 39 .junk = nth b 39 .junk
  rotate_left
  · simp [h0, h1, h2, h3, h8, h32, h38, h39]
  by_cases h40 : sub a 40 21 = sub b 40 21
  rotate_left
  · simp [h0, h1, h2, h3, h8, h32, h38, h39, h40]
  by_cases h61 : nth a 61 .junk = nth b 61 .junk
  rotate_left
  · simp [h0, h1, h2, h3, h8, h32, h38, h39, h40, h61]
  by_cases h62 : nth a 62 .junk = nth b 62 .junk
  rotate_left
  · simp [h0, h1, h2, h3, h8, h32, h38, h39, h40, h61, h62]
  by_cases h63 : sub a 63 25 = sub b 63 25
  rotate_left
  · simp [h0, h1, h2, h3, h8, h32, h38, h39, h40, h61, h62, h63]
  by_cases h88 : sub a 88 8 = sub b 88 8
  rotate_left
  · simp [h0, h1, h2, h3, h8, h32, h38, h39, h40, h61, h62, h63, h88]
  by_cases h96 : sub a 96 24 = sub b 96 24
  rotate_left
  · simp [h0, h1, h2, h3, h8, h32, h38, h39, h40, h61, h62, h63, h88, h96]
  by_cases h120 : sub a 120 26 = sub b 120 26
  rotate_left
  · simp [h0, h1, h2, h3, h8, h32, h38, h39, h40, h61, h62, h63, h88, h96, h120]
  have ra := ha.rows 146 csBlock rfl (by decide)
  have rb := hb.rows 146 csBlock rfl (by decide)
  by_cases hq : (nth a 146 .junk).els.length = (nth b 146 .junk).els.length
  rotate_left
  · have hne : ¬ nth a 146 .junk = nth b 146 .junk := fun h => hq (by rw [h])
    have hq' : ¬ ((nth a 146 .junk).els.length : Int) = ((nth b 146 .junk).els.length : Int) := by omega
    simp [hne, hq', h0, h1, h2, h3, h8, h32, h38, h39, h40, h61, h62, h63, h88, h96, h120]
  have hq' : ((nth a 146 .junk).els.length : Int) = ((nth b 146 .junk).els.length : Int) := by omega
  simp only [h0, h1, h2, h3, h8, h32, h38, h39, h40, h61, h62, h63, h88, h96, h120, hq', decide_true, Bool.not_true, Bool.or_self, true_and]
  generalize hr : iter _ _ N _ H = r
  obtain ⟨hx, hy⟩ : (nth a 146 .junk = nth b 146 .junk → r = ok (.inl (a, b, ())) H) ∧ (¬ nth a 146 .junk = nth b 146 .junk → r = ok (.inr (false, a, b, ())) H) := by
    rw [← hr]
    refine all_iter (fun k => ((), (), (k : Int), a, b, ())) (nth a 146 .junk).els.length (fun k => nth (nth a 146 .junk).els k [] = nth (nth b 146 .junk).els k []) _ _ _ ((rows_eq hq).symm.trans (ha.slseq hb 146 csBlock ⟨rfl, rfl, by decide, by decide⟩)) (fun R => ?_) (fun R k hk => ?_) N (by have := ra.1; omega)
    · dsimp only
      simp only [run_lss, Nat.lt_irrefl, decide_false, ha.isSl 146 8 csBlock rfl rfl (by decide), reqB_true]
    · have h1 := ra.2 k hk
      have h2 := rb.2 k (by omega)
      have hkM : k < 9223372036854775807 := by have := ra.1; omega
      dsimp only
      simp only [run_lss, hk, decide_true, inb_true hk, inb_true (hq ▸ hk), Int.toNat_natCast, ha.isSl 146 8 csBlock rfl rfl (by decide), hb.isSl 146 8 csBlock rfl rfl (by decide), reqB_true, req_true, ok_pre, ok_out, add_one hkM, neq_iff, w_folkmootref21_Same (N := N) (H := H) h1 h2 hn hM]
      constructor
      · intro h; simp only [h, decide_true, Bool.not_true]
      · intro h; simp only [h, decide_false, Bool.not_false]
  by_cases hab : nth a 146 .junk = nth b 146 .junk
  · rw [hx hab]; simp [hab, sumElim]
  · rw [hy hab]; simp [hab, sumElim]

end Go.Proofs.DenT
end
section
open Go
set_option linter.unusedVariables false
set_option linter.unusedSimpArgs false
set_option maxRecDepth 100000
namespace Go.Proofs.DenT
variable {N n m M : Nat} {H : Heap}
abbrev CS.int : CS → Bool | .i _ => true | _ => false
noncomputable def glueC (cs : List CS) (rs : List (Nat × Nat)) : Bool := (List.range cs.length).all fun i => (nth cs i .b).int || rs.any fun r => decide (r.1 ≤ i) && decide (i < r.1 + r.2) && decide (r.1 + r.2 ≤ cs.length)
theorem TyL.glue {cs : List CS} {a : List AV} (h : TyL M cs a) (rs : List (Nat × Nat)) (hi : glueC cs rs = true) (hr : ∀ r, r ∈ rs → TyL n ((cs.drop r.1).take r.2) (DenT.sub a r.1 r.2)) : TyL n cs a := by
  refine ⟨h.len, fun i hl => ?_⟩
  have := List.all_eq_true.1 hi i (List.mem_range.2 hl)
  simp only [Bool.or_eq_true, List.any_eq_true, Bool.and_eq_true, decide_eq_true_eq] at this
  rw [← nth_getD, ← nth_getD]
  rcases this with h1 | ⟨r, hm, ⟨h2, h3⟩, h4⟩
  · have hx := h.nth i hl
    generalize hc : DenT.nth cs i .b = c at hx h1
    generalize DenT.nth a i .junk = y at hx
    cases hx with
    | i k m hw => exact .i k m hw
    | _ => simp [CS.int] at h1
  · have ht := hr r hm
    have := ht.nth (i - r.1) (by simp; omega)
    rw [nth_sub _ _ _ _ (by omega), show r.1 + (i - r.1) = i by omega] at this
    have e : DenT.nth ((cs.drop r.1).take r.2) (i - r.1) .b = DenT.nth cs i .b := by
      rw [nth_getD, nth_getD]
      simp only [List.getD, List.getElem?_take, List.getElem?_drop]
      rw [if_pos (by omega), show r.1 + (i - r.1) = i by omega]
    rwa [e] at this
theorem Rows.slot {ds : List CS} {z : Nat} {es : List (List AV)} (h : Rows n ds es) (hz : ds.length = z) : TyL n [.sl ds] [.sl z es] := by
  refine ⟨rfl, fun i hi => ?_⟩
  have : i = 0 := by simp at hi; omega
  subst this
  subst hz
  refine .sl ds es h.1 (fun k hk => ?_) (fun k j hk hj => ?_)
  · rw [← nth_getD]; exact (h.2 k hk).len
  · rw [← nth_getD, ← nth_getD, ← nth_getD]; exact (h.2 k hk).nth j hj
theorem TyL.slot {cs : List CS} {a : List AV} (h : TyL M cs a) (i z : Nat) (ds : List CS) (hc : DenT.nth cs i .b = .sl ds) (hz : ds.length = z) (hi : i < cs.length) (hr : Rows n ds (DenT.nth a i .junk).els) : TyL n ((cs.drop i).take 1) (DenT.sub a i 1) := by
  have e1 : (cs.drop i).take 1 = [DenT.nth cs i .b] := by
    rw [nth_getD, List.take_one, List.head?_drop]
    simp [List.getD, hi]
  have e2 : DenT.sub a i 1 = [DenT.nth a i .junk] := rfl
  rw [e1, e2, hc, ← h.slv i z ds hc hz hi]
  exact hr.slot hz
theorem Rows.flat {ds : List CS} {es : List (List AV)} (h : Rows M ds es) (hd : glueC ds [] = true) (hl : es.length ≤ n) : Rows n ds es := ⟨hl, fun i hi => (h.2 i hi).glue [] hd (fun r hr => by simp at hr)⟩
theorem gtr_iff (a b : Int) : COp.run a b .gtr = decide (b < a) := rfl
theorem leq_iff (a b : Int) : COp.run a b .leq = decide (a ≤ b) := rfl
theorem f_few {a : List (List AV)} (ha : Rows M csStamp a) (hN : 12 < N) : ∃ t, F_folkmootlaw12_few N (a, ()) H = ok (t, ()) H ∧ (t = true → Rows 300 csStamp a) := by
  unfold F_folkmootlaw12_few
  dsimp only
  simp only [gtr_iff]
  by_cases hl : (12 : Int) < a.length
  · simp [hl]
  simp only [hl, decide_false]
  generalize hr : iter _ _ N _ H = r
  obtain ⟨hx, hy⟩ : ((∀ k, k < a.length → (nth (nth a k []) 23 .junk).els.length ≤ 9) → r = ok (.inl ()) H) ∧ (¬ (∀ k, k < a.length → (nth (nth a k []) 23 .junk).els.length ≤ 9) → r = ok (.inr (false, ())) H) := by
    rw [← hr]
    refine all_iter (fun k => (a, (k : Int), ())) a.length (fun k => (nth (nth a k []) 23 .junk).els.length ≤ 9) _ _ _ Iff.rfl (fun R => ?_) (fun R k hk => ?_) N (by omega)
    · dsimp only
      simp only [run_lss, Nat.lt_irrefl, decide_false]
    · have h1 := ha.2 k hk
      dsimp only
      simp only [run_lss, hk, decide_true, inb_true hk, Int.toNat_natCast, reqB_true, h1.isSl 23 1 csW rfl rfl (by decide), add_one (show k < 9223372036854775807 by omega), gtr_iff]
      constructor
      · intro h; simp only [show ¬ (9 : Int) < (nth (nth a k []) 23 .junk).els.length by omega, decide_false]
      · intro h; simp only [show (9 : Int) < (nth (nth a k []) 23 .junk).els.length by omega, decide_true]
  by_cases hp : ∀ k, k < a.length → (nth (nth a k []) 23 .junk).els.length ≤ 9
  · refine ⟨true, by rw [hx hp]; simp [sumElim], fun _ => ⟨by omega, fun k hk => ?_⟩⟩
    have h1 := ha.2 k hk
    refine h1.glue [(23, 1)] rfl (fun r hr => ?_)
    simp at hr; subst hr
    exact h1.slot 23 1 csW rfl rfl (by decide) ((h1.rows 23 csW rfl (by decide)).flat rfl (by have := hp k hk; omega))
  · exact ⟨false, by rw [hy hp]; simp [sumElim], fun h => by simp at h⟩
theorem f_12_Few {a : List AV} (ha : TyL M csCert a) (hN : 12 < N) : ∃ t, F_folkmootlaw12_Few N (a, ()) H = ok (t, ()) H ∧ (t = true → TyL 300 csCert a) := by
  unfold F_folkmootlaw12_Few
  dsimp only
  obtain ⟨t, e, ht⟩ := f_few (N := N) (H := H) (ha.rows 5 csStamp rfl (by decide)) hN
  simp only [show (a.length == 6) = true by rw [ha.len]; rfl, ha.isSl 5 24 csStamp rfl rfl (by decide), e, reqB_true, req_true, ok_pre, ok_out]
  refine ⟨t, rfl, fun h => ha.glue [(5, 1)] rfl (fun r hr => ?_)⟩
  simp at hr; subst hr
  exact ha.slot 5 24 csStamp rfl rfl (by decide) (ht h)
/-- A loop that asks each row. -/
theorem ask_rows {cs ds : List CS} {a : List AV} {f : List AV × Unit → Heap → Res (Bool × Unit)} (ha : TyL M cs a) (i : Nat) (hc : DenT.nth cs i .b = .sl ds) (hi : i < cs.length)
    (hf : ∀ x, TyL M ds x → ∃ t, f (x, ()) H = ok (t, ()) H ∧ (t = true → TyL 300 ds x)) (hl : (DenT.nth a i .junk).els.length ≤ 300)
    (hp : ∀ k, k < (DenT.nth a i .junk).els.length → f (DenT.nth (DenT.nth a i .junk).els k [], ()) H = ok (true, ()) H) : TyL 300 ((cs.drop i).take 1) (DenT.sub a i 1) := by
  have hr := ha.rows i ds hc hi
  refine ha.slot i _ ds hc rfl hi ⟨hl, fun k hk => ?_⟩
  obtain ⟨t, e, ht⟩ := hf _ (hr.2 k hk)
  rw [hp k hk] at e
  have : true = t := congrArg (fun r : Res (Bool × Unit) => r.out.1) e
  exact ht this.symm
theorem f_15_Few {a : List AV} (ha : TyL M csReport a) (hN : 300 < N) : ∃ t, F_folkmootlaw15_Few N (a, ()) H = ok (t, ()) H ∧ (t = true → TyL 300 csReport a) := by
  unfold F_folkmootlaw15_Few
  dsimp only
  have ra := ha.rows 3 csCert rfl (by decide)
  simp only [show (a.length == 25) = true by rw [ha.len]; rfl, ha.isSl 3 6 csCert rfl rfl (by decide), ha.isSl 24 1 csW rfl rfl (by decide), reqB_true, reqG_true, req_true, imp_self, ok_pre, ok_out, gtr_iff]
  by_cases hl : (12 : Int) < (nth a 3 .junk).els.length
  · simp [hl]
  by_cases hl2 : (9 : Int) < (nth a 24 .junk).els.length
  · simp [hl2]
  simp only [hl, hl2, decide_false, Bool.or_self]
  generalize hr : iter _ _ N _ H = r
  have hf := fun x (hx : TyL M csCert x) => f_12_Few (N := N) (H := H) hx (by omega)
  obtain ⟨hx, hy⟩ : ((∀ k, k < (nth a 3 .junk).els.length → F_folkmootlaw12_Few N (nth (nth a 3 .junk).els k [], ()) H = ok (true, ()) H) → r = ok (.inl (a, ())) H) ∧ (¬ (∀ k, k < (nth a 3 .junk).els.length → F_folkmootlaw12_Few N (nth (nth a 3 .junk).els k [], ()) H = ok (true, ()) H) → r = ok (.inr (false, a, ())) H) := by
    rw [← hr]
    refine all_iter (fun k => ((), (k : Int), a, ())) (nth a 3 .junk).els.length (fun k => F_folkmootlaw12_Few N (nth (nth a 3 .junk).els k [], ()) H = ok (true, ()) H) _ _ _ Iff.rfl (fun R => ?_) (fun R k hk => ?_) N (by omega)
    · dsimp only
      simp only [run_lss, Nat.lt_irrefl, decide_false, ha.isSl 3 6 csCert rfl rfl (by decide), reqB_true]
    · have h1 := ra.2 k hk
      obtain ⟨t, e, ht⟩ := hf _ h1
      dsimp only
      simp only [run_lss, hk, decide_true, inb_true hk, Int.toNat_natCast, reqB_true, ha.isSl 3 6 csCert rfl rfl (by decide), add_one (show k < 9223372036854775807 by omega), e, req_true, ok_pre, ok_out]
      cases t
      · exact ⟨fun h => by have : false = true := congrArg (fun r : Res (Bool × Unit) => r.out.1) h; simp at this, fun _ => by simp⟩
      · exact ⟨fun _ => by simp, fun h => absurd rfl h⟩
  by_cases hp : ∀ k, k < (nth a 3 .junk).els.length → F_folkmootlaw12_Few N (nth (nth a 3 .junk).els k [], ()) H = ok (true, ()) H
  · refine ⟨true, by rw [hx hp]; simp [sumElim], fun _ => ?_⟩
    refine ha.glue [(3, 1), (24, 1)] rfl (fun r hr => ?_)
    simp at hr
    rcases hr with rfl | rfl
    · exact ask_rows ha 3 rfl (by decide) hf (by omega) hp
    · exact ha.slot 24 1 csW rfl rfl (by decide) ((ha.rows 24 csW rfl (by decide)).flat rfl (by omega))
  · exact ⟨false, by rw [hy hp]; simp [sumElim], fun h => by simp at h⟩
theorem f_16_FewQC {a : List AV} (ha : TyL M csQC a) (hN : 300 < N) : ∃ t, F_folkmootlaw16_FewQC N (a, ()) H = ok (t, ()) H ∧ (t = true → TyL 300 csQC a) := by
  unfold F_folkmootlaw16_FewQC
  dsimp only
  have ra := ha.rows 2 csVote rfl (by decide)
  simp only [show (a.length == 3) = true by rw [ha.len]; rfl, ha.isSl 2 24 csVote rfl rfl (by decide), reqB_true, reqG_true, req_true, imp_self, ok_pre, ok_out, gtr_iff]
  by_cases hl : (10 : Int) < (nth a 2 .junk).els.length
  · simp [hl]
  simp only [hl, decide_false]
  generalize hr : iter _ _ N _ H = r
  obtain ⟨hx, hy⟩ : ((∀ k, k < (nth a 2 .junk).els.length → (nth (nth (nth a 2 .junk).els k []) 23 .junk).els.length ≤ 9) → r = ok (.inl (a, ())) H) ∧ (¬ (∀ k, k < (nth a 2 .junk).els.length → (nth (nth (nth a 2 .junk).els k []) 23 .junk).els.length ≤ 9) → r = ok (.inr (false, a, ())) H) := by
    rw [← hr]
    refine all_iter (fun k => ((), (k : Int), a, ())) (nth a 2 .junk).els.length (fun k => (nth (nth (nth a 2 .junk).els k []) 23 .junk).els.length ≤ 9) _ _ _ Iff.rfl (fun R => ?_) (fun R k hk => ?_) N (by omega)
    · dsimp only
      simp only [run_lss, Nat.lt_irrefl, decide_false, ha.isSl 2 24 csVote rfl rfl (by decide), reqB_true]
    · have h1 := ra.2 k hk
      dsimp only
      simp only [run_lss, hk, decide_true, inb_true hk, Int.toNat_natCast, reqB_true, ha.isSl 2 24 csVote rfl rfl (by decide), h1.isSl 23 1 csW rfl rfl (by decide), add_one (show k < 9223372036854775807 by omega)]
      constructor
      · intro h; simp only [show ¬ (9 : Int) < (nth (nth (nth a 2 .junk).els k []) 23 .junk).els.length by omega, decide_false]
      · intro h; simp only [show (9 : Int) < (nth (nth (nth a 2 .junk).els k []) 23 .junk).els.length by omega, decide_true]
  by_cases hp : ∀ k, k < (nth a 2 .junk).els.length → (nth (nth (nth a 2 .junk).els k []) 23 .junk).els.length ≤ 9
  rotate_left
  · exact ⟨false, by rw [hy hp]; simp [sumElim], fun h => by simp at h⟩
  refine ⟨true, by rw [hx hp]; simp [sumElim], fun _ => ?_⟩
  refine ha.glue [(2, 1)] rfl (fun r hr => ?_)
  simp at hr; subst hr
  refine ha.slot 2 24 csVote rfl rfl (by decide) ⟨by omega, fun k hk => ?_⟩
  have h1 := ra.2 k hk
  refine h1.glue [(23, 1)] rfl (fun r hr => ?_)
  simp at hr; subst hr
  exact h1.slot 23 1 csW rfl rfl (by decide) ((h1.rows 23 csW rfl (by decide)).flat rfl (by have := hp k hk; omega))
theorem f_16_Few {a : List AV} (ha : TyL M csBlock a) (hN : 300 < N) : ∃ t, F_folkmootlaw16_Few N (a, ()) H = ok (t, ()) H ∧ (t = true → TyL 300 csBlock a) := by
  unfold F_folkmootlaw16_Few
  dsimp only
  have ra := ha.rows 7 csReport rfl (by decide)
  obtain ⟨t2, e2, h2⟩ := f_16_FewQC (N := N) (H := H) (ha.sub (ds := csQC) 2 3 rfl rfl) hN
  simp only [show (a.length == 8) = true by rw [ha.len]; rfl, ha.isSl 7 25 csReport rfl rfl (by decide), e2, reqB_true, reqG_true, req_true, imp_self, imp_tt, ok_pre, ok_out, gtr_iff]
  by_cases hl : (10 : Int) < (nth a 7 .junk).els.length
  · simp [hl]
  cases t2
  · simp
  simp only [hl, decide_false, Bool.or_self, Bool.not_true]
  generalize hr : iter _ _ N _ H = r
  have hf := fun x (hx : TyL M csReport x) => f_15_Few (N := N) (H := H) hx (by omega)
  obtain ⟨hx, hy⟩ : ((∀ k, k < (nth a 7 .junk).els.length → F_folkmootlaw15_Few N (nth (nth a 7 .junk).els k [], ()) H = ok (true, ()) H) → r = ok (.inl (a, ())) H) ∧ (¬ (∀ k, k < (nth a 7 .junk).els.length → F_folkmootlaw15_Few N (nth (nth a 7 .junk).els k [], ()) H = ok (true, ()) H) → r = ok (.inr (false, a, ())) H) := by
    rw [← hr]
    refine all_iter (fun k => ((), (k : Int), a, ())) (nth a 7 .junk).els.length (fun k => F_folkmootlaw15_Few N (nth (nth a 7 .junk).els k [], ()) H = ok (true, ()) H) _ _ _ Iff.rfl (fun R => ?_) (fun R k hk => ?_) N (by omega)
    · dsimp only
      simp only [run_lss, Nat.lt_irrefl, decide_false, ha.isSl 7 25 csReport rfl rfl (by decide), reqB_true]
    · have h1 := ra.2 k hk
      obtain ⟨t, e, ht⟩ := hf _ h1
      dsimp only
      simp only [run_lss, hk, decide_true, inb_true hk, Int.toNat_natCast, reqB_true, ha.isSl 7 25 csReport rfl rfl (by decide), add_one (show k < 9223372036854775807 by omega), e, req_true, ok_pre, ok_out]
      cases t
      · exact ⟨fun h => by have : false = true := congrArg (fun r : Res (Bool × Unit) => r.out.1) h; simp at this, fun _ => by simp⟩
      · exact ⟨fun _ => by simp, fun h => absurd rfl h⟩
  by_cases hp : ∀ k, k < (nth a 7 .junk).els.length → F_folkmootlaw15_Few N (nth (nth a 7 .junk).els k [], ()) H = ok (true, ()) H
  rotate_left
  · exact ⟨false, by rw [hy hp]; simp [sumElim], fun h => by simp at h⟩
  refine ⟨true, by rw [hx hp]; simp [sumElim], fun _ => ?_⟩
  refine ha.glue [(2, 3), (7, 1)] rfl (fun r hr => ?_)
  simp at hr
  rcases hr with rfl | rfl
  · exact h2 rfl
  · exact ask_rows ha 7 rfl (by decide) hf (by omega) hp
theorem f_19_Few {a : List AV} (ha : TyL M csView a) (hN : 300 < N) : ∃ t, F_folkmootlaw19_Few N (a, ()) H = ok (t, ()) H ∧ (t = true → TyL 300 csView a) := by
  unfold F_folkmootlaw19_Few
  dsimp only
  obtain ⟨t2, e2, h2⟩ := f_16_FewQC (N := N) (H := H) (ha.sub (ds := csQC) 2 3 rfl rfl) hN
  simp only [show (a.length == 26) = true by rw [ha.len]; rfl, ha.isSl 25 1 csW rfl rfl (by decide), e2, reqB_true, reqG_true, req_true, imp_self, imp_tt, ok_pre, ok_out, leq_iff]
  refine ⟨_, rfl, fun h => ?_⟩
  simp only [Bool.and_eq_true, decide_eq_true_eq] at h
  refine ha.glue [(2, 3), (25, 1)] rfl (fun r hr => ?_)
  simp at hr
  rcases hr with rfl | rfl
  · exact h2 h.1
  · exact ha.slot 25 1 csW rfl rfl (by decide) ((ha.rows 25 csW rfl (by decide)).flat rfl (by omega))
theorem f_22_Few {a : List AV} (ha : TyL M csMsg a) (hN : 300 < N) : ∃ t, F_folkmootlaw22_Few N (a, ()) H = ok (t, ()) H ∧ (t = true → TyL 300 csMsg a) := by
  unfold F_folkmootlaw22_Few
  dsimp only
  have ra := ha.rows 146 csBlock rfl (by decide)
  obtain ⟨t1, e1, h1⟩ := f_12_Few (N := N) (H := H) (ha.sub (ds := csCert) 32 6 rfl rfl) (by omega)
  obtain ⟨t2, e2, h2⟩ := f_15_Few (N := N) (H := H) (ha.sub (ds := csReport) 63 25 rfl rfl) hN
  obtain ⟨t3, e3, h3⟩ := f_16_Few (N := N) (H := H) (ha.sub (ds := csBlock) 88 8 rfl rfl) hN
  obtain ⟨t4, e4, h4⟩ := f_19_Few (N := N) (H := H) (ha.sub (ds := csView) 120 26 rfl rfl) hN
  simp only [show (a.length == 147) = true by rw [ha.len]; rfl, ha.isSl 31 1 csW rfl rfl (by decide), ha.isSl 60 1 csW rfl rfl (by decide), ha.isSl 119 1 csW rfl rfl (by decide), ha.isSl 146 8 csBlock rfl rfl (by decide), e1, e2, e3, e4, reqB_true, reqG_true, req_true, imp_self, imp_tt, ok_pre, ok_out, gtr_iff]
  by_cases l1 : (9 : Int) < (nth a 31 .junk).els.length
  · simp [l1]
  by_cases l2 : (9 : Int) < (nth a 60 .junk).els.length
  · simp [l2]
  by_cases l3 : (9 : Int) < (nth a 119 .junk).els.length
  · simp [l3]
  by_cases hl : (300 : Int) < (nth a 146 .junk).els.length
  · simp [hl]
  cases t1
  · simp
  cases t2
  · simp
  cases t3
  · simp
  cases t4
  · simp
  simp only [l1, l2, l3, hl, decide_false, Bool.or_self, Bool.not_true]
  generalize hr : iter _ _ N _ H = r
  have hf := fun x (hx : TyL M csBlock x) => f_16_Few (N := N) (H := H) hx (by omega)
  obtain ⟨hx, hy⟩ : ((∀ k, k < (nth a 146 .junk).els.length → F_folkmootlaw16_Few N (nth (nth a 146 .junk).els k [], ()) H = ok (true, ()) H) → r = ok (.inl (a, ())) H) ∧ (¬ (∀ k, k < (nth a 146 .junk).els.length → F_folkmootlaw16_Few N (nth (nth a 146 .junk).els k [], ()) H = ok (true, ()) H) → r = ok (.inr (false, a, ())) H) := by
    rw [← hr]
    refine all_iter (fun k => ((), (k : Int), a, ())) (nth a 146 .junk).els.length (fun k => F_folkmootlaw16_Few N (nth (nth a 146 .junk).els k [], ()) H = ok (true, ()) H) _ _ _ Iff.rfl (fun R => ?_) (fun R k hk => ?_) N (by omega)
    · dsimp only
      simp only [run_lss, Nat.lt_irrefl, decide_false, ha.isSl 146 8 csBlock rfl rfl (by decide), reqB_true]
    · have h1 := ra.2 k hk
      obtain ⟨t, e, ht⟩ := hf _ h1
      dsimp only
      simp only [run_lss, hk, decide_true, inb_true hk, Int.toNat_natCast, reqB_true, ha.isSl 146 8 csBlock rfl rfl (by decide), add_one (show k < 9223372036854775807 by omega), e, req_true, ok_pre, ok_out]
      cases t
      · exact ⟨fun h => by have : false = true := congrArg (fun r : Res (Bool × Unit) => r.out.1) h; simp at this, fun _ => by simp⟩
      · exact ⟨fun _ => by simp, fun h => absurd rfl h⟩
  by_cases hp : ∀ k, k < (nth a 146 .junk).els.length → F_folkmootlaw16_Few N (nth (nth a 146 .junk).els k [], ()) H = ok (true, ()) H
  rotate_left
  · exact ⟨false, by rw [hy hp]; simp [sumElim], fun h => by simp at h⟩
  refine ⟨true, by rw [hx hp]; simp [sumElim], fun _ => ?_⟩
  refine ha.glue [(31, 1), (32, 6), (60, 1), (63, 25), (88, 8), (119, 1), (120, 26), (146, 1)] rfl (fun r hr => ?_)
  simp at hr
  rcases hr with rfl | rfl | rfl | rfl | rfl | rfl | rfl | rfl
  · exact ha.slot 31 1 csW rfl rfl (by decide) ((ha.rows 31 csW rfl (by decide)).flat rfl (by omega))
  · exact h1 rfl
  · exact ha.slot 60 1 csW rfl rfl (by decide) ((ha.rows 60 csW rfl (by decide)).flat rfl (by omega))
  · exact h2 rfl
  · exact h3 rfl
  · exact ha.slot 119 1 csW rfl rfl (by decide) ((ha.rows 119 csW rfl (by decide)).flat rfl (by omega))
  · exact h4 rfl
  · exact ask_rows ha 146 rfl (by decide) hf (by omega) hp
end Go.Proofs.DenT
end
section
open Go
set_option linter.unusedVariables false
set_option linter.unusedSimpArgs false
set_option maxRecDepth 100000
namespace Go.Proofs.DenT
variable {N n m : Nat} {H : Heap}
/-- The first cells from a, the others as they stand. -/
noncomputable def ups (a z : List AV) : Nat → List AV
  | 0 => z
  | k + 1 => upd (ups a z k) k (nth a k .junk)
noncomputable def copyT (N z b : Nat) (G : List AV × Unit → Heap → Res (List AV × Unit)) (v : List (List AV) × Unit) (H : Heap) : Res (List (List AV) × Unit) :=
  let r4 := iter (α := List (List AV) × List (List AV) × Int × Unit) (β := List (List AV) × Unit) (Tup.d [(.sl z)]) (fun R2 v1 H3 => let t5 : Bool := COp.run v1.2.2.1 (v1.1.length : Int) .lss; (match t5 with | true => (reqB (inb v1.2.2.1 v1.1.length) (Tup.d [(.sl z)]) <| let t6 : List AV := nth v1.1 v1.2.2.1.toNat []; let r7 := G (t6, ()) H3; req (r7.pre) <| reqB ((r7.out.1.length == z)) (Tup.d [(.sl z)]) <| reqB (roomL v1.2.1 [r7.out.1] b) (Tup.d [(.sl z)]) <| let t8 : Int := AOp.run .i64 v1.2.2.1 1 .add; R2 (v1.1, cat v1.2.1 [r7.out.1], t8, ()) H3) | false => (ok (v1.2.1, ()) H3))) N (v.1, [], 0, ()) H; req r4.pre <| ok (r4.out.1, ()) r4.H
theorem copyAll {z b : Nat} {ds : List CS} {G : List AV × Unit → Heap → Res (List AV × Unit)} {a : List (List AV)} (ha : Rows n ds a) (hz : ds.length = z) (hG : ∀ x, TyL n ds x → G (x, ()) H = ok (x, ()) H) (hb : n * b ≤ room) (hN : n < N) (hM : N < 9223372036854775807) :
    copyT N z b G (a, ()) H = ok (a, ()) H := by
  unfold copyT
  dsimp only
  have hl := ha.1
  have hb' : a.length * b ≤ room := Nat.le_trans (Nat.mul_le_mul_right b hl) hb
  generalize hr : iter _ _ N _ H = r
  have hx : r = ok (a, ()) H := by
    rw [← hr]
    refine run_iter (fun k => (a, a.take k, (k : Int), ())) a.length _ (fun R => ?_) (fun R k hk => ?_) N (by omega)
    · dsimp only
      simp only [run_lss, Nat.lt_irrefl, decide_false, List.take_length]
    · have h1 := ha.2 k hk
      dsimp only
      simp only [run_lss, hk, decide_true, inb_true hk, Int.toNat_natCast, reqB_true, req_true, hG _ h1, ok_pre, ok_out, show ((nth a k []).length == z) = true by rw [h1.len, hz]; simp, roomL_take a k b _ hk hb', take_cat a k hk, add_one (show k < 9223372036854775807 by omega)]
  rw [hx]
  simp
theorem ro_u64 (k : Nat) (h : k < 18) : nth [CS.i .u64, CS.i .u64, CS.i .u64, CS.i .u64, CS.i .u64, CS.i .u64, CS.i .u64, CS.i .u64, CS.i .u64, CS.i .u64, CS.i .u64, CS.i .u64, CS.i .u64, CS.i .u64, CS.i .u64, CS.i .u64, CS.i .u64, CS.i .u64] k .b = CS.i .u64 := by
  match k, h with
  | 0, _ => rfl
  | 1, _ => rfl
  | 2, _ => rfl
  | 3, _ => rfl
  | 4, _ => rfl
  | 5, _ => rfl
  | 6, _ => rfl
  | 7, _ => rfl
  | 8, _ => rfl
  | 9, _ => rfl
  | 10, _ => rfl
  | 11, _ => rfl
  | 12, _ => rfl
  | 13, _ => rfl
  | 14, _ => rfl
  | 15, _ => rfl
  | 16, _ => rfl
  | 17, _ => rfl
  | k + 18, h => exact absurd h (by omega)

theorem i_folkmootlaw3_To {a : List AV} (ha : TyL n [.i .u64, .i .u64, .i .u64, .i .u64, .i .u64, .i .u64, .i .u64, .i .u64, .i .u64, .i .u64, .i .u64, .i .u64, .i .u64, .i .u64, .i .u64, .i .u64, .i .u64, .i .u64] a) (hN : 18 < N) : F_folkmootlaw3_To N (a, ()) H = ok (a, ()) H := by
  unfold F_folkmootlaw3_To
  dsimp only
  simp only [show (a.length == 18) = true by rw [ha.len]; rfl, reqB_true]
  generalize hr : iter _ _ N _ H = r
  have hx : r = ok ((), (), a, [AV.i .u64 0, AV.i .u64 0, AV.i .u64 0, AV.i .u64 0, AV.i .u64 0, AV.i .u64 0, AV.i .u64 0, AV.i .u64 0, AV.i .u64 0, AV.i .u64 0, AV.i .u64 0, AV.i .u64 0, AV.i .u64 0, AV.i .u64 0, AV.i .u64 0, AV.i .u64 0, AV.i .u64 0, AV.i .u64 0], a, ()) H := by
    rw [← hr]
    refine run_iter (fun k => ((), (), (), (k : Int), a, [AV.i .u64 0, AV.i .u64 0, AV.i .u64 0, AV.i .u64 0, AV.i .u64 0, AV.i .u64 0, AV.i .u64 0, AV.i .u64 0, AV.i .u64 0, AV.i .u64 0, AV.i .u64 0, AV.i .u64 0, AV.i .u64 0, AV.i .u64 0, AV.i .u64 0, AV.i .u64 0, AV.i .u64 0, AV.i .u64 0], ups a [AV.i .u64 0, AV.i .u64 0, AV.i .u64 0, AV.i .u64 0, AV.i .u64 0, AV.i .u64 0, AV.i .u64 0, AV.i .u64 0, AV.i .u64 0, AV.i .u64 0, AV.i .u64 0, AV.i .u64 0, AV.i .u64 0, AV.i .u64 0, AV.i .u64 0, AV.i .u64 0, AV.i .u64 0, AV.i .u64 0] k, ())) 18 _ (fun R => ?_) (fun R k hk => ?_) N (by omega)
    · have : ups a [AV.i .u64 0, AV.i .u64 0, AV.i .u64 0, AV.i .u64 0, AV.i .u64 0, AV.i .u64 0, AV.i .u64 0, AV.i .u64 0, AV.i .u64 0, AV.i .u64 0, AV.i .u64 0, AV.i .u64 0, AV.i .u64 0, AV.i .u64 0, AV.i .u64 0, AV.i .u64 0, AV.i .u64 0, AV.i .u64 0] 18 = a := Eq.trans rfl (sub_all a 18 ha.len)
      rw [this]
      rfl
    · dsimp only
      have hi : (nth a k .junk).isI .u64 = true := ha.isI k .u64 (ro_u64 k hk) hk
      have hv : AV.i .u64 (nth a k .junk).num = nth a k .junk := ha.val k .u64 (ro_u64 k hk) hk
      simp only [show COp.run (k : Int) 18 .lss = true by simp [COp.run]; omega, show inb (k : Int) 18 = true by simp [inb]; omega, Int.toNat_natCast, Nat.mul_one, Nat.zero_add, reqB_true, hk, decide_true, hi, Bool.and_self, hv, show k + 1 ≤ 18 by omega, add_one (show k < 9223372036854775807 by omega)]
      rfl
  rw [hx]
  simp [ha.len]

theorem i_folkmootlaw4_To {a : List (List AV)} (ha : Rows n csW a) (hb : n * 8 ≤ room) (hN : n < N) (hM : N < 9223372036854775807) : F_folkmootlaw4_To N (a, ()) H = ok (a, ()) H := by
  unfold F_folkmootlaw4_To
  dsimp only
  have hl := ha.1
  have hb' : a.length * 8 ≤ room := Nat.le_trans (Nat.mul_le_mul_right 8 hl) hb
  generalize hr : iter _ _ N _ H = r
  have hx : r = ok (a, ()) H := by
    rw [← hr]
    refine run_iter (fun k => (a, a.take k, (k : Int), ())) a.length _ (fun R => ?_) (fun R k hk => ?_) N (by omega)
    · dsimp only
      simp only [run_lss, Nat.lt_irrefl, decide_false, List.take_length]
    · have h1 := ha.2 k hk
      have hv : [nth (nth a k []) 0 .junk] = nth a k [] := Eq.trans rfl (sub_all _ 1 h1.len)
      dsimp only
      simp only [run_lss, hk, decide_true, inb_true hk, Int.toNat_natCast, reqB_true, req_true, h1.isI 0 .u64 rfl (by decide), h1.val 0 .u64 rfl (by decide), hv, roomL_take a k 8 _ hk hb', take_cat a k hk, add_one (show k < 9223372036854775807 by omega)]
  rw [hx]
  simp

theorem i_folkmootlaw5_To {a : List AV} (ha : TyL n csSig a) (hn : n ≤ 1000) (hN : 1000 < N) (hM : N < 9223372036854775807) : F_folkmootlaw5_To N (a, ()) H = ok (a, ()) H := by
  unfold F_folkmootlaw5_To
  dsimp only
  simp only [show (a.length == 21) = true by rw [ha.len]; rfl, reqB_true, req_true, ok_pre, ok_out, sub_len, beq_self_eq_true,
    ha.isI 0 .i64 rfl (by decide),
    ha.isI 1 .i64 rfl (by decide),
    ha.allI (o := 2) (m := 18) [.u64, .u64, .u64, .u64, .u64, .u64, .u64, .u64, .u64, .u64, .u64, .u64, .u64, .u64, .u64, .u64, .u64, .u64] rfl rfl,
    ha.isSl 20 1 csW rfl rfl (by decide),
    ha.val 0 .i64 rfl (by decide),
    ha.val 1 .i64 rfl (by decide),
    ha.slv 20 1 csW rfl rfl (by decide),
    i_folkmootlaw3_To (N := N) (H := H) (ha.sub 2 18 rfl rfl) (by omega),
    i_folkmootlaw4_To (N := N) (H := H) (ha.rows 20 csW rfl (by decide)) (by show n * 8 ≤ 140737488355328; omega) (by omega) hM]
  refine congrArg (fun x => ok (x, ()) H) (Eq.trans ?_ (sub_all a 21 ha.len))
  rfl

theorem i_folkmootlaw9_To {a : List AV} (ha : TyL n csCmd a) (hn : n ≤ 1000) (hN : 1000 < N) (hM : N < 9223372036854775807) : F_folkmootlaw9_To N (a, ()) H = ok (a, ()) H := by
  unfold F_folkmootlaw9_To
  dsimp only
  simp only [show (a.length == 5) = true by rw [ha.len]; rfl, reqB_true, req_true, ok_pre, ok_out, sub_len, beq_self_eq_true,
    ha.isI 0 .i64 rfl (by decide),
    ha.isI 1 .i64 rfl (by decide),
    ha.isI 2 .i64 rfl (by decide),
    ha.isI 3 .i64 rfl (by decide),
    ha.isI 4 .i64 rfl (by decide),
    ha.val 0 .i64 rfl (by decide),
    ha.val 1 .i64 rfl (by decide),
    ha.val 2 .i64 rfl (by decide),
    ha.val 3 .i64 rfl (by decide),
    ha.val 4 .i64 rfl (by decide)]
  refine congrArg (fun x => ok (x, ()) H) (Eq.trans ?_ (sub_all a 5 ha.len))
  rfl

theorem i_folkmootlaw11_To {a : List AV} (ha : TyL n csStamp a) (hn : n ≤ 1000) (hN : 1000 < N) (hM : N < 9223372036854775807) : F_folkmootlaw11_To N (a, ()) H = ok (a, ()) H := by
  unfold F_folkmootlaw11_To
  dsimp only
  simp only [show (a.length == 24) = true by rw [ha.len]; rfl, reqB_true, req_true, ok_pre, ok_out, sub_len, beq_self_eq_true,
    ha.isI 0 .u64 rfl (by decide),
    ha.isI 1 .i64 rfl (by decide),
    ha.isI 2 .i64 rfl (by decide),
    ha.val 0 .u64 rfl (by decide),
    ha.val 1 .i64 rfl (by decide),
    ha.val 2 .i64 rfl (by decide),
    i_folkmootlaw5_To (N := N) (H := H) (ha.sub (ds := csSig) 3 21 rfl rfl) hn hN hM]
  refine congrArg (fun x => ok (x, ()) H) (Eq.trans ?_ (sub_all a 24 ha.len))
  rfl

theorem i_folkmootlaw11_ToAll {a : List (List AV)} (ha : Rows n csStamp a) (hn : n ≤ 1000) (hN : 1000 < N) (hM : N < 9223372036854775807) : F_folkmootlaw11_ToAll N (a, ()) H = ok (a, ()) H :=
  copyAll (G := F_folkmootlaw11_To N) (z := 24) (b := 208) ha rfl (fun x hx => i_folkmootlaw11_To hx hn hN hM) (by show n * 208 ≤ 140737488355328; omega) (by omega) hM

theorem i_folkmootlaw12_To {a : List AV} (ha : TyL n csCert a) (hn : n ≤ 1000) (hN : 1000 < N) (hM : N < 9223372036854775807) : F_folkmootlaw12_To N (a, ()) H = ok (a, ()) H := by
  unfold F_folkmootlaw12_To
  dsimp only
  simp only [show (a.length == 6) = true by rw [ha.len]; rfl, reqB_true, req_true, ok_pre, ok_out, sub_len, beq_self_eq_true,
    ha.allI (o := 0) (m := 5) [.i64, .i64, .i64, .i64, .i64] rfl rfl,
    ha.isSl 5 24 csStamp rfl rfl (by decide),
    ha.slv 5 24 csStamp rfl rfl (by decide),
    i_folkmootlaw9_To (N := N) (H := H) (ha.sub (ds := csCmd) 0 5 rfl rfl) hn hN hM,
    i_folkmootlaw11_ToAll (N := N) (H := H) (ha.rows 5 csStamp rfl (by decide)) hn hN hM]
  refine congrArg (fun x => ok (x, ()) H) (Eq.trans ?_ (sub_all a 6 ha.len))
  rfl

theorem i_folkmootlaw14_To {a : List AV} (ha : TyL n csAck a) (hn : n ≤ 1000) (hN : 1000 < N) (hM : N < 9223372036854775807) : F_folkmootlaw14_To N (a, ()) H = ok (a, ()) H := by
  unfold F_folkmootlaw14_To
  dsimp only
  simp only [show (a.length == 23) = true by rw [ha.len]; rfl, reqB_true, req_true, ok_pre, ok_out, sub_len, beq_self_eq_true,
    ha.isI 0 .u64 rfl (by decide),
    ha.isI 1 .i64 rfl (by decide),
    ha.val 0 .u64 rfl (by decide),
    ha.val 1 .i64 rfl (by decide),
    i_folkmootlaw5_To (N := N) (H := H) (ha.sub (ds := csSig) 2 21 rfl rfl) hn hN hM]
  refine congrArg (fun x => ok (x, ()) H) (Eq.trans ?_ (sub_all a 23 ha.len))
  rfl

theorem i_folkmootlaw12_ToAll {a : List (List AV)} (ha : Rows n csCert a) (hn : n ≤ 1000) (hN : 1000 < N) (hM : N < 9223372036854775807) : F_folkmootlaw12_ToAll N (a, ()) H = ok (a, ()) H :=
  copyAll (G := F_folkmootlaw12_To N) (z := 6) (b := 64) ha rfl (fun x hx => i_folkmootlaw12_To hx hn hN hM) (by show n * 64 ≤ 140737488355328; omega) (by omega) hM

theorem i_folkmootlaw15_To {a : List AV} (ha : TyL n csReport a) (hn : n ≤ 1000) (hN : 1000 < N) (hM : N < 9223372036854775807) : F_folkmootlaw15_To N (a, ()) H = ok (a, ()) H := by
  unfold F_folkmootlaw15_To
  dsimp only
  simp only [show (a.length == 25) = true by rw [ha.len]; rfl, reqB_true, req_true, ok_pre, ok_out, sub_len, beq_self_eq_true,
    ha.isI 0 .i64 rfl (by decide),
    ha.isI 1 .i64 rfl (by decide),
    ha.isI 2 .i64 rfl (by decide),
    ha.isSl 3 6 csCert rfl rfl (by decide),
    ha.val 0 .i64 rfl (by decide),
    ha.val 1 .i64 rfl (by decide),
    ha.val 2 .i64 rfl (by decide),
    ha.slv 3 6 csCert rfl rfl (by decide),
    i_folkmootlaw12_ToAll (N := N) (H := H) (ha.rows 3 csCert rfl (by decide)) hn hN hM,
    i_folkmootlaw5_To (N := N) (H := H) (ha.sub (ds := csSig) 4 21 rfl rfl) hn hN hM]
  refine congrArg (fun x => ok (x, ()) H) (Eq.trans ?_ (sub_all a 25 ha.len))
  rfl

theorem i_folkmootlaw16_ToVote {a : List AV} (ha : TyL n csVote a) (hn : n ≤ 1000) (hN : 1000 < N) (hM : N < 9223372036854775807) : F_folkmootlaw16_ToVote N (a, ()) H = ok (a, ()) H := by
  unfold F_folkmootlaw16_ToVote
  dsimp only
  simp only [show (a.length == 24) = true by rw [ha.len]; rfl, reqB_true, req_true, ok_pre, ok_out, sub_len, beq_self_eq_true,
    ha.isI 0 .i64 rfl (by decide),
    ha.isI 1 .u64 rfl (by decide),
    ha.isI 2 .i64 rfl (by decide),
    ha.val 0 .i64 rfl (by decide),
    ha.val 1 .u64 rfl (by decide),
    ha.val 2 .i64 rfl (by decide),
    i_folkmootlaw5_To (N := N) (H := H) (ha.sub (ds := csSig) 3 21 rfl rfl) hn hN hM]
  refine congrArg (fun x => ok (x, ()) H) (Eq.trans ?_ (sub_all a 24 ha.len))
  rfl

theorem i_folkmootlaw16_ToVotes {a : List (List AV)} (ha : Rows n csVote a) (hn : n ≤ 1000) (hN : 1000 < N) (hM : N < 9223372036854775807) : F_folkmootlaw16_ToVotes N (a, ()) H = ok (a, ()) H :=
  copyAll (G := F_folkmootlaw16_ToVote N) (z := 24) (b := 208) ha rfl (fun x hx => i_folkmootlaw16_ToVote hx hn hN hM) (by show n * 208 ≤ 140737488355328; omega) (by omega) hM

theorem i_folkmootlaw16_ToQC {a : List AV} (ha : TyL n csQC a) (hn : n ≤ 1000) (hN : 1000 < N) (hM : N < 9223372036854775807) : F_folkmootlaw16_ToQC N (a, ()) H = ok (a, ()) H := by
  unfold F_folkmootlaw16_ToQC
  dsimp only
  simp only [show (a.length == 3) = true by rw [ha.len]; rfl, reqB_true, req_true, ok_pre, ok_out, sub_len, beq_self_eq_true,
    ha.isI 0 .i64 rfl (by decide),
    ha.isI 1 .u64 rfl (by decide),
    ha.isSl 2 24 csVote rfl rfl (by decide),
    ha.val 0 .i64 rfl (by decide),
    ha.val 1 .u64 rfl (by decide),
    ha.slv 2 24 csVote rfl rfl (by decide),
    i_folkmootlaw16_ToVotes (N := N) (H := H) (ha.rows 2 csVote rfl (by decide)) hn hN hM]
  refine congrArg (fun x => ok (x, ()) H) (Eq.trans ?_ (sub_all a 3 ha.len))
  rfl

theorem i_folkmootlaw15_ToAll {a : List (List AV)} (ha : Rows n csReport a) (hn : n ≤ 1000) (hN : 1000 < N) (hM : N < 9223372036854775807) : F_folkmootlaw15_ToAll N (a, ()) H = ok (a, ()) H :=
  copyAll (G := F_folkmootlaw15_To N) (z := 25) (b := 232) ha rfl (fun x hx => i_folkmootlaw15_To hx hn hN hM) (by show n * 232 ≤ 140737488355328; omega) (by omega) hM

theorem i_folkmootlaw16_To {a : List AV} (ha : TyL n csBlock a) (hn : n ≤ 1000) (hN : 1000 < N) (hM : N < 9223372036854775807) : F_folkmootlaw16_To N (a, ()) H = ok (a, ()) H := by
  unfold F_folkmootlaw16_To
  dsimp only
  simp only [show (a.length == 8) = true by rw [ha.len]; rfl, reqB_true, req_true, ok_pre, ok_out, sub_len, beq_self_eq_true,
    ha.isI 0 .i64 rfl (by decide),
    ha.isI 1 .u64 rfl (by decide),
    ha.isI 5 .i64 rfl (by decide),
    ha.isI 6 .i64 rfl (by decide),
    ha.isSl 7 25 csReport rfl rfl (by decide),
    ha.val 0 .i64 rfl (by decide),
    ha.val 1 .u64 rfl (by decide),
    ha.val 5 .i64 rfl (by decide),
    ha.val 6 .i64 rfl (by decide),
    ha.slv 7 25 csReport rfl rfl (by decide),
    i_folkmootlaw16_ToQC (N := N) (H := H) (ha.sub (ds := csQC) 2 3 rfl rfl) hn hN hM,
    i_folkmootlaw15_ToAll (N := N) (H := H) (ha.rows 7 csReport rfl (by decide)) hn hN hM]
  refine congrArg (fun x => ok (x, ()) H) (Eq.trans ?_ (sub_all a 8 ha.len))
  rfl

theorem i_folkmootlaw19_To {a : List AV} (ha : TyL n csView a) (hn : n ≤ 1000) (hN : 1000 < N) (hM : N < 9223372036854775807) : F_folkmootlaw19_To N (a, ()) H = ok (a, ()) H := by
  unfold F_folkmootlaw19_To
  dsimp only
  simp only [show (a.length == 26) = true by rw [ha.len]; rfl, reqB_true, req_true, ok_pre, ok_out, sub_len, beq_self_eq_true,
    ha.isI 0 .i64 rfl (by decide),
    ha.isI 1 .i64 rfl (by decide),
    ha.val 0 .i64 rfl (by decide),
    ha.val 1 .i64 rfl (by decide),
    i_folkmootlaw16_ToQC (N := N) (H := H) (ha.sub (ds := csQC) 2 3 rfl rfl) hn hN hM,
    i_folkmootlaw5_To (N := N) (H := H) (ha.sub (ds := csSig) 5 21 rfl rfl) hn hN hM]
  refine congrArg (fun x => ok (x, ()) H) (Eq.trans ?_ (sub_all a 26 ha.len))
  rfl

theorem i_folkmootlaw22_To {a : List AV} (ha : TyL n csMsg a) (hn : n ≤ 1000) (hN : 1000 < N) (hM : N < 9223372036854775807) : F_folkmootlaw22_To N (a, ()) H = ok (a, ()) H := by
  unfold F_folkmootlaw22_To
  dsimp only
  have ra := ha.rows 146 csBlock rfl (by decide)
  have hl := ra.1
  have hb' : (nth a 146 .junk).els.length * 96 ≤ room := Nat.le_trans (Nat.mul_le_mul_right 96 hl) (by show n * 96 ≤ 140737488355328; omega)
  simp only [show (a.length == 147) = true by rw [ha.len]; rfl, reqB_true, req_true, ok_pre, ok_out, sub_len, beq_self_eq_true,
    ha.isI 0 .i64 rfl (by decide),
    ha.isI 1 .i64 rfl (by decide),
    ha.isI 2 .i64 rfl (by decide),
    ha.allI (o := 3) (m := 5) [.i64, .i64, .i64, .i64, .i64] rfl rfl,
    ha.isI 61 .i64 rfl (by decide),
    ha.isI 62 .i64 rfl (by decide),
    ha.isSl 146 8 csBlock rfl rfl (by decide),
    ha.val 0 .i64 rfl (by decide),
    ha.val 1 .i64 rfl (by decide),
    ha.val 2 .i64 rfl (by decide),
    ha.val 61 .i64 rfl (by decide),
    ha.val 62 .i64 rfl (by decide),
    i_folkmootlaw9_To (N := N) (H := H) (ha.sub (ds := csCmd) 3 5 rfl rfl) hn hN hM,
    i_folkmootlaw11_To (N := N) (H := H) (ha.sub (ds := csStamp) 8 24 rfl rfl) hn hN hM,
    i_folkmootlaw12_To (N := N) (H := H) (ha.sub (ds := csCert) 32 6 rfl rfl) hn hN hM,
    i_folkmootlaw14_To (N := N) (H := H) (ha.sub (ds := csAck) 38 23 rfl rfl) hn hN hM,
    i_folkmootlaw15_To (N := N) (H := H) (ha.sub (ds := csReport) 63 25 rfl rfl) hn hN hM,
    i_folkmootlaw16_To (N := N) (H := H) (ha.sub (ds := csBlock) 88 8 rfl rfl) hn hN hM,
    i_folkmootlaw16_ToVote (N := N) (H := H) (ha.sub (ds := csVote) 96 24 rfl rfl) hn hN hM,
    i_folkmootlaw19_To (N := N) (H := H) (ha.sub (ds := csView) 120 26 rfl rfl) hn hN hM]
  generalize hr : iter _ _ N _ H = r
  have hx : r = ok ((), (), a, [AV.i .i64 0, AV.i .i64 0, AV.i .i64 0, AV.i .i64 0, AV.i .i64 0, AV.i .i64 0, AV.i .i64 0, AV.i .i64 0, AV.i .u64 0, AV.i .i64 0, AV.i .i64 0, AV.i .i64 0, AV.i .i64 0, AV.i .u64 0, AV.i .u64 0, AV.i .u64 0, AV.i .u64 0, AV.i .u64 0, AV.i .u64 0, AV.i .u64 0, AV.i .u64 0, AV.i .u64 0, AV.i .u64 0, AV.i .u64 0, AV.i .u64 0, AV.i .u64 0, AV.i .u64 0, AV.i .u64 0, AV.i .u64 0, AV.i .u64 0, AV.i .u64 0, AV.sl 1 [], AV.i .i64 0, AV.i .i64 0, AV.i .i64 0, AV.i .i64 0, AV.i .i64 0, AV.sl 24 [], AV.i .u64 0, AV.i .i64 0, AV.i .i64 0, AV.i .i64 0, AV.i .u64 0, AV.i .u64 0, AV.i .u64 0, AV.i .u64 0, AV.i .u64 0, AV.i .u64 0, AV.i .u64 0, AV.i .u64 0, AV.i .u64 0, AV.i .u64 0, AV.i .u64 0, AV.i .u64 0, AV.i .u64 0, AV.i .u64 0, AV.i .u64 0, AV.i .u64 0, AV.i .u64 0, AV.i .u64 0, AV.sl 1 [], AV.i .i64 0, AV.i .i64 0, AV.i .i64 0, AV.i .i64 0, AV.i .i64 0, AV.sl 6 [], AV.i .i64 0, AV.i .i64 0, AV.i .u64 0, AV.i .u64 0, AV.i .u64 0, AV.i .u64 0, AV.i .u64 0, AV.i .u64 0, AV.i .u64 0, AV.i .u64 0, AV.i .u64 0, AV.i .u64 0, AV.i .u64 0, AV.i .u64 0, AV.i .u64 0, AV.i .u64 0, AV.i .u64 0, AV.i .u64 0, AV.i .u64 0, AV.i .u64 0, AV.sl 1 [], AV.i .i64 0, AV.i .u64 0, AV.i .i64 0, AV.i .u64 0, AV.sl 24 [], AV.i .i64 0, AV.i .i64 0, AV.sl 25 [], AV.i .i64 0, AV.i .u64 0, AV.i .i64 0, AV.i .i64 0, AV.i .i64 0, AV.i .u64 0, AV.i .u64 0, AV.i .u64 0, AV.i .u64 0, AV.i .u64 0, AV.i .u64 0, AV.i .u64 0, AV.i .u64 0, AV.i .u64 0, AV.i .u64 0, AV.i .u64 0, AV.i .u64 0, AV.i .u64 0, AV.i .u64 0, AV.i .u64 0, AV.i .u64 0, AV.i .u64 0, AV.i .u64 0, AV.sl 1 [], AV.i .i64 0, AV.i .i64 0, AV.i .i64 0, AV.i .u64 0, AV.sl 24 [], AV.i .i64 0, AV.i .i64 0, AV.i .u64 0, AV.i .u64 0, AV.i .u64 0, AV.i .u64 0, AV.i .u64 0, AV.i .u64 0, AV.i .u64 0, AV.i .u64 0, AV.i .u64 0, AV.i .u64 0, AV.i .u64 0, AV.i .u64 0, AV.i .u64 0, AV.i .u64 0, AV.i .u64 0, AV.i .u64 0, AV.i .u64 0, AV.i .u64 0, AV.sl 1 [], AV.sl 8 []], a, ()) H := by
    rw [← hr]
    refine run_iter (fun k => ((), (), (), (k : Int), a, [AV.i .i64 0, AV.i .i64 0, AV.i .i64 0, AV.i .i64 0, AV.i .i64 0, AV.i .i64 0, AV.i .i64 0, AV.i .i64 0, AV.i .u64 0, AV.i .i64 0, AV.i .i64 0, AV.i .i64 0, AV.i .i64 0, AV.i .u64 0, AV.i .u64 0, AV.i .u64 0, AV.i .u64 0, AV.i .u64 0, AV.i .u64 0, AV.i .u64 0, AV.i .u64 0, AV.i .u64 0, AV.i .u64 0, AV.i .u64 0, AV.i .u64 0, AV.i .u64 0, AV.i .u64 0, AV.i .u64 0, AV.i .u64 0, AV.i .u64 0, AV.i .u64 0, AV.sl 1 [], AV.i .i64 0, AV.i .i64 0, AV.i .i64 0, AV.i .i64 0, AV.i .i64 0, AV.sl 24 [], AV.i .u64 0, AV.i .i64 0, AV.i .i64 0, AV.i .i64 0, AV.i .u64 0, AV.i .u64 0, AV.i .u64 0, AV.i .u64 0, AV.i .u64 0, AV.i .u64 0, AV.i .u64 0, AV.i .u64 0, AV.i .u64 0, AV.i .u64 0, AV.i .u64 0, AV.i .u64 0, AV.i .u64 0, AV.i .u64 0, AV.i .u64 0, AV.i .u64 0, AV.i .u64 0, AV.i .u64 0, AV.sl 1 [], AV.i .i64 0, AV.i .i64 0, AV.i .i64 0, AV.i .i64 0, AV.i .i64 0, AV.sl 6 [], AV.i .i64 0, AV.i .i64 0, AV.i .u64 0, AV.i .u64 0, AV.i .u64 0, AV.i .u64 0, AV.i .u64 0, AV.i .u64 0, AV.i .u64 0, AV.i .u64 0, AV.i .u64 0, AV.i .u64 0, AV.i .u64 0, AV.i .u64 0, AV.i .u64 0, AV.i .u64 0, AV.i .u64 0, AV.i .u64 0, AV.i .u64 0, AV.i .u64 0, AV.sl 1 [], AV.i .i64 0, AV.i .u64 0, AV.i .i64 0, AV.i .u64 0, AV.sl 24 [], AV.i .i64 0, AV.i .i64 0, AV.sl 25 [], AV.i .i64 0, AV.i .u64 0, AV.i .i64 0, AV.i .i64 0, AV.i .i64 0, AV.i .u64 0, AV.i .u64 0, AV.i .u64 0, AV.i .u64 0, AV.i .u64 0, AV.i .u64 0, AV.i .u64 0, AV.i .u64 0, AV.i .u64 0, AV.i .u64 0, AV.i .u64 0, AV.i .u64 0, AV.i .u64 0, AV.i .u64 0, AV.i .u64 0, AV.i .u64 0, AV.i .u64 0, AV.i .u64 0, AV.sl 1 [], AV.i .i64 0, AV.i .i64 0, AV.i .i64 0, AV.i .u64 0, AV.sl 24 [], AV.i .i64 0, AV.i .i64 0, AV.i .u64 0, AV.i .u64 0, AV.i .u64 0, AV.i .u64 0, AV.i .u64 0, AV.i .u64 0, AV.i .u64 0, AV.i .u64 0, AV.i .u64 0, AV.i .u64 0, AV.i .u64 0, AV.i .u64 0, AV.i .u64 0, AV.i .u64 0, AV.i .u64 0, AV.i .u64 0, AV.i .u64 0, AV.i .u64 0, AV.sl 1 [], AV.sl 8 []], [DenT.nth a 0 .junk, DenT.nth a 1 .junk, DenT.nth a 2 .junk, DenT.nth a 3 .junk, DenT.nth a 4 .junk, DenT.nth a 5 .junk, DenT.nth a 6 .junk, DenT.nth a 7 .junk, DenT.nth a 8 .junk, DenT.nth a 9 .junk, DenT.nth a 10 .junk, DenT.nth a 11 .junk, DenT.nth a 12 .junk, DenT.nth a 13 .junk, DenT.nth a 14 .junk, DenT.nth a 15 .junk, DenT.nth a 16 .junk, DenT.nth a 17 .junk, DenT.nth a 18 .junk, DenT.nth a 19 .junk, DenT.nth a 20 .junk, DenT.nth a 21 .junk, DenT.nth a 22 .junk, DenT.nth a 23 .junk, DenT.nth a 24 .junk, DenT.nth a 25 .junk, DenT.nth a 26 .junk, DenT.nth a 27 .junk, DenT.nth a 28 .junk, DenT.nth a 29 .junk, DenT.nth a 30 .junk, DenT.nth a 31 .junk, DenT.nth a 32 .junk, DenT.nth a 33 .junk, DenT.nth a 34 .junk, DenT.nth a 35 .junk, DenT.nth a 36 .junk, DenT.nth a 37 .junk, DenT.nth a 38 .junk, DenT.nth a 39 .junk, DenT.nth a 40 .junk, DenT.nth a 41 .junk, DenT.nth a 42 .junk, DenT.nth a 43 .junk, DenT.nth a 44 .junk, DenT.nth a 45 .junk, DenT.nth a 46 .junk, DenT.nth a 47 .junk, DenT.nth a 48 .junk, DenT.nth a 49 .junk, DenT.nth a 50 .junk, DenT.nth a 51 .junk, DenT.nth a 52 .junk, DenT.nth a 53 .junk, DenT.nth a 54 .junk, DenT.nth a 55 .junk, DenT.nth a 56 .junk, DenT.nth a 57 .junk, DenT.nth a 58 .junk, DenT.nth a 59 .junk, DenT.nth a 60 .junk, DenT.nth a 61 .junk, DenT.nth a 62 .junk, DenT.nth a 63 .junk, DenT.nth a 64 .junk, DenT.nth a 65 .junk, DenT.nth a 66 .junk, DenT.nth a 67 .junk, DenT.nth a 68 .junk, DenT.nth a 69 .junk, DenT.nth a 70 .junk, DenT.nth a 71 .junk, DenT.nth a 72 .junk, DenT.nth a 73 .junk, DenT.nth a 74 .junk, DenT.nth a 75 .junk, DenT.nth a 76 .junk, DenT.nth a 77 .junk, DenT.nth a 78 .junk, DenT.nth a 79 .junk, DenT.nth a 80 .junk, DenT.nth a 81 .junk, DenT.nth a 82 .junk, DenT.nth a 83 .junk, DenT.nth a 84 .junk, DenT.nth a 85 .junk, DenT.nth a 86 .junk, DenT.nth a 87 .junk, DenT.nth a 88 .junk, DenT.nth a 89 .junk, DenT.nth a 90 .junk, DenT.nth a 91 .junk, DenT.nth a 92 .junk, DenT.nth a 93 .junk, DenT.nth a 94 .junk, DenT.nth a 95 .junk, DenT.nth a 96 .junk, DenT.nth a 97 .junk, DenT.nth a 98 .junk, DenT.nth a 99 .junk, DenT.nth a 100 .junk, DenT.nth a 101 .junk, DenT.nth a 102 .junk, DenT.nth a 103 .junk, DenT.nth a 104 .junk, DenT.nth a 105 .junk, DenT.nth a 106 .junk, DenT.nth a 107 .junk, DenT.nth a 108 .junk, DenT.nth a 109 .junk, DenT.nth a 110 .junk, DenT.nth a 111 .junk, DenT.nth a 112 .junk, DenT.nth a 113 .junk, DenT.nth a 114 .junk, DenT.nth a 115 .junk, DenT.nth a 116 .junk, DenT.nth a 117 .junk, DenT.nth a 118 .junk, DenT.nth a 119 .junk, DenT.nth a 120 .junk, DenT.nth a 121 .junk, DenT.nth a 122 .junk, DenT.nth a 123 .junk, DenT.nth a 124 .junk, DenT.nth a 125 .junk, DenT.nth a 126 .junk, DenT.nth a 127 .junk, DenT.nth a 128 .junk, DenT.nth a 129 .junk, DenT.nth a 130 .junk, DenT.nth a 131 .junk, DenT.nth a 132 .junk, DenT.nth a 133 .junk, DenT.nth a 134 .junk, DenT.nth a 135 .junk, DenT.nth a 136 .junk, DenT.nth a 137 .junk, DenT.nth a 138 .junk, DenT.nth a 139 .junk, DenT.nth a 140 .junk, DenT.nth a 141 .junk, DenT.nth a 142 .junk, DenT.nth a 143 .junk, DenT.nth a 144 .junk, DenT.nth a 145 .junk, .sl 8 ((nth a 146 .junk).els.take k)], ())) (nth a 146 .junk).els.length _ (fun R => ?_) (fun R k hk => ?_) N (by omega)
    · dsimp only
      simp only [run_lss, Nat.lt_irrefl, decide_false, ha.isSl 146 8 csBlock rfl rfl (by decide), reqB_true, List.take_length, ha.slv 146 8 csBlock rfl rfl (by decide)]
      have e0 : [DenT.nth a 0 .junk, DenT.nth a 1 .junk, DenT.nth a 2 .junk, DenT.nth a 3 .junk, DenT.nth a 4 .junk, DenT.nth a 5 .junk, DenT.nth a 6 .junk, DenT.nth a 7 .junk, DenT.nth a 8 .junk, DenT.nth a 9 .junk, DenT.nth a 10 .junk, DenT.nth a 11 .junk, DenT.nth a 12 .junk, DenT.nth a 13 .junk, DenT.nth a 14 .junk, DenT.nth a 15 .junk, DenT.nth a 16 .junk, DenT.nth a 17 .junk, DenT.nth a 18 .junk, DenT.nth a 19 .junk, DenT.nth a 20 .junk, DenT.nth a 21 .junk, DenT.nth a 22 .junk, DenT.nth a 23 .junk, DenT.nth a 24 .junk, DenT.nth a 25 .junk, DenT.nth a 26 .junk, DenT.nth a 27 .junk, DenT.nth a 28 .junk, DenT.nth a 29 .junk, DenT.nth a 30 .junk, DenT.nth a 31 .junk, DenT.nth a 32 .junk, DenT.nth a 33 .junk, DenT.nth a 34 .junk, DenT.nth a 35 .junk, DenT.nth a 36 .junk, DenT.nth a 37 .junk, DenT.nth a 38 .junk, DenT.nth a 39 .junk, DenT.nth a 40 .junk, DenT.nth a 41 .junk, DenT.nth a 42 .junk, DenT.nth a 43 .junk, DenT.nth a 44 .junk, DenT.nth a 45 .junk, DenT.nth a 46 .junk, DenT.nth a 47 .junk, DenT.nth a 48 .junk, DenT.nth a 49 .junk, DenT.nth a 50 .junk, DenT.nth a 51 .junk, DenT.nth a 52 .junk, DenT.nth a 53 .junk, DenT.nth a 54 .junk, DenT.nth a 55 .junk, DenT.nth a 56 .junk, DenT.nth a 57 .junk, DenT.nth a 58 .junk, DenT.nth a 59 .junk, DenT.nth a 60 .junk, DenT.nth a 61 .junk, DenT.nth a 62 .junk, DenT.nth a 63 .junk, DenT.nth a 64 .junk, DenT.nth a 65 .junk, DenT.nth a 66 .junk, DenT.nth a 67 .junk, DenT.nth a 68 .junk, DenT.nth a 69 .junk, DenT.nth a 70 .junk, DenT.nth a 71 .junk, DenT.nth a 72 .junk, DenT.nth a 73 .junk, DenT.nth a 74 .junk, DenT.nth a 75 .junk, DenT.nth a 76 .junk, DenT.nth a 77 .junk, DenT.nth a 78 .junk, DenT.nth a 79 .junk, DenT.nth a 80 .junk, DenT.nth a 81 .junk, DenT.nth a 82 .junk, DenT.nth a 83 .junk, DenT.nth a 84 .junk, DenT.nth a 85 .junk, DenT.nth a 86 .junk, DenT.nth a 87 .junk, DenT.nth a 88 .junk, DenT.nth a 89 .junk, DenT.nth a 90 .junk, DenT.nth a 91 .junk, DenT.nth a 92 .junk, DenT.nth a 93 .junk, DenT.nth a 94 .junk, DenT.nth a 95 .junk, DenT.nth a 96 .junk, DenT.nth a 97 .junk, DenT.nth a 98 .junk, DenT.nth a 99 .junk, DenT.nth a 100 .junk, DenT.nth a 101 .junk, DenT.nth a 102 .junk, DenT.nth a 103 .junk, DenT.nth a 104 .junk, DenT.nth a 105 .junk, DenT.nth a 106 .junk, DenT.nth a 107 .junk, DenT.nth a 108 .junk, DenT.nth a 109 .junk, DenT.nth a 110 .junk, DenT.nth a 111 .junk, DenT.nth a 112 .junk, DenT.nth a 113 .junk, DenT.nth a 114 .junk, DenT.nth a 115 .junk, DenT.nth a 116 .junk, DenT.nth a 117 .junk, DenT.nth a 118 .junk, DenT.nth a 119 .junk, DenT.nth a 120 .junk, DenT.nth a 121 .junk, DenT.nth a 122 .junk, DenT.nth a 123 .junk, DenT.nth a 124 .junk, DenT.nth a 125 .junk, DenT.nth a 126 .junk, DenT.nth a 127 .junk, DenT.nth a 128 .junk, DenT.nth a 129 .junk, DenT.nth a 130 .junk, DenT.nth a 131 .junk, DenT.nth a 132 .junk, DenT.nth a 133 .junk, DenT.nth a 134 .junk, DenT.nth a 135 .junk, DenT.nth a 136 .junk, DenT.nth a 137 .junk, DenT.nth a 138 .junk, DenT.nth a 139 .junk, DenT.nth a 140 .junk, DenT.nth a 141 .junk, DenT.nth a 142 .junk, DenT.nth a 143 .junk, DenT.nth a 144 .junk, DenT.nth a 145 .junk, DenT.nth a 146 .junk] = a := Eq.trans rfl (sub_all a 147 ha.len)
      rw [e0]
    · have h1 := ra.2 k hk
      have e1 : nth [DenT.nth a 0 .junk, DenT.nth a 1 .junk, DenT.nth a 2 .junk, DenT.nth a 3 .junk, DenT.nth a 4 .junk, DenT.nth a 5 .junk, DenT.nth a 6 .junk, DenT.nth a 7 .junk, DenT.nth a 8 .junk, DenT.nth a 9 .junk, DenT.nth a 10 .junk, DenT.nth a 11 .junk, DenT.nth a 12 .junk, DenT.nth a 13 .junk, DenT.nth a 14 .junk, DenT.nth a 15 .junk, DenT.nth a 16 .junk, DenT.nth a 17 .junk, DenT.nth a 18 .junk, DenT.nth a 19 .junk, DenT.nth a 20 .junk, DenT.nth a 21 .junk, DenT.nth a 22 .junk, DenT.nth a 23 .junk, DenT.nth a 24 .junk, DenT.nth a 25 .junk, DenT.nth a 26 .junk, DenT.nth a 27 .junk, DenT.nth a 28 .junk, DenT.nth a 29 .junk, DenT.nth a 30 .junk, DenT.nth a 31 .junk, DenT.nth a 32 .junk, DenT.nth a 33 .junk, DenT.nth a 34 .junk, DenT.nth a 35 .junk, DenT.nth a 36 .junk, DenT.nth a 37 .junk, DenT.nth a 38 .junk, DenT.nth a 39 .junk, DenT.nth a 40 .junk, DenT.nth a 41 .junk, DenT.nth a 42 .junk, DenT.nth a 43 .junk, DenT.nth a 44 .junk, DenT.nth a 45 .junk, DenT.nth a 46 .junk, DenT.nth a 47 .junk, DenT.nth a 48 .junk, DenT.nth a 49 .junk, DenT.nth a 50 .junk, DenT.nth a 51 .junk, DenT.nth a 52 .junk, DenT.nth a 53 .junk, DenT.nth a 54 .junk, DenT.nth a 55 .junk, DenT.nth a 56 .junk, DenT.nth a 57 .junk, DenT.nth a 58 .junk, DenT.nth a 59 .junk, DenT.nth a 60 .junk, DenT.nth a 61 .junk, DenT.nth a 62 .junk, DenT.nth a 63 .junk, DenT.nth a 64 .junk, DenT.nth a 65 .junk, DenT.nth a 66 .junk, DenT.nth a 67 .junk, DenT.nth a 68 .junk, DenT.nth a 69 .junk, DenT.nth a 70 .junk, DenT.nth a 71 .junk, DenT.nth a 72 .junk, DenT.nth a 73 .junk, DenT.nth a 74 .junk, DenT.nth a 75 .junk, DenT.nth a 76 .junk, DenT.nth a 77 .junk, DenT.nth a 78 .junk, DenT.nth a 79 .junk, DenT.nth a 80 .junk, DenT.nth a 81 .junk, DenT.nth a 82 .junk, DenT.nth a 83 .junk, DenT.nth a 84 .junk, DenT.nth a 85 .junk, DenT.nth a 86 .junk, DenT.nth a 87 .junk, DenT.nth a 88 .junk, DenT.nth a 89 .junk, DenT.nth a 90 .junk, DenT.nth a 91 .junk, DenT.nth a 92 .junk, DenT.nth a 93 .junk, DenT.nth a 94 .junk, DenT.nth a 95 .junk, DenT.nth a 96 .junk, DenT.nth a 97 .junk, DenT.nth a 98 .junk, DenT.nth a 99 .junk, DenT.nth a 100 .junk, DenT.nth a 101 .junk, DenT.nth a 102 .junk, DenT.nth a 103 .junk, DenT.nth a 104 .junk, DenT.nth a 105 .junk, DenT.nth a 106 .junk, DenT.nth a 107 .junk, DenT.nth a 108 .junk, DenT.nth a 109 .junk, DenT.nth a 110 .junk, DenT.nth a 111 .junk, DenT.nth a 112 .junk, DenT.nth a 113 .junk, DenT.nth a 114 .junk, DenT.nth a 115 .junk, DenT.nth a 116 .junk, DenT.nth a 117 .junk, DenT.nth a 118 .junk, DenT.nth a 119 .junk, DenT.nth a 120 .junk, DenT.nth a 121 .junk, DenT.nth a 122 .junk, DenT.nth a 123 .junk, DenT.nth a 124 .junk, DenT.nth a 125 .junk, DenT.nth a 126 .junk, DenT.nth a 127 .junk, DenT.nth a 128 .junk, DenT.nth a 129 .junk, DenT.nth a 130 .junk, DenT.nth a 131 .junk, DenT.nth a 132 .junk, DenT.nth a 133 .junk, DenT.nth a 134 .junk, DenT.nth a 135 .junk, DenT.nth a 136 .junk, DenT.nth a 137 .junk, DenT.nth a 138 .junk, DenT.nth a 139 .junk, DenT.nth a 140 .junk, DenT.nth a 141 .junk, DenT.nth a 142 .junk, DenT.nth a 143 .junk, DenT.nth a 144 .junk, DenT.nth a 145 .junk, .sl 8 ((nth a 146 .junk).els.take k)] 146 .junk = .sl 8 ((nth a 146 .junk).els.take k) := rfl
      have e2 : ∀ l, upd [DenT.nth a 0 .junk, DenT.nth a 1 .junk, DenT.nth a 2 .junk, DenT.nth a 3 .junk, DenT.nth a 4 .junk, DenT.nth a 5 .junk, DenT.nth a 6 .junk, DenT.nth a 7 .junk, DenT.nth a 8 .junk, DenT.nth a 9 .junk, DenT.nth a 10 .junk, DenT.nth a 11 .junk, DenT.nth a 12 .junk, DenT.nth a 13 .junk, DenT.nth a 14 .junk, DenT.nth a 15 .junk, DenT.nth a 16 .junk, DenT.nth a 17 .junk, DenT.nth a 18 .junk, DenT.nth a 19 .junk, DenT.nth a 20 .junk, DenT.nth a 21 .junk, DenT.nth a 22 .junk, DenT.nth a 23 .junk, DenT.nth a 24 .junk, DenT.nth a 25 .junk, DenT.nth a 26 .junk, DenT.nth a 27 .junk, DenT.nth a 28 .junk, DenT.nth a 29 .junk, DenT.nth a 30 .junk, DenT.nth a 31 .junk, DenT.nth a 32 .junk, DenT.nth a 33 .junk, DenT.nth a 34 .junk, DenT.nth a 35 .junk, DenT.nth a 36 .junk, DenT.nth a 37 .junk, DenT.nth a 38 .junk, DenT.nth a 39 .junk, DenT.nth a 40 .junk, DenT.nth a 41 .junk, DenT.nth a 42 .junk, DenT.nth a 43 .junk, DenT.nth a 44 .junk, DenT.nth a 45 .junk, DenT.nth a 46 .junk, DenT.nth a 47 .junk, DenT.nth a 48 .junk, DenT.nth a 49 .junk, DenT.nth a 50 .junk, DenT.nth a 51 .junk, DenT.nth a 52 .junk, DenT.nth a 53 .junk, DenT.nth a 54 .junk, DenT.nth a 55 .junk, DenT.nth a 56 .junk, DenT.nth a 57 .junk, DenT.nth a 58 .junk, DenT.nth a 59 .junk, DenT.nth a 60 .junk, DenT.nth a 61 .junk, DenT.nth a 62 .junk, DenT.nth a 63 .junk, DenT.nth a 64 .junk, DenT.nth a 65 .junk, DenT.nth a 66 .junk, DenT.nth a 67 .junk, DenT.nth a 68 .junk, DenT.nth a 69 .junk, DenT.nth a 70 .junk, DenT.nth a 71 .junk, DenT.nth a 72 .junk, DenT.nth a 73 .junk, DenT.nth a 74 .junk, DenT.nth a 75 .junk, DenT.nth a 76 .junk, DenT.nth a 77 .junk, DenT.nth a 78 .junk, DenT.nth a 79 .junk, DenT.nth a 80 .junk, DenT.nth a 81 .junk, DenT.nth a 82 .junk, DenT.nth a 83 .junk, DenT.nth a 84 .junk, DenT.nth a 85 .junk, DenT.nth a 86 .junk, DenT.nth a 87 .junk, DenT.nth a 88 .junk, DenT.nth a 89 .junk, DenT.nth a 90 .junk, DenT.nth a 91 .junk, DenT.nth a 92 .junk, DenT.nth a 93 .junk, DenT.nth a 94 .junk, DenT.nth a 95 .junk, DenT.nth a 96 .junk, DenT.nth a 97 .junk, DenT.nth a 98 .junk, DenT.nth a 99 .junk, DenT.nth a 100 .junk, DenT.nth a 101 .junk, DenT.nth a 102 .junk, DenT.nth a 103 .junk, DenT.nth a 104 .junk, DenT.nth a 105 .junk, DenT.nth a 106 .junk, DenT.nth a 107 .junk, DenT.nth a 108 .junk, DenT.nth a 109 .junk, DenT.nth a 110 .junk, DenT.nth a 111 .junk, DenT.nth a 112 .junk, DenT.nth a 113 .junk, DenT.nth a 114 .junk, DenT.nth a 115 .junk, DenT.nth a 116 .junk, DenT.nth a 117 .junk, DenT.nth a 118 .junk, DenT.nth a 119 .junk, DenT.nth a 120 .junk, DenT.nth a 121 .junk, DenT.nth a 122 .junk, DenT.nth a 123 .junk, DenT.nth a 124 .junk, DenT.nth a 125 .junk, DenT.nth a 126 .junk, DenT.nth a 127 .junk, DenT.nth a 128 .junk, DenT.nth a 129 .junk, DenT.nth a 130 .junk, DenT.nth a 131 .junk, DenT.nth a 132 .junk, DenT.nth a 133 .junk, DenT.nth a 134 .junk, DenT.nth a 135 .junk, DenT.nth a 136 .junk, DenT.nth a 137 .junk, DenT.nth a 138 .junk, DenT.nth a 139 .junk, DenT.nth a 140 .junk, DenT.nth a 141 .junk, DenT.nth a 142 .junk, DenT.nth a 143 .junk, DenT.nth a 144 .junk, DenT.nth a 145 .junk, .sl 8 ((nth a 146 .junk).els.take k)] 146 (.sl 8 l) = [DenT.nth a 0 .junk, DenT.nth a 1 .junk, DenT.nth a 2 .junk, DenT.nth a 3 .junk, DenT.nth a 4 .junk, DenT.nth a 5 .junk, DenT.nth a 6 .junk, DenT.nth a 7 .junk, DenT.nth a 8 .junk, DenT.nth a 9 .junk, DenT.nth a 10 .junk, DenT.nth a 11 .junk, DenT.nth a 12 .junk, DenT.nth a 13 .junk, DenT.nth a 14 .junk, DenT.nth a 15 .junk, DenT.nth a 16 .junk, DenT.nth a 17 .junk, DenT.nth a 18 .junk, DenT.nth a 19 .junk, DenT.nth a 20 .junk, DenT.nth a 21 .junk, DenT.nth a 22 .junk, DenT.nth a 23 .junk, DenT.nth a 24 .junk, DenT.nth a 25 .junk, DenT.nth a 26 .junk, DenT.nth a 27 .junk, DenT.nth a 28 .junk, DenT.nth a 29 .junk, DenT.nth a 30 .junk, DenT.nth a 31 .junk, DenT.nth a 32 .junk, DenT.nth a 33 .junk, DenT.nth a 34 .junk, DenT.nth a 35 .junk, DenT.nth a 36 .junk, DenT.nth a 37 .junk, DenT.nth a 38 .junk, DenT.nth a 39 .junk, DenT.nth a 40 .junk, DenT.nth a 41 .junk, DenT.nth a 42 .junk, DenT.nth a 43 .junk, DenT.nth a 44 .junk, DenT.nth a 45 .junk, DenT.nth a 46 .junk, DenT.nth a 47 .junk, DenT.nth a 48 .junk, DenT.nth a 49 .junk, DenT.nth a 50 .junk, DenT.nth a 51 .junk, DenT.nth a 52 .junk, DenT.nth a 53 .junk, DenT.nth a 54 .junk, DenT.nth a 55 .junk, DenT.nth a 56 .junk, DenT.nth a 57 .junk, DenT.nth a 58 .junk, DenT.nth a 59 .junk, DenT.nth a 60 .junk, DenT.nth a 61 .junk, DenT.nth a 62 .junk, DenT.nth a 63 .junk, DenT.nth a 64 .junk, DenT.nth a 65 .junk, DenT.nth a 66 .junk, DenT.nth a 67 .junk, DenT.nth a 68 .junk, DenT.nth a 69 .junk, DenT.nth a 70 .junk, DenT.nth a 71 .junk, DenT.nth a 72 .junk, DenT.nth a 73 .junk, DenT.nth a 74 .junk, DenT.nth a 75 .junk, DenT.nth a 76 .junk, DenT.nth a 77 .junk, DenT.nth a 78 .junk, DenT.nth a 79 .junk, DenT.nth a 80 .junk, DenT.nth a 81 .junk, DenT.nth a 82 .junk, DenT.nth a 83 .junk, DenT.nth a 84 .junk, DenT.nth a 85 .junk, DenT.nth a 86 .junk, DenT.nth a 87 .junk, DenT.nth a 88 .junk, DenT.nth a 89 .junk, DenT.nth a 90 .junk, DenT.nth a 91 .junk, DenT.nth a 92 .junk, DenT.nth a 93 .junk, DenT.nth a 94 .junk, DenT.nth a 95 .junk, DenT.nth a 96 .junk, DenT.nth a 97 .junk, DenT.nth a 98 .junk, DenT.nth a 99 .junk, DenT.nth a 100 .junk, DenT.nth a 101 .junk, DenT.nth a 102 .junk, DenT.nth a 103 .junk, DenT.nth a 104 .junk, DenT.nth a 105 .junk, DenT.nth a 106 .junk, DenT.nth a 107 .junk, DenT.nth a 108 .junk, DenT.nth a 109 .junk, DenT.nth a 110 .junk, DenT.nth a 111 .junk, DenT.nth a 112 .junk, DenT.nth a 113 .junk, DenT.nth a 114 .junk, DenT.nth a 115 .junk, DenT.nth a 116 .junk, DenT.nth a 117 .junk, DenT.nth a 118 .junk, DenT.nth a 119 .junk, DenT.nth a 120 .junk, DenT.nth a 121 .junk, DenT.nth a 122 .junk, DenT.nth a 123 .junk, DenT.nth a 124 .junk, DenT.nth a 125 .junk, DenT.nth a 126 .junk, DenT.nth a 127 .junk, DenT.nth a 128 .junk, DenT.nth a 129 .junk, DenT.nth a 130 .junk, DenT.nth a 131 .junk, DenT.nth a 132 .junk, DenT.nth a 133 .junk, DenT.nth a 134 .junk, DenT.nth a 135 .junk, DenT.nth a 136 .junk, DenT.nth a 137 .junk, DenT.nth a 138 .junk, DenT.nth a 139 .junk, DenT.nth a 140 .junk, DenT.nth a 141 .junk, DenT.nth a 142 .junk, DenT.nth a 143 .junk, DenT.nth a 144 .junk, DenT.nth a 145 .junk, .sl 8 l] := fun _ => rfl
      have e3 : ∀ l, (AV.sl 8 l).isSl 8 = true := fun _ => rfl
      have e4 : ∀ l, (AV.sl 8 l).els = l := fun _ => rfl
      dsimp only
      simp only [e1, e2, e3, e4, run_lss, hk, decide_true, inb_true hk, Int.toNat_natCast, reqB_true, req_true, ha.isSl 146 8 csBlock rfl rfl (by decide), i_folkmootlaw16_To (N := N) (H := H) h1 hn hN hM, ok_pre, ok_out, show ((nth (nth a 146 .junk).els k []).length == 8) = true by rw [h1.len]; rfl, roomL_take _ k 96 _ hk hb', take_cat _ k hk, add_one (show k < 9223372036854775807 by omega)]
  rw [hx]
  simp only [show (a.length == 147) = true by rw [ha.len]; rfl, reqB_true, req_true, ok_pre, ok_out, ok_H]

theorem i_folkmootlaw3_Of {a : List AV} (ha : TyL n [.i .u64, .i .u64, .i .u64, .i .u64, .i .u64, .i .u64, .i .u64, .i .u64, .i .u64, .i .u64, .i .u64, .i .u64, .i .u64, .i .u64, .i .u64, .i .u64, .i .u64, .i .u64] a) (hN : 18 < N) : F_folkmootlaw3_Of N (a, ()) H = ok (a, ()) H := by
  unfold F_folkmootlaw3_Of
  dsimp only
  simp only [show (a.length == 18) = true by rw [ha.len]; rfl, reqB_true]
  generalize hr : iter _ _ N _ H = r
  have hx : r = ok ((), (), a, [AV.i .u64 0, AV.i .u64 0, AV.i .u64 0, AV.i .u64 0, AV.i .u64 0, AV.i .u64 0, AV.i .u64 0, AV.i .u64 0, AV.i .u64 0, AV.i .u64 0, AV.i .u64 0, AV.i .u64 0, AV.i .u64 0, AV.i .u64 0, AV.i .u64 0, AV.i .u64 0, AV.i .u64 0, AV.i .u64 0], a, ()) H := by
    rw [← hr]
    refine run_iter (fun k => ((), (), (), (k : Int), a, [AV.i .u64 0, AV.i .u64 0, AV.i .u64 0, AV.i .u64 0, AV.i .u64 0, AV.i .u64 0, AV.i .u64 0, AV.i .u64 0, AV.i .u64 0, AV.i .u64 0, AV.i .u64 0, AV.i .u64 0, AV.i .u64 0, AV.i .u64 0, AV.i .u64 0, AV.i .u64 0, AV.i .u64 0, AV.i .u64 0], ups a [AV.i .u64 0, AV.i .u64 0, AV.i .u64 0, AV.i .u64 0, AV.i .u64 0, AV.i .u64 0, AV.i .u64 0, AV.i .u64 0, AV.i .u64 0, AV.i .u64 0, AV.i .u64 0, AV.i .u64 0, AV.i .u64 0, AV.i .u64 0, AV.i .u64 0, AV.i .u64 0, AV.i .u64 0, AV.i .u64 0] k, ())) 18 _ (fun R => ?_) (fun R k hk => ?_) N (by omega)
    · have : ups a [AV.i .u64 0, AV.i .u64 0, AV.i .u64 0, AV.i .u64 0, AV.i .u64 0, AV.i .u64 0, AV.i .u64 0, AV.i .u64 0, AV.i .u64 0, AV.i .u64 0, AV.i .u64 0, AV.i .u64 0, AV.i .u64 0, AV.i .u64 0, AV.i .u64 0, AV.i .u64 0, AV.i .u64 0, AV.i .u64 0] 18 = a := Eq.trans rfl (sub_all a 18 ha.len)
      rw [this]
      rfl
    · dsimp only
      have hi : (nth a k .junk).isI .u64 = true := ha.isI k .u64 (ro_u64 k hk) hk
      have hv : AV.i .u64 (nth a k .junk).num = nth a k .junk := ha.val k .u64 (ro_u64 k hk) hk
      simp only [show COp.run (k : Int) 18 .lss = true by simp [COp.run]; omega, show inb (k : Int) 18 = true by simp [inb]; omega, Int.toNat_natCast, Nat.mul_one, Nat.zero_add, reqB_true, hk, decide_true, hi, Bool.and_self, hv, show k + 1 ≤ 18 by omega, add_one (show k < 9223372036854775807 by omega)]
      rfl
  rw [hx]
  simp [ha.len]

theorem i_folkmootlaw4_Of {a : List (List AV)} (ha : Rows n csW a) (hb : n * 8 ≤ room) (hN : n < N) (hM : N < 9223372036854775807) : F_folkmootlaw4_Of N (a, ()) H = ok (a, ()) H := by
  unfold F_folkmootlaw4_Of
  dsimp only
  have hl := ha.1
  have hb' : a.length * 8 ≤ room := Nat.le_trans (Nat.mul_le_mul_right 8 hl) hb
  generalize hr : iter _ _ N _ H = r
  have hx : r = ok (a, ()) H := by
    rw [← hr]
    refine run_iter (fun k => (a, a.take k, (k : Int), ())) a.length _ (fun R => ?_) (fun R k hk => ?_) N (by omega)
    · dsimp only
      simp only [run_lss, Nat.lt_irrefl, decide_false, List.take_length]
    · have h1 := ha.2 k hk
      have hv : [nth (nth a k []) 0 .junk] = nth a k [] := Eq.trans rfl (sub_all _ 1 h1.len)
      dsimp only
      simp only [run_lss, hk, decide_true, inb_true hk, Int.toNat_natCast, reqB_true, req_true, h1.isI 0 .u64 rfl (by decide), h1.val 0 .u64 rfl (by decide), hv, roomL_take a k 8 _ hk hb', take_cat a k hk, add_one (show k < 9223372036854775807 by omega)]
  rw [hx]
  simp

theorem i_folkmootlaw5_Of {a : List AV} (ha : TyL n csSig a) (hn : n ≤ 1000) (hN : 1000 < N) (hM : N < 9223372036854775807) : F_folkmootlaw5_Of N (a, ()) H = ok (a, ()) H := by
  unfold F_folkmootlaw5_Of
  dsimp only
  simp only [show (a.length == 21) = true by rw [ha.len]; rfl, reqB_true, req_true, ok_pre, ok_out, sub_len, beq_self_eq_true,
    ha.isI 0 .i64 rfl (by decide),
    ha.isI 1 .i64 rfl (by decide),
    ha.allI (o := 2) (m := 18) [.u64, .u64, .u64, .u64, .u64, .u64, .u64, .u64, .u64, .u64, .u64, .u64, .u64, .u64, .u64, .u64, .u64, .u64] rfl rfl,
    ha.isSl 20 1 csW rfl rfl (by decide),
    ha.val 0 .i64 rfl (by decide),
    ha.val 1 .i64 rfl (by decide),
    ha.slv 20 1 csW rfl rfl (by decide),
    i_folkmootlaw3_Of (N := N) (H := H) (ha.sub 2 18 rfl rfl) (by omega),
    i_folkmootlaw4_Of (N := N) (H := H) (ha.rows 20 csW rfl (by decide)) (by show n * 8 ≤ 140737488355328; omega) (by omega) hM]
  refine congrArg (fun x => ok (x, ()) H) (Eq.trans ?_ (sub_all a 21 ha.len))
  rfl

theorem i_folkmootlaw9_Of {a : List AV} (ha : TyL n csCmd a) (hn : n ≤ 1000) (hN : 1000 < N) (hM : N < 9223372036854775807) : F_folkmootlaw9_Of N (a, ()) H = ok (a, ()) H := by
  unfold F_folkmootlaw9_Of
  dsimp only
  simp only [show (a.length == 5) = true by rw [ha.len]; rfl, reqB_true, req_true, ok_pre, ok_out, sub_len, beq_self_eq_true,
    ha.isI 0 .i64 rfl (by decide),
    ha.isI 1 .i64 rfl (by decide),
    ha.isI 2 .i64 rfl (by decide),
    ha.isI 3 .i64 rfl (by decide),
    ha.isI 4 .i64 rfl (by decide),
    ha.val 0 .i64 rfl (by decide),
    ha.val 1 .i64 rfl (by decide),
    ha.val 2 .i64 rfl (by decide),
    ha.val 3 .i64 rfl (by decide),
    ha.val 4 .i64 rfl (by decide)]
  refine congrArg (fun x => ok (x, ()) H) (Eq.trans ?_ (sub_all a 5 ha.len))
  rfl

theorem i_folkmootlaw11_Of {a : List AV} (ha : TyL n csStamp a) (hn : n ≤ 1000) (hN : 1000 < N) (hM : N < 9223372036854775807) : F_folkmootlaw11_Of N (a, ()) H = ok (a, ()) H := by
  unfold F_folkmootlaw11_Of
  dsimp only
  simp only [show (a.length == 24) = true by rw [ha.len]; rfl, reqB_true, req_true, ok_pre, ok_out, sub_len, beq_self_eq_true,
    ha.isI 0 .u64 rfl (by decide),
    ha.isI 1 .i64 rfl (by decide),
    ha.isI 2 .i64 rfl (by decide),
    ha.val 0 .u64 rfl (by decide),
    ha.val 1 .i64 rfl (by decide),
    ha.val 2 .i64 rfl (by decide),
    i_folkmootlaw5_Of (N := N) (H := H) (ha.sub (ds := csSig) 3 21 rfl rfl) hn hN hM]
  refine congrArg (fun x => ok (x, ()) H) (Eq.trans ?_ (sub_all a 24 ha.len))
  rfl

theorem i_folkmootlaw11_OfAll {a : List (List AV)} (ha : Rows n csStamp a) (hn : n ≤ 1000) (hN : 1000 < N) (hM : N < 9223372036854775807) : F_folkmootlaw11_OfAll N (a, ()) H = ok (a, ()) H :=
  copyAll (G := F_folkmootlaw11_Of N) (z := 24) (b := 208) ha rfl (fun x hx => i_folkmootlaw11_Of hx hn hN hM) (by show n * 208 ≤ 140737488355328; omega) (by omega) hM

theorem i_folkmootlaw12_Of {a : List AV} (ha : TyL n csCert a) (hn : n ≤ 1000) (hN : 1000 < N) (hM : N < 9223372036854775807) : F_folkmootlaw12_Of N (a, ()) H = ok (a, ()) H := by
  unfold F_folkmootlaw12_Of
  dsimp only
  simp only [show (a.length == 6) = true by rw [ha.len]; rfl, reqB_true, req_true, ok_pre, ok_out, sub_len, beq_self_eq_true,
    ha.allI (o := 0) (m := 5) [.i64, .i64, .i64, .i64, .i64] rfl rfl,
    ha.isSl 5 24 csStamp rfl rfl (by decide),
    ha.slv 5 24 csStamp rfl rfl (by decide),
    i_folkmootlaw9_Of (N := N) (H := H) (ha.sub (ds := csCmd) 0 5 rfl rfl) hn hN hM,
    i_folkmootlaw11_OfAll (N := N) (H := H) (ha.rows 5 csStamp rfl (by decide)) hn hN hM]
  refine congrArg (fun x => ok (x, ()) H) (Eq.trans ?_ (sub_all a 6 ha.len))
  rfl

theorem i_folkmootlaw14_Of {a : List AV} (ha : TyL n csAck a) (hn : n ≤ 1000) (hN : 1000 < N) (hM : N < 9223372036854775807) : F_folkmootlaw14_Of N (a, ()) H = ok (a, ()) H := by
  unfold F_folkmootlaw14_Of
  dsimp only
  simp only [show (a.length == 23) = true by rw [ha.len]; rfl, reqB_true, req_true, ok_pre, ok_out, sub_len, beq_self_eq_true,
    ha.isI 0 .u64 rfl (by decide),
    ha.isI 1 .i64 rfl (by decide),
    ha.val 0 .u64 rfl (by decide),
    ha.val 1 .i64 rfl (by decide),
    i_folkmootlaw5_Of (N := N) (H := H) (ha.sub (ds := csSig) 2 21 rfl rfl) hn hN hM]
  refine congrArg (fun x => ok (x, ()) H) (Eq.trans ?_ (sub_all a 23 ha.len))
  rfl

theorem i_folkmootlaw12_OfAll {a : List (List AV)} (ha : Rows n csCert a) (hn : n ≤ 1000) (hN : 1000 < N) (hM : N < 9223372036854775807) : F_folkmootlaw12_OfAll N (a, ()) H = ok (a, ()) H :=
  copyAll (G := F_folkmootlaw12_Of N) (z := 6) (b := 64) ha rfl (fun x hx => i_folkmootlaw12_Of hx hn hN hM) (by show n * 64 ≤ 140737488355328; omega) (by omega) hM

theorem i_folkmootlaw15_Of {a : List AV} (ha : TyL n csReport a) (hn : n ≤ 1000) (hN : 1000 < N) (hM : N < 9223372036854775807) : F_folkmootlaw15_Of N (a, ()) H = ok (a, ()) H := by
  unfold F_folkmootlaw15_Of
  dsimp only
  simp only [show (a.length == 25) = true by rw [ha.len]; rfl, reqB_true, req_true, ok_pre, ok_out, sub_len, beq_self_eq_true,
    ha.isI 0 .i64 rfl (by decide),
    ha.isI 1 .i64 rfl (by decide),
    ha.isI 2 .i64 rfl (by decide),
    ha.isSl 3 6 csCert rfl rfl (by decide),
    ha.val 0 .i64 rfl (by decide),
    ha.val 1 .i64 rfl (by decide),
    ha.val 2 .i64 rfl (by decide),
    ha.slv 3 6 csCert rfl rfl (by decide),
    i_folkmootlaw12_OfAll (N := N) (H := H) (ha.rows 3 csCert rfl (by decide)) hn hN hM,
    i_folkmootlaw5_Of (N := N) (H := H) (ha.sub (ds := csSig) 4 21 rfl rfl) hn hN hM]
  refine congrArg (fun x => ok (x, ()) H) (Eq.trans ?_ (sub_all a 25 ha.len))
  rfl

theorem i_folkmootlaw16_OfVote {a : List AV} (ha : TyL n csVote a) (hn : n ≤ 1000) (hN : 1000 < N) (hM : N < 9223372036854775807) : F_folkmootlaw16_OfVote N (a, ()) H = ok (a, ()) H := by
  unfold F_folkmootlaw16_OfVote
  dsimp only
  simp only [show (a.length == 24) = true by rw [ha.len]; rfl, reqB_true, req_true, ok_pre, ok_out, sub_len, beq_self_eq_true,
    ha.isI 0 .i64 rfl (by decide),
    ha.isI 1 .u64 rfl (by decide),
    ha.isI 2 .i64 rfl (by decide),
    ha.val 0 .i64 rfl (by decide),
    ha.val 1 .u64 rfl (by decide),
    ha.val 2 .i64 rfl (by decide),
    i_folkmootlaw5_Of (N := N) (H := H) (ha.sub (ds := csSig) 3 21 rfl rfl) hn hN hM]
  refine congrArg (fun x => ok (x, ()) H) (Eq.trans ?_ (sub_all a 24 ha.len))
  rfl

theorem i_folkmootlaw16_OfQC {a : List AV} (ha : TyL n csQC a) (hn : n ≤ 1000) (hN : 1000 < N) (hM : N < 9223372036854775807) : F_folkmootlaw16_OfQC N (a, ()) H = ok (a, ()) H := by
  unfold F_folkmootlaw16_OfQC
  dsimp only
  have ra := ha.rows 2 csVote rfl (by decide)
  have hl := ra.1
  have hb' : (nth a 2 .junk).els.length * 208 ≤ room := Nat.le_trans (Nat.mul_le_mul_right 208 hl) (by show n * 208 ≤ 140737488355328; omega)
  simp only [show (a.length == 3) = true by rw [ha.len]; rfl, reqB_true, req_true, ok_pre, ok_out, sub_len, beq_self_eq_true,
    ha.isI 0 .i64 rfl (by decide),
    ha.isI 1 .u64 rfl (by decide),
    ha.isSl 2 24 csVote rfl rfl (by decide),
    ha.val 0 .i64 rfl (by decide),
    ha.val 1 .u64 rfl (by decide)]
  generalize hr : iter _ _ N _ H = r
  have hx : r = ok ((), (), a, [AV.i .i64 0, AV.i .u64 0, AV.sl 24 []], a, ()) H := by
    rw [← hr]
    refine run_iter (fun k => ((), (), (), (k : Int), a, [AV.i .i64 0, AV.i .u64 0, AV.sl 24 []], [DenT.nth a 0 .junk, DenT.nth a 1 .junk, .sl 24 ((nth a 2 .junk).els.take k)], ())) (nth a 2 .junk).els.length _ (fun R => ?_) (fun R k hk => ?_) N (by omega)
    · dsimp only
      simp only [run_lss, Nat.lt_irrefl, decide_false, ha.isSl 2 24 csVote rfl rfl (by decide), reqB_true, List.take_length, ha.slv 2 24 csVote rfl rfl (by decide)]
      have e0 : [DenT.nth a 0 .junk, DenT.nth a 1 .junk, DenT.nth a 2 .junk] = a := Eq.trans rfl (sub_all a 3 ha.len)
      rw [e0]
    · have h1 := ra.2 k hk
      have e1 : nth [DenT.nth a 0 .junk, DenT.nth a 1 .junk, .sl 24 ((nth a 2 .junk).els.take k)] 2 .junk = .sl 24 ((nth a 2 .junk).els.take k) := rfl
      have e2 : ∀ l, upd [DenT.nth a 0 .junk, DenT.nth a 1 .junk, .sl 24 ((nth a 2 .junk).els.take k)] 2 (.sl 24 l) = [DenT.nth a 0 .junk, DenT.nth a 1 .junk, .sl 24 l] := fun _ => rfl
      have e3 : ∀ l, (AV.sl 24 l).isSl 24 = true := fun _ => rfl
      have e4 : ∀ l, (AV.sl 24 l).els = l := fun _ => rfl
      dsimp only
      simp only [e1, e2, e3, e4, run_lss, hk, decide_true, inb_true hk, Int.toNat_natCast, reqB_true, req_true, ha.isSl 2 24 csVote rfl rfl (by decide), i_folkmootlaw16_OfVote (N := N) (H := H) h1 hn hN hM, ok_pre, ok_out, show ((nth (nth a 2 .junk).els k []).length == 24) = true by rw [h1.len]; rfl, roomL_take _ k 208 _ hk hb', take_cat _ k hk, add_one (show k < 9223372036854775807 by omega)]
  rw [hx]
  simp only [show (a.length == 3) = true by rw [ha.len]; rfl, reqB_true, req_true, ok_pre, ok_out, ok_H]

theorem i_folkmootlaw15_OfAll {a : List (List AV)} (ha : Rows n csReport a) (hn : n ≤ 1000) (hN : 1000 < N) (hM : N < 9223372036854775807) : F_folkmootlaw15_OfAll N (a, ()) H = ok (a, ()) H :=
  copyAll (G := F_folkmootlaw15_Of N) (z := 25) (b := 232) ha rfl (fun x hx => i_folkmootlaw15_Of hx hn hN hM) (by show n * 232 ≤ 140737488355328; omega) (by omega) hM

theorem i_folkmootlaw16_Of {a : List AV} (ha : TyL n csBlock a) (hn : n ≤ 1000) (hN : 1000 < N) (hM : N < 9223372036854775807) : F_folkmootlaw16_Of N (a, ()) H = ok (a, ()) H := by
  unfold F_folkmootlaw16_Of
  dsimp only
  simp only [show (a.length == 8) = true by rw [ha.len]; rfl, reqB_true, req_true, ok_pre, ok_out, sub_len, beq_self_eq_true,
    ha.isI 0 .i64 rfl (by decide),
    ha.isI 1 .u64 rfl (by decide),
    ha.isI 5 .i64 rfl (by decide),
    ha.isI 6 .i64 rfl (by decide),
    ha.isSl 7 25 csReport rfl rfl (by decide),
    ha.val 0 .i64 rfl (by decide),
    ha.val 1 .u64 rfl (by decide),
    ha.val 5 .i64 rfl (by decide),
    ha.val 6 .i64 rfl (by decide),
    ha.slv 7 25 csReport rfl rfl (by decide),
    i_folkmootlaw16_OfQC (N := N) (H := H) (ha.sub (ds := csQC) 2 3 rfl rfl) hn hN hM,
    i_folkmootlaw15_OfAll (N := N) (H := H) (ha.rows 7 csReport rfl (by decide)) hn hN hM]
  refine congrArg (fun x => ok (x, ()) H) (Eq.trans ?_ (sub_all a 8 ha.len))
  rfl

theorem i_folkmootlaw19_Of {a : List AV} (ha : TyL n csView a) (hn : n ≤ 1000) (hN : 1000 < N) (hM : N < 9223372036854775807) : F_folkmootlaw19_Of N (a, ()) H = ok (a, ()) H := by
  unfold F_folkmootlaw19_Of
  dsimp only
  simp only [show (a.length == 26) = true by rw [ha.len]; rfl, reqB_true, req_true, ok_pre, ok_out, sub_len, beq_self_eq_true,
    ha.isI 0 .i64 rfl (by decide),
    ha.isI 1 .i64 rfl (by decide),
    ha.val 0 .i64 rfl (by decide),
    ha.val 1 .i64 rfl (by decide),
    i_folkmootlaw16_OfQC (N := N) (H := H) (ha.sub (ds := csQC) 2 3 rfl rfl) hn hN hM,
    i_folkmootlaw5_Of (N := N) (H := H) (ha.sub (ds := csSig) 5 21 rfl rfl) hn hN hM]
  refine congrArg (fun x => ok (x, ()) H) (Eq.trans ?_ (sub_all a 26 ha.len))
  rfl

theorem i_folkmootlaw22_Of {a : List AV} (ha : TyL n csMsg a) (hn : n ≤ 1000) (hN : 1000 < N) (hM : N < 9223372036854775807) : F_folkmootlaw22_Of N (a, ()) H = ok (a, ()) H := by
  unfold F_folkmootlaw22_Of
  dsimp only
  have ra := ha.rows 146 csBlock rfl (by decide)
  have hl := ra.1
  have hb' : (nth a 146 .junk).els.length * 96 ≤ room := Nat.le_trans (Nat.mul_le_mul_right 96 hl) (by show n * 96 ≤ 140737488355328; omega)
  simp only [show (a.length == 147) = true by rw [ha.len]; rfl, reqB_true, req_true, ok_pre, ok_out, sub_len, beq_self_eq_true,
    ha.isI 0 .i64 rfl (by decide),
    ha.isI 1 .i64 rfl (by decide),
    ha.isI 2 .i64 rfl (by decide),
    ha.allI (o := 3) (m := 5) [.i64, .i64, .i64, .i64, .i64] rfl rfl,
    ha.isI 61 .i64 rfl (by decide),
    ha.isI 62 .i64 rfl (by decide),
    ha.isSl 146 8 csBlock rfl rfl (by decide),
    ha.val 0 .i64 rfl (by decide),
    ha.val 1 .i64 rfl (by decide),
    ha.val 2 .i64 rfl (by decide),
    ha.val 61 .i64 rfl (by decide),
    ha.val 62 .i64 rfl (by decide),
    i_folkmootlaw9_Of (N := N) (H := H) (ha.sub (ds := csCmd) 3 5 rfl rfl) hn hN hM,
    i_folkmootlaw11_Of (N := N) (H := H) (ha.sub (ds := csStamp) 8 24 rfl rfl) hn hN hM,
    i_folkmootlaw12_Of (N := N) (H := H) (ha.sub (ds := csCert) 32 6 rfl rfl) hn hN hM,
    i_folkmootlaw14_Of (N := N) (H := H) (ha.sub (ds := csAck) 38 23 rfl rfl) hn hN hM,
    i_folkmootlaw15_Of (N := N) (H := H) (ha.sub (ds := csReport) 63 25 rfl rfl) hn hN hM,
    i_folkmootlaw16_Of (N := N) (H := H) (ha.sub (ds := csBlock) 88 8 rfl rfl) hn hN hM,
    i_folkmootlaw16_OfVote (N := N) (H := H) (ha.sub (ds := csVote) 96 24 rfl rfl) hn hN hM,
    i_folkmootlaw19_Of (N := N) (H := H) (ha.sub (ds := csView) 120 26 rfl rfl) hn hN hM]
  generalize hr : iter _ _ N _ H = r
  have hx : r = ok ((), (), a, [AV.i .i64 0, AV.i .i64 0, AV.i .i64 0, AV.i .i64 0, AV.i .i64 0, AV.i .i64 0, AV.i .i64 0, AV.i .i64 0, AV.i .u64 0, AV.i .i64 0, AV.i .i64 0, AV.i .i64 0, AV.i .i64 0, AV.i .u64 0, AV.i .u64 0, AV.i .u64 0, AV.i .u64 0, AV.i .u64 0, AV.i .u64 0, AV.i .u64 0, AV.i .u64 0, AV.i .u64 0, AV.i .u64 0, AV.i .u64 0, AV.i .u64 0, AV.i .u64 0, AV.i .u64 0, AV.i .u64 0, AV.i .u64 0, AV.i .u64 0, AV.i .u64 0, AV.sl 1 [], AV.i .i64 0, AV.i .i64 0, AV.i .i64 0, AV.i .i64 0, AV.i .i64 0, AV.sl 24 [], AV.i .u64 0, AV.i .i64 0, AV.i .i64 0, AV.i .i64 0, AV.i .u64 0, AV.i .u64 0, AV.i .u64 0, AV.i .u64 0, AV.i .u64 0, AV.i .u64 0, AV.i .u64 0, AV.i .u64 0, AV.i .u64 0, AV.i .u64 0, AV.i .u64 0, AV.i .u64 0, AV.i .u64 0, AV.i .u64 0, AV.i .u64 0, AV.i .u64 0, AV.i .u64 0, AV.i .u64 0, AV.sl 1 [], AV.i .i64 0, AV.i .i64 0, AV.i .i64 0, AV.i .i64 0, AV.i .i64 0, AV.sl 6 [], AV.i .i64 0, AV.i .i64 0, AV.i .u64 0, AV.i .u64 0, AV.i .u64 0, AV.i .u64 0, AV.i .u64 0, AV.i .u64 0, AV.i .u64 0, AV.i .u64 0, AV.i .u64 0, AV.i .u64 0, AV.i .u64 0, AV.i .u64 0, AV.i .u64 0, AV.i .u64 0, AV.i .u64 0, AV.i .u64 0, AV.i .u64 0, AV.i .u64 0, AV.sl 1 [], AV.i .i64 0, AV.i .u64 0, AV.i .i64 0, AV.i .u64 0, AV.sl 24 [], AV.i .i64 0, AV.i .i64 0, AV.sl 25 [], AV.i .i64 0, AV.i .u64 0, AV.i .i64 0, AV.i .i64 0, AV.i .i64 0, AV.i .u64 0, AV.i .u64 0, AV.i .u64 0, AV.i .u64 0, AV.i .u64 0, AV.i .u64 0, AV.i .u64 0, AV.i .u64 0, AV.i .u64 0, AV.i .u64 0, AV.i .u64 0, AV.i .u64 0, AV.i .u64 0, AV.i .u64 0, AV.i .u64 0, AV.i .u64 0, AV.i .u64 0, AV.i .u64 0, AV.sl 1 [], AV.i .i64 0, AV.i .i64 0, AV.i .i64 0, AV.i .u64 0, AV.sl 24 [], AV.i .i64 0, AV.i .i64 0, AV.i .u64 0, AV.i .u64 0, AV.i .u64 0, AV.i .u64 0, AV.i .u64 0, AV.i .u64 0, AV.i .u64 0, AV.i .u64 0, AV.i .u64 0, AV.i .u64 0, AV.i .u64 0, AV.i .u64 0, AV.i .u64 0, AV.i .u64 0, AV.i .u64 0, AV.i .u64 0, AV.i .u64 0, AV.i .u64 0, AV.sl 1 [], AV.sl 8 []], a, ()) H := by
    rw [← hr]
    refine run_iter (fun k => ((), (), (), (k : Int), a, [AV.i .i64 0, AV.i .i64 0, AV.i .i64 0, AV.i .i64 0, AV.i .i64 0, AV.i .i64 0, AV.i .i64 0, AV.i .i64 0, AV.i .u64 0, AV.i .i64 0, AV.i .i64 0, AV.i .i64 0, AV.i .i64 0, AV.i .u64 0, AV.i .u64 0, AV.i .u64 0, AV.i .u64 0, AV.i .u64 0, AV.i .u64 0, AV.i .u64 0, AV.i .u64 0, AV.i .u64 0, AV.i .u64 0, AV.i .u64 0, AV.i .u64 0, AV.i .u64 0, AV.i .u64 0, AV.i .u64 0, AV.i .u64 0, AV.i .u64 0, AV.i .u64 0, AV.sl 1 [], AV.i .i64 0, AV.i .i64 0, AV.i .i64 0, AV.i .i64 0, AV.i .i64 0, AV.sl 24 [], AV.i .u64 0, AV.i .i64 0, AV.i .i64 0, AV.i .i64 0, AV.i .u64 0, AV.i .u64 0, AV.i .u64 0, AV.i .u64 0, AV.i .u64 0, AV.i .u64 0, AV.i .u64 0, AV.i .u64 0, AV.i .u64 0, AV.i .u64 0, AV.i .u64 0, AV.i .u64 0, AV.i .u64 0, AV.i .u64 0, AV.i .u64 0, AV.i .u64 0, AV.i .u64 0, AV.i .u64 0, AV.sl 1 [], AV.i .i64 0, AV.i .i64 0, AV.i .i64 0, AV.i .i64 0, AV.i .i64 0, AV.sl 6 [], AV.i .i64 0, AV.i .i64 0, AV.i .u64 0, AV.i .u64 0, AV.i .u64 0, AV.i .u64 0, AV.i .u64 0, AV.i .u64 0, AV.i .u64 0, AV.i .u64 0, AV.i .u64 0, AV.i .u64 0, AV.i .u64 0, AV.i .u64 0, AV.i .u64 0, AV.i .u64 0, AV.i .u64 0, AV.i .u64 0, AV.i .u64 0, AV.i .u64 0, AV.sl 1 [], AV.i .i64 0, AV.i .u64 0, AV.i .i64 0, AV.i .u64 0, AV.sl 24 [], AV.i .i64 0, AV.i .i64 0, AV.sl 25 [], AV.i .i64 0, AV.i .u64 0, AV.i .i64 0, AV.i .i64 0, AV.i .i64 0, AV.i .u64 0, AV.i .u64 0, AV.i .u64 0, AV.i .u64 0, AV.i .u64 0, AV.i .u64 0, AV.i .u64 0, AV.i .u64 0, AV.i .u64 0, AV.i .u64 0, AV.i .u64 0, AV.i .u64 0, AV.i .u64 0, AV.i .u64 0, AV.i .u64 0, AV.i .u64 0, AV.i .u64 0, AV.i .u64 0, AV.sl 1 [], AV.i .i64 0, AV.i .i64 0, AV.i .i64 0, AV.i .u64 0, AV.sl 24 [], AV.i .i64 0, AV.i .i64 0, AV.i .u64 0, AV.i .u64 0, AV.i .u64 0, AV.i .u64 0, AV.i .u64 0, AV.i .u64 0, AV.i .u64 0, AV.i .u64 0, AV.i .u64 0, AV.i .u64 0, AV.i .u64 0, AV.i .u64 0, AV.i .u64 0, AV.i .u64 0, AV.i .u64 0, AV.i .u64 0, AV.i .u64 0, AV.i .u64 0, AV.sl 1 [], AV.sl 8 []], [DenT.nth a 0 .junk, DenT.nth a 1 .junk, DenT.nth a 2 .junk, DenT.nth a 3 .junk, DenT.nth a 4 .junk, DenT.nth a 5 .junk, DenT.nth a 6 .junk, DenT.nth a 7 .junk, DenT.nth a 8 .junk, DenT.nth a 9 .junk, DenT.nth a 10 .junk, DenT.nth a 11 .junk, DenT.nth a 12 .junk, DenT.nth a 13 .junk, DenT.nth a 14 .junk, DenT.nth a 15 .junk, DenT.nth a 16 .junk, DenT.nth a 17 .junk, DenT.nth a 18 .junk, DenT.nth a 19 .junk, DenT.nth a 20 .junk, DenT.nth a 21 .junk, DenT.nth a 22 .junk, DenT.nth a 23 .junk, DenT.nth a 24 .junk, DenT.nth a 25 .junk, DenT.nth a 26 .junk, DenT.nth a 27 .junk, DenT.nth a 28 .junk, DenT.nth a 29 .junk, DenT.nth a 30 .junk, DenT.nth a 31 .junk, DenT.nth a 32 .junk, DenT.nth a 33 .junk, DenT.nth a 34 .junk, DenT.nth a 35 .junk, DenT.nth a 36 .junk, DenT.nth a 37 .junk, DenT.nth a 38 .junk, DenT.nth a 39 .junk, DenT.nth a 40 .junk, DenT.nth a 41 .junk, DenT.nth a 42 .junk, DenT.nth a 43 .junk, DenT.nth a 44 .junk, DenT.nth a 45 .junk, DenT.nth a 46 .junk, DenT.nth a 47 .junk, DenT.nth a 48 .junk, DenT.nth a 49 .junk, DenT.nth a 50 .junk, DenT.nth a 51 .junk, DenT.nth a 52 .junk, DenT.nth a 53 .junk, DenT.nth a 54 .junk, DenT.nth a 55 .junk, DenT.nth a 56 .junk, DenT.nth a 57 .junk, DenT.nth a 58 .junk, DenT.nth a 59 .junk, DenT.nth a 60 .junk, DenT.nth a 61 .junk, DenT.nth a 62 .junk, DenT.nth a 63 .junk, DenT.nth a 64 .junk, DenT.nth a 65 .junk, DenT.nth a 66 .junk, DenT.nth a 67 .junk, DenT.nth a 68 .junk, DenT.nth a 69 .junk, DenT.nth a 70 .junk, DenT.nth a 71 .junk, DenT.nth a 72 .junk, DenT.nth a 73 .junk, DenT.nth a 74 .junk, DenT.nth a 75 .junk, DenT.nth a 76 .junk, DenT.nth a 77 .junk, DenT.nth a 78 .junk, DenT.nth a 79 .junk, DenT.nth a 80 .junk, DenT.nth a 81 .junk, DenT.nth a 82 .junk, DenT.nth a 83 .junk, DenT.nth a 84 .junk, DenT.nth a 85 .junk, DenT.nth a 86 .junk, DenT.nth a 87 .junk, DenT.nth a 88 .junk, DenT.nth a 89 .junk, DenT.nth a 90 .junk, DenT.nth a 91 .junk, DenT.nth a 92 .junk, DenT.nth a 93 .junk, DenT.nth a 94 .junk, DenT.nth a 95 .junk, DenT.nth a 96 .junk, DenT.nth a 97 .junk, DenT.nth a 98 .junk, DenT.nth a 99 .junk, DenT.nth a 100 .junk, DenT.nth a 101 .junk, DenT.nth a 102 .junk, DenT.nth a 103 .junk, DenT.nth a 104 .junk, DenT.nth a 105 .junk, DenT.nth a 106 .junk, DenT.nth a 107 .junk, DenT.nth a 108 .junk, DenT.nth a 109 .junk, DenT.nth a 110 .junk, DenT.nth a 111 .junk, DenT.nth a 112 .junk, DenT.nth a 113 .junk, DenT.nth a 114 .junk, DenT.nth a 115 .junk, DenT.nth a 116 .junk, DenT.nth a 117 .junk, DenT.nth a 118 .junk, DenT.nth a 119 .junk, DenT.nth a 120 .junk, DenT.nth a 121 .junk, DenT.nth a 122 .junk, DenT.nth a 123 .junk, DenT.nth a 124 .junk, DenT.nth a 125 .junk, DenT.nth a 126 .junk, DenT.nth a 127 .junk, DenT.nth a 128 .junk, DenT.nth a 129 .junk, DenT.nth a 130 .junk, DenT.nth a 131 .junk, DenT.nth a 132 .junk, DenT.nth a 133 .junk, DenT.nth a 134 .junk, DenT.nth a 135 .junk, DenT.nth a 136 .junk, DenT.nth a 137 .junk, DenT.nth a 138 .junk, DenT.nth a 139 .junk, DenT.nth a 140 .junk, DenT.nth a 141 .junk, DenT.nth a 142 .junk, DenT.nth a 143 .junk, DenT.nth a 144 .junk, DenT.nth a 145 .junk, .sl 8 ((nth a 146 .junk).els.take k)], ())) (nth a 146 .junk).els.length _ (fun R => ?_) (fun R k hk => ?_) N (by omega)
    · dsimp only
      simp only [run_lss, Nat.lt_irrefl, decide_false, ha.isSl 146 8 csBlock rfl rfl (by decide), reqB_true, List.take_length, ha.slv 146 8 csBlock rfl rfl (by decide)]
      have e0 : [DenT.nth a 0 .junk, DenT.nth a 1 .junk, DenT.nth a 2 .junk, DenT.nth a 3 .junk, DenT.nth a 4 .junk, DenT.nth a 5 .junk, DenT.nth a 6 .junk, DenT.nth a 7 .junk, DenT.nth a 8 .junk, DenT.nth a 9 .junk, DenT.nth a 10 .junk, DenT.nth a 11 .junk, DenT.nth a 12 .junk, DenT.nth a 13 .junk, DenT.nth a 14 .junk, DenT.nth a 15 .junk, DenT.nth a 16 .junk, DenT.nth a 17 .junk, DenT.nth a 18 .junk, DenT.nth a 19 .junk, DenT.nth a 20 .junk, DenT.nth a 21 .junk, DenT.nth a 22 .junk, DenT.nth a 23 .junk, DenT.nth a 24 .junk, DenT.nth a 25 .junk, DenT.nth a 26 .junk, DenT.nth a 27 .junk, DenT.nth a 28 .junk, DenT.nth a 29 .junk, DenT.nth a 30 .junk, DenT.nth a 31 .junk, DenT.nth a 32 .junk, DenT.nth a 33 .junk, DenT.nth a 34 .junk, DenT.nth a 35 .junk, DenT.nth a 36 .junk, DenT.nth a 37 .junk, DenT.nth a 38 .junk, DenT.nth a 39 .junk, DenT.nth a 40 .junk, DenT.nth a 41 .junk, DenT.nth a 42 .junk, DenT.nth a 43 .junk, DenT.nth a 44 .junk, DenT.nth a 45 .junk, DenT.nth a 46 .junk, DenT.nth a 47 .junk, DenT.nth a 48 .junk, DenT.nth a 49 .junk, DenT.nth a 50 .junk, DenT.nth a 51 .junk, DenT.nth a 52 .junk, DenT.nth a 53 .junk, DenT.nth a 54 .junk, DenT.nth a 55 .junk, DenT.nth a 56 .junk, DenT.nth a 57 .junk, DenT.nth a 58 .junk, DenT.nth a 59 .junk, DenT.nth a 60 .junk, DenT.nth a 61 .junk, DenT.nth a 62 .junk, DenT.nth a 63 .junk, DenT.nth a 64 .junk, DenT.nth a 65 .junk, DenT.nth a 66 .junk, DenT.nth a 67 .junk, DenT.nth a 68 .junk, DenT.nth a 69 .junk, DenT.nth a 70 .junk, DenT.nth a 71 .junk, DenT.nth a 72 .junk, DenT.nth a 73 .junk, DenT.nth a 74 .junk, DenT.nth a 75 .junk, DenT.nth a 76 .junk, DenT.nth a 77 .junk, DenT.nth a 78 .junk, DenT.nth a 79 .junk, DenT.nth a 80 .junk, DenT.nth a 81 .junk, DenT.nth a 82 .junk, DenT.nth a 83 .junk, DenT.nth a 84 .junk, DenT.nth a 85 .junk, DenT.nth a 86 .junk, DenT.nth a 87 .junk, DenT.nth a 88 .junk, DenT.nth a 89 .junk, DenT.nth a 90 .junk, DenT.nth a 91 .junk, DenT.nth a 92 .junk, DenT.nth a 93 .junk, DenT.nth a 94 .junk, DenT.nth a 95 .junk, DenT.nth a 96 .junk, DenT.nth a 97 .junk, DenT.nth a 98 .junk, DenT.nth a 99 .junk, DenT.nth a 100 .junk, DenT.nth a 101 .junk, DenT.nth a 102 .junk, DenT.nth a 103 .junk, DenT.nth a 104 .junk, DenT.nth a 105 .junk, DenT.nth a 106 .junk, DenT.nth a 107 .junk, DenT.nth a 108 .junk, DenT.nth a 109 .junk, DenT.nth a 110 .junk, DenT.nth a 111 .junk, DenT.nth a 112 .junk, DenT.nth a 113 .junk, DenT.nth a 114 .junk, DenT.nth a 115 .junk, DenT.nth a 116 .junk, DenT.nth a 117 .junk, DenT.nth a 118 .junk, DenT.nth a 119 .junk, DenT.nth a 120 .junk, DenT.nth a 121 .junk, DenT.nth a 122 .junk, DenT.nth a 123 .junk, DenT.nth a 124 .junk, DenT.nth a 125 .junk, DenT.nth a 126 .junk, DenT.nth a 127 .junk, DenT.nth a 128 .junk, DenT.nth a 129 .junk, DenT.nth a 130 .junk, DenT.nth a 131 .junk, DenT.nth a 132 .junk, DenT.nth a 133 .junk, DenT.nth a 134 .junk, DenT.nth a 135 .junk, DenT.nth a 136 .junk, DenT.nth a 137 .junk, DenT.nth a 138 .junk, DenT.nth a 139 .junk, DenT.nth a 140 .junk, DenT.nth a 141 .junk, DenT.nth a 142 .junk, DenT.nth a 143 .junk, DenT.nth a 144 .junk, DenT.nth a 145 .junk, DenT.nth a 146 .junk] = a := Eq.trans rfl (sub_all a 147 ha.len)
      rw [e0]
    · have h1 := ra.2 k hk
      have e1 : nth [DenT.nth a 0 .junk, DenT.nth a 1 .junk, DenT.nth a 2 .junk, DenT.nth a 3 .junk, DenT.nth a 4 .junk, DenT.nth a 5 .junk, DenT.nth a 6 .junk, DenT.nth a 7 .junk, DenT.nth a 8 .junk, DenT.nth a 9 .junk, DenT.nth a 10 .junk, DenT.nth a 11 .junk, DenT.nth a 12 .junk, DenT.nth a 13 .junk, DenT.nth a 14 .junk, DenT.nth a 15 .junk, DenT.nth a 16 .junk, DenT.nth a 17 .junk, DenT.nth a 18 .junk, DenT.nth a 19 .junk, DenT.nth a 20 .junk, DenT.nth a 21 .junk, DenT.nth a 22 .junk, DenT.nth a 23 .junk, DenT.nth a 24 .junk, DenT.nth a 25 .junk, DenT.nth a 26 .junk, DenT.nth a 27 .junk, DenT.nth a 28 .junk, DenT.nth a 29 .junk, DenT.nth a 30 .junk, DenT.nth a 31 .junk, DenT.nth a 32 .junk, DenT.nth a 33 .junk, DenT.nth a 34 .junk, DenT.nth a 35 .junk, DenT.nth a 36 .junk, DenT.nth a 37 .junk, DenT.nth a 38 .junk, DenT.nth a 39 .junk, DenT.nth a 40 .junk, DenT.nth a 41 .junk, DenT.nth a 42 .junk, DenT.nth a 43 .junk, DenT.nth a 44 .junk, DenT.nth a 45 .junk, DenT.nth a 46 .junk, DenT.nth a 47 .junk, DenT.nth a 48 .junk, DenT.nth a 49 .junk, DenT.nth a 50 .junk, DenT.nth a 51 .junk, DenT.nth a 52 .junk, DenT.nth a 53 .junk, DenT.nth a 54 .junk, DenT.nth a 55 .junk, DenT.nth a 56 .junk, DenT.nth a 57 .junk, DenT.nth a 58 .junk, DenT.nth a 59 .junk, DenT.nth a 60 .junk, DenT.nth a 61 .junk, DenT.nth a 62 .junk, DenT.nth a 63 .junk, DenT.nth a 64 .junk, DenT.nth a 65 .junk, DenT.nth a 66 .junk, DenT.nth a 67 .junk, DenT.nth a 68 .junk, DenT.nth a 69 .junk, DenT.nth a 70 .junk, DenT.nth a 71 .junk, DenT.nth a 72 .junk, DenT.nth a 73 .junk, DenT.nth a 74 .junk, DenT.nth a 75 .junk, DenT.nth a 76 .junk, DenT.nth a 77 .junk, DenT.nth a 78 .junk, DenT.nth a 79 .junk, DenT.nth a 80 .junk, DenT.nth a 81 .junk, DenT.nth a 82 .junk, DenT.nth a 83 .junk, DenT.nth a 84 .junk, DenT.nth a 85 .junk, DenT.nth a 86 .junk, DenT.nth a 87 .junk, DenT.nth a 88 .junk, DenT.nth a 89 .junk, DenT.nth a 90 .junk, DenT.nth a 91 .junk, DenT.nth a 92 .junk, DenT.nth a 93 .junk, DenT.nth a 94 .junk, DenT.nth a 95 .junk, DenT.nth a 96 .junk, DenT.nth a 97 .junk, DenT.nth a 98 .junk, DenT.nth a 99 .junk, DenT.nth a 100 .junk, DenT.nth a 101 .junk, DenT.nth a 102 .junk, DenT.nth a 103 .junk, DenT.nth a 104 .junk, DenT.nth a 105 .junk, DenT.nth a 106 .junk, DenT.nth a 107 .junk, DenT.nth a 108 .junk, DenT.nth a 109 .junk, DenT.nth a 110 .junk, DenT.nth a 111 .junk, DenT.nth a 112 .junk, DenT.nth a 113 .junk, DenT.nth a 114 .junk, DenT.nth a 115 .junk, DenT.nth a 116 .junk, DenT.nth a 117 .junk, DenT.nth a 118 .junk, DenT.nth a 119 .junk, DenT.nth a 120 .junk, DenT.nth a 121 .junk, DenT.nth a 122 .junk, DenT.nth a 123 .junk, DenT.nth a 124 .junk, DenT.nth a 125 .junk, DenT.nth a 126 .junk, DenT.nth a 127 .junk, DenT.nth a 128 .junk, DenT.nth a 129 .junk, DenT.nth a 130 .junk, DenT.nth a 131 .junk, DenT.nth a 132 .junk, DenT.nth a 133 .junk, DenT.nth a 134 .junk, DenT.nth a 135 .junk, DenT.nth a 136 .junk, DenT.nth a 137 .junk, DenT.nth a 138 .junk, DenT.nth a 139 .junk, DenT.nth a 140 .junk, DenT.nth a 141 .junk, DenT.nth a 142 .junk, DenT.nth a 143 .junk, DenT.nth a 144 .junk, DenT.nth a 145 .junk, .sl 8 ((nth a 146 .junk).els.take k)] 146 .junk = .sl 8 ((nth a 146 .junk).els.take k) := rfl
      have e2 : ∀ l, upd [DenT.nth a 0 .junk, DenT.nth a 1 .junk, DenT.nth a 2 .junk, DenT.nth a 3 .junk, DenT.nth a 4 .junk, DenT.nth a 5 .junk, DenT.nth a 6 .junk, DenT.nth a 7 .junk, DenT.nth a 8 .junk, DenT.nth a 9 .junk, DenT.nth a 10 .junk, DenT.nth a 11 .junk, DenT.nth a 12 .junk, DenT.nth a 13 .junk, DenT.nth a 14 .junk, DenT.nth a 15 .junk, DenT.nth a 16 .junk, DenT.nth a 17 .junk, DenT.nth a 18 .junk, DenT.nth a 19 .junk, DenT.nth a 20 .junk, DenT.nth a 21 .junk, DenT.nth a 22 .junk, DenT.nth a 23 .junk, DenT.nth a 24 .junk, DenT.nth a 25 .junk, DenT.nth a 26 .junk, DenT.nth a 27 .junk, DenT.nth a 28 .junk, DenT.nth a 29 .junk, DenT.nth a 30 .junk, DenT.nth a 31 .junk, DenT.nth a 32 .junk, DenT.nth a 33 .junk, DenT.nth a 34 .junk, DenT.nth a 35 .junk, DenT.nth a 36 .junk, DenT.nth a 37 .junk, DenT.nth a 38 .junk, DenT.nth a 39 .junk, DenT.nth a 40 .junk, DenT.nth a 41 .junk, DenT.nth a 42 .junk, DenT.nth a 43 .junk, DenT.nth a 44 .junk, DenT.nth a 45 .junk, DenT.nth a 46 .junk, DenT.nth a 47 .junk, DenT.nth a 48 .junk, DenT.nth a 49 .junk, DenT.nth a 50 .junk, DenT.nth a 51 .junk, DenT.nth a 52 .junk, DenT.nth a 53 .junk, DenT.nth a 54 .junk, DenT.nth a 55 .junk, DenT.nth a 56 .junk, DenT.nth a 57 .junk, DenT.nth a 58 .junk, DenT.nth a 59 .junk, DenT.nth a 60 .junk, DenT.nth a 61 .junk, DenT.nth a 62 .junk, DenT.nth a 63 .junk, DenT.nth a 64 .junk, DenT.nth a 65 .junk, DenT.nth a 66 .junk, DenT.nth a 67 .junk, DenT.nth a 68 .junk, DenT.nth a 69 .junk, DenT.nth a 70 .junk, DenT.nth a 71 .junk, DenT.nth a 72 .junk, DenT.nth a 73 .junk, DenT.nth a 74 .junk, DenT.nth a 75 .junk, DenT.nth a 76 .junk, DenT.nth a 77 .junk, DenT.nth a 78 .junk, DenT.nth a 79 .junk, DenT.nth a 80 .junk, DenT.nth a 81 .junk, DenT.nth a 82 .junk, DenT.nth a 83 .junk, DenT.nth a 84 .junk, DenT.nth a 85 .junk, DenT.nth a 86 .junk, DenT.nth a 87 .junk, DenT.nth a 88 .junk, DenT.nth a 89 .junk, DenT.nth a 90 .junk, DenT.nth a 91 .junk, DenT.nth a 92 .junk, DenT.nth a 93 .junk, DenT.nth a 94 .junk, DenT.nth a 95 .junk, DenT.nth a 96 .junk, DenT.nth a 97 .junk, DenT.nth a 98 .junk, DenT.nth a 99 .junk, DenT.nth a 100 .junk, DenT.nth a 101 .junk, DenT.nth a 102 .junk, DenT.nth a 103 .junk, DenT.nth a 104 .junk, DenT.nth a 105 .junk, DenT.nth a 106 .junk, DenT.nth a 107 .junk, DenT.nth a 108 .junk, DenT.nth a 109 .junk, DenT.nth a 110 .junk, DenT.nth a 111 .junk, DenT.nth a 112 .junk, DenT.nth a 113 .junk, DenT.nth a 114 .junk, DenT.nth a 115 .junk, DenT.nth a 116 .junk, DenT.nth a 117 .junk, DenT.nth a 118 .junk, DenT.nth a 119 .junk, DenT.nth a 120 .junk, DenT.nth a 121 .junk, DenT.nth a 122 .junk, DenT.nth a 123 .junk, DenT.nth a 124 .junk, DenT.nth a 125 .junk, DenT.nth a 126 .junk, DenT.nth a 127 .junk, DenT.nth a 128 .junk, DenT.nth a 129 .junk, DenT.nth a 130 .junk, DenT.nth a 131 .junk, DenT.nth a 132 .junk, DenT.nth a 133 .junk, DenT.nth a 134 .junk, DenT.nth a 135 .junk, DenT.nth a 136 .junk, DenT.nth a 137 .junk, DenT.nth a 138 .junk, DenT.nth a 139 .junk, DenT.nth a 140 .junk, DenT.nth a 141 .junk, DenT.nth a 142 .junk, DenT.nth a 143 .junk, DenT.nth a 144 .junk, DenT.nth a 145 .junk, .sl 8 ((nth a 146 .junk).els.take k)] 146 (.sl 8 l) = [DenT.nth a 0 .junk, DenT.nth a 1 .junk, DenT.nth a 2 .junk, DenT.nth a 3 .junk, DenT.nth a 4 .junk, DenT.nth a 5 .junk, DenT.nth a 6 .junk, DenT.nth a 7 .junk, DenT.nth a 8 .junk, DenT.nth a 9 .junk, DenT.nth a 10 .junk, DenT.nth a 11 .junk, DenT.nth a 12 .junk, DenT.nth a 13 .junk, DenT.nth a 14 .junk, DenT.nth a 15 .junk, DenT.nth a 16 .junk, DenT.nth a 17 .junk, DenT.nth a 18 .junk, DenT.nth a 19 .junk, DenT.nth a 20 .junk, DenT.nth a 21 .junk, DenT.nth a 22 .junk, DenT.nth a 23 .junk, DenT.nth a 24 .junk, DenT.nth a 25 .junk, DenT.nth a 26 .junk, DenT.nth a 27 .junk, DenT.nth a 28 .junk, DenT.nth a 29 .junk, DenT.nth a 30 .junk, DenT.nth a 31 .junk, DenT.nth a 32 .junk, DenT.nth a 33 .junk, DenT.nth a 34 .junk, DenT.nth a 35 .junk, DenT.nth a 36 .junk, DenT.nth a 37 .junk, DenT.nth a 38 .junk, DenT.nth a 39 .junk, DenT.nth a 40 .junk, DenT.nth a 41 .junk, DenT.nth a 42 .junk, DenT.nth a 43 .junk, DenT.nth a 44 .junk, DenT.nth a 45 .junk, DenT.nth a 46 .junk, DenT.nth a 47 .junk, DenT.nth a 48 .junk, DenT.nth a 49 .junk, DenT.nth a 50 .junk, DenT.nth a 51 .junk, DenT.nth a 52 .junk, DenT.nth a 53 .junk, DenT.nth a 54 .junk, DenT.nth a 55 .junk, DenT.nth a 56 .junk, DenT.nth a 57 .junk, DenT.nth a 58 .junk, DenT.nth a 59 .junk, DenT.nth a 60 .junk, DenT.nth a 61 .junk, DenT.nth a 62 .junk, DenT.nth a 63 .junk, DenT.nth a 64 .junk, DenT.nth a 65 .junk, DenT.nth a 66 .junk, DenT.nth a 67 .junk, DenT.nth a 68 .junk, DenT.nth a 69 .junk, DenT.nth a 70 .junk, DenT.nth a 71 .junk, DenT.nth a 72 .junk, DenT.nth a 73 .junk, DenT.nth a 74 .junk, DenT.nth a 75 .junk, DenT.nth a 76 .junk, DenT.nth a 77 .junk, DenT.nth a 78 .junk, DenT.nth a 79 .junk, DenT.nth a 80 .junk, DenT.nth a 81 .junk, DenT.nth a 82 .junk, DenT.nth a 83 .junk, DenT.nth a 84 .junk, DenT.nth a 85 .junk, DenT.nth a 86 .junk, DenT.nth a 87 .junk, DenT.nth a 88 .junk, DenT.nth a 89 .junk, DenT.nth a 90 .junk, DenT.nth a 91 .junk, DenT.nth a 92 .junk, DenT.nth a 93 .junk, DenT.nth a 94 .junk, DenT.nth a 95 .junk, DenT.nth a 96 .junk, DenT.nth a 97 .junk, DenT.nth a 98 .junk, DenT.nth a 99 .junk, DenT.nth a 100 .junk, DenT.nth a 101 .junk, DenT.nth a 102 .junk, DenT.nth a 103 .junk, DenT.nth a 104 .junk, DenT.nth a 105 .junk, DenT.nth a 106 .junk, DenT.nth a 107 .junk, DenT.nth a 108 .junk, DenT.nth a 109 .junk, DenT.nth a 110 .junk, DenT.nth a 111 .junk, DenT.nth a 112 .junk, DenT.nth a 113 .junk, DenT.nth a 114 .junk, DenT.nth a 115 .junk, DenT.nth a 116 .junk, DenT.nth a 117 .junk, DenT.nth a 118 .junk, DenT.nth a 119 .junk, DenT.nth a 120 .junk, DenT.nth a 121 .junk, DenT.nth a 122 .junk, DenT.nth a 123 .junk, DenT.nth a 124 .junk, DenT.nth a 125 .junk, DenT.nth a 126 .junk, DenT.nth a 127 .junk, DenT.nth a 128 .junk, DenT.nth a 129 .junk, DenT.nth a 130 .junk, DenT.nth a 131 .junk, DenT.nth a 132 .junk, DenT.nth a 133 .junk, DenT.nth a 134 .junk, DenT.nth a 135 .junk, DenT.nth a 136 .junk, DenT.nth a 137 .junk, DenT.nth a 138 .junk, DenT.nth a 139 .junk, DenT.nth a 140 .junk, DenT.nth a 141 .junk, DenT.nth a 142 .junk, DenT.nth a 143 .junk, DenT.nth a 144 .junk, DenT.nth a 145 .junk, .sl 8 l] := fun _ => rfl
      have e3 : ∀ l, (AV.sl 8 l).isSl 8 = true := fun _ => rfl
      have e4 : ∀ l, (AV.sl 8 l).els = l := fun _ => rfl
      dsimp only
      simp only [e1, e2, e3, e4, run_lss, hk, decide_true, inb_true hk, Int.toNat_natCast, reqB_true, req_true, ha.isSl 146 8 csBlock rfl rfl (by decide), i_folkmootlaw16_Of (N := N) (H := H) h1 hn hN hM, ok_pre, ok_out, show ((nth (nth a 146 .junk).els k []).length == 8) = true by rw [h1.len]; rfl, roomL_take _ k 96 _ hk hb', take_cat _ k hk, add_one (show k < 9223372036854775807 by omega)]
  rw [hx]
  simp only [show (a.length == 147) = true by rw [ha.len]; rfl, reqB_true, req_true, ok_pre, ok_out, ok_H]

end Go.Proofs.DenT
end
