/- A part of the proof of this claim (part 4): own work: a lifting of compiled code into pure functions, and laws on them. -/
import Derived.Test.YtlllkgpicbddfaaDen3
import Derived.KernelRfl
set_option linter.all false
set_option linter.unusedSimpArgs false
set_option linter.unusedVariables false
section
open Go Go.Proofs.DenT
set_option maxRecDepth 1000000
set_option linter.unusedVariables false
namespace Go.Proofs.DenT

/-! folkmoot/msg.within[int] -/
def c_msg_within_int : C' :=
  .seq (.ops false [
    ⟨some 6, .mov (.c (.b false)), none⟩])
  (.seq (.ops false [
    ⟨some 7, .mov (.t 0), none⟩,
    ⟨some 8, .mov (.t 1), none⟩,
    ⟨some 9, .cmp .geq .i64 (.t 7) (.t 8), none⟩,
    ⟨some 10, .mov (.t 9), none⟩,
    ⟨some 11, .mov (.t 0), some (10, true, false)⟩,
    ⟨some 12, .mov (.t 2), some (10, true, false)⟩,
    ⟨some 13, .cmp .leq .i64 (.t 11) (.t 12), some (10, true, false)⟩,
    ⟨some 14, .pick (.t 10) (.t 13) (.c (.b false)), none⟩,
    ⟨some 6, .mov (.t 14), none⟩])
  (.ret))
def fd_msg_within_int : FD := ⟨15, 0, [(.i .i64), (.i .i64), (.i .i64)], [.tmp 6 .glob .b], c_msg_within_int⟩
noncomputable def G_msg_within_int (N : Nat) : Env := []
noncomputable def F_msg_within_int (N : Nat) (v : Int × Int × Int × Unit) (H : Heap) : Res (Bool × Unit) :=
  req (imp (COp.run v.1 v.2.1 .geq) (COp.run v.1 v.2.1 .geq)) <| req (imp (COp.run v.1 v.2.1 .geq) (COp.run v.1 v.2.1 .geq)) <| let t1 : Bool := COp.run v.1 v.2.2.1 .leq; req (imp (COp.run v.1 v.2.1 .geq) (COp.run v.1 v.2.1 .geq)) <| let t2 : Bool := ((COp.run v.1 v.2.1 .geq) && t1); ok (t2, ()) H
noncomputable def S_msg_within_int (N : Nat) : Sem := ⟨[(.i .i64), (.i .i64), (.i .i64)], [.b], .glob, true, F_msg_within_int N⟩
theorem den_msg_within_int (N : Nat) (v : Int × Int × Int × Unit) (H : Heap) : fd_msg_within_int.sem N (G_msg_within_int N) v H = F_msg_within_int N v H := by kernel_rfl

/-! folkmoot/msg.Check -/
def c_msg_Check : C' :=
  .seq (.ops false [
    ⟨some 2, .lbox 0 147 (.t 0) false, none⟩,
    ⟨some 4, .mov (.c (.i .i64 0)), none⟩])
  (.seq (.block 0 (.seq (.ops false [
    ⟨some 6, .fa (.t 2) 0, none⟩,
    ⟨some 7, .lload 0 (.t 6) (.one (.i .i64)), none⟩,
    ⟨some 8, .call true false 29 [(.t 7), (.c (.i .i64 1)), (.c (.i .i64 9))], none⟩,
    ⟨some 9, .not (.t 8), none⟩,
    ⟨some 10, .mov (.t 9), none⟩,
    ⟨some 11, .fa (.t 2) 1, some (10, false, false)⟩,
    ⟨some 12, .lload 0 (.t 11) (.one (.i .i64)), some (10, false, false)⟩,
    ⟨some 13, .mov (.t 1), some (10, false, false)⟩,
    ⟨some 14, .call true false 29 [(.t 12), (.c (.i .i64 0)), (.t 13)], some (10, false, false)⟩,
    ⟨some 15, .not (.t 14), some (10, false, false)⟩,
    ⟨some 16, .pick (.t 10) (.c (.b true)) (.t 15), none⟩,
    ⟨some 17, .mov (.t 16), none⟩,
    ⟨some 18, .fa (.t 2) 2, some (17, false, false)⟩,
    ⟨some 19, .lload 0 (.t 18) (.one (.i .i64)), some (17, false, false)⟩,
    ⟨some 20, .mov (.t 1), some (17, false, false)⟩,
    ⟨some 21, .call true false 29 [(.t 19), (.c (.i .i64 0)), (.t 20)], some (17, false, false)⟩,
    ⟨some 22, .not (.t 21), some (17, false, false)⟩,
    ⟨some 23, .pick (.t 17) (.c (.b true)) (.t 22), none⟩,
    ⟨some 5, .mov (.t 23), none⟩])
  (.cond (.t 5) (.seq (.ops false [
    ⟨some 4, .mov (.c (.i .i64 1)), none⟩])
  (.ret)) (.seq (.ops false [
    ⟨some 25, .fa (.t 2) 146, none⟩,
    ⟨some 26, .lload 0 (.t 25) (.one (.sl 8)), none⟩,
    ⟨some 27, .lenL (.t 26) 8, none⟩,
    ⟨some 28, .cmp .gtr .i64 (.t 27) (.c (.i .i64 256)), none⟩,
    ⟨some 24, .mov (.t 28), none⟩])
  (.cond (.t 24) (.seq (.ops false [
    ⟨some 4, .mov (.c (.i .i64 4)), none⟩])
  (.ret)) (.skip))))))
  (.seq (.ops false [
    ⟨some 4, .mov (.c (.i .i64 0)), none⟩])
  (.ret)))
def fd_msg_Check : FD := ⟨29, 1, [.ag, (.i .i64)], [.tmp 4 .glob (.i .i64)], c_msg_Check⟩
noncomputable def G_msg_Check (N : Nat) : Env := [(29, S_msg_within_int N)]
noncomputable def F_msg_Check (N : Nat) (v : List AV × Int × Unit) (H : Heap) : Res (Int × Unit) :=
  reqB (v.1.length == 147) (Tup.d [(.i .i64)]) <| reqB ((nth v.1 0 .junk).isI .i64) (Tup.d [(.i .i64)]) <| let r1 := F_msg_within_int N ((nth v.1 0 .junk).num, 1, 9, ()) H; req (r1.pre) <| reqG (!(!r1.out.1)) ((nth v.1 1 .junk).isI .i64) <| req (imp (!(!r1.out.1)) (!(!r1.out.1))) <| let r2 := F_msg_within_int N ((nth v.1 1 .junk).num, 0, v.2.1, ()) H; req (imp (!(!r1.out.1)) (!(!r1.out.1))) <| req (imp (!(!r1.out.1)) (!(!r1.out.1))) <| req (imp (!(!r1.out.1)) r2.pre) <| req (imp (!(!r1.out.1)) (!(!r1.out.1))) <| req (imp (!(!r1.out.1)) (!(!r1.out.1))) <| let t3 : Bool := ((!r1.out.1) || (!r2.out.1)); reqG (!t3) ((nth v.1 2 .junk).isI .i64) <| req (imp (!t3) (!t3)) <| let r4 := F_msg_within_int N ((nth v.1 2 .junk).num, 0, v.2.1, ()) H; req (imp (!t3) (!t3)) <| req (imp (!t3) (!t3)) <| req (imp (!t3) r4.pre) <| req (imp (!t3) (!t3)) <| req (imp (!t3) (!t3)) <| (match (t3 || (!r4.out.1)) with | true => (ok (1, ()) H) | false => (reqB ((nth v.1 146 .junk).isSl 8) (Tup.d [(.i .i64)]) <| let t5 : Int := (((nth v.1 146 .junk).els).length : Int); (match COp.run t5 256 .gtr with | true => (ok (4, ()) H) | false => (ok (0, ()) H))))
noncomputable def S_msg_Check (N : Nat) : Sem := ⟨[.ag, (.i .i64)], [(.i .i64)], .glob, true, F_msg_Check N⟩
theorem den_msg_Check (N : Nat) (v : List AV × Int × Unit) (H : Heap) : fd_msg_Check.sem N (G_msg_Check N) v H = F_msg_Check N v H := by kernel_rfl

/-! slices.Equal[[]folkmoot/hash.Digest,folkmoot/hash.Digest] -/
def c_slices_Equal_hash_Digest_hash_Digest : C' :=
  .seq (.ops false [
    ⟨some 4, .mov (.c (.b false)), none⟩])
  (.seq (.seq (.ops false [
    ⟨some 6, .mov (.t 0), none⟩,
    ⟨some 7, .lenL (.t 6) 1, none⟩,
    ⟨some 8, .mov (.t 1), none⟩,
    ⟨some 9, .lenL (.t 8) 1, none⟩,
    ⟨some 10, .cmp .neq .i64 (.t 7) (.t 9), none⟩])
  (.cond (.t 10) (.seq (.ops false [
    ⟨some 4, .mov (.c (.b false)), none⟩])
  (.ret)) (.skip)))
  (.seq (.seq (.ops false [
    ⟨some 11, .mov (.t 0), none⟩,
    ⟨some 12, .lenL (.t 11) 1, none⟩,
    ⟨some 13, .mov (.c (.i .i64 0)), none⟩])
  (.loopR 0 (.seq (.ops false [
    ⟨some 14, .cmp .lss .i64 (.t 13) (.t 12), none⟩])
  (.seq (.cond (.t 14) (.skip) (.exit 0))
  (.seq (.block 1 (.seq (.ops false [
    ⟨some 15, .mov (.t 13), none⟩,
    ⟨some 5, .mov (.t 15), none⟩])
  (.seq (.ops true [
    ⟨some 16, .mov (.t 0), none⟩,
    ⟨some 17, .mov (.t 5), none⟩,
    ⟨some 18, .ixa (.t 16) (.t 17) .i64 1, none⟩,
    ⟨some 19, .iload (.t 18) (.one (.i .u64)), none⟩,
    ⟨some 20, .mov (.t 1), none⟩,
    ⟨some 21, .mov (.t 5), none⟩,
    ⟨some 22, .ixa (.t 20) (.t 21) .i64 1, none⟩,
    ⟨some 23, .iload (.t 22) (.one (.i .u64)), none⟩,
    ⟨some 24, .cmp .neq .u64 (.t 19) (.t 23), none⟩])
  (.cond (.t 24) (.seq (.ops false [
    ⟨some 4, .mov (.c (.b false)), none⟩])
  (.ret)) (.skip)))))
  (.ops false [
    ⟨some 25, .arith .add .i64 (.t 13) (.c (.i .i64 1)), none⟩,
    ⟨some 13, .mov (.t 25), none⟩])))) [⟨0, .glob, (.sl 1)⟩, ⟨1, .glob, (.sl 1)⟩, ⟨12, .glob, (.i .i64)⟩, ⟨13, .glob, (.i .i64)⟩] [] [] [⟨4, .glob, .b⟩]))
  (.seq (.ops false [
    ⟨some 4, .mov (.c (.b true)), none⟩])
  (.ret))))
def fd_slices_Equal_hash_Digest_hash_Digest : FD := ⟨26, 0, [(.sl 1), (.sl 1)], [.tmp 4 .glob .b], c_slices_Equal_hash_Digest_hash_Digest⟩
noncomputable def G_slices_Equal_hash_Digest_hash_Digest (N : Nat) : Env := []
noncomputable def F_slices_Equal_hash_Digest_hash_Digest (N : Nat) (v : List (List AV) × List (List AV) × Unit) (H : Heap) : Res (Bool × Unit) :=
  let t1 : Bool := COp.run (v.1.length : Int) (v.2.1.length : Int) .neq; (match t1 with | true => (ok (false, ()) H) | false => (let r5 := iter (α := List (List AV) × List (List AV) × Int × Int × Unit) (β := Sum (Unit) (Bool × Unit)) (Sum.inl (Tup.d [])) (fun R3 v2 H4 => let t6 : Bool := COp.run v2.2.2.2.1 v2.2.2.1 .lss; (match t6 with | true => (reqB (inb v2.2.2.2.1 v2.1.length) (Sum.inl (Tup.d [])) <| let t7 : List AV := nth v2.1 v2.2.2.2.1.toNat []; reqB ((nth t7 0 .junk).isI .u64) (Sum.inl (Tup.d [])) <| reqB (inb v2.2.2.2.1 v2.2.1.length) (Sum.inl (Tup.d [])) <| let t8 : List AV := nth v2.2.1 v2.2.2.2.1.toNat []; reqB ((nth t8 0 .junk).isI .u64) (Sum.inl (Tup.d [])) <| let t9 : Bool := COp.run ((nth t7 0 .junk).num) ((nth t8 0 .junk).num) .neq; (match t9 with | true => (ok (Sum.inr (false, ())) H4) | false => (let t10 : Int := AOp.run .i64 v2.2.2.2.1 1 .add; R3 (v2.1, v2.2.1, v2.2.2.1, t10, ()) H4))) | false => (ok (Sum.inl ()) H4))) N (v.1, v.2.1, (v.1.length : Int), 0, ()) H; req r5.pre <| sumElim r5.out (fun w11 => ok (true, ()) r5.H) (fun w12 => ok (w12.1, ()) r5.H)))
noncomputable def S_slices_Equal_hash_Digest_hash_Digest (N : Nat) : Sem := ⟨[(.sl 1), (.sl 1)], [.b], .glob, true, F_slices_Equal_hash_Digest_hash_Digest N⟩
theorem den_slices_Equal_hash_Digest_hash_Digest (N : Nat) (v : List (List AV) × List (List AV) × Unit) (H : Heap) : fd_slices_Equal_hash_Digest_hash_Digest.sem N (G_slices_Equal_hash_Digest_hash_Digest N) v H = F_slices_Equal_hash_Digest_hash_Digest N v H := by kernel_rfl

/-! folkmoot/key.Same -/
def c_key_Same : C' :=
  .seq (.ops false [
    ⟨some 2, .lbox 0 21 (.t 0) false, none⟩,
    ⟨some 3, .lbox 1 21 (.t 1) false, none⟩,
    ⟨some 4, .mov (.c (.b false)), none⟩])
  (.seq (.ops false [
    ⟨some 5, .fa (.t 2) 0, none⟩,
    ⟨some 6, .lload 0 (.t 5) (.one (.i .i64)), none⟩,
    ⟨some 7, .fa (.t 3) 0, none⟩,
    ⟨some 8, .lload 1 (.t 7) (.one (.i .i64)), none⟩,
    ⟨some 9, .cmp .eql .i64 (.t 6) (.t 8), none⟩,
    ⟨some 10, .mov (.t 9), none⟩,
    ⟨some 11, .fa (.t 2) 1, some (10, true, false)⟩,
    ⟨some 12, .lload 0 (.t 11) (.one (.i .i64)), some (10, true, false)⟩,
    ⟨some 13, .fa (.t 3) 1, some (10, true, false)⟩,
    ⟨some 14, .lload 1 (.t 13) (.one (.i .i64)), some (10, true, false)⟩,
    ⟨some 15, .cmp .eql .i64 (.t 12) (.t 14), some (10, true, false)⟩,
    ⟨some 16, .pick (.t 10) (.t 15) (.c (.b false)), none⟩,
    ⟨some 17, .mov (.t 16), none⟩,
    ⟨some 18, .fa (.t 2) 2, some (17, true, false)⟩,
    ⟨some 19, .lload 0 (.t 18) (.agg 18), some (17, true, false)⟩,
    ⟨some 20, .fa (.t 3) 2, some (17, true, false)⟩,
    ⟨some 21, .lload 1 (.t 20) (.agg 18), some (17, true, false)⟩,
    ⟨some 22, .aeq false [.u64, .u64, .u64, .u64, .u64, .u64, .u64, .u64, .u64, .u64, .u64, .u64, .u64, .u64, .u64, .u64, .u64, .u64] (.t 19) (.t 21), some (17, true, false)⟩,
    ⟨some 23, .pick (.t 17) (.t 22) (.c (.b false)), none⟩,
    ⟨some 24, .mov (.t 23), none⟩,
    ⟨some 25, .fa (.t 2) 20, some (24, true, false)⟩,
    ⟨some 26, .lload 0 (.t 25) (.one (.sl 1)), some (24, true, false)⟩,
    ⟨some 27, .fa (.t 3) 20, some (24, true, false)⟩,
    ⟨some 28, .lload 1 (.t 27) (.one (.sl 1)), some (24, true, false)⟩,
    ⟨some 29, .call true false 70 [(.t 26), (.t 28)], some (24, true, false)⟩,
    ⟨some 30, .pick (.t 24) (.t 29) (.c (.b false)), none⟩,
    ⟨some 4, .mov (.t 30), none⟩])
  (.ret))
def fd_key_Same : FD := ⟨31, 2, [.ag, .ag], [.tmp 4 .glob .b], c_key_Same⟩
noncomputable def G_key_Same (N : Nat) : Env := [(70, S_slices_Equal_hash_Digest_hash_Digest N)]
noncomputable def F_key_Same (N : Nat) (v : List AV × List AV × Unit) (H : Heap) : Res (Bool × Unit) :=
  reqB (v.1.length == 21) (Tup.d [.b]) <| reqB (v.2.1.length == 21) (Tup.d [.b]) <| reqB ((nth v.1 0 .junk).isI .i64) (Tup.d [.b]) <| reqB ((nth v.2.1 0 .junk).isI .i64) (Tup.d [.b]) <| let t1 : Bool := COp.run ((nth v.1 0 .junk).num) ((nth v.2.1 0 .junk).num) .eql; reqG (t1) ((nth v.1 1 .junk).isI .i64) <| req (imp t1 t1) <| reqG (t1) ((nth v.2.1 1 .junk).isI .i64) <| req (imp t1 t1) <| req (imp t1 t1) <| req (imp t1 t1) <| let t2 : Bool := COp.run ((nth v.1 1 .junk).num) ((nth v.2.1 1 .junk).num) .eql; req (imp t1 t1) <| req (imp (t1 && t2) (t1 && t2)) <| req (imp (t1 && t2) (t1 && t2)) <| reqG ((t1 && t2)) (allI [.u64, .u64, .u64, .u64, .u64, .u64, .u64, .u64, .u64, .u64, .u64, .u64, .u64, .u64, .u64, .u64, .u64, .u64] (sub v.1 2 18)) <| reqG ((t1 && t2)) (allI [.u64, .u64, .u64, .u64, .u64, .u64, .u64, .u64, .u64, .u64, .u64, .u64, .u64, .u64, .u64, .u64, .u64, .u64] (sub v.2.1 2 18)) <| req (imp (t1 && t2) (t1 && t2)) <| req (imp (t1 && t2) (t1 && t2)) <| let t3 : Bool := eqI 18 (sub v.1 2 18) (sub v.2.1 2 18); req (imp (t1 && t2) (t1 && t2)) <| reqG (((t1 && t2) && t3)) ((nth v.1 20 .junk).isSl 1) <| req (imp ((t1 && t2) && t3) ((t1 && t2) && t3)) <| reqG (((t1 && t2) && t3)) ((nth v.2.1 20 .junk).isSl 1) <| req (imp ((t1 && t2) && t3) ((t1 && t2) && t3)) <| let t4 : List (List AV) := (nth v.2.1 20 .junk).els; let r5 := F_slices_Equal_hash_Digest_hash_Digest N ((nth v.1 20 .junk).els, t4, ()) H; req (imp ((t1 && t2) && t3) ((t1 && t2) && t3)) <| req (imp ((t1 && t2) && t3) ((t1 && t2) && t3)) <| req (imp ((t1 && t2) && t3) r5.pre) <| req (imp ((t1 && t2) && t3) ((t1 && t2) && t3)) <| let t6 : Bool := (((t1 && t2) && t3) && r5.out.1); ok (t6, ()) H
noncomputable def S_key_Same (N : Nat) : Sem := ⟨[.ag, .ag], [.b], .glob, true, F_key_Same N⟩
theorem den_key_Same (N : Nat) (v : List AV × List AV × Unit) (H : Heap) : fd_key_Same.sem N (G_key_Same N) v H = F_key_Same N v H := by kernel_rfl

/-! folkmoot/stamp.Same -/
def c_stamp_Same : C' :=
  .seq (.ops false [
    ⟨some 2, .lbox 0 24 (.t 0) false, none⟩,
    ⟨some 3, .lbox 1 24 (.t 1) false, none⟩,
    ⟨some 4, .mov (.c (.b false)), none⟩])
  (.seq (.ops false [
    ⟨some 5, .fa (.t 2) 0, none⟩,
    ⟨some 6, .lload 0 (.t 5) (.one (.i .u64)), none⟩,
    ⟨some 7, .fa (.t 3) 0, none⟩,
    ⟨some 8, .lload 1 (.t 7) (.one (.i .u64)), none⟩,
    ⟨some 9, .cmp .eql .u64 (.t 6) (.t 8), none⟩,
    ⟨some 10, .mov (.t 9), none⟩,
    ⟨some 11, .fa (.t 2) 1, some (10, true, false)⟩,
    ⟨some 12, .lload 0 (.t 11) (.one (.i .i64)), some (10, true, false)⟩,
    ⟨some 13, .fa (.t 3) 1, some (10, true, false)⟩,
    ⟨some 14, .lload 1 (.t 13) (.one (.i .i64)), some (10, true, false)⟩,
    ⟨some 15, .cmp .eql .i64 (.t 12) (.t 14), some (10, true, false)⟩,
    ⟨some 16, .pick (.t 10) (.t 15) (.c (.b false)), none⟩,
    ⟨some 17, .mov (.t 16), none⟩,
    ⟨some 18, .fa (.t 2) 2, some (17, true, false)⟩,
    ⟨some 19, .lload 0 (.t 18) (.one (.i .i64)), some (17, true, false)⟩,
    ⟨some 20, .fa (.t 3) 2, some (17, true, false)⟩,
    ⟨some 21, .lload 1 (.t 20) (.one (.i .i64)), some (17, true, false)⟩,
    ⟨some 22, .cmp .eql .i64 (.t 19) (.t 21), some (17, true, false)⟩,
    ⟨some 23, .pick (.t 17) (.t 22) (.c (.b false)), none⟩,
    ⟨some 24, .mov (.t 23), none⟩,
    ⟨some 25, .fa (.t 2) 3, some (24, true, false)⟩,
    ⟨some 26, .lload 0 (.t 25) (.agg 21), some (24, true, false)⟩,
    ⟨some 27, .fa (.t 3) 3, some (24, true, false)⟩,
    ⟨some 28, .lload 1 (.t 27) (.agg 21), some (24, true, false)⟩,
    ⟨some 29, .call true false 53 [(.t 26), (.t 28)], some (24, true, false)⟩,
    ⟨some 30, .pick (.t 24) (.t 29) (.c (.b false)), none⟩,
    ⟨some 4, .mov (.t 30), none⟩])
  (.ret))
def fd_stamp_Same : FD := ⟨31, 2, [.ag, .ag], [.tmp 4 .glob .b], c_stamp_Same⟩
noncomputable def G_stamp_Same (N : Nat) : Env := [(53, S_key_Same N)]
noncomputable def F_stamp_Same (N : Nat) (v : List AV × List AV × Unit) (H : Heap) : Res (Bool × Unit) :=
  reqB (v.1.length == 24) (Tup.d [.b]) <| reqB (v.2.1.length == 24) (Tup.d [.b]) <| reqB ((nth v.1 0 .junk).isI .u64) (Tup.d [.b]) <| reqB ((nth v.2.1 0 .junk).isI .u64) (Tup.d [.b]) <| let t1 : Bool := COp.run ((nth v.1 0 .junk).num) ((nth v.2.1 0 .junk).num) .eql; reqG (t1) ((nth v.1 1 .junk).isI .i64) <| req (imp t1 t1) <| reqG (t1) ((nth v.2.1 1 .junk).isI .i64) <| req (imp t1 t1) <| req (imp t1 t1) <| req (imp t1 t1) <| let t2 : Bool := COp.run ((nth v.1 1 .junk).num) ((nth v.2.1 1 .junk).num) .eql; req (imp t1 t1) <| reqG ((t1 && t2)) ((nth v.1 2 .junk).isI .i64) <| req (imp (t1 && t2) (t1 && t2)) <| reqG ((t1 && t2)) ((nth v.2.1 2 .junk).isI .i64) <| req (imp (t1 && t2) (t1 && t2)) <| req (imp (t1 && t2) (t1 && t2)) <| req (imp (t1 && t2) (t1 && t2)) <| let t3 : Bool := COp.run ((nth v.1 2 .junk).num) ((nth v.2.1 2 .junk).num) .eql; req (imp (t1 && t2) (t1 && t2)) <| req (imp ((t1 && t2) && t3) ((t1 && t2) && t3)) <| req (imp ((t1 && t2) && t3) ((t1 && t2) && t3)) <| let r4 := F_key_Same N (sub v.1 3 21, sub v.2.1 3 21, ()) H; req (imp ((t1 && t2) && t3) ((t1 && t2) && t3)) <| req (imp ((t1 && t2) && t3) ((t1 && t2) && t3)) <| req (imp ((t1 && t2) && t3) r4.pre) <| req (imp ((t1 && t2) && t3) ((t1 && t2) && t3)) <| let t5 : Bool := (((t1 && t2) && t3) && r4.out.1); ok (t5, ()) H
noncomputable def S_stamp_Same (N : Nat) : Sem := ⟨[.ag, .ag], [.b], .glob, true, F_stamp_Same N⟩
theorem den_stamp_Same (N : Nat) (v : List AV × List AV × Unit) (H : Heap) : fd_stamp_Same.sem N (G_stamp_Same N) v H = F_stamp_Same N v H := by kernel_rfl

/-! slices.EqualFunc[[]folkmoot/stamp.Stamp,[]folkmoot/stamp.Stamp,folkmoot/stamp.Stamp,folkmoot/stamp.Stamp] -/
def c_slices_EqualFunc_stamp_Stamp_stamp_Stamp_stamp_Stamp_stamp_Stamp : C' :=
  .seq (.ops false [
    ⟨some 6, .mov (.c (.b false)), none⟩])
  (.seq (.seq (.ops false [
    ⟨some 10, .mov (.t 0), none⟩,
    ⟨some 11, .lenL (.t 10) 24, none⟩,
    ⟨some 12, .mov (.t 1), none⟩,
    ⟨some 13, .lenL (.t 12) 24, none⟩,
    ⟨some 14, .cmp .neq .i64 (.t 11) (.t 13), none⟩])
  (.cond (.t 14) (.seq (.ops false [
    ⟨some 6, .mov (.c (.b false)), none⟩])
  (.ret)) (.skip)))
  (.seq (.seq (.ops false [
    ⟨some 15, .mov (.t 0), none⟩,
    ⟨some 16, .lenL (.t 15) 24, none⟩,
    ⟨some 17, .mov (.c (.i .i64 0)), none⟩])
  (.loopR 0 (.seq (.ops false [
    ⟨some 18, .cmp .lss .i64 (.t 17) (.t 16), none⟩])
  (.seq (.cond (.t 18) (.skip) (.exit 0))
  (.seq (.block 1 (.seq (.ops false [
    ⟨some 19, .mov (.t 17), none⟩,
    ⟨some 20, .ixa (.t 15) (.t 17) .i64 24, none⟩,
    ⟨some 21, .iload (.t 20) (.agg 24), none⟩,
    ⟨some 8, .lalloc 0 24 [.i .u64 0, .i .i64 0, .i .i64 0, .i .i64 0, .i .i64 0, .i .u64 0, .i .u64 0, .i .u64 0, .i .u64 0, .i .u64 0, .i .u64 0, .i .u64 0, .i .u64 0, .i .u64 0, .i .u64 0, .i .u64 0, .i .u64 0, .i .u64 0, .i .u64 0, .i .u64 0, .i .u64 0, .i .u64 0, .i .u64 0, .sl 1 []] [23], none⟩,
    ⟨some 7, .mov (.t 19), none⟩,
    ⟨none, .lstore 0 (.t 8) (.agg 24) (.t 21), none⟩])
  (.seq (.ops false [
    ⟨some 22, .mov (.t 1), none⟩,
    ⟨some 23, .mov (.t 7), none⟩,
    ⟨some 24, .ixa (.t 22) (.t 23) .i64 24, none⟩,
    ⟨some 25, .iload (.t 24) (.agg 24), none⟩,
    ⟨some 9, .lalloc 1 24 [.i .u64 0, .i .i64 0, .i .i64 0, .i .i64 0, .i .i64 0, .i .u64 0, .i .u64 0, .i .u64 0, .i .u64 0, .i .u64 0, .i .u64 0, .i .u64 0, .i .u64 0, .i .u64 0, .i .u64 0, .i .u64 0, .i .u64 0, .i .u64 0, .i .u64 0, .i .u64 0, .i .u64 0, .i .u64 0, .i .u64 0, .sl 1 []] [23], none⟩,
    ⟨none, .lstore 1 (.t 9) (.agg 24) (.t 25), none⟩])
  (.seq (.ops false [
    ⟨some 26, .mov (.t 2), none⟩,
    ⟨some 27, .lload 0 (.t 8) (.agg 24), none⟩,
    ⟨some 28, .lload 1 (.t 9) (.agg 24), none⟩,
    ⟨some 29, .callv true (.t 26) [(.t 27), (.t 28)] [.b], none⟩,
    ⟨some 30, .not (.t 29), none⟩])
  (.cond (.t 30) (.seq (.ops false [
    ⟨some 6, .mov (.c (.b false)), none⟩])
  (.ret)) (.skip))))))
  (.ops false [
    ⟨some 31, .arith .add .i64 (.t 17) (.c (.i .i64 1)), none⟩,
    ⟨some 17, .mov (.t 31), none⟩])))) [⟨1, .glob, (.sl 24)⟩, ⟨2, .glob, .any⟩, ⟨15, .glob, (.sl 24)⟩, ⟨16, .glob, (.i .i64)⟩, ⟨17, .glob, (.i .i64)⟩] [] [] [⟨6, .glob, .b⟩]))
  (.seq (.ops false [
    ⟨some 6, .mov (.c (.b true)), none⟩])
  (.ret))))
def fd_slices_EqualFunc_stamp_Stamp_stamp_Stamp_stamp_Stamp_stamp_Stamp : FD := ⟨32, 2, [(.sl 24), (.sl 24), .any], [.tmp 6 .glob .b], c_slices_EqualFunc_stamp_Stamp_stamp_Stamp_stamp_Stamp_stamp_Stamp⟩
noncomputable def G_slices_EqualFunc_stamp_Stamp_stamp_Stamp_stamp_Stamp_stamp_Stamp (N : Nat) : Env := [(30, S_stamp_Same N)]
noncomputable def F_slices_EqualFunc_stamp_Stamp_stamp_Stamp_stamp_Stamp_stamp_Stamp (N : Nat) (v : List (List AV) × List (List AV) × AV × Unit) (H : Heap) : Res (Bool × Unit) :=
  let t1 : Bool := COp.run (v.1.length : Int) (v.2.1.length : Int) .neq; (match t1 with | true => (ok (false, ()) H) | false => (reqB (v.2.2.1.atom) (Tup.d [.b]) <| let r5 := iter (α := List (List AV) × AV × List (List AV) × Int × Int × Unit) (β := Sum (Unit) (Bool × Unit)) (Sum.inl (Tup.d [])) (fun R3 v2 H4 => let t6 : Bool := COp.run v2.2.2.2.2.1 v2.2.2.2.1 .lss; (match t6 with | true => (reqB (inb v2.2.2.2.2.1 v2.2.2.1.length) (Sum.inl (Tup.d [])) <| let t7 : List AV := nth v2.2.2.1 v2.2.2.2.2.1.toNat []; reqB (t7.length == 24) (Sum.inl (Tup.d [])) <| reqB (inb v2.2.2.2.2.1 v2.1.length) (Sum.inl (Tup.d [])) <| let t8 : List AV := nth v2.1 v2.2.2.2.2.1.toNat []; reqB (t8.length == 24) (Sum.inl (Tup.d [])) <| let r9 := appV (G_slices_EqualFunc_stamp_Stamp_stamp_Stamp_stamp_Stamp_stamp_Stamp N) v2.2.1 [.ag t7, .ag t8] H4; reqB (puV (G_slices_EqualFunc_stamp_Stamp_stamp_Stamp_stamp_Stamp_stamp_Stamp N) v2.2.1) (Sum.inl (Tup.d [])) <| reqB (r9.out.length == 1) (Sum.inl (Tup.d [])) <| reqB ((r9.out.headD .junk).isB) (Sum.inl (Tup.d [])) <| req (r9.pre) <| let t10 : Bool := !((r9.out.headD .junk).bool); (match t10 with | true => (ok (Sum.inr (false, ())) H4) | false => (let t11 : Int := AOp.run .i64 v2.2.2.2.2.1 1 .add; reqB (v2.2.1.atom) (Sum.inl (Tup.d [])) <| R3 (v2.1, v2.2.1, v2.2.2.1, v2.2.2.2.1, t11, ()) H4))) | false => (ok (Sum.inl ()) H4))) N (v.2.1, v.2.2.1, v.1, (v.1.length : Int), 0, ()) H; req r5.pre <| sumElim r5.out (fun w12 => ok (true, ()) r5.H) (fun w13 => ok (w13.1, ()) r5.H)))
noncomputable def S_slices_EqualFunc_stamp_Stamp_stamp_Stamp_stamp_Stamp_stamp_Stamp (N : Nat) : Sem := ⟨[(.sl 24), (.sl 24), .any], [.b], .glob, true, F_slices_EqualFunc_stamp_Stamp_stamp_Stamp_stamp_Stamp_stamp_Stamp N⟩
theorem den_slices_EqualFunc_stamp_Stamp_stamp_Stamp_stamp_Stamp_stamp_Stamp (N : Nat) (v : List (List AV) × List (List AV) × AV × Unit) (H : Heap) : fd_slices_EqualFunc_stamp_Stamp_stamp_Stamp_stamp_Stamp_stamp_Stamp.sem N (G_slices_EqualFunc_stamp_Stamp_stamp_Stamp_stamp_Stamp_stamp_Stamp N) v H = F_slices_EqualFunc_stamp_Stamp_stamp_Stamp_stamp_Stamp_stamp_Stamp N v H := by kernel_rfl

/-! folkmoot/median.Same -/
def c_median_Same : C' :=
  .seq (.ops false [
    ⟨some 2, .lbox 0 6 (.t 0) false, none⟩,
    ⟨some 3, .lbox 1 6 (.t 1) false, none⟩,
    ⟨some 4, .mov (.c (.b false)), none⟩])
  (.seq (.ops false [
    ⟨some 5, .fa (.t 2) 0, none⟩,
    ⟨some 6, .lload 0 (.t 5) (.agg 5), none⟩,
    ⟨some 7, .fa (.t 3) 0, none⟩,
    ⟨some 8, .lload 1 (.t 7) (.agg 5), none⟩,
    ⟨some 9, .aeq false [.i64, .i64, .i64, .i64, .i64] (.t 6) (.t 8), none⟩,
    ⟨some 10, .mov (.t 9), none⟩,
    ⟨some 11, .fa (.t 2) 5, some (10, true, false)⟩,
    ⟨some 12, .lload 0 (.t 11) (.one (.sl 24)), some (10, true, false)⟩,
    ⟨some 13, .fa (.t 3) 5, some (10, true, false)⟩,
    ⟨some 14, .lload 1 (.t 13) (.one (.sl 24)), some (10, true, false)⟩,
    ⟨some 15, .call true false 54 [(.t 12), (.t 14), (.c (.fn 30 []))], some (10, true, false)⟩,
    ⟨some 16, .pick (.t 10) (.t 15) (.c (.b false)), none⟩,
    ⟨some 4, .mov (.t 16), none⟩])
  (.ret))
def fd_median_Same : FD := ⟨17, 2, [.ag, .ag], [.tmp 4 .glob .b], c_median_Same⟩
noncomputable def G_median_Same (N : Nat) : Env := [(54, S_slices_EqualFunc_stamp_Stamp_stamp_Stamp_stamp_Stamp_stamp_Stamp N)]
noncomputable def F_median_Same (N : Nat) (v : List AV × List AV × Unit) (H : Heap) : Res (Bool × Unit) :=
  reqB (v.1.length == 6) (Tup.d [.b]) <| reqB (v.2.1.length == 6) (Tup.d [.b]) <| reqB (allI [.i64, .i64, .i64, .i64, .i64] (sub v.1 0 5)) (Tup.d [.b]) <| reqB (allI [.i64, .i64, .i64, .i64, .i64] (sub v.2.1 0 5)) (Tup.d [.b]) <| let t1 : Bool := eqI 5 (sub v.1 0 5) (sub v.2.1 0 5); reqG (t1) ((nth v.1 5 .junk).isSl 24) <| req (imp t1 t1) <| reqG (t1) ((nth v.2.1 5 .junk).isSl 24) <| req (imp t1 t1) <| let r2 := F_slices_EqualFunc_stamp_Stamp_stamp_Stamp_stamp_Stamp_stamp_Stamp N ((nth v.1 5 .junk).els, (nth v.2.1 5 .junk).els, (.fn 30 [] : AV), ()) H; req (imp t1 t1) <| req (imp t1 t1) <| req (imp t1 r2.pre) <| req (imp t1 t1) <| ok ((t1 && r2.out.1), ()) H
noncomputable def S_median_Same (N : Nat) : Sem := ⟨[.ag, .ag], [.b], .glob, true, F_median_Same N⟩
theorem den_median_Same (N : Nat) (v : List AV × List AV × Unit) (H : Heap) : fd_median_Same.sem N (G_median_Same N) v H = F_median_Same N v H := by kernel_rfl

/-! folkmoot/msg.sameAck -/
def c_msg_sameAck : C' :=
  .seq (.ops false [
    ⟨some 2, .lbox 0 23 (.t 0) false, none⟩,
    ⟨some 3, .lbox 1 23 (.t 1) false, none⟩,
    ⟨some 4, .mov (.c (.b false)), none⟩])
  (.seq (.ops false [
    ⟨some 5, .fa (.t 2) 0, none⟩,
    ⟨some 6, .lload 0 (.t 5) (.one (.i .u64)), none⟩,
    ⟨some 7, .fa (.t 3) 0, none⟩,
    ⟨some 8, .lload 1 (.t 7) (.one (.i .u64)), none⟩,
    ⟨some 9, .cmp .eql .u64 (.t 6) (.t 8), none⟩,
    ⟨some 10, .mov (.t 9), none⟩,
    ⟨some 11, .fa (.t 2) 1, some (10, true, false)⟩,
    ⟨some 12, .lload 0 (.t 11) (.one (.i .i64)), some (10, true, false)⟩,
    ⟨some 13, .fa (.t 3) 1, some (10, true, false)⟩,
    ⟨some 14, .lload 1 (.t 13) (.one (.i .i64)), some (10, true, false)⟩,
    ⟨some 15, .cmp .eql .i64 (.t 12) (.t 14), some (10, true, false)⟩,
    ⟨some 16, .pick (.t 10) (.t 15) (.c (.b false)), none⟩,
    ⟨some 17, .mov (.t 16), none⟩,
    ⟨some 18, .fa (.t 2) 2, some (17, true, false)⟩,
    ⟨some 19, .lload 0 (.t 18) (.agg 21), some (17, true, false)⟩,
    ⟨some 20, .fa (.t 3) 2, some (17, true, false)⟩,
    ⟨some 21, .lload 1 (.t 20) (.agg 21), some (17, true, false)⟩,
    ⟨some 22, .call true false 53 [(.t 19), (.t 21)], some (17, true, false)⟩,
    ⟨some 23, .pick (.t 17) (.t 22) (.c (.b false)), none⟩,
    ⟨some 4, .mov (.t 23), none⟩])
  (.ret))
def fd_msg_sameAck : FD := ⟨24, 2, [.ag, .ag], [.tmp 4 .glob .b], c_msg_sameAck⟩
noncomputable def G_msg_sameAck (N : Nat) : Env := [(53, S_key_Same N)]
noncomputable def F_msg_sameAck (N : Nat) (v : List AV × List AV × Unit) (H : Heap) : Res (Bool × Unit) :=
  reqB (v.1.length == 23) (Tup.d [.b]) <| reqB (v.2.1.length == 23) (Tup.d [.b]) <| reqB ((nth v.1 0 .junk).isI .u64) (Tup.d [.b]) <| reqB ((nth v.2.1 0 .junk).isI .u64) (Tup.d [.b]) <| let t1 : Bool := COp.run ((nth v.1 0 .junk).num) ((nth v.2.1 0 .junk).num) .eql; reqG (t1) ((nth v.1 1 .junk).isI .i64) <| req (imp t1 t1) <| reqG (t1) ((nth v.2.1 1 .junk).isI .i64) <| req (imp t1 t1) <| req (imp t1 t1) <| req (imp t1 t1) <| let t2 : Bool := COp.run ((nth v.1 1 .junk).num) ((nth v.2.1 1 .junk).num) .eql; req (imp t1 t1) <| req (imp (t1 && t2) (t1 && t2)) <| req (imp (t1 && t2) (t1 && t2)) <| let r3 := F_key_Same N (sub v.1 2 21, sub v.2.1 2 21, ()) H; req (imp (t1 && t2) (t1 && t2)) <| req (imp (t1 && t2) (t1 && t2)) <| req (imp (t1 && t2) r3.pre) <| req (imp (t1 && t2) (t1 && t2)) <| let t4 : Bool := ((t1 && t2) && r3.out.1); ok (t4, ()) H
noncomputable def S_msg_sameAck (N : Nat) : Sem := ⟨[.ag, .ag], [.b], .glob, true, F_msg_sameAck N⟩
theorem den_msg_sameAck (N : Nat) (v : List AV × List AV × Unit) (H : Heap) : fd_msg_sameAck.sem N (G_msg_sameAck N) v H = F_msg_sameAck N v H := by kernel_rfl

/-! slices.EqualFunc[[]folkmoot/median.Cert,[]folkmoot/median.Cert,folkmoot/median.Cert,folkmoot/median.Cert] -/
def c_slices_EqualFunc_median_Cert_median_Cert_median_Cert_median_Cert : C' :=
  .seq (.ops false [
    ⟨some 6, .mov (.c (.b false)), none⟩])
  (.seq (.seq (.ops false [
    ⟨some 10, .mov (.t 0), none⟩,
    ⟨some 11, .lenL (.t 10) 6, none⟩,
    ⟨some 12, .mov (.t 1), none⟩,
    ⟨some 13, .lenL (.t 12) 6, none⟩,
    ⟨some 14, .cmp .neq .i64 (.t 11) (.t 13), none⟩])
  (.cond (.t 14) (.seq (.ops false [
    ⟨some 6, .mov (.c (.b false)), none⟩])
  (.ret)) (.skip)))
  (.seq (.seq (.ops false [
    ⟨some 15, .mov (.t 0), none⟩,
    ⟨some 16, .lenL (.t 15) 6, none⟩,
    ⟨some 17, .mov (.c (.i .i64 0)), none⟩])
  (.loopR 0 (.seq (.ops false [
    ⟨some 18, .cmp .lss .i64 (.t 17) (.t 16), none⟩])
  (.seq (.cond (.t 18) (.skip) (.exit 0))
  (.seq (.block 1 (.seq (.ops false [
    ⟨some 19, .mov (.t 17), none⟩,
    ⟨some 20, .ixa (.t 15) (.t 17) .i64 6, none⟩,
    ⟨some 21, .iload (.t 20) (.agg 6), none⟩,
    ⟨some 8, .lalloc 0 6 [.i .i64 0, .i .i64 0, .i .i64 0, .i .i64 0, .i .i64 0, .sl 24 []] [5], none⟩,
    ⟨some 7, .mov (.t 19), none⟩,
    ⟨none, .lstore 0 (.t 8) (.agg 6) (.t 21), none⟩])
  (.seq (.ops false [
    ⟨some 22, .mov (.t 1), none⟩,
    ⟨some 23, .mov (.t 7), none⟩,
    ⟨some 24, .ixa (.t 22) (.t 23) .i64 6, none⟩,
    ⟨some 25, .iload (.t 24) (.agg 6), none⟩,
    ⟨some 9, .lalloc 1 6 [.i .i64 0, .i .i64 0, .i .i64 0, .i .i64 0, .i .i64 0, .sl 24 []] [5], none⟩,
    ⟨none, .lstore 1 (.t 9) (.agg 6) (.t 25), none⟩])
  (.seq (.ops false [
    ⟨some 26, .mov (.t 2), none⟩,
    ⟨some 27, .lload 0 (.t 8) (.agg 6), none⟩,
    ⟨some 28, .lload 1 (.t 9) (.agg 6), none⟩,
    ⟨some 29, .callv true (.t 26) [(.t 27), (.t 28)] [.b], none⟩,
    ⟨some 30, .not (.t 29), none⟩])
  (.cond (.t 30) (.seq (.ops false [
    ⟨some 6, .mov (.c (.b false)), none⟩])
  (.ret)) (.skip))))))
  (.ops false [
    ⟨some 31, .arith .add .i64 (.t 17) (.c (.i .i64 1)), none⟩,
    ⟨some 17, .mov (.t 31), none⟩])))) [⟨1, .glob, (.sl 6)⟩, ⟨2, .glob, .any⟩, ⟨15, .glob, (.sl 6)⟩, ⟨16, .glob, (.i .i64)⟩, ⟨17, .glob, (.i .i64)⟩] [] [] [⟨6, .glob, .b⟩]))
  (.seq (.ops false [
    ⟨some 6, .mov (.c (.b true)), none⟩])
  (.ret))))
def fd_slices_EqualFunc_median_Cert_median_Cert_median_Cert_median_Cert : FD := ⟨32, 2, [(.sl 6), (.sl 6), .any], [.tmp 6 .glob .b], c_slices_EqualFunc_median_Cert_median_Cert_median_Cert_median_Cert⟩
noncomputable def G_slices_EqualFunc_median_Cert_median_Cert_median_Cert_median_Cert (N : Nat) : Env := [(31, S_median_Same N)]
noncomputable def F_slices_EqualFunc_median_Cert_median_Cert_median_Cert_median_Cert (N : Nat) (v : List (List AV) × List (List AV) × AV × Unit) (H : Heap) : Res (Bool × Unit) :=
  let t1 : Bool := COp.run (v.1.length : Int) (v.2.1.length : Int) .neq; (match t1 with | true => (ok (false, ()) H) | false => (reqB (v.2.2.1.atom) (Tup.d [.b]) <| let r5 := iter (α := List (List AV) × AV × List (List AV) × Int × Int × Unit) (β := Sum (Unit) (Bool × Unit)) (Sum.inl (Tup.d [])) (fun R3 v2 H4 => let t6 : Bool := COp.run v2.2.2.2.2.1 v2.2.2.2.1 .lss; (match t6 with | true => (reqB (inb v2.2.2.2.2.1 v2.2.2.1.length) (Sum.inl (Tup.d [])) <| let t7 : List AV := nth v2.2.2.1 v2.2.2.2.2.1.toNat []; reqB (t7.length == 6) (Sum.inl (Tup.d [])) <| reqB (inb v2.2.2.2.2.1 v2.1.length) (Sum.inl (Tup.d [])) <| let t8 : List AV := nth v2.1 v2.2.2.2.2.1.toNat []; reqB (t8.length == 6) (Sum.inl (Tup.d [])) <| let r9 := appV (G_slices_EqualFunc_median_Cert_median_Cert_median_Cert_median_Cert N) v2.2.1 [.ag t7, .ag t8] H4; reqB (puV (G_slices_EqualFunc_median_Cert_median_Cert_median_Cert_median_Cert N) v2.2.1) (Sum.inl (Tup.d [])) <| reqB (r9.out.length == 1) (Sum.inl (Tup.d [])) <| reqB ((r9.out.headD .junk).isB) (Sum.inl (Tup.d [])) <| req (r9.pre) <| let t10 : Bool := !((r9.out.headD .junk).bool); (match t10 with | true => (ok (Sum.inr (false, ())) H4) | false => (let t11 : Int := AOp.run .i64 v2.2.2.2.2.1 1 .add; reqB (v2.2.1.atom) (Sum.inl (Tup.d [])) <| R3 (v2.1, v2.2.1, v2.2.2.1, v2.2.2.2.1, t11, ()) H4))) | false => (ok (Sum.inl ()) H4))) N (v.2.1, v.2.2.1, v.1, (v.1.length : Int), 0, ()) H; req r5.pre <| sumElim r5.out (fun w12 => ok (true, ()) r5.H) (fun w13 => ok (w13.1, ()) r5.H)))
noncomputable def S_slices_EqualFunc_median_Cert_median_Cert_median_Cert_median_Cert (N : Nat) : Sem := ⟨[(.sl 6), (.sl 6), .any], [.b], .glob, true, F_slices_EqualFunc_median_Cert_median_Cert_median_Cert_median_Cert N⟩
theorem den_slices_EqualFunc_median_Cert_median_Cert_median_Cert_median_Cert (N : Nat) (v : List (List AV) × List (List AV) × AV × Unit) (H : Heap) : fd_slices_EqualFunc_median_Cert_median_Cert_median_Cert_median_Cert.sem N (G_slices_EqualFunc_median_Cert_median_Cert_median_Cert_median_Cert N) v H = F_slices_EqualFunc_median_Cert_median_Cert_median_Cert_median_Cert N v H := by kernel_rfl

/-! folkmoot/cut.Same -/
def c_cut_Same : C' :=
  .seq (.ops false [
    ⟨some 2, .lbox 0 25 (.t 0) false, none⟩,
    ⟨some 3, .lbox 1 25 (.t 1) false, none⟩,
    ⟨some 4, .mov (.c (.b false)), none⟩])
  (.seq (.ops false [
    ⟨some 5, .fa (.t 2) 0, none⟩,
    ⟨some 6, .lload 0 (.t 5) (.one (.i .i64)), none⟩,
    ⟨some 7, .fa (.t 3) 0, none⟩,
    ⟨some 8, .lload 1 (.t 7) (.one (.i .i64)), none⟩,
    ⟨some 9, .cmp .eql .i64 (.t 6) (.t 8), none⟩,
    ⟨some 10, .mov (.t 9), none⟩,
    ⟨some 11, .fa (.t 2) 1, some (10, true, false)⟩,
    ⟨some 12, .lload 0 (.t 11) (.one (.i .i64)), some (10, true, false)⟩,
    ⟨some 13, .fa (.t 3) 1, some (10, true, false)⟩,
    ⟨some 14, .lload 1 (.t 13) (.one (.i .i64)), some (10, true, false)⟩,
    ⟨some 15, .cmp .eql .i64 (.t 12) (.t 14), some (10, true, false)⟩,
    ⟨some 16, .pick (.t 10) (.t 15) (.c (.b false)), none⟩,
    ⟨some 17, .mov (.t 16), none⟩,
    ⟨some 18, .fa (.t 2) 2, some (17, true, false)⟩,
    ⟨some 19, .lload 0 (.t 18) (.one (.i .i64)), some (17, true, false)⟩,
    ⟨some 20, .fa (.t 3) 2, some (17, true, false)⟩,
    ⟨some 21, .lload 1 (.t 20) (.one (.i .i64)), some (17, true, false)⟩,
    ⟨some 22, .cmp .eql .i64 (.t 19) (.t 21), some (17, true, false)⟩,
    ⟨some 23, .pick (.t 17) (.t 22) (.c (.b false)), none⟩,
    ⟨some 24, .mov (.t 23), none⟩,
    ⟨some 25, .fa (.t 2) 3, some (24, true, false)⟩,
    ⟨some 26, .lload 0 (.t 25) (.one (.sl 6)), some (24, true, false)⟩,
    ⟨some 27, .fa (.t 3) 3, some (24, true, false)⟩,
    ⟨some 28, .lload 1 (.t 27) (.one (.sl 6)), some (24, true, false)⟩,
    ⟨some 29, .call true false 55 [(.t 26), (.t 28), (.c (.fn 31 []))], some (24, true, false)⟩,
    ⟨some 30, .pick (.t 24) (.t 29) (.c (.b false)), none⟩,
    ⟨some 31, .mov (.t 30), none⟩,
    ⟨some 32, .fa (.t 2) 4, some (31, true, false)⟩,
    ⟨some 33, .lload 0 (.t 32) (.agg 21), some (31, true, false)⟩,
    ⟨some 34, .fa (.t 3) 4, some (31, true, false)⟩,
    ⟨some 35, .lload 1 (.t 34) (.agg 21), some (31, true, false)⟩,
    ⟨some 36, .call true false 53 [(.t 33), (.t 35)], some (31, true, false)⟩,
    ⟨some 37, .pick (.t 31) (.t 36) (.c (.b false)), none⟩,
    ⟨some 4, .mov (.t 37), none⟩])
  (.ret))
def fd_cut_Same : FD := ⟨38, 2, [.ag, .ag], [.tmp 4 .glob .b], c_cut_Same⟩
noncomputable def G_cut_Same (N : Nat) : Env := [(53, S_key_Same N), (55, S_slices_EqualFunc_median_Cert_median_Cert_median_Cert_median_Cert N)]
noncomputable def F_cut_Same (N : Nat) (v : List AV × List AV × Unit) (H : Heap) : Res (Bool × Unit) :=
  reqB (v.1.length == 25) (Tup.d [.b]) <| reqB (v.2.1.length == 25) (Tup.d [.b]) <| reqB ((nth v.1 0 .junk).isI .i64) (Tup.d [.b]) <| reqB ((nth v.2.1 0 .junk).isI .i64) (Tup.d [.b]) <| let t1 : Bool := COp.run ((nth v.1 0 .junk).num) ((nth v.2.1 0 .junk).num) .eql; reqG (t1) ((nth v.1 1 .junk).isI .i64) <| req (imp t1 t1) <| reqG (t1) ((nth v.2.1 1 .junk).isI .i64) <| req (imp t1 t1) <| req (imp t1 t1) <| req (imp t1 t1) <| let t2 : Bool := COp.run ((nth v.1 1 .junk).num) ((nth v.2.1 1 .junk).num) .eql; req (imp t1 t1) <| reqG ((t1 && t2)) ((nth v.1 2 .junk).isI .i64) <| req (imp (t1 && t2) (t1 && t2)) <| reqG ((t1 && t2)) ((nth v.2.1 2 .junk).isI .i64) <| req (imp (t1 && t2) (t1 && t2)) <| req (imp (t1 && t2) (t1 && t2)) <| req (imp (t1 && t2) (t1 && t2)) <| let t3 : Bool := COp.run ((nth v.1 2 .junk).num) ((nth v.2.1 2 .junk).num) .eql; req (imp (t1 && t2) (t1 && t2)) <| reqG (((t1 && t2) && t3)) ((nth v.1 3 .junk).isSl 6) <| req (imp ((t1 && t2) && t3) ((t1 && t2) && t3)) <| reqG (((t1 && t2) && t3)) ((nth v.2.1 3 .junk).isSl 6) <| req (imp ((t1 && t2) && t3) ((t1 && t2) && t3)) <| let r4 := F_slices_EqualFunc_median_Cert_median_Cert_median_Cert_median_Cert N ((nth v.1 3 .junk).els, (nth v.2.1 3 .junk).els, (.fn 31 [] : AV), ()) H; req (imp ((t1 && t2) && t3) ((t1 && t2) && t3)) <| req (imp ((t1 && t2) && t3) ((t1 && t2) && t3)) <| req (imp ((t1 && t2) && t3) r4.pre) <| req (imp ((t1 && t2) && t3) ((t1 && t2) && t3)) <| let t5 : Bool := (((t1 && t2) && t3) && r4.out.1); req (imp t5 t5) <| req (imp t5 t5) <| let r6 := F_key_Same N (sub v.1 4 21, sub v.2.1 4 21, ()) H; req (imp t5 t5) <| req (imp t5 t5) <| req (imp t5 r6.pre) <| req (imp t5 t5) <| ok ((t5 && r6.out.1), ()) H
noncomputable def S_cut_Same (N : Nat) : Sem := ⟨[.ag, .ag], [.b], .glob, true, F_cut_Same N⟩
theorem den_cut_Same (N : Nat) (v : List AV × List AV × Unit) (H : Heap) : fd_cut_Same.sem N (G_cut_Same N) v H = F_cut_Same N v H := by kernel_rfl

/-! folkmoot/msg.sameVote -/
def c_msg_sameVote : C' :=
  .seq (.ops false [
    ⟨some 2, .lbox 0 24 (.t 0) false, none⟩,
    ⟨some 3, .lbox 1 24 (.t 1) false, none⟩,
    ⟨some 4, .mov (.c (.b false)), none⟩])
  (.seq (.ops false [
    ⟨some 5, .fa (.t 2) 0, none⟩,
    ⟨some 6, .lload 0 (.t 5) (.one (.i .i64)), none⟩,
    ⟨some 7, .fa (.t 3) 0, none⟩,
    ⟨some 8, .lload 1 (.t 7) (.one (.i .i64)), none⟩,
    ⟨some 9, .cmp .eql .i64 (.t 6) (.t 8), none⟩,
    ⟨some 10, .mov (.t 9), none⟩,
    ⟨some 11, .fa (.t 2) 1, some (10, true, false)⟩,
    ⟨some 12, .lload 0 (.t 11) (.one (.i .u64)), some (10, true, false)⟩,
    ⟨some 13, .fa (.t 3) 1, some (10, true, false)⟩,
    ⟨some 14, .lload 1 (.t 13) (.one (.i .u64)), some (10, true, false)⟩,
    ⟨some 15, .cmp .eql .u64 (.t 12) (.t 14), some (10, true, false)⟩,
    ⟨some 16, .pick (.t 10) (.t 15) (.c (.b false)), none⟩,
    ⟨some 17, .mov (.t 16), none⟩,
    ⟨some 18, .fa (.t 2) 2, some (17, true, false)⟩,
    ⟨some 19, .lload 0 (.t 18) (.one (.i .i64)), some (17, true, false)⟩,
    ⟨some 20, .fa (.t 3) 2, some (17, true, false)⟩,
    ⟨some 21, .lload 1 (.t 20) (.one (.i .i64)), some (17, true, false)⟩,
    ⟨some 22, .cmp .eql .i64 (.t 19) (.t 21), some (17, true, false)⟩,
    ⟨some 23, .pick (.t 17) (.t 22) (.c (.b false)), none⟩,
    ⟨some 24, .mov (.t 23), none⟩,
    ⟨some 25, .fa (.t 2) 3, some (24, true, false)⟩,
    ⟨some 26, .lload 0 (.t 25) (.agg 21), some (24, true, false)⟩,
    ⟨some 27, .fa (.t 3) 3, some (24, true, false)⟩,
    ⟨some 28, .lload 1 (.t 27) (.agg 21), some (24, true, false)⟩,
    ⟨some 29, .call true false 53 [(.t 26), (.t 28)], some (24, true, false)⟩,
    ⟨some 30, .pick (.t 24) (.t 29) (.c (.b false)), none⟩,
    ⟨some 4, .mov (.t 30), none⟩])
  (.ret))
def fd_msg_sameVote : FD := ⟨31, 2, [.ag, .ag], [.tmp 4 .glob .b], c_msg_sameVote⟩
noncomputable def G_msg_sameVote (N : Nat) : Env := [(53, S_key_Same N)]
noncomputable def F_msg_sameVote (N : Nat) (v : List AV × List AV × Unit) (H : Heap) : Res (Bool × Unit) :=
  reqB (v.1.length == 24) (Tup.d [.b]) <| reqB (v.2.1.length == 24) (Tup.d [.b]) <| reqB ((nth v.1 0 .junk).isI .i64) (Tup.d [.b]) <| reqB ((nth v.2.1 0 .junk).isI .i64) (Tup.d [.b]) <| let t1 : Bool := COp.run ((nth v.1 0 .junk).num) ((nth v.2.1 0 .junk).num) .eql; reqG (t1) ((nth v.1 1 .junk).isI .u64) <| req (imp t1 t1) <| reqG (t1) ((nth v.2.1 1 .junk).isI .u64) <| req (imp t1 t1) <| req (imp t1 t1) <| req (imp t1 t1) <| let t2 : Bool := COp.run ((nth v.1 1 .junk).num) ((nth v.2.1 1 .junk).num) .eql; req (imp t1 t1) <| reqG ((t1 && t2)) ((nth v.1 2 .junk).isI .i64) <| req (imp (t1 && t2) (t1 && t2)) <| reqG ((t1 && t2)) ((nth v.2.1 2 .junk).isI .i64) <| req (imp (t1 && t2) (t1 && t2)) <| req (imp (t1 && t2) (t1 && t2)) <| req (imp (t1 && t2) (t1 && t2)) <| let t3 : Bool := COp.run ((nth v.1 2 .junk).num) ((nth v.2.1 2 .junk).num) .eql; req (imp (t1 && t2) (t1 && t2)) <| req (imp ((t1 && t2) && t3) ((t1 && t2) && t3)) <| req (imp ((t1 && t2) && t3) ((t1 && t2) && t3)) <| let r4 := F_key_Same N (sub v.1 3 21, sub v.2.1 3 21, ()) H; req (imp ((t1 && t2) && t3) ((t1 && t2) && t3)) <| req (imp ((t1 && t2) && t3) ((t1 && t2) && t3)) <| req (imp ((t1 && t2) && t3) r4.pre) <| req (imp ((t1 && t2) && t3) ((t1 && t2) && t3)) <| let t5 : Bool := (((t1 && t2) && t3) && r4.out.1); ok (t5, ()) H
noncomputable def S_msg_sameVote (N : Nat) : Sem := ⟨[.ag, .ag], [.b], .glob, true, F_msg_sameVote N⟩
theorem den_msg_sameVote (N : Nat) (v : List AV × List AV × Unit) (H : Heap) : fd_msg_sameVote.sem N (G_msg_sameVote N) v H = F_msg_sameVote N v H := by kernel_rfl

/-! slices.EqualFunc[[]folkmoot/block.Vote,[]folkmoot/block.Vote,folkmoot/block.Vote,folkmoot/block.Vote] -/
def c_slices_EqualFunc_block_Vote_block_Vote_block_Vote_block_Vote : C' :=
  .seq (.ops false [
    ⟨some 6, .mov (.c (.b false)), none⟩])
  (.seq (.seq (.ops false [
    ⟨some 10, .mov (.t 0), none⟩,
    ⟨some 11, .lenL (.t 10) 24, none⟩,
    ⟨some 12, .mov (.t 1), none⟩,
    ⟨some 13, .lenL (.t 12) 24, none⟩,
    ⟨some 14, .cmp .neq .i64 (.t 11) (.t 13), none⟩])
  (.cond (.t 14) (.seq (.ops false [
    ⟨some 6, .mov (.c (.b false)), none⟩])
  (.ret)) (.skip)))
  (.seq (.seq (.ops false [
    ⟨some 15, .mov (.t 0), none⟩,
    ⟨some 16, .lenL (.t 15) 24, none⟩,
    ⟨some 17, .mov (.c (.i .i64 0)), none⟩])
  (.loopR 0 (.seq (.ops false [
    ⟨some 18, .cmp .lss .i64 (.t 17) (.t 16), none⟩])
  (.seq (.cond (.t 18) (.skip) (.exit 0))
  (.seq (.block 1 (.seq (.ops false [
    ⟨some 19, .mov (.t 17), none⟩,
    ⟨some 20, .ixa (.t 15) (.t 17) .i64 24, none⟩,
    ⟨some 21, .iload (.t 20) (.agg 24), none⟩,
    ⟨some 8, .lalloc 0 24 [.i .i64 0, .i .u64 0, .i .i64 0, .i .i64 0, .i .i64 0, .i .u64 0, .i .u64 0, .i .u64 0, .i .u64 0, .i .u64 0, .i .u64 0, .i .u64 0, .i .u64 0, .i .u64 0, .i .u64 0, .i .u64 0, .i .u64 0, .i .u64 0, .i .u64 0, .i .u64 0, .i .u64 0, .i .u64 0, .i .u64 0, .sl 1 []] [23], none⟩,
    ⟨some 7, .mov (.t 19), none⟩,
    ⟨none, .lstore 0 (.t 8) (.agg 24) (.t 21), none⟩])
  (.seq (.ops false [
    ⟨some 22, .mov (.t 1), none⟩,
    ⟨some 23, .mov (.t 7), none⟩,
    ⟨some 24, .ixa (.t 22) (.t 23) .i64 24, none⟩,
    ⟨some 25, .iload (.t 24) (.agg 24), none⟩,
    ⟨some 9, .lalloc 1 24 [.i .i64 0, .i .u64 0, .i .i64 0, .i .i64 0, .i .i64 0, .i .u64 0, .i .u64 0, .i .u64 0, .i .u64 0, .i .u64 0, .i .u64 0, .i .u64 0, .i .u64 0, .i .u64 0, .i .u64 0, .i .u64 0, .i .u64 0, .i .u64 0, .i .u64 0, .i .u64 0, .i .u64 0, .i .u64 0, .i .u64 0, .sl 1 []] [23], none⟩,
    ⟨none, .lstore 1 (.t 9) (.agg 24) (.t 25), none⟩])
  (.seq (.ops false [
    ⟨some 26, .mov (.t 2), none⟩,
    ⟨some 27, .lload 0 (.t 8) (.agg 24), none⟩,
    ⟨some 28, .lload 1 (.t 9) (.agg 24), none⟩,
    ⟨some 29, .callv true (.t 26) [(.t 27), (.t 28)] [.b], none⟩,
    ⟨some 30, .not (.t 29), none⟩])
  (.cond (.t 30) (.seq (.ops false [
    ⟨some 6, .mov (.c (.b false)), none⟩])
  (.ret)) (.skip))))))
  (.ops false [
    ⟨some 31, .arith .add .i64 (.t 17) (.c (.i .i64 1)), none⟩,
    ⟨some 17, .mov (.t 31), none⟩])))) [⟨1, .glob, (.sl 24)⟩, ⟨2, .glob, .any⟩, ⟨15, .glob, (.sl 24)⟩, ⟨16, .glob, (.i .i64)⟩, ⟨17, .glob, (.i .i64)⟩] [] [] [⟨6, .glob, .b⟩]))
  (.seq (.ops false [
    ⟨some 6, .mov (.c (.b true)), none⟩])
  (.ret))))
def fd_slices_EqualFunc_block_Vote_block_Vote_block_Vote_block_Vote : FD := ⟨32, 2, [(.sl 24), (.sl 24), .any], [.tmp 6 .glob .b], c_slices_EqualFunc_block_Vote_block_Vote_block_Vote_block_Vote⟩
noncomputable def G_slices_EqualFunc_block_Vote_block_Vote_block_Vote_block_Vote (N : Nat) : Env := [(35, S_msg_sameVote N)]
noncomputable def F_slices_EqualFunc_block_Vote_block_Vote_block_Vote_block_Vote (N : Nat) (v : List (List AV) × List (List AV) × AV × Unit) (H : Heap) : Res (Bool × Unit) :=
  let t1 : Bool := COp.run (v.1.length : Int) (v.2.1.length : Int) .neq; (match t1 with | true => (ok (false, ()) H) | false => (reqB (v.2.2.1.atom) (Tup.d [.b]) <| let r5 := iter (α := List (List AV) × AV × List (List AV) × Int × Int × Unit) (β := Sum (Unit) (Bool × Unit)) (Sum.inl (Tup.d [])) (fun R3 v2 H4 => let t6 : Bool := COp.run v2.2.2.2.2.1 v2.2.2.2.1 .lss; (match t6 with | true => (reqB (inb v2.2.2.2.2.1 v2.2.2.1.length) (Sum.inl (Tup.d [])) <| let t7 : List AV := nth v2.2.2.1 v2.2.2.2.2.1.toNat []; reqB (t7.length == 24) (Sum.inl (Tup.d [])) <| reqB (inb v2.2.2.2.2.1 v2.1.length) (Sum.inl (Tup.d [])) <| let t8 : List AV := nth v2.1 v2.2.2.2.2.1.toNat []; reqB (t8.length == 24) (Sum.inl (Tup.d [])) <| let r9 := appV (G_slices_EqualFunc_block_Vote_block_Vote_block_Vote_block_Vote N) v2.2.1 [.ag t7, .ag t8] H4; reqB (puV (G_slices_EqualFunc_block_Vote_block_Vote_block_Vote_block_Vote N) v2.2.1) (Sum.inl (Tup.d [])) <| reqB (r9.out.length == 1) (Sum.inl (Tup.d [])) <| reqB ((r9.out.headD .junk).isB) (Sum.inl (Tup.d [])) <| req (r9.pre) <| let t10 : Bool := !((r9.out.headD .junk).bool); (match t10 with | true => (ok (Sum.inr (false, ())) H4) | false => (let t11 : Int := AOp.run .i64 v2.2.2.2.2.1 1 .add; reqB (v2.2.1.atom) (Sum.inl (Tup.d [])) <| R3 (v2.1, v2.2.1, v2.2.2.1, v2.2.2.2.1, t11, ()) H4))) | false => (ok (Sum.inl ()) H4))) N (v.2.1, v.2.2.1, v.1, (v.1.length : Int), 0, ()) H; req r5.pre <| sumElim r5.out (fun w12 => ok (true, ()) r5.H) (fun w13 => ok (w13.1, ()) r5.H)))
noncomputable def S_slices_EqualFunc_block_Vote_block_Vote_block_Vote_block_Vote (N : Nat) : Sem := ⟨[(.sl 24), (.sl 24), .any], [.b], .glob, true, F_slices_EqualFunc_block_Vote_block_Vote_block_Vote_block_Vote N⟩
theorem den_slices_EqualFunc_block_Vote_block_Vote_block_Vote_block_Vote (N : Nat) (v : List (List AV) × List (List AV) × AV × Unit) (H : Heap) : fd_slices_EqualFunc_block_Vote_block_Vote_block_Vote_block_Vote.sem N (G_slices_EqualFunc_block_Vote_block_Vote_block_Vote_block_Vote N) v H = F_slices_EqualFunc_block_Vote_block_Vote_block_Vote_block_Vote N v H := by kernel_rfl

/-! folkmoot/msg.rows[folkmoot/block.Vote] -/
def c_msg_rows_block_Vote : C' :=
  .seq (.ops false [
    ⟨some 6, .mov (.c (.b false)), none⟩])
  (.seq (.ops false [
    ⟨some 7, .mov (.t 0), none⟩,
    ⟨some 8, .mov (.t 1), none⟩,
    ⟨some 9, .mov (.t 2), none⟩,
    ⟨some 10, .call true false 78 [(.t 7), (.t 8), (.t 9)], none⟩,
    ⟨some 6, .mov (.t 10), none⟩])
  (.ret))
def fd_msg_rows_block_Vote : FD := ⟨11, 0, [(.sl 24), (.sl 24), .any], [.tmp 6 .glob .b], c_msg_rows_block_Vote⟩
noncomputable def G_msg_rows_block_Vote (N : Nat) : Env := [(78, S_slices_EqualFunc_block_Vote_block_Vote_block_Vote_block_Vote N)]
noncomputable def F_msg_rows_block_Vote (N : Nat) (v : List (List AV) × List (List AV) × AV × Unit) (H : Heap) : Res (Bool × Unit) :=
  let r1 := F_slices_EqualFunc_block_Vote_block_Vote_block_Vote_block_Vote N (v.1, v.2.1, v.2.2.1, ()) H; reqB (v.2.2.1.atom) (Tup.d [.b]) <| req (r1.pre) <| ok (r1.out.1, ()) H
noncomputable def S_msg_rows_block_Vote (N : Nat) : Sem := ⟨[(.sl 24), (.sl 24), .any], [.b], .glob, true, F_msg_rows_block_Vote N⟩
theorem den_msg_rows_block_Vote (N : Nat) (v : List (List AV) × List (List AV) × AV × Unit) (H : Heap) : fd_msg_rows_block_Vote.sem N (G_msg_rows_block_Vote N) v H = F_msg_rows_block_Vote N v H := by kernel_rfl

/-! folkmoot/msg.sameQC -/
def c_msg_sameQC : C' :=
  .seq (.ops false [
    ⟨some 2, .lbox 0 3 (.t 0) false, none⟩,
    ⟨some 3, .lbox 1 3 (.t 1) false, none⟩,
    ⟨some 4, .mov (.c (.b false)), none⟩])
  (.seq (.ops false [
    ⟨some 5, .fa (.t 2) 0, none⟩,
    ⟨some 6, .lload 0 (.t 5) (.one (.i .i64)), none⟩,
    ⟨some 7, .fa (.t 3) 0, none⟩,
    ⟨some 8, .lload 1 (.t 7) (.one (.i .i64)), none⟩,
    ⟨some 9, .cmp .eql .i64 (.t 6) (.t 8), none⟩,
    ⟨some 10, .mov (.t 9), none⟩,
    ⟨some 11, .fa (.t 2) 1, some (10, true, false)⟩,
    ⟨some 12, .lload 0 (.t 11) (.one (.i .u64)), some (10, true, false)⟩,
    ⟨some 13, .fa (.t 3) 1, some (10, true, false)⟩,
    ⟨some 14, .lload 1 (.t 13) (.one (.i .u64)), some (10, true, false)⟩,
    ⟨some 15, .cmp .eql .u64 (.t 12) (.t 14), some (10, true, false)⟩,
    ⟨some 16, .pick (.t 10) (.t 15) (.c (.b false)), none⟩,
    ⟨some 17, .mov (.t 16), none⟩,
    ⟨some 18, .fa (.t 2) 2, some (17, true, false)⟩,
    ⟨some 19, .lload 0 (.t 18) (.one (.sl 24)), some (17, true, false)⟩,
    ⟨some 20, .fa (.t 3) 2, some (17, true, false)⟩,
    ⟨some 21, .lload 1 (.t 20) (.one (.sl 24)), some (17, true, false)⟩,
    ⟨some 22, .call true false 71 [(.t 19), (.t 21), (.c (.fn 35 []))], some (17, true, false)⟩,
    ⟨some 23, .pick (.t 17) (.t 22) (.c (.b false)), none⟩,
    ⟨some 4, .mov (.t 23), none⟩])
  (.ret))
def fd_msg_sameQC : FD := ⟨24, 2, [.ag, .ag], [.tmp 4 .glob .b], c_msg_sameQC⟩
noncomputable def G_msg_sameQC (N : Nat) : Env := [(71, S_msg_rows_block_Vote N)]
noncomputable def F_msg_sameQC (N : Nat) (v : List AV × List AV × Unit) (H : Heap) : Res (Bool × Unit) :=
  reqB (v.1.length == 3) (Tup.d [.b]) <| reqB (v.2.1.length == 3) (Tup.d [.b]) <| reqB ((nth v.1 0 .junk).isI .i64) (Tup.d [.b]) <| reqB ((nth v.2.1 0 .junk).isI .i64) (Tup.d [.b]) <| let t1 : Bool := COp.run ((nth v.1 0 .junk).num) ((nth v.2.1 0 .junk).num) .eql; reqG (t1) ((nth v.1 1 .junk).isI .u64) <| req (imp t1 t1) <| reqG (t1) ((nth v.2.1 1 .junk).isI .u64) <| req (imp t1 t1) <| req (imp t1 t1) <| req (imp t1 t1) <| let t2 : Bool := COp.run ((nth v.1 1 .junk).num) ((nth v.2.1 1 .junk).num) .eql; req (imp t1 t1) <| reqG ((t1 && t2)) ((nth v.1 2 .junk).isSl 24) <| req (imp (t1 && t2) (t1 && t2)) <| reqG ((t1 && t2)) ((nth v.2.1 2 .junk).isSl 24) <| req (imp (t1 && t2) (t1 && t2)) <| let r3 := F_msg_rows_block_Vote N ((nth v.1 2 .junk).els, (nth v.2.1 2 .junk).els, (.fn 35 [] : AV), ()) H; req (imp (t1 && t2) (t1 && t2)) <| req (imp (t1 && t2) (t1 && t2)) <| req (imp (t1 && t2) r3.pre) <| req (imp (t1 && t2) (t1 && t2)) <| let t4 : Bool := ((t1 && t2) && r3.out.1); ok (t4, ()) H
noncomputable def S_msg_sameQC (N : Nat) : Sem := ⟨[.ag, .ag], [.b], .glob, true, F_msg_sameQC N⟩
theorem den_msg_sameQC (N : Nat) (v : List AV × List AV × Unit) (H : Heap) : fd_msg_sameQC.sem N (G_msg_sameQC N) v H = F_msg_sameQC N v H := by kernel_rfl

/-! slices.EqualFunc[[]folkmoot/cut.Report,[]folkmoot/cut.Report,folkmoot/cut.Report,folkmoot/cut.Report] -/
def c_slices_EqualFunc_cut_Report_cut_Report_cut_Report_cut_Report : C' :=
  .seq (.ops false [
    ⟨some 6, .mov (.c (.b false)), none⟩])
  (.seq (.seq (.ops false [
    ⟨some 10, .mov (.t 0), none⟩,
    ⟨some 11, .lenL (.t 10) 25, none⟩,
    ⟨some 12, .mov (.t 1), none⟩,
    ⟨some 13, .lenL (.t 12) 25, none⟩,
    ⟨some 14, .cmp .neq .i64 (.t 11) (.t 13), none⟩])
  (.cond (.t 14) (.seq (.ops false [
    ⟨some 6, .mov (.c (.b false)), none⟩])
  (.ret)) (.skip)))
  (.seq (.seq (.ops false [
    ⟨some 15, .mov (.t 0), none⟩,
    ⟨some 16, .lenL (.t 15) 25, none⟩,
    ⟨some 17, .mov (.c (.i .i64 0)), none⟩])
  (.loopR 0 (.seq (.ops false [
    ⟨some 18, .cmp .lss .i64 (.t 17) (.t 16), none⟩])
  (.seq (.cond (.t 18) (.skip) (.exit 0))
  (.seq (.block 1 (.seq (.ops false [
    ⟨some 19, .mov (.t 17), none⟩,
    ⟨some 20, .ixa (.t 15) (.t 17) .i64 25, none⟩,
    ⟨some 21, .iload (.t 20) (.agg 25), none⟩,
    ⟨some 8, .lalloc 0 25 [.i .i64 0, .i .i64 0, .i .i64 0, .sl 6 [], .i .i64 0, .i .i64 0, .i .u64 0, .i .u64 0, .i .u64 0, .i .u64 0, .i .u64 0, .i .u64 0, .i .u64 0, .i .u64 0, .i .u64 0, .i .u64 0, .i .u64 0, .i .u64 0, .i .u64 0, .i .u64 0, .i .u64 0, .i .u64 0, .i .u64 0, .i .u64 0, .sl 1 []] [3, 24], none⟩,
    ⟨some 7, .mov (.t 19), none⟩,
    ⟨none, .lstore 0 (.t 8) (.agg 25) (.t 21), none⟩])
  (.seq (.ops false [
    ⟨some 22, .mov (.t 1), none⟩,
    ⟨some 23, .mov (.t 7), none⟩,
    ⟨some 24, .ixa (.t 22) (.t 23) .i64 25, none⟩,
    ⟨some 25, .iload (.t 24) (.agg 25), none⟩,
    ⟨some 9, .lalloc 1 25 [.i .i64 0, .i .i64 0, .i .i64 0, .sl 6 [], .i .i64 0, .i .i64 0, .i .u64 0, .i .u64 0, .i .u64 0, .i .u64 0, .i .u64 0, .i .u64 0, .i .u64 0, .i .u64 0, .i .u64 0, .i .u64 0, .i .u64 0, .i .u64 0, .i .u64 0, .i .u64 0, .i .u64 0, .i .u64 0, .i .u64 0, .i .u64 0, .sl 1 []] [3, 24], none⟩,
    ⟨none, .lstore 1 (.t 9) (.agg 25) (.t 25), none⟩])
  (.seq (.ops false [
    ⟨some 26, .mov (.t 2), none⟩,
    ⟨some 27, .lload 0 (.t 8) (.agg 25), none⟩,
    ⟨some 28, .lload 1 (.t 9) (.agg 25), none⟩,
    ⟨some 29, .callv true (.t 26) [(.t 27), (.t 28)] [.b], none⟩,
    ⟨some 30, .not (.t 29), none⟩])
  (.cond (.t 30) (.seq (.ops false [
    ⟨some 6, .mov (.c (.b false)), none⟩])
  (.ret)) (.skip))))))
  (.ops false [
    ⟨some 31, .arith .add .i64 (.t 17) (.c (.i .i64 1)), none⟩,
    ⟨some 17, .mov (.t 31), none⟩])))) [⟨1, .glob, (.sl 25)⟩, ⟨2, .glob, .any⟩, ⟨15, .glob, (.sl 25)⟩, ⟨16, .glob, (.i .i64)⟩, ⟨17, .glob, (.i .i64)⟩] [] [] [⟨6, .glob, .b⟩]))
  (.seq (.ops false [
    ⟨some 6, .mov (.c (.b true)), none⟩])
  (.ret))))
def fd_slices_EqualFunc_cut_Report_cut_Report_cut_Report_cut_Report : FD := ⟨32, 2, [(.sl 25), (.sl 25), .any], [.tmp 6 .glob .b], c_slices_EqualFunc_cut_Report_cut_Report_cut_Report_cut_Report⟩
noncomputable def G_slices_EqualFunc_cut_Report_cut_Report_cut_Report_cut_Report (N : Nat) : Env := [(33, S_cut_Same N)]
noncomputable def F_slices_EqualFunc_cut_Report_cut_Report_cut_Report_cut_Report (N : Nat) (v : List (List AV) × List (List AV) × AV × Unit) (H : Heap) : Res (Bool × Unit) :=
  let t1 : Bool := COp.run (v.1.length : Int) (v.2.1.length : Int) .neq; (match t1 with | true => (ok (false, ()) H) | false => (reqB (v.2.2.1.atom) (Tup.d [.b]) <| let r5 := iter (α := List (List AV) × AV × List (List AV) × Int × Int × Unit) (β := Sum (Unit) (Bool × Unit)) (Sum.inl (Tup.d [])) (fun R3 v2 H4 => let t6 : Bool := COp.run v2.2.2.2.2.1 v2.2.2.2.1 .lss; (match t6 with | true => (reqB (inb v2.2.2.2.2.1 v2.2.2.1.length) (Sum.inl (Tup.d [])) <| let t7 : List AV := nth v2.2.2.1 v2.2.2.2.2.1.toNat []; reqB (t7.length == 25) (Sum.inl (Tup.d [])) <| reqB (inb v2.2.2.2.2.1 v2.1.length) (Sum.inl (Tup.d [])) <| let t8 : List AV := nth v2.1 v2.2.2.2.2.1.toNat []; reqB (t8.length == 25) (Sum.inl (Tup.d [])) <| let r9 := appV (G_slices_EqualFunc_cut_Report_cut_Report_cut_Report_cut_Report N) v2.2.1 [.ag t7, .ag t8] H4; reqB (puV (G_slices_EqualFunc_cut_Report_cut_Report_cut_Report_cut_Report N) v2.2.1) (Sum.inl (Tup.d [])) <| reqB (r9.out.length == 1) (Sum.inl (Tup.d [])) <| reqB ((r9.out.headD .junk).isB) (Sum.inl (Tup.d [])) <| req (r9.pre) <| let t10 : Bool := !((r9.out.headD .junk).bool); (match t10 with | true => (ok (Sum.inr (false, ())) H4) | false => (let t11 : Int := AOp.run .i64 v2.2.2.2.2.1 1 .add; reqB (v2.2.1.atom) (Sum.inl (Tup.d [])) <| R3 (v2.1, v2.2.1, v2.2.2.1, v2.2.2.2.1, t11, ()) H4))) | false => (ok (Sum.inl ()) H4))) N (v.2.1, v.2.2.1, v.1, (v.1.length : Int), 0, ()) H; req r5.pre <| sumElim r5.out (fun w12 => ok (true, ()) r5.H) (fun w13 => ok (w13.1, ()) r5.H)))
noncomputable def S_slices_EqualFunc_cut_Report_cut_Report_cut_Report_cut_Report (N : Nat) : Sem := ⟨[(.sl 25), (.sl 25), .any], [.b], .glob, true, F_slices_EqualFunc_cut_Report_cut_Report_cut_Report_cut_Report N⟩
theorem den_slices_EqualFunc_cut_Report_cut_Report_cut_Report_cut_Report (N : Nat) (v : List (List AV) × List (List AV) × AV × Unit) (H : Heap) : fd_slices_EqualFunc_cut_Report_cut_Report_cut_Report_cut_Report.sem N (G_slices_EqualFunc_cut_Report_cut_Report_cut_Report_cut_Report N) v H = F_slices_EqualFunc_cut_Report_cut_Report_cut_Report_cut_Report N v H := by kernel_rfl

/-! folkmoot/msg.rows[folkmoot/cut.Report] -/
def c_msg_rows_cut_Report : C' :=
  .seq (.ops false [
    ⟨some 6, .mov (.c (.b false)), none⟩])
  (.seq (.ops false [
    ⟨some 7, .mov (.t 0), none⟩,
    ⟨some 8, .mov (.t 1), none⟩,
    ⟨some 9, .mov (.t 2), none⟩,
    ⟨some 10, .call true false 72 [(.t 7), (.t 8), (.t 9)], none⟩,
    ⟨some 6, .mov (.t 10), none⟩])
  (.ret))
def fd_msg_rows_cut_Report : FD := ⟨11, 0, [(.sl 25), (.sl 25), .any], [.tmp 6 .glob .b], c_msg_rows_cut_Report⟩
noncomputable def G_msg_rows_cut_Report (N : Nat) : Env := [(72, S_slices_EqualFunc_cut_Report_cut_Report_cut_Report_cut_Report N)]
noncomputable def F_msg_rows_cut_Report (N : Nat) (v : List (List AV) × List (List AV) × AV × Unit) (H : Heap) : Res (Bool × Unit) :=
  let r1 := F_slices_EqualFunc_cut_Report_cut_Report_cut_Report_cut_Report N (v.1, v.2.1, v.2.2.1, ()) H; reqB (v.2.2.1.atom) (Tup.d [.b]) <| req (r1.pre) <| ok (r1.out.1, ()) H
noncomputable def S_msg_rows_cut_Report (N : Nat) : Sem := ⟨[(.sl 25), (.sl 25), .any], [.b], .glob, true, F_msg_rows_cut_Report N⟩
theorem den_msg_rows_cut_Report (N : Nat) (v : List (List AV) × List (List AV) × AV × Unit) (H : Heap) : fd_msg_rows_cut_Report.sem N (G_msg_rows_cut_Report N) v H = F_msg_rows_cut_Report N v H := by kernel_rfl

/-! folkmoot/msg.sameBlock -/
def c_msg_sameBlock : C' :=
  .seq (.ops false [
    ⟨some 2, .lbox 0 8 (.t 0) false, none⟩,
    ⟨some 3, .lbox 1 8 (.t 1) false, none⟩,
    ⟨some 4, .mov (.c (.b false)), none⟩])
  (.seq (.ops false [
    ⟨some 5, .fa (.t 2) 0, none⟩,
    ⟨some 6, .lload 0 (.t 5) (.one (.i .i64)), none⟩,
    ⟨some 7, .fa (.t 3) 0, none⟩,
    ⟨some 8, .lload 1 (.t 7) (.one (.i .i64)), none⟩,
    ⟨some 9, .cmp .eql .i64 (.t 6) (.t 8), none⟩,
    ⟨some 10, .mov (.t 9), none⟩,
    ⟨some 11, .fa (.t 2) 1, some (10, true, false)⟩,
    ⟨some 12, .lload 0 (.t 11) (.one (.i .u64)), some (10, true, false)⟩,
    ⟨some 13, .fa (.t 3) 1, some (10, true, false)⟩,
    ⟨some 14, .lload 1 (.t 13) (.one (.i .u64)), some (10, true, false)⟩,
    ⟨some 15, .cmp .eql .u64 (.t 12) (.t 14), some (10, true, false)⟩,
    ⟨some 16, .pick (.t 10) (.t 15) (.c (.b false)), none⟩,
    ⟨some 17, .mov (.t 16), none⟩,
    ⟨some 18, .fa (.t 2) 2, some (17, true, false)⟩,
    ⟨some 19, .lload 0 (.t 18) (.agg 3), some (17, true, false)⟩,
    ⟨some 20, .fa (.t 3) 2, some (17, true, false)⟩,
    ⟨some 21, .lload 1 (.t 20) (.agg 3), some (17, true, false)⟩,
    ⟨some 22, .call true false 56 [(.t 19), (.t 21)], some (17, true, false)⟩,
    ⟨some 23, .pick (.t 17) (.t 22) (.c (.b false)), none⟩,
    ⟨some 24, .mov (.t 23), none⟩,
    ⟨some 25, .fa (.t 2) 5, some (24, true, false)⟩,
    ⟨some 26, .lload 0 (.t 25) (.one (.i .i64)), some (24, true, false)⟩,
    ⟨some 27, .fa (.t 3) 5, some (24, true, false)⟩,
    ⟨some 28, .lload 1 (.t 27) (.one (.i .i64)), some (24, true, false)⟩,
    ⟨some 29, .cmp .eql .i64 (.t 26) (.t 28), some (24, true, false)⟩,
    ⟨some 30, .pick (.t 24) (.t 29) (.c (.b false)), none⟩,
    ⟨some 31, .mov (.t 30), none⟩,
    ⟨some 32, .fa (.t 2) 6, some (31, true, false)⟩,
    ⟨some 33, .lload 0 (.t 32) (.one (.i .i64)), some (31, true, false)⟩,
    ⟨some 34, .fa (.t 3) 6, some (31, true, false)⟩,
    ⟨some 35, .lload 1 (.t 34) (.one (.i .i64)), some (31, true, false)⟩,
    ⟨some 36, .cmp .eql .i64 (.t 33) (.t 35), some (31, true, false)⟩,
    ⟨some 37, .pick (.t 31) (.t 36) (.c (.b false)), none⟩,
    ⟨some 38, .mov (.t 37), none⟩,
    ⟨some 39, .fa (.t 2) 7, some (38, true, false)⟩,
    ⟨some 40, .lload 0 (.t 39) (.one (.sl 25)), some (38, true, false)⟩,
    ⟨some 41, .fa (.t 3) 7, some (38, true, false)⟩,
    ⟨some 42, .lload 1 (.t 41) (.one (.sl 25)), some (38, true, false)⟩,
    ⟨some 43, .call true false 57 [(.t 40), (.t 42), (.c (.fn 33 []))], some (38, true, false)⟩,
    ⟨some 44, .pick (.t 38) (.t 43) (.c (.b false)), none⟩,
    ⟨some 4, .mov (.t 44), none⟩])
  (.ret))
def fd_msg_sameBlock : FD := ⟨45, 2, [.ag, .ag], [.tmp 4 .glob .b], c_msg_sameBlock⟩
noncomputable def G_msg_sameBlock (N : Nat) : Env := [(56, S_msg_sameQC N), (57, S_msg_rows_cut_Report N)]
noncomputable def F_msg_sameBlock (N : Nat) (v : List AV × List AV × Unit) (H : Heap) : Res (Bool × Unit) :=
  reqB (v.1.length == 8) (Tup.d [.b]) <| reqB (v.2.1.length == 8) (Tup.d [.b]) <| reqB ((nth v.1 0 .junk).isI .i64) (Tup.d [.b]) <| reqB ((nth v.2.1 0 .junk).isI .i64) (Tup.d [.b]) <| let t1 : Bool := COp.run ((nth v.1 0 .junk).num) ((nth v.2.1 0 .junk).num) .eql; reqG (t1) ((nth v.1 1 .junk).isI .u64) <| req (imp t1 t1) <| reqG (t1) ((nth v.2.1 1 .junk).isI .u64) <| req (imp t1 t1) <| req (imp t1 t1) <| req (imp t1 t1) <| let t2 : Bool := COp.run ((nth v.1 1 .junk).num) ((nth v.2.1 1 .junk).num) .eql; req (imp t1 t1) <| req (imp (t1 && t2) (t1 && t2)) <| req (imp (t1 && t2) (t1 && t2)) <| let r3 := F_msg_sameQC N (sub v.1 2 3, sub v.2.1 2 3, ()) H; req (imp (t1 && t2) (t1 && t2)) <| req (imp (t1 && t2) (t1 && t2)) <| req (imp (t1 && t2) r3.pre) <| req (imp (t1 && t2) (t1 && t2)) <| let t4 : Bool := ((t1 && t2) && r3.out.1); reqG (t4) ((nth v.1 5 .junk).isI .i64) <| req (imp t4 t4) <| reqG (t4) ((nth v.2.1 5 .junk).isI .i64) <| req (imp t4 t4) <| req (imp t4 t4) <| req (imp t4 t4) <| let t5 : Bool := COp.run ((nth v.1 5 .junk).num) ((nth v.2.1 5 .junk).num) .eql; req (imp t4 t4) <| reqG ((t4 && t5)) ((nth v.1 6 .junk).isI .i64) <| req (imp (t4 && t5) (t4 && t5)) <| reqG ((t4 && t5)) ((nth v.2.1 6 .junk).isI .i64) <| req (imp (t4 && t5) (t4 && t5)) <| req (imp (t4 && t5) (t4 && t5)) <| req (imp (t4 && t5) (t4 && t5)) <| let t6 : Bool := COp.run ((nth v.1 6 .junk).num) ((nth v.2.1 6 .junk).num) .eql; req (imp (t4 && t5) (t4 && t5)) <| reqG (((t4 && t5) && t6)) ((nth v.1 7 .junk).isSl 25) <| req (imp ((t4 && t5) && t6) ((t4 && t5) && t6)) <| reqG (((t4 && t5) && t6)) ((nth v.2.1 7 .junk).isSl 25) <| req (imp ((t4 && t5) && t6) ((t4 && t5) && t6)) <| let r7 := F_msg_rows_cut_Report N ((nth v.1 7 .junk).els, (nth v.2.1 7 .junk).els, (.fn 33 [] : AV), ()) H; req (imp ((t4 && t5) && t6) ((t4 && t5) && t6)) <| req (imp ((t4 && t5) && t6) ((t4 && t5) && t6)) <| req (imp ((t4 && t5) && t6) r7.pre) <| req (imp ((t4 && t5) && t6) ((t4 && t5) && t6)) <| let t8 : Bool := (((t4 && t5) && t6) && r7.out.1); ok (t8, ()) H
noncomputable def S_msg_sameBlock (N : Nat) : Sem := ⟨[.ag, .ag], [.b], .glob, true, F_msg_sameBlock N⟩
theorem den_msg_sameBlock (N : Nat) (v : List AV × List AV × Unit) (H : Heap) : fd_msg_sameBlock.sem N (G_msg_sameBlock N) v H = F_msg_sameBlock N v H := by kernel_rfl

/-! folkmoot/msg.sameView -/
def c_msg_sameView : C' :=
  .seq (.ops false [
    ⟨some 2, .lbox 0 26 (.t 0) false, none⟩,
    ⟨some 3, .lbox 1 26 (.t 1) false, none⟩,
    ⟨some 4, .mov (.c (.b false)), none⟩])
  (.seq (.ops false [
    ⟨some 5, .fa (.t 2) 0, none⟩,
    ⟨some 6, .lload 0 (.t 5) (.one (.i .i64)), none⟩,
    ⟨some 7, .fa (.t 3) 0, none⟩,
    ⟨some 8, .lload 1 (.t 7) (.one (.i .i64)), none⟩,
    ⟨some 9, .cmp .eql .i64 (.t 6) (.t 8), none⟩,
    ⟨some 10, .mov (.t 9), none⟩,
    ⟨some 11, .fa (.t 2) 1, some (10, true, false)⟩,
    ⟨some 12, .lload 0 (.t 11) (.one (.i .i64)), some (10, true, false)⟩,
    ⟨some 13, .fa (.t 3) 1, some (10, true, false)⟩,
    ⟨some 14, .lload 1 (.t 13) (.one (.i .i64)), some (10, true, false)⟩,
    ⟨some 15, .cmp .eql .i64 (.t 12) (.t 14), some (10, true, false)⟩,
    ⟨some 16, .pick (.t 10) (.t 15) (.c (.b false)), none⟩,
    ⟨some 17, .mov (.t 16), none⟩,
    ⟨some 18, .fa (.t 2) 2, some (17, true, false)⟩,
    ⟨some 19, .lload 0 (.t 18) (.agg 3), some (17, true, false)⟩,
    ⟨some 20, .fa (.t 3) 2, some (17, true, false)⟩,
    ⟨some 21, .lload 1 (.t 20) (.agg 3), some (17, true, false)⟩,
    ⟨some 22, .call true false 56 [(.t 19), (.t 21)], some (17, true, false)⟩,
    ⟨some 23, .pick (.t 17) (.t 22) (.c (.b false)), none⟩,
    ⟨some 24, .mov (.t 23), none⟩,
    ⟨some 25, .fa (.t 2) 5, some (24, true, false)⟩,
    ⟨some 26, .lload 0 (.t 25) (.agg 21), some (24, true, false)⟩,
    ⟨some 27, .fa (.t 3) 5, some (24, true, false)⟩,
    ⟨some 28, .lload 1 (.t 27) (.agg 21), some (24, true, false)⟩,
    ⟨some 29, .call true false 53 [(.t 26), (.t 28)], some (24, true, false)⟩,
    ⟨some 30, .pick (.t 24) (.t 29) (.c (.b false)), none⟩,
    ⟨some 4, .mov (.t 30), none⟩])
  (.ret))
def fd_msg_sameView : FD := ⟨31, 2, [.ag, .ag], [.tmp 4 .glob .b], c_msg_sameView⟩
noncomputable def G_msg_sameView (N : Nat) : Env := [(53, S_key_Same N), (56, S_msg_sameQC N)]
noncomputable def F_msg_sameView (N : Nat) (v : List AV × List AV × Unit) (H : Heap) : Res (Bool × Unit) :=
  reqB (v.1.length == 26) (Tup.d [.b]) <| reqB (v.2.1.length == 26) (Tup.d [.b]) <| reqB ((nth v.1 0 .junk).isI .i64) (Tup.d [.b]) <| reqB ((nth v.2.1 0 .junk).isI .i64) (Tup.d [.b]) <| let t1 : Bool := COp.run ((nth v.1 0 .junk).num) ((nth v.2.1 0 .junk).num) .eql; reqG (t1) ((nth v.1 1 .junk).isI .i64) <| req (imp t1 t1) <| reqG (t1) ((nth v.2.1 1 .junk).isI .i64) <| req (imp t1 t1) <| req (imp t1 t1) <| req (imp t1 t1) <| let t2 : Bool := COp.run ((nth v.1 1 .junk).num) ((nth v.2.1 1 .junk).num) .eql; req (imp t1 t1) <| req (imp (t1 && t2) (t1 && t2)) <| req (imp (t1 && t2) (t1 && t2)) <| let r3 := F_msg_sameQC N (sub v.1 2 3, sub v.2.1 2 3, ()) H; req (imp (t1 && t2) (t1 && t2)) <| req (imp (t1 && t2) (t1 && t2)) <| req (imp (t1 && t2) r3.pre) <| req (imp (t1 && t2) (t1 && t2)) <| let t4 : Bool := ((t1 && t2) && r3.out.1); req (imp t4 t4) <| req (imp t4 t4) <| let r5 := F_key_Same N (sub v.1 5 21, sub v.2.1 5 21, ()) H; req (imp t4 t4) <| req (imp t4 t4) <| req (imp t4 r5.pre) <| req (imp t4 t4) <| ok ((t4 && r5.out.1), ()) H
noncomputable def S_msg_sameView (N : Nat) : Sem := ⟨[.ag, .ag], [.b], .glob, true, F_msg_sameView N⟩
theorem den_msg_sameView (N : Nat) (v : List AV × List AV × Unit) (H : Heap) : fd_msg_sameView.sem N (G_msg_sameView N) v H = F_msg_sameView N v H := by kernel_rfl

/-! slices.EqualFunc[[]folkmoot/block.Block,[]folkmoot/block.Block,folkmoot/block.Block,folkmoot/block.Block] -/
def c_slices_EqualFunc_block_Block_block_Block_block_Block_block_Block : C' :=
  .seq (.ops false [
    ⟨some 6, .mov (.c (.b false)), none⟩])
  (.seq (.seq (.ops false [
    ⟨some 10, .mov (.t 0), none⟩,
    ⟨some 11, .lenL (.t 10) 8, none⟩,
    ⟨some 12, .mov (.t 1), none⟩,
    ⟨some 13, .lenL (.t 12) 8, none⟩,
    ⟨some 14, .cmp .neq .i64 (.t 11) (.t 13), none⟩])
  (.cond (.t 14) (.seq (.ops false [
    ⟨some 6, .mov (.c (.b false)), none⟩])
  (.ret)) (.skip)))
  (.seq (.seq (.ops false [
    ⟨some 15, .mov (.t 0), none⟩,
    ⟨some 16, .lenL (.t 15) 8, none⟩,
    ⟨some 17, .mov (.c (.i .i64 0)), none⟩])
  (.loopR 0 (.seq (.ops false [
    ⟨some 18, .cmp .lss .i64 (.t 17) (.t 16), none⟩])
  (.seq (.cond (.t 18) (.skip) (.exit 0))
  (.seq (.block 1 (.seq (.ops false [
    ⟨some 19, .mov (.t 17), none⟩,
    ⟨some 20, .ixa (.t 15) (.t 17) .i64 8, none⟩,
    ⟨some 21, .iload (.t 20) (.agg 8), none⟩,
    ⟨some 8, .lalloc 0 8 [.i .i64 0, .i .u64 0, .i .i64 0, .i .u64 0, .sl 24 [], .i .i64 0, .i .i64 0, .sl 25 []] [4, 7], none⟩,
    ⟨some 7, .mov (.t 19), none⟩,
    ⟨none, .lstore 0 (.t 8) (.agg 8) (.t 21), none⟩])
  (.seq (.ops false [
    ⟨some 22, .mov (.t 1), none⟩,
    ⟨some 23, .mov (.t 7), none⟩,
    ⟨some 24, .ixa (.t 22) (.t 23) .i64 8, none⟩,
    ⟨some 25, .iload (.t 24) (.agg 8), none⟩,
    ⟨some 9, .lalloc 1 8 [.i .i64 0, .i .u64 0, .i .i64 0, .i .u64 0, .sl 24 [], .i .i64 0, .i .i64 0, .sl 25 []] [4, 7], none⟩,
    ⟨none, .lstore 1 (.t 9) (.agg 8) (.t 25), none⟩])
  (.seq (.ops false [
    ⟨some 26, .mov (.t 2), none⟩,
    ⟨some 27, .lload 0 (.t 8) (.agg 8), none⟩,
    ⟨some 28, .lload 1 (.t 9) (.agg 8), none⟩,
    ⟨some 29, .callv true (.t 26) [(.t 27), (.t 28)] [.b], none⟩,
    ⟨some 30, .not (.t 29), none⟩])
  (.cond (.t 30) (.seq (.ops false [
    ⟨some 6, .mov (.c (.b false)), none⟩])
  (.ret)) (.skip))))))
  (.ops false [
    ⟨some 31, .arith .add .i64 (.t 17) (.c (.i .i64 1)), none⟩,
    ⟨some 17, .mov (.t 31), none⟩])))) [⟨1, .glob, (.sl 8)⟩, ⟨2, .glob, .any⟩, ⟨15, .glob, (.sl 8)⟩, ⟨16, .glob, (.i .i64)⟩, ⟨17, .glob, (.i .i64)⟩] [] [] [⟨6, .glob, .b⟩]))
  (.seq (.ops false [
    ⟨some 6, .mov (.c (.b true)), none⟩])
  (.ret))))
def fd_slices_EqualFunc_block_Block_block_Block_block_Block_block_Block : FD := ⟨32, 2, [(.sl 8), (.sl 8), .any], [.tmp 6 .glob .b], c_slices_EqualFunc_block_Block_block_Block_block_Block_block_Block⟩
noncomputable def G_slices_EqualFunc_block_Block_block_Block_block_Block_block_Block (N : Nat) : Env := [(34, S_msg_sameBlock N)]
noncomputable def F_slices_EqualFunc_block_Block_block_Block_block_Block_block_Block (N : Nat) (v : List (List AV) × List (List AV) × AV × Unit) (H : Heap) : Res (Bool × Unit) :=
  let t1 : Bool := COp.run (v.1.length : Int) (v.2.1.length : Int) .neq; (match t1 with | true => (ok (false, ()) H) | false => (reqB (v.2.2.1.atom) (Tup.d [.b]) <| let r5 := iter (α := List (List AV) × AV × List (List AV) × Int × Int × Unit) (β := Sum (Unit) (Bool × Unit)) (Sum.inl (Tup.d [])) (fun R3 v2 H4 => let t6 : Bool := COp.run v2.2.2.2.2.1 v2.2.2.2.1 .lss; (match t6 with | true => (reqB (inb v2.2.2.2.2.1 v2.2.2.1.length) (Sum.inl (Tup.d [])) <| let t7 : List AV := nth v2.2.2.1 v2.2.2.2.2.1.toNat []; reqB (t7.length == 8) (Sum.inl (Tup.d [])) <| reqB (inb v2.2.2.2.2.1 v2.1.length) (Sum.inl (Tup.d [])) <| let t8 : List AV := nth v2.1 v2.2.2.2.2.1.toNat []; reqB (t8.length == 8) (Sum.inl (Tup.d [])) <| let r9 := appV (G_slices_EqualFunc_block_Block_block_Block_block_Block_block_Block N) v2.2.1 [.ag t7, .ag t8] H4; reqB (puV (G_slices_EqualFunc_block_Block_block_Block_block_Block_block_Block N) v2.2.1) (Sum.inl (Tup.d [])) <| reqB (r9.out.length == 1) (Sum.inl (Tup.d [])) <| reqB ((r9.out.headD .junk).isB) (Sum.inl (Tup.d [])) <| req (r9.pre) <| let t10 : Bool := !((r9.out.headD .junk).bool); (match t10 with | true => (ok (Sum.inr (false, ())) H4) | false => (let t11 : Int := AOp.run .i64 v2.2.2.2.2.1 1 .add; reqB (v2.2.1.atom) (Sum.inl (Tup.d [])) <| R3 (v2.1, v2.2.1, v2.2.2.1, v2.2.2.2.1, t11, ()) H4))) | false => (ok (Sum.inl ()) H4))) N (v.2.1, v.2.2.1, v.1, (v.1.length : Int), 0, ()) H; req r5.pre <| sumElim r5.out (fun w12 => ok (true, ()) r5.H) (fun w13 => ok (w13.1, ()) r5.H)))
noncomputable def S_slices_EqualFunc_block_Block_block_Block_block_Block_block_Block (N : Nat) : Sem := ⟨[(.sl 8), (.sl 8), .any], [.b], .glob, true, F_slices_EqualFunc_block_Block_block_Block_block_Block_block_Block N⟩
theorem den_slices_EqualFunc_block_Block_block_Block_block_Block_block_Block (N : Nat) (v : List (List AV) × List (List AV) × AV × Unit) (H : Heap) : fd_slices_EqualFunc_block_Block_block_Block_block_Block_block_Block.sem N (G_slices_EqualFunc_block_Block_block_Block_block_Block_block_Block N) v H = F_slices_EqualFunc_block_Block_block_Block_block_Block_block_Block N v H := by kernel_rfl

/-! folkmoot/msg.rows[folkmoot/block.Block] -/
def c_msg_rows_block_Block : C' :=
  .seq (.ops false [
    ⟨some 6, .mov (.c (.b false)), none⟩])
  (.seq (.ops false [
    ⟨some 7, .mov (.t 0), none⟩,
    ⟨some 8, .mov (.t 1), none⟩,
    ⟨some 9, .mov (.t 2), none⟩,
    ⟨some 10, .call true false 58 [(.t 7), (.t 8), (.t 9)], none⟩,
    ⟨some 6, .mov (.t 10), none⟩])
  (.ret))
def fd_msg_rows_block_Block : FD := ⟨11, 0, [(.sl 8), (.sl 8), .any], [.tmp 6 .glob .b], c_msg_rows_block_Block⟩
noncomputable def G_msg_rows_block_Block (N : Nat) : Env := [(58, S_slices_EqualFunc_block_Block_block_Block_block_Block_block_Block N)]
noncomputable def F_msg_rows_block_Block (N : Nat) (v : List (List AV) × List (List AV) × AV × Unit) (H : Heap) : Res (Bool × Unit) :=
  let r1 := F_slices_EqualFunc_block_Block_block_Block_block_Block_block_Block N (v.1, v.2.1, v.2.2.1, ()) H; reqB (v.2.2.1.atom) (Tup.d [.b]) <| req (r1.pre) <| ok (r1.out.1, ()) H
noncomputable def S_msg_rows_block_Block (N : Nat) : Sem := ⟨[(.sl 8), (.sl 8), .any], [.b], .glob, true, F_msg_rows_block_Block N⟩
theorem den_msg_rows_block_Block (N : Nat) (v : List (List AV) × List (List AV) × AV × Unit) (H : Heap) : fd_msg_rows_block_Block.sem N (G_msg_rows_block_Block N) v H = F_msg_rows_block_Block N v H := by kernel_rfl

/-! folkmoot/msg.Same -/
def c_msg_Same : C' :=
  .seq (.ops false [
    ⟨some 2, .lbox 0 147 (.t 0) false, none⟩,
    ⟨some 3, .lbox 1 147 (.t 1) false, none⟩,
    ⟨some 4, .mov (.c (.b false)), none⟩])
  (.seq (.ops false [
    ⟨some 5, .fa (.t 2) 0, none⟩,
    ⟨some 6, .lload 0 (.t 5) (.one (.i .i64)), none⟩,
    ⟨some 7, .fa (.t 3) 0, none⟩,
    ⟨some 8, .lload 1 (.t 7) (.one (.i .i64)), none⟩,
    ⟨some 9, .cmp .eql .i64 (.t 6) (.t 8), none⟩,
    ⟨some 10, .mov (.t 9), none⟩,
    ⟨some 11, .fa (.t 2) 1, some (10, true, false)⟩,
    ⟨some 12, .lload 0 (.t 11) (.one (.i .i64)), some (10, true, false)⟩,
    ⟨some 13, .fa (.t 3) 1, some (10, true, false)⟩,
    ⟨some 14, .lload 1 (.t 13) (.one (.i .i64)), some (10, true, false)⟩,
    ⟨some 15, .cmp .eql .i64 (.t 12) (.t 14), some (10, true, false)⟩,
    ⟨some 16, .pick (.t 10) (.t 15) (.c (.b false)), none⟩,
    ⟨some 17, .mov (.t 16), none⟩,
    ⟨some 18, .fa (.t 2) 2, some (17, true, false)⟩,
    ⟨some 19, .lload 0 (.t 18) (.one (.i .i64)), some (17, true, false)⟩,
    ⟨some 20, .fa (.t 3) 2, some (17, true, false)⟩,
    ⟨some 21, .lload 1 (.t 20) (.one (.i .i64)), some (17, true, false)⟩,
    ⟨some 22, .cmp .eql .i64 (.t 19) (.t 21), some (17, true, false)⟩,
    ⟨some 23, .pick (.t 17) (.t 22) (.c (.b false)), none⟩,
    ⟨some 24, .mov (.t 23), none⟩,
    ⟨some 25, .fa (.t 2) 3, some (24, true, false)⟩,
    ⟨some 26, .lload 0 (.t 25) (.agg 5), some (24, true, false)⟩,
    ⟨some 27, .fa (.t 3) 3, some (24, true, false)⟩,
    ⟨some 28, .lload 1 (.t 27) (.agg 5), some (24, true, false)⟩,
    ⟨some 29, .aeq false [.i64, .i64, .i64, .i64, .i64] (.t 26) (.t 28), some (24, true, false)⟩,
    ⟨some 30, .pick (.t 24) (.t 29) (.c (.b false)), none⟩,
    ⟨some 31, .mov (.t 30), none⟩,
    ⟨some 32, .fa (.t 2) 8, some (31, true, false)⟩,
    ⟨some 33, .lload 0 (.t 32) (.agg 24), some (31, true, false)⟩,
    ⟨some 34, .fa (.t 3) 8, some (31, true, false)⟩,
    ⟨some 35, .lload 1 (.t 34) (.agg 24), some (31, true, false)⟩,
    ⟨some 36, .call true false 30 [(.t 33), (.t 35)], some (31, true, false)⟩,
    ⟨some 37, .pick (.t 31) (.t 36) (.c (.b false)), none⟩,
    ⟨some 38, .mov (.t 37), none⟩,
    ⟨some 39, .fa (.t 2) 32, some (38, true, false)⟩,
    ⟨some 40, .lload 0 (.t 39) (.agg 6), some (38, true, false)⟩,
    ⟨some 41, .fa (.t 3) 32, some (38, true, false)⟩,
    ⟨some 42, .lload 1 (.t 41) (.agg 6), some (38, true, false)⟩,
    ⟨some 43, .call true false 31 [(.t 40), (.t 42)], some (38, true, false)⟩,
    ⟨some 44, .pick (.t 38) (.t 43) (.c (.b false)), none⟩,
    ⟨some 45, .mov (.t 44), none⟩,
    ⟨some 46, .fa (.t 2) 38, some (45, true, false)⟩,
    ⟨some 47, .lload 0 (.t 46) (.agg 23), some (45, true, false)⟩,
    ⟨some 48, .fa (.t 3) 38, some (45, true, false)⟩,
    ⟨some 49, .lload 1 (.t 48) (.agg 23), some (45, true, false)⟩,
    ⟨some 50, .call true false 32 [(.t 47), (.t 49)], some (45, true, false)⟩,
    ⟨some 51, .pick (.t 45) (.t 50) (.c (.b false)), none⟩,
    ⟨some 52, .mov (.t 51), none⟩,
    ⟨some 53, .fa (.t 2) 61, some (52, true, false)⟩,
    ⟨some 54, .lload 0 (.t 53) (.one (.i .i64)), some (52, true, false)⟩,
    ⟨some 55, .fa (.t 3) 61, some (52, true, false)⟩,
    ⟨some 56, .lload 1 (.t 55) (.one (.i .i64)), some (52, true, false)⟩,
    ⟨some 57, .cmp .eql .i64 (.t 54) (.t 56), some (52, true, false)⟩,
    ⟨some 58, .pick (.t 52) (.t 57) (.c (.b false)), none⟩,
    ⟨some 59, .mov (.t 58), none⟩,
    ⟨some 60, .fa (.t 2) 62, some (59, true, false)⟩,
    ⟨some 61, .lload 0 (.t 60) (.one (.i .i64)), some (59, true, false)⟩,
    ⟨some 62, .fa (.t 3) 62, some (59, true, false)⟩,
    ⟨some 63, .lload 1 (.t 62) (.one (.i .i64)), some (59, true, false)⟩,
    ⟨some 64, .cmp .eql .i64 (.t 61) (.t 63), some (59, true, false)⟩,
    ⟨some 65, .pick (.t 59) (.t 64) (.c (.b false)), none⟩,
    ⟨some 66, .mov (.t 65), none⟩,
    ⟨some 67, .fa (.t 2) 63, some (66, true, false)⟩,
    ⟨some 68, .lload 0 (.t 67) (.agg 25), some (66, true, false)⟩,
    ⟨some 69, .fa (.t 3) 63, some (66, true, false)⟩,
    ⟨some 70, .lload 1 (.t 69) (.agg 25), some (66, true, false)⟩,
    ⟨some 71, .call true false 33 [(.t 68), (.t 70)], some (66, true, false)⟩,
    ⟨some 72, .pick (.t 66) (.t 71) (.c (.b false)), none⟩,
    ⟨some 73, .mov (.t 72), none⟩,
    ⟨some 74, .fa (.t 2) 88, some (73, true, false)⟩,
    ⟨some 75, .lload 0 (.t 74) (.agg 8), some (73, true, false)⟩,
    ⟨some 76, .fa (.t 3) 88, some (73, true, false)⟩,
    ⟨some 77, .lload 1 (.t 76) (.agg 8), some (73, true, false)⟩,
    ⟨some 78, .call true false 34 [(.t 75), (.t 77)], some (73, true, false)⟩,
    ⟨some 79, .pick (.t 73) (.t 78) (.c (.b false)), none⟩,
    ⟨some 80, .mov (.t 79), none⟩,
    ⟨some 81, .fa (.t 2) 96, some (80, true, false)⟩,
    ⟨some 82, .lload 0 (.t 81) (.agg 24), some (80, true, false)⟩,
    ⟨some 83, .fa (.t 3) 96, some (80, true, false)⟩,
    ⟨some 84, .lload 1 (.t 83) (.agg 24), some (80, true, false)⟩,
    ⟨some 85, .call true false 35 [(.t 82), (.t 84)], some (80, true, false)⟩,
    ⟨some 86, .pick (.t 80) (.t 85) (.c (.b false)), none⟩,
    ⟨some 87, .mov (.t 86), none⟩,
    ⟨some 88, .fa (.t 2) 120, some (87, true, false)⟩,
    ⟨some 89, .lload 0 (.t 88) (.agg 26), some (87, true, false)⟩,
    ⟨some 90, .fa (.t 3) 120, some (87, true, false)⟩,
    ⟨some 91, .lload 1 (.t 90) (.agg 26), some (87, true, false)⟩,
    ⟨some 92, .call true false 36 [(.t 89), (.t 91)], some (87, true, false)⟩,
    ⟨some 93, .pick (.t 87) (.t 92) (.c (.b false)), none⟩,
    ⟨some 94, .mov (.t 93), none⟩,
    ⟨some 95, .fa (.t 2) 146, some (94, true, false)⟩,
    ⟨some 96, .lload 0 (.t 95) (.one (.sl 8)), some (94, true, false)⟩,
    ⟨some 97, .fa (.t 3) 146, some (94, true, false)⟩,
    ⟨some 98, .lload 1 (.t 97) (.one (.sl 8)), some (94, true, false)⟩,
    ⟨some 99, .call true false 37 [(.t 96), (.t 98), (.c (.fn 34 []))], some (94, true, false)⟩,
    ⟨some 100, .pick (.t 94) (.t 99) (.c (.b false)), none⟩,
    ⟨some 4, .mov (.t 100), none⟩])
  (.ret))
def fd_msg_Same : FD := ⟨101, 2, [.ag, .ag], [.tmp 4 .glob .b], c_msg_Same⟩
noncomputable def G_msg_Same (N : Nat) : Env := [(30, S_stamp_Same N), (31, S_median_Same N), (32, S_msg_sameAck N), (33, S_cut_Same N), (34, S_msg_sameBlock N), (35, S_msg_sameVote N), (36, S_msg_sameView N), (37, S_msg_rows_block_Block N)]
noncomputable def F_msg_Same (N : Nat) (v : List AV × List AV × Unit) (H : Heap) : Res (Bool × Unit) :=
  reqB (v.1.length == 147) (Tup.d [.b]) <| reqB (v.2.1.length == 147) (Tup.d [.b]) <| reqB ((nth v.1 0 .junk).isI .i64) (Tup.d [.b]) <| reqB ((nth v.2.1 0 .junk).isI .i64) (Tup.d [.b]) <| let t1 : Bool := COp.run ((nth v.1 0 .junk).num) ((nth v.2.1 0 .junk).num) .eql; reqG (t1) ((nth v.1 1 .junk).isI .i64) <| req (imp t1 t1) <| reqG (t1) ((nth v.2.1 1 .junk).isI .i64) <| req (imp t1 t1) <| req (imp t1 t1) <| req (imp t1 t1) <| let t2 : Bool := COp.run ((nth v.1 1 .junk).num) ((nth v.2.1 1 .junk).num) .eql; req (imp t1 t1) <| reqG ((t1 && t2)) ((nth v.1 2 .junk).isI .i64) <| req (imp (t1 && t2) (t1 && t2)) <| reqG ((t1 && t2)) ((nth v.2.1 2 .junk).isI .i64) <| req (imp (t1 && t2) (t1 && t2)) <| req (imp (t1 && t2) (t1 && t2)) <| req (imp (t1 && t2) (t1 && t2)) <| let t3 : Bool := COp.run ((nth v.1 2 .junk).num) ((nth v.2.1 2 .junk).num) .eql; req (imp (t1 && t2) (t1 && t2)) <| req (imp ((t1 && t2) && t3) ((t1 && t2) && t3)) <| req (imp ((t1 && t2) && t3) ((t1 && t2) && t3)) <| reqG (((t1 && t2) && t3)) (allI [.i64, .i64, .i64, .i64, .i64] (sub v.1 3 5)) <| reqG (((t1 && t2) && t3)) (allI [.i64, .i64, .i64, .i64, .i64] (sub v.2.1 3 5)) <| req (imp ((t1 && t2) && t3) ((t1 && t2) && t3)) <| req (imp ((t1 && t2) && t3) ((t1 && t2) && t3)) <| let t4 : Bool := eqI 5 (sub v.1 3 5) (sub v.2.1 3 5); req (imp ((t1 && t2) && t3) ((t1 && t2) && t3)) <| let t5 : Bool := (((t1 && t2) && t3) && t4); req (imp t5 t5) <| req (imp t5 t5) <| let r6 := F_stamp_Same N (sub v.1 8 24, sub v.2.1 8 24, ()) H; req (imp t5 t5) <| req (imp t5 t5) <| req (imp t5 r6.pre) <| req (imp t5 t5) <| req (imp (t5 && r6.out.1) (t5 && r6.out.1)) <| req (imp (t5 && r6.out.1) (t5 && r6.out.1)) <| let r7 := F_median_Same N (sub v.1 32 6, sub v.2.1 32 6, ()) H; req (imp (t5 && r6.out.1) (t5 && r6.out.1)) <| req (imp (t5 && r6.out.1) (t5 && r6.out.1)) <| req (imp (t5 && r6.out.1) r7.pre) <| req (imp (t5 && r6.out.1) (t5 && r6.out.1)) <| let t8 : Bool := ((t5 && r6.out.1) && r7.out.1); req (imp t8 t8) <| req (imp t8 t8) <| let r9 := F_msg_sameAck N (sub v.1 38 23, sub v.2.1 38 23, ()) H; req (imp t8 t8) <| req (imp t8 t8) <| req (imp t8 r9.pre) <| req (imp t8 t8) <| reqG ((t8 && r9.out.1)) ((nth v.1 61 .junk).isI .i64) <| req (imp (t8 && r9.out.1) (t8 && r9.out.1)) <| reqG ((t8 && r9.out.1)) ((nth v.2.1 61 .junk).isI .i64) <| req (imp (t8 && r9.out.1) (t8 && r9.out.1)) <| let t10 : Int := (nth v.2.1 61 .junk).num; req (imp (t8 && r9.out.1) (t8 && r9.out.1)) <| req (imp (t8 && r9.out.1) (t8 && r9.out.1)) <| let t11 : Bool := COp.run ((nth v.1 61 .junk).num) t10 .eql; req (imp (t8 && r9.out.1) (t8 && r9.out.1)) <| let t12 : Bool := ((t8 && r9.out.1) && t11); reqG (t12) ((nth v.1 62 .junk).isI .i64) <| req (imp t12 t12) <| reqG (t12) ((nth v.2.1 62 .junk).isI .i64) <| req (imp t12 t12) <| let t13 : Int := (nth v.2.1 62 .junk).num; req (imp t12 t12) <| req (imp t12 t12) <| let t14 : Bool := COp.run ((nth v.1 62 .junk).num) t13 .eql; req (imp t12 t12) <| req (imp (t12 && t14) (t12 && t14)) <| req (imp (t12 && t14) (t12 && t14)) <| let r15 := F_cut_Same N (sub v.1 63 25, sub v.2.1 63 25, ()) H; req (imp (t12 && t14) (t12 && t14)) <| req (imp (t12 && t14) (t12 && t14)) <| req (imp (t12 && t14) r15.pre) <| req (imp (t12 && t14) (t12 && t14)) <| let t16 : Bool := ((t12 && t14) && r15.out.1); req (imp t16 t16) <| req (imp t16 t16) <| let r17 := F_msg_sameBlock N (sub v.1 88 8, sub v.2.1 88 8, ()) H; req (imp t16 t16) <| req (imp t16 t16) <| req (imp t16 r17.pre) <| req (imp t16 t16) <| req (imp (t16 && r17.out.1) (t16 && r17.out.1)) <| req (imp (t16 && r17.out.1) (t16 && r17.out.1)) <| let r18 := F_msg_sameVote N (sub v.1 96 24, sub v.2.1 96 24, ()) H; req (imp (t16 && r17.out.1) (t16 && r17.out.1)) <| req (imp (t16 && r17.out.1) (t16 && r17.out.1)) <| req (imp (t16 && r17.out.1) r18.pre) <| req (imp (t16 && r17.out.1) (t16 && r17.out.1)) <| let t19 : Bool := ((t16 && r17.out.1) && r18.out.1); req (imp t19 t19) <| req (imp t19 t19) <| let r20 := F_msg_sameView N (sub v.1 120 26, sub v.2.1 120 26, ()) H; req (imp t19 t19) <| req (imp t19 t19) <| req (imp t19 r20.pre) <| req (imp t19 t19) <| reqG ((t19 && r20.out.1)) ((nth v.1 146 .junk).isSl 8) <| req (imp (t19 && r20.out.1) (t19 && r20.out.1)) <| reqG ((t19 && r20.out.1)) ((nth v.2.1 146 .junk).isSl 8) <| req (imp (t19 && r20.out.1) (t19 && r20.out.1)) <| let t21 : List (List AV) := (nth v.2.1 146 .junk).els; let r22 := F_msg_rows_block_Block N ((nth v.1 146 .junk).els, t21, (.fn 34 [] : AV), ()) H; req (imp (t19 && r20.out.1) (t19 && r20.out.1)) <| req (imp (t19 && r20.out.1) (t19 && r20.out.1)) <| req (imp (t19 && r20.out.1) r22.pre) <| req (imp (t19 && r20.out.1) (t19 && r20.out.1)) <| let t23 : Bool := ((t19 && r20.out.1) && r22.out.1); ok (t23, ()) H
noncomputable def S_msg_Same (N : Nat) : Sem := ⟨[.ag, .ag], [.b], .glob, true, F_msg_Same N⟩
theorem den_msg_Same (N : Nat) (v : List AV × List AV × Unit) (H : Heap) : fd_msg_Same.sem N (G_msg_Same N) v H = F_msg_Same N v H := by kernel_rfl

/-! folkmoot/msg.All -/
def c_msg_All : C' :=
  .seq (.ops false [
    ⟨some 5, .lbox 0 147 (.t 2) true, none⟩,
    ⟨some 6, .mov (.co (.sl 147 [])), none⟩])
  (.seq (.ops false [
    ⟨some 7, .mov (.co (.sl 147 [])), none⟩])
  (.seq (.ops false [
    ⟨some 9, .mov (.t 0), none⟩,
    ⟨some 10, .fa (.t 5) 1, none⟩,
    ⟨none, .lstore 0 (.t 10) (.one (.i .i64)) (.t 9), none⟩])
  (.seq (.seq (.ops false [
    ⟨some 11, .mov (.t 1), none⟩,
    ⟨some 12, .ext2 false .i64 (.t 11) [(.c (.i .i64 0))], none⟩,
    ⟨some 13, .mov (.c (.i .i64 0)), none⟩])
  (.loop 0 (.seq (.ops false [
    ⟨some 14, .cmp .lss .i64 (.t 13) (.t 12), none⟩])
  (.seq (.cond (.t 14) (.skip) (.exit 0))
  (.seq (.block 1 (.seq (.ops false [
    ⟨some 15, .mov (.t 13), none⟩,
    ⟨some 8, .mov (.t 15), none⟩])
  (.seq (.ops false [
    ⟨some 16, .mov (.t 8), none⟩,
    ⟨some 17, .fa (.t 5) 2, none⟩,
    ⟨none, .lstore 0 (.t 17) (.one (.i .i64)) (.t 16), none⟩])
  (.ops false [
    ⟨some 18, .movO 7, none⟩,
    ⟨some 19, .lload 0 (.t 5) (.agg 147), none⟩,
    ⟨some 20, .bslice 147 1 [.i .i64 0, .i .i64 0, .i .i64 0, .i .i64 0, .i .i64 0, .i .i64 0, .i .i64 0, .i .i64 0, .i .u64 0, .i .i64 0, .i .i64 0, .i .i64 0, .i .i64 0, .i .u64 0, .i .u64 0, .i .u64 0, .i .u64 0, .i .u64 0, .i .u64 0, .i .u64 0, .i .u64 0, .i .u64 0, .i .u64 0, .i .u64 0, .i .u64 0, .i .u64 0, .i .u64 0, .i .u64 0, .i .u64 0, .i .u64 0, .i .u64 0, .sl 1 [], .i .i64 0, .i .i64 0, .i .i64 0, .i .i64 0, .i .i64 0, .sl 24 [], .i .u64 0, .i .i64 0, .i .i64 0, .i .i64 0, .i .u64 0, .i .u64 0, .i .u64 0, .i .u64 0, .i .u64 0, .i .u64 0, .i .u64 0, .i .u64 0, .i .u64 0, .i .u64 0, .i .u64 0, .i .u64 0, .i .u64 0, .i .u64 0, .i .u64 0, .i .u64 0, .i .u64 0, .i .u64 0, .sl 1 [], .i .i64 0, .i .i64 0, .i .i64 0, .i .i64 0, .i .i64 0, .sl 6 [], .i .i64 0, .i .i64 0, .i .u64 0, .i .u64 0, .i .u64 0, .i .u64 0, .i .u64 0, .i .u64 0, .i .u64 0, .i .u64 0, .i .u64 0, .i .u64 0, .i .u64 0, .i .u64 0, .i .u64 0, .i .u64 0, .i .u64 0, .i .u64 0, .i .u64 0, .i .u64 0, .sl 1 [], .i .i64 0, .i .u64 0, .i .i64 0, .i .u64 0, .sl 24 [], .i .i64 0, .i .i64 0, .sl 25 [], .i .i64 0, .i .u64 0, .i .i64 0, .i .i64 0, .i .i64 0, .i .u64 0, .i .u64 0, .i .u64 0, .i .u64 0, .i .u64 0, .i .u64 0, .i .u64 0, .i .u64 0, .i .u64 0, .i .u64 0, .i .u64 0, .i .u64 0, .i .u64 0, .i .u64 0, .i .u64 0, .i .u64 0, .i .u64 0, .i .u64 0, .sl 1 [], .i .i64 0, .i .i64 0, .i .i64 0, .i .u64 0, .sl 24 [], .i .i64 0, .i .i64 0, .i .u64 0, .i .u64 0, .i .u64 0, .i .u64 0, .i .u64 0, .i .u64 0, .i .u64 0, .i .u64 0, .i .u64 0, .i .u64 0, .i .u64 0, .i .u64 0, .i .u64 0, .i .u64 0, .i .u64 0, .i .u64 0, .i .u64 0, .i .u64 0, .sl 1 [], .sl 8 []] [((.t 19), 0)], none⟩,
    ⟨some 21, .app 18 (.t 20) 147 1352, none⟩,
    ⟨some 7, .movO 21, none⟩]))))
  (.ops false [
    ⟨some 22, .arith .add .i64 (.t 13) (.c (.i .i64 1)), none⟩,
    ⟨some 13, .mov (.t 22), none⟩])))) [⟨5, .loc, (.lpc 0)⟩, ⟨7, .own, (.sl 147)⟩, ⟨12, .glob, (.i .i64)⟩, ⟨13, .glob, (.i .i64)⟩] [⟨0, 147, []⟩] [⟨7, .own, (.sl 147)⟩]))
  (.seq (.ops false [
    ⟨some 23, .mov (.t 7), none⟩,
    ⟨some 6, .mov (.t 23), none⟩])
  (.ret)))))
def fd_msg_All : FD := ⟨24, 1, [(.i .i64), (.i .i64), .ag], [.tmp 6 .glob (.sl 147)], c_msg_All⟩
noncomputable def G_msg_All (N : Nat) : Env := []
noncomputable def F_msg_All (N : Nat) (v : Int × Int × List AV × Unit) (H : Heap) : Res (List (List AV) × Unit) :=
  reqB (v.2.2.1.length == 147) (Tup.d [(.sl 147)]) <| let t1 : Int := (minMax false v.2.1 (0 : Int)); let r5 := iter (α := Unit × List (List AV) × Int × Int × List AV × Unit) (β := List (List AV) × List AV × Unit) (Tup.d [(.sl 147), .ag]) (fun R3 v2 H4 => let t6 : Bool := COp.run v2.2.2.2.1 v2.2.2.1 .lss; (match t6 with | true => (let t7 : List AV := upd v2.2.2.2.2.1 2 (.i .i64 v2.2.2.2.1); reqB ((t7.length == 147)) (Tup.d [(.sl 147), .ag]) <| reqB (roomL v2.2.1 [t7] 1352) (Tup.d [(.sl 147), .ag]) <| let t8 : Int := AOp.run .i64 v2.2.2.2.1 1 .add; R3 ((), cat v2.2.1 [t7], v2.2.2.1, t8, t7, ()) H4) | false => (ok (v2.2.1, v2.2.2.2.2.1, ()) H4))) N ((), [], t1, 0, [nth v.2.2.1 0 .junk, .i .i64 v.1, nth v.2.2.1 2 .junk, nth v.2.2.1 3 .junk, nth v.2.2.1 4 .junk, nth v.2.2.1 5 .junk, nth v.2.2.1 6 .junk, nth v.2.2.1 7 .junk, nth v.2.2.1 8 .junk, nth v.2.2.1 9 .junk, nth v.2.2.1 10 .junk, nth v.2.2.1 11 .junk, nth v.2.2.1 12 .junk, nth v.2.2.1 13 .junk, nth v.2.2.1 14 .junk, nth v.2.2.1 15 .junk, nth v.2.2.1 16 .junk, nth v.2.2.1 17 .junk, nth v.2.2.1 18 .junk, nth v.2.2.1 19 .junk, nth v.2.2.1 20 .junk, nth v.2.2.1 21 .junk, nth v.2.2.1 22 .junk, nth v.2.2.1 23 .junk, nth v.2.2.1 24 .junk, nth v.2.2.1 25 .junk, nth v.2.2.1 26 .junk, nth v.2.2.1 27 .junk, nth v.2.2.1 28 .junk, nth v.2.2.1 29 .junk, nth v.2.2.1 30 .junk, nth v.2.2.1 31 .junk, nth v.2.2.1 32 .junk, nth v.2.2.1 33 .junk, nth v.2.2.1 34 .junk, nth v.2.2.1 35 .junk, nth v.2.2.1 36 .junk, nth v.2.2.1 37 .junk, nth v.2.2.1 38 .junk, nth v.2.2.1 39 .junk, nth v.2.2.1 40 .junk, nth v.2.2.1 41 .junk, nth v.2.2.1 42 .junk, nth v.2.2.1 43 .junk, nth v.2.2.1 44 .junk, nth v.2.2.1 45 .junk, nth v.2.2.1 46 .junk, nth v.2.2.1 47 .junk, nth v.2.2.1 48 .junk, nth v.2.2.1 49 .junk, nth v.2.2.1 50 .junk, nth v.2.2.1 51 .junk, nth v.2.2.1 52 .junk, nth v.2.2.1 53 .junk, nth v.2.2.1 54 .junk, nth v.2.2.1 55 .junk, nth v.2.2.1 56 .junk, nth v.2.2.1 57 .junk, nth v.2.2.1 58 .junk, nth v.2.2.1 59 .junk, nth v.2.2.1 60 .junk, nth v.2.2.1 61 .junk, nth v.2.2.1 62 .junk, nth v.2.2.1 63 .junk, nth v.2.2.1 64 .junk, nth v.2.2.1 65 .junk, nth v.2.2.1 66 .junk, nth v.2.2.1 67 .junk, nth v.2.2.1 68 .junk, nth v.2.2.1 69 .junk, nth v.2.2.1 70 .junk, nth v.2.2.1 71 .junk, nth v.2.2.1 72 .junk, nth v.2.2.1 73 .junk, nth v.2.2.1 74 .junk, nth v.2.2.1 75 .junk, nth v.2.2.1 76 .junk, nth v.2.2.1 77 .junk, nth v.2.2.1 78 .junk, nth v.2.2.1 79 .junk, nth v.2.2.1 80 .junk, nth v.2.2.1 81 .junk, nth v.2.2.1 82 .junk, nth v.2.2.1 83 .junk, nth v.2.2.1 84 .junk, nth v.2.2.1 85 .junk, nth v.2.2.1 86 .junk, nth v.2.2.1 87 .junk, nth v.2.2.1 88 .junk, nth v.2.2.1 89 .junk, nth v.2.2.1 90 .junk, nth v.2.2.1 91 .junk, nth v.2.2.1 92 .junk, nth v.2.2.1 93 .junk, nth v.2.2.1 94 .junk, nth v.2.2.1 95 .junk, nth v.2.2.1 96 .junk, nth v.2.2.1 97 .junk, nth v.2.2.1 98 .junk, nth v.2.2.1 99 .junk, nth v.2.2.1 100 .junk, nth v.2.2.1 101 .junk, nth v.2.2.1 102 .junk, nth v.2.2.1 103 .junk, nth v.2.2.1 104 .junk, nth v.2.2.1 105 .junk, nth v.2.2.1 106 .junk, nth v.2.2.1 107 .junk, nth v.2.2.1 108 .junk, nth v.2.2.1 109 .junk, nth v.2.2.1 110 .junk, nth v.2.2.1 111 .junk, nth v.2.2.1 112 .junk, nth v.2.2.1 113 .junk, nth v.2.2.1 114 .junk, nth v.2.2.1 115 .junk, nth v.2.2.1 116 .junk, nth v.2.2.1 117 .junk, nth v.2.2.1 118 .junk, nth v.2.2.1 119 .junk, nth v.2.2.1 120 .junk, nth v.2.2.1 121 .junk, nth v.2.2.1 122 .junk, nth v.2.2.1 123 .junk, nth v.2.2.1 124 .junk, nth v.2.2.1 125 .junk, nth v.2.2.1 126 .junk, nth v.2.2.1 127 .junk, nth v.2.2.1 128 .junk, nth v.2.2.1 129 .junk, nth v.2.2.1 130 .junk, nth v.2.2.1 131 .junk, nth v.2.2.1 132 .junk, nth v.2.2.1 133 .junk, nth v.2.2.1 134 .junk, nth v.2.2.1 135 .junk, nth v.2.2.1 136 .junk, nth v.2.2.1 137 .junk, nth v.2.2.1 138 .junk, nth v.2.2.1 139 .junk, nth v.2.2.1 140 .junk, nth v.2.2.1 141 .junk, nth v.2.2.1 142 .junk, nth v.2.2.1 143 .junk, nth v.2.2.1 144 .junk, nth v.2.2.1 145 .junk, nth v.2.2.1 146 .junk], ()) H; req r5.pre <| ok (r5.out.1, ()) r5.H
noncomputable def S_msg_All (N : Nat) : Sem := ⟨[(.i .i64), (.i .i64), .ag], [(.sl 147)], .glob, true, F_msg_All N⟩
theorem den_msg_All (N : Nat) (v : Int × Int × List AV × Unit) (H : Heap) : fd_msg_All.sem N (G_msg_All N) v H = F_msg_All N v H := by kernel_rfl

/-! folkmoot/folkmootlaw12.C -/
def c_folkmootlaw12_C : C' :=
  .seq (.ops false [
    ⟨some 2, .lalloc 0 5 [.i .i64 0, .i .i64 0, .i .i64 0, .i .i64 0, .i .i64 0] [], none⟩])
  (.seq (.ops false [
    ⟨some 3, .mov (.t 0), none⟩,
    ⟨some 4, .build [.i .i64 0, .i .i64 0, .i .i64 0, .i .i64 0, .i .i64 0] [((.c (.i .i64 1)), 0, 1), ((.t 3), 1, 1), ((.c (.i .i64 2)), 2, 1), ((.c (.i .i64 3)), 3, 1), ((.c (.i .i64 4)), 4, 1)], none⟩,
    ⟨none, .lstore 0 (.t 2) (.agg 5) (.t 4), none⟩])
  (.ret))
def fd_folkmootlaw12_C : FD := ⟨5, 1, [(.i .i64)], [.cell 2 (.agg 5) .ag], c_folkmootlaw12_C⟩
noncomputable def G_folkmootlaw12_C (N : Nat) : Env := []
noncomputable def F_folkmootlaw12_C (N : Nat) (v : Int × Unit) (H : Heap) : Res (List AV × Unit) :=
  ok ([.i .i64 1, .i .i64 v.1, .i .i64 2, .i .i64 3, .i .i64 4], ()) H
noncomputable def S_folkmootlaw12_C (N : Nat) : Sem := ⟨[(.i .i64)], [.ag], .glob, true, F_folkmootlaw12_C N⟩
theorem den_folkmootlaw12_C (N : Nat) (v : Int × Unit) (H : Heap) : fd_folkmootlaw12_C.sem N (G_folkmootlaw12_C N) v H = F_folkmootlaw12_C N v H := by kernel_rfl

/-! folkmoot/msg.Word -/
def c_msg_Word : C' :=
  .seq (.ops false [
    ⟨some 2, .mov (.c (.s ⟨#[]⟩)), none⟩])
  (.seq (.seq (.ops false [
    ⟨some 3, .mov (.t 0), none⟩,
    ⟨some 4, .call true false 29 [(.t 3), (.c (.i .i64 1)), (.c (.i .i64 9))], none⟩,
    ⟨some 5, .not (.t 4), none⟩])
  (.cond (.t 5) (.seq (.ops false [
    ⟨some 2, .mov (.c (.s ⟨#[]⟩)), none⟩])
  (.ret)) (.skip)))
  (.seq (.ops false [
    ⟨some 6, .build [.s ⟨#[]⟩, .s ⟨#[]⟩, .s ⟨#[]⟩, .s ⟨#[]⟩, .s ⟨#[]⟩, .s ⟨#[]⟩, .s ⟨#[]⟩, .s ⟨#[]⟩, .s ⟨#[]⟩] [((.c (.s ⟨#[97, 115, 107]⟩)), 0, 1), ((.c (.s ⟨#[115, 116, 97, 109, 112, 101, 100]⟩)), 1, 1), ((.c (.s ⟨#[99, 101, 114, 116, 105, 102, 121]⟩)), 2, 1), ((.c (.s ⟨#[97, 99, 107, 101, 100]⟩)), 3, 1), ((.c (.s ⟨#[99, 108, 111, 115, 101]⟩)), 4, 1), ((.c (.s ⟨#[99, 108, 111, 115, 101, 100]⟩)), 5, 1), ((.c (.s ⟨#[112, 114, 111, 112, 111, 115, 101]⟩)), 6, 1), ((.c (.s ⟨#[118, 111, 116, 101, 100]⟩)), 7, 1), ((.c (.s ⟨#[110, 101, 120, 116]⟩)), 8, 1)], none⟩,
    ⟨some 7, .mov (.t 0), none⟩,
    ⟨some 8, .arith .sub .i64 (.t 7) (.c (.i .i64 1)), none⟩,
    ⟨some 9, .idxA (.t 6) (.t 8) .i64 9 1 (.one .s), none⟩,
    ⟨some 2, .mov (.t 9), none⟩])
  (.ret)))
def fd_msg_Word : FD := ⟨10, 0, [(.i .i64)], [.tmp 2 .glob .s], c_msg_Word⟩
noncomputable def G_msg_Word (N : Nat) : Env := [(29, S_msg_within_int N)]
noncomputable def F_msg_Word (N : Nat) (v : Int × Unit) (H : Heap) : Res (ByteArray × Unit) :=
  let r1 := F_msg_within_int N (v.1, 1, 9, ()) H; req (r1.pre) <| (match !r1.out.1 with | true => (ok (⟨#[]⟩, ()) H) | false => (let t2 : ByteArray := ⟨#[115, 116, 97, 109, 112, 101, 100]⟩; let t3 : ByteArray := ⟨#[99, 101, 114, 116, 105, 102, 121]⟩; let t4 : ByteArray := ⟨#[97, 99, 107, 101, 100]⟩; let t5 : ByteArray := ⟨#[99, 108, 111, 115, 101]⟩; let t6 : ByteArray := ⟨#[99, 108, 111, 115, 101, 100]⟩; let t7 : ByteArray := ⟨#[112, 114, 111, 112, 111, 115, 101]⟩; let t8 : ByteArray := ⟨#[118, 111, 116, 101, 100]⟩; reqB (inb (AOp.run .i64 v.1 1 .sub) 9) (Tup.d [.s]) <| reqB (decide ((AOp.run .i64 v.1 1 .sub).toNat * 1 < 9) && (nth ([.s ⟨#[97, 115, 107]⟩, .s t2, .s t3, .s t4, .s t5, .s t6, .s t7, .s t8, .s ⟨#[110, 101, 120, 116]⟩] : List AV) ((AOp.run .i64 v.1 1 .sub).toNat * 1) .junk).isS) (Tup.d [.s]) <| let t9 : ByteArray := (nth ([.s ⟨#[97, 115, 107]⟩, .s t2, .s t3, .s t4, .s t5, .s t6, .s t7, .s t8, .s ⟨#[110, 101, 120, 116]⟩] : List AV) ((AOp.run .i64 v.1 1 .sub).toNat * 1) .junk).str; ok (t9, ()) H))
noncomputable def S_msg_Word (N : Nat) : Sem := ⟨[(.i .i64)], [.s], .glob, true, F_msg_Word N⟩
theorem den_msg_Word (N : Nat) (v : Int × Unit) (H : Heap) : fd_msg_Word.sem N (G_msg_Word N) v H = F_msg_Word N v H := by kernel_rfl

/-! folkmoot/folkmootlaw22.known -/
def c_folkmootlaw22_known : C' :=
  .seq (.ops false [
    ⟨some 0, .mov (.c (.b false)), none⟩])
  (.seq (.ops false [
    ⟨some 2, .call true false 15 [(.c (.i .i64 0))], none⟩,
    ⟨some 3, .build [.i .i64 0, .i .i64 0, .i .i64 0, .i .i64 0, .i .i64 0, .i .i64 0, .i .i64 0, .i .i64 0, .i .u64 0, .i .i64 0, .i .i64 0, .i .i64 0, .i .i64 0, .i .u64 0, .i .u64 0, .i .u64 0, .i .u64 0, .i .u64 0, .i .u64 0, .i .u64 0, .i .u64 0, .i .u64 0, .i .u64 0, .i .u64 0, .i .u64 0, .i .u64 0, .i .u64 0, .i .u64 0, .i .u64 0, .i .u64 0, .i .u64 0, .sl 1 [], .i .i64 0, .i .i64 0, .i .i64 0, .i .i64 0, .i .i64 0, .sl 24 [], .i .u64 0, .i .i64 0, .i .i64 0, .i .i64 0, .i .u64 0, .i .u64 0, .i .u64 0, .i .u64 0, .i .u64 0, .i .u64 0, .i .u64 0, .i .u64 0, .i .u64 0, .i .u64 0, .i .u64 0, .i .u64 0, .i .u64 0, .i .u64 0, .i .u64 0, .i .u64 0, .i .u64 0, .i .u64 0, .sl 1 [], .i .i64 0, .i .i64 0, .i .i64 0, .i .i64 0, .i .i64 0, .sl 6 [], .i .i64 0, .i .i64 0, .i .u64 0, .i .u64 0, .i .u64 0, .i .u64 0, .i .u64 0, .i .u64 0, .i .u64 0, .i .u64 0, .i .u64 0, .i .u64 0, .i .u64 0, .i .u64 0, .i .u64 0, .i .u64 0, .i .u64 0, .i .u64 0, .i .u64 0, .i .u64 0, .sl 1 [], .i .i64 0, .i .u64 0, .i .i64 0, .i .u64 0, .sl 24 [], .i .i64 0, .i .i64 0, .sl 25 [], .i .i64 0, .i .u64 0, .i .i64 0, .i .i64 0, .i .i64 0, .i .u64 0, .i .u64 0, .i .u64 0, .i .u64 0, .i .u64 0, .i .u64 0, .i .u64 0, .i .u64 0, .i .u64 0, .i .u64 0, .i .u64 0, .i .u64 0, .i .u64 0, .i .u64 0, .i .u64 0, .i .u64 0, .i .u64 0, .i .u64 0, .sl 1 [], .i .i64 0, .i .i64 0, .i .i64 0, .i .u64 0, .sl 24 [], .i .i64 0, .i .i64 0, .i .u64 0, .i .u64 0, .i .u64 0, .i .u64 0, .i .u64 0, .i .u64 0, .i .u64 0, .i .u64 0, .i .u64 0, .i .u64 0, .i .u64 0, .i .u64 0, .i .u64 0, .i .u64 0, .i .u64 0, .i .u64 0, .i .u64 0, .i .u64 0, .sl 1 [], .sl 8 []] [((.c (.i .i64 1)), 0, 1), ((.t 2), 3, 5)], none⟩,
    ⟨some 4, .call true false 12 [(.c (.i .i64 4)), (.c (.i .i64 3)), (.t 3)], none⟩,
    ⟨some 1, .mov (.t 4), none⟩])
  (.seq (.seq (.ops false [
    ⟨some 5, .mov (.t 1), none⟩,
    ⟨some 6, .lenL (.t 5) 147, none⟩,
    ⟨some 7, .cmp .neq .i64 (.t 6) (.c (.i .i64 3)), none⟩])
  (.cond (.t 7) (.seq (.ops false [
    ⟨some 0, .mov (.c (.b false)), none⟩])
  (.ret)) (.skip)))
  (.seq (.ops true [
    ⟨some 8, .mov (.t 1), none⟩,
    ⟨some 9, .ixa (.t 8) (.c (.i .i64 2)) .i64 147, none⟩,
    ⟨some 10, .fa (.t 9) 2, none⟩,
    ⟨some 11, .iload (.t 10) (.one (.i .i64)), none⟩,
    ⟨some 12, .cmp .eql .i64 (.t 11) (.c (.i .i64 2)), none⟩,
    ⟨some 13, .mov (.t 12), none⟩,
    ⟨some 14, .mov (.t 1), some (13, true, false)⟩,
    ⟨some 15, .ixa (.t 14) (.c (.i .i64 0)) .i64 147, some (13, true, false)⟩,
    ⟨some 16, .fa (.t 15) 1, some (13, true, false)⟩,
    ⟨some 17, .iload (.t 16) (.one (.i .i64)), some (13, true, false)⟩,
    ⟨some 18, .cmp .eql .i64 (.t 17) (.c (.i .i64 4)), some (13, true, false)⟩,
    ⟨some 19, .pick (.t 13) (.t 18) (.c (.b false)), none⟩,
    ⟨some 20, .mov (.t 19), none⟩,
    ⟨some 21, .mov (.t 1), some (20, true, false)⟩,
    ⟨some 22, .ixa (.t 21) (.c (.i .i64 0)) .i64 147, some (20, true, false)⟩,
    ⟨some 23, .iload (.t 22) (.agg 147), some (20, true, false)⟩,
    ⟨some 24, .call true false 7 [(.t 23), (.c (.i .i64 4))], some (20, true, false)⟩,
    ⟨some 25, .cmp .eql .i64 (.t 24) (.c (.i .i64 0)), some (20, true, false)⟩,
    ⟨some 26, .pick (.t 20) (.t 25) (.c (.b false)), none⟩,
    ⟨some 27, .mov (.t 26), none⟩,
    ⟨some 28, .mov (.t 1), some (27, true, false)⟩,
    ⟨some 29, .ixa (.t 28) (.c (.i .i64 0)) .i64 147, some (27, true, false)⟩,
    ⟨some 30, .iload (.t 29) (.agg 147), some (27, true, false)⟩,
    ⟨some 31, .call true false 7 [(.t 30), (.c (.i .i64 3))], some (27, true, false)⟩,
    ⟨some 32, .cmp .eql .i64 (.t 31) (.c (.i .i64 1)), some (27, true, false)⟩,
    ⟨some 33, .pick (.t 27) (.t 32) (.c (.b false)), none⟩,
    ⟨some 34, .mov (.t 33), none⟩,
    ⟨some 35, .build [.i .i64 0, .i .i64 0, .i .i64 0, .i .i64 0, .i .i64 0, .i .i64 0, .i .i64 0, .i .i64 0, .i .u64 0, .i .i64 0, .i .i64 0, .i .i64 0, .i .i64 0, .i .u64 0, .i .u64 0, .i .u64 0, .i .u64 0, .i .u64 0, .i .u64 0, .i .u64 0, .i .u64 0, .i .u64 0, .i .u64 0, .i .u64 0, .i .u64 0, .i .u64 0, .i .u64 0, .i .u64 0, .i .u64 0, .i .u64 0, .i .u64 0, .sl 1 [], .i .i64 0, .i .i64 0, .i .i64 0, .i .i64 0, .i .i64 0, .sl 24 [], .i .u64 0, .i .i64 0, .i .i64 0, .i .i64 0, .i .u64 0, .i .u64 0, .i .u64 0, .i .u64 0, .i .u64 0, .i .u64 0, .i .u64 0, .i .u64 0, .i .u64 0, .i .u64 0, .i .u64 0, .i .u64 0, .i .u64 0, .i .u64 0, .i .u64 0, .i .u64 0, .i .u64 0, .i .u64 0, .sl 1 [], .i .i64 0, .i .i64 0, .i .i64 0, .i .i64 0, .i .i64 0, .sl 6 [], .i .i64 0, .i .i64 0, .i .u64 0, .i .u64 0, .i .u64 0, .i .u64 0, .i .u64 0, .i .u64 0, .i .u64 0, .i .u64 0, .i .u64 0, .i .u64 0, .i .u64 0, .i .u64 0, .i .u64 0, .i .u64 0, .i .u64 0, .i .u64 0, .i .u64 0, .i .u64 0, .sl 1 [], .i .i64 0, .i .u64 0, .i .i64 0, .i .u64 0, .sl 24 [], .i .i64 0, .i .i64 0, .sl 25 [], .i .i64 0, .i .u64 0, .i .i64 0, .i .i64 0, .i .i64 0, .i .u64 0, .i .u64 0, .i .u64 0, .i .u64 0, .i .u64 0, .i .u64 0, .i .u64 0, .i .u64 0, .i .u64 0, .i .u64 0, .i .u64 0, .i .u64 0, .i .u64 0, .i .u64 0, .i .u64 0, .i .u64 0, .i .u64 0, .i .u64 0, .sl 1 [], .i .i64 0, .i .i64 0, .i .i64 0, .i .u64 0, .sl 24 [], .i .i64 0, .i .i64 0, .i .u64 0, .i .u64 0, .i .u64 0, .i .u64 0, .i .u64 0, .i .u64 0, .i .u64 0, .i .u64 0, .i .u64 0, .i .u64 0, .i .u64 0, .i .u64 0, .i .u64 0, .i .u64 0, .i .u64 0, .i .u64 0, .i .u64 0, .i .u64 0, .sl 1 [], .sl 8 []] [((.c (.i .i64 10)), 0, 1)], some (34, true, false)⟩,
    ⟨some 36, .call true false 7 [(.t 35), (.c (.i .i64 4))], some (34, true, false)⟩,
    ⟨some 37, .cmp .eql .i64 (.t 36) (.c (.i .i64 1)), some (34, true, false)⟩,
    ⟨some 38, .pick (.t 34) (.t 37) (.c (.b false)), none⟩,
    ⟨some 39, .mov (.t 38), none⟩,
    ⟨some 40, .mks (.c (.i .i64 257)) .i64 8 96 [.i .i64 0, .i .u64 0, .i .i64 0, .i .u64 0, .sl 24 [], .i .i64 0, .i .i64 0, .sl 25 []], some (39, true, false)⟩,
    ⟨some 41, .build [.i .i64 0, .i .i64 0, .i .i64 0, .i .i64 0, .i .i64 0, .i .i64 0, .i .i64 0, .i .i64 0, .i .u64 0, .i .i64 0, .i .i64 0, .i .i64 0, .i .i64 0, .i .u64 0, .i .u64 0, .i .u64 0, .i .u64 0, .i .u64 0, .i .u64 0, .i .u64 0, .i .u64 0, .i .u64 0, .i .u64 0, .i .u64 0, .i .u64 0, .i .u64 0, .i .u64 0, .i .u64 0, .i .u64 0, .i .u64 0, .i .u64 0, .sl 1 [], .i .i64 0, .i .i64 0, .i .i64 0, .i .i64 0, .i .i64 0, .sl 24 [], .i .u64 0, .i .i64 0, .i .i64 0, .i .i64 0, .i .u64 0, .i .u64 0, .i .u64 0, .i .u64 0, .i .u64 0, .i .u64 0, .i .u64 0, .i .u64 0, .i .u64 0, .i .u64 0, .i .u64 0, .i .u64 0, .i .u64 0, .i .u64 0, .i .u64 0, .i .u64 0, .i .u64 0, .i .u64 0, .sl 1 [], .i .i64 0, .i .i64 0, .i .i64 0, .i .i64 0, .i .i64 0, .sl 6 [], .i .i64 0, .i .i64 0, .i .u64 0, .i .u64 0, .i .u64 0, .i .u64 0, .i .u64 0, .i .u64 0, .i .u64 0, .i .u64 0, .i .u64 0, .i .u64 0, .i .u64 0, .i .u64 0, .i .u64 0, .i .u64 0, .i .u64 0, .i .u64 0, .i .u64 0, .i .u64 0, .sl 1 [], .i .i64 0, .i .u64 0, .i .i64 0, .i .u64 0, .sl 24 [], .i .i64 0, .i .i64 0, .sl 25 [], .i .i64 0, .i .u64 0, .i .i64 0, .i .i64 0, .i .i64 0, .i .u64 0, .i .u64 0, .i .u64 0, .i .u64 0, .i .u64 0, .i .u64 0, .i .u64 0, .i .u64 0, .i .u64 0, .i .u64 0, .i .u64 0, .i .u64 0, .i .u64 0, .i .u64 0, .i .u64 0, .i .u64 0, .i .u64 0, .i .u64 0, .sl 1 [], .i .i64 0, .i .i64 0, .i .i64 0, .i .u64 0, .sl 24 [], .i .i64 0, .i .i64 0, .i .u64 0, .i .u64 0, .i .u64 0, .i .u64 0, .i .u64 0, .i .u64 0, .i .u64 0, .i .u64 0, .i .u64 0, .i .u64 0, .i .u64 0, .i .u64 0, .i .u64 0, .i .u64 0, .i .u64 0, .i .u64 0, .i .u64 0, .i .u64 0, .sl 1 [], .sl 8 []] [((.c (.i .i64 1)), 0, 1), ((.t 40), 146, 1)], some (39, true, false)⟩,
    ⟨some 42, .call true false 7 [(.t 41), (.c (.i .i64 4))], some (39, true, false)⟩,
    ⟨some 43, .cmp .eql .i64 (.t 42) (.c (.i .i64 4)), some (39, true, false)⟩,
    ⟨some 44, .pick (.t 39) (.t 43) (.c (.b false)), none⟩,
    ⟨some 45, .mov (.t 44), none⟩,
    ⟨some 46, .mov (.t 1), some (45, true, false)⟩,
    ⟨some 47, .ixa (.t 46) (.c (.i .i64 0)) .i64 147, some (45, true, false)⟩,
    ⟨some 48, .iload (.t 47) (.agg 147), some (45, true, false)⟩,
    ⟨some 49, .mov (.t 1), some (45, true, false)⟩,
    ⟨some 50, .ixa (.t 49) (.c (.i .i64 0)) .i64 147, some (45, true, false)⟩,
    ⟨some 51, .iload (.t 50) (.agg 147), some (45, true, false)⟩,
    ⟨some 52, .call true false 9 [(.t 48), (.t 51)], some (45, true, false)⟩,
    ⟨some 53, .pick (.t 45) (.t 52) (.c (.b false)), none⟩,
    ⟨some 54, .mov (.t 53), none⟩,
    ⟨some 55, .mov (.t 1), some (54, true, false)⟩,
    ⟨some 56, .ixa (.t 55) (.c (.i .i64 0)) .i64 147, some (54, true, false)⟩,
    ⟨some 57, .iload (.t 56) (.agg 147), some (54, true, false)⟩,
    ⟨some 58, .mov (.t 1), some (54, true, false)⟩,
    ⟨some 59, .ixa (.t 58) (.c (.i .i64 1)) .i64 147, some (54, true, false)⟩,
    ⟨some 60, .iload (.t 59) (.agg 147), some (54, true, false)⟩,
    ⟨some 61, .call true false 9 [(.t 57), (.t 60)], some (54, true, false)⟩,
    ⟨some 62, .not (.t 61), some (54, true, false)⟩,
    ⟨some 63, .pick (.t 54) (.t 62) (.c (.b false)), none⟩,
    ⟨some 64, .mov (.t 63), none⟩,
    ⟨some 65, .call true false 16 [(.c (.i .i64 6))], some (64, true, false)⟩,
    ⟨some 66, .scmp .eql (.t 65) (.c (.s ⟨#[99, 108, 111, 115, 101, 100]⟩)), some (64, true, false)⟩,
    ⟨some 67, .pick (.t 64) (.t 66) (.c (.b false)), none⟩,
    ⟨some 68, .mov (.t 67), none⟩,
    ⟨some 69, .call true false 16 [(.c (.i .i64 0))], some (68, true, false)⟩,
    ⟨some 70, .scmp .eql (.t 69) (.c (.s ⟨#[]⟩)), some (68, true, false)⟩,
    ⟨some 71, .pick (.t 68) (.t 70) (.c (.b false)), none⟩,
    ⟨some 0, .mov (.t 71), none⟩])
  (.ret))))
def fd_folkmootlaw22_known : FD := ⟨72, 0, [], [.tmp 0 .glob .b], c_folkmootlaw22_known⟩
noncomputable def G_folkmootlaw22_known (N : Nat) : Env := [(7, S_msg_Check N), (9, S_msg_Same N), (12, S_msg_All N), (15, S_folkmootlaw12_C N), (16, S_msg_Word N)]
noncomputable def F_folkmootlaw22_known (N : Nat) (v : Unit) (H : Heap) : Res (Bool × Unit) :=
  let r1 := F_folkmootlaw12_C N (0, ()) H; req (r1.pre) <| reqB ((r1.out.1.length == 5)) (Tup.d [.b]) <| let r2 := F_msg_All N (4, 3, [.i .i64 1, .i .i64 0, .i .i64 0, nth r1.out.1 0 .junk, nth r1.out.1 1 .junk, nth r1.out.1 2 .junk, nth r1.out.1 3 .junk, nth r1.out.1 4 .junk, .i .u64 0, .i .i64 0, .i .i64 0, .i .i64 0, .i .i64 0, .i .u64 0, .i .u64 0, .i .u64 0, .i .u64 0, .i .u64 0, .i .u64 0, .i .u64 0, .i .u64 0, .i .u64 0, .i .u64 0, .i .u64 0, .i .u64 0, .i .u64 0, .i .u64 0, .i .u64 0, .i .u64 0, .i .u64 0, .i .u64 0, .sl 1 [], .i .i64 0, .i .i64 0, .i .i64 0, .i .i64 0, .i .i64 0, .sl 24 [], .i .u64 0, .i .i64 0, .i .i64 0, .i .i64 0, .i .u64 0, .i .u64 0, .i .u64 0, .i .u64 0, .i .u64 0, .i .u64 0, .i .u64 0, .i .u64 0, .i .u64 0, .i .u64 0, .i .u64 0, .i .u64 0, .i .u64 0, .i .u64 0, .i .u64 0, .i .u64 0, .i .u64 0, .i .u64 0, .sl 1 [], .i .i64 0, .i .i64 0, .i .i64 0, .i .i64 0, .i .i64 0, .sl 6 [], .i .i64 0, .i .i64 0, .i .u64 0, .i .u64 0, .i .u64 0, .i .u64 0, .i .u64 0, .i .u64 0, .i .u64 0, .i .u64 0, .i .u64 0, .i .u64 0, .i .u64 0, .i .u64 0, .i .u64 0, .i .u64 0, .i .u64 0, .i .u64 0, .i .u64 0, .i .u64 0, .sl 1 [], .i .i64 0, .i .u64 0, .i .i64 0, .i .u64 0, .sl 24 [], .i .i64 0, .i .i64 0, .sl 25 [], .i .i64 0, .i .u64 0, .i .i64 0, .i .i64 0, .i .i64 0, .i .u64 0, .i .u64 0, .i .u64 0, .i .u64 0, .i .u64 0, .i .u64 0, .i .u64 0, .i .u64 0, .i .u64 0, .i .u64 0, .i .u64 0, .i .u64 0, .i .u64 0, .i .u64 0, .i .u64 0, .i .u64 0, .i .u64 0, .i .u64 0, .sl 1 [], .i .i64 0, .i .i64 0, .i .i64 0, .i .u64 0, .sl 24 [], .i .i64 0, .i .i64 0, .i .u64 0, .i .u64 0, .i .u64 0, .i .u64 0, .i .u64 0, .i .u64 0, .i .u64 0, .i .u64 0, .i .u64 0, .i .u64 0, .i .u64 0, .i .u64 0, .i .u64 0, .i .u64 0, .i .u64 0, .i .u64 0, .i .u64 0, .i .u64 0, .sl 1 [], .sl 8 []], ()) H; req (r2.pre) <| let t3 : Bool := COp.run (r2.out.1.length : Int) 3 .neq; (match t3 with | true => (ok (false, ()) H) | false => (reqB (inb 2 r2.out.1.length) (Tup.d [.b]) <| let t4 : List AV := nth r2.out.1 (2 : Int).toNat []; reqB ((nth t4 2 .junk).isI .i64) (Tup.d [.b]) <| let t5 : Bool := COp.run ((nth t4 2 .junk).num) 2 .eql; reqG (t5) (inb 0 r2.out.1.length) <| req (imp t5 t5) <| let t6 : List AV := nth r2.out.1 (0 : Int).toNat []; req (imp t5 t5) <| reqG (t5) ((nth t6 1 .junk).isI .i64) <| req (imp t5 t5) <| req (imp t5 t5) <| let t7 : Bool := COp.run ((nth t6 1 .junk).num) 4 .eql; req (imp t5 t5) <| reqG ((t5 && t7)) (inb 0 r2.out.1.length) <| req (imp (t5 && t7) (t5 && t7)) <| let t8 : List AV := nth r2.out.1 (0 : Int).toNat []; req (imp (t5 && t7) (t5 && t7)) <| let r9 := F_msg_Check N (t8, 4, ()) H; req (imp (t5 && t7) (t5 && t7)) <| req (imp (t5 && t7) r9.pre) <| req (imp (t5 && t7) (t5 && t7)) <| req (imp (t5 && t7) (t5 && t7)) <| let t10 : Bool := ((t5 && t7) && (COp.run r9.out.1 0 .eql)); reqG (t10) (inb 0 r2.out.1.length) <| req (imp t10 t10) <| let t11 : List AV := nth r2.out.1 (0 : Int).toNat []; req (imp t10 t10) <| let r12 := F_msg_Check N (t11, 3, ()) H; req (imp t10 t10) <| req (imp t10 r12.pre) <| req (imp t10 t10) <| let t13 : Bool := COp.run r12.out.1 1 .eql; req (imp t10 t10) <| let r14 := F_msg_Check N ([.i .i64 10, .i .i64 0, .i .i64 0, .i .i64 0, .i .i64 0, .i .i64 0, .i .i64 0, .i .i64 0, .i .u64 0, .i .i64 0, .i .i64 0, .i .i64 0, .i .i64 0, .i .u64 0, .i .u64 0, .i .u64 0, .i .u64 0, .i .u64 0, .i .u64 0, .i .u64 0, .i .u64 0, .i .u64 0, .i .u64 0, .i .u64 0, .i .u64 0, .i .u64 0, .i .u64 0, .i .u64 0, .i .u64 0, .i .u64 0, .i .u64 0, .sl 1 [], .i .i64 0, .i .i64 0, .i .i64 0, .i .i64 0, .i .i64 0, .sl 24 [], .i .u64 0, .i .i64 0, .i .i64 0, .i .i64 0, .i .u64 0, .i .u64 0, .i .u64 0, .i .u64 0, .i .u64 0, .i .u64 0, .i .u64 0, .i .u64 0, .i .u64 0, .i .u64 0, .i .u64 0, .i .u64 0, .i .u64 0, .i .u64 0, .i .u64 0, .i .u64 0, .i .u64 0, .i .u64 0, .sl 1 [], .i .i64 0, .i .i64 0, .i .i64 0, .i .i64 0, .i .i64 0, .sl 6 [], .i .i64 0, .i .i64 0, .i .u64 0, .i .u64 0, .i .u64 0, .i .u64 0, .i .u64 0, .i .u64 0, .i .u64 0, .i .u64 0, .i .u64 0, .i .u64 0, .i .u64 0, .i .u64 0, .i .u64 0, .i .u64 0, .i .u64 0, .i .u64 0, .i .u64 0, .i .u64 0, .sl 1 [], .i .i64 0, .i .u64 0, .i .i64 0, .i .u64 0, .sl 24 [], .i .i64 0, .i .i64 0, .sl 25 [], .i .i64 0, .i .u64 0, .i .i64 0, .i .i64 0, .i .i64 0, .i .u64 0, .i .u64 0, .i .u64 0, .i .u64 0, .i .u64 0, .i .u64 0, .i .u64 0, .i .u64 0, .i .u64 0, .i .u64 0, .i .u64 0, .i .u64 0, .i .u64 0, .i .u64 0, .i .u64 0, .i .u64 0, .i .u64 0, .i .u64 0, .sl 1 [], .i .i64 0, .i .i64 0, .i .i64 0, .i .u64 0, .sl 24 [], .i .i64 0, .i .i64 0, .i .u64 0, .i .u64 0, .i .u64 0, .i .u64 0, .i .u64 0, .i .u64 0, .i .u64 0, .i .u64 0, .i .u64 0, .i .u64 0, .i .u64 0, .i .u64 0, .i .u64 0, .i .u64 0, .i .u64 0, .i .u64 0, .i .u64 0, .i .u64 0, .sl 1 [], .sl 8 []], 4, ()) H; req (imp (t10 && t13) (t10 && t13)) <| req (imp (t10 && t13) r14.pre) <| req (imp (t10 && t13) (t10 && t13)) <| let t15 : Bool := COp.run r14.out.1 1 .eql; req (imp (t10 && t13) (t10 && t13)) <| let t16 : List (List AV) := List.replicate (257 : Int).toNat [.i .i64 0, .i .u64 0, .i .i64 0, .i .u64 0, .sl 24 [], .i .i64 0, .i .i64 0, .sl 25 []]; req (imp ((t10 && t13) && t15) ((t10 && t13) && t15)) <| let r17 := F_msg_Check N ([.i .i64 1, .i .i64 0, .i .i64 0, .i .i64 0, .i .i64 0, .i .i64 0, .i .i64 0, .i .i64 0, .i .u64 0, .i .i64 0, .i .i64 0, .i .i64 0, .i .i64 0, .i .u64 0, .i .u64 0, .i .u64 0, .i .u64 0, .i .u64 0, .i .u64 0, .i .u64 0, .i .u64 0, .i .u64 0, .i .u64 0, .i .u64 0, .i .u64 0, .i .u64 0, .i .u64 0, .i .u64 0, .i .u64 0, .i .u64 0, .i .u64 0, .sl 1 [], .i .i64 0, .i .i64 0, .i .i64 0, .i .i64 0, .i .i64 0, .sl 24 [], .i .u64 0, .i .i64 0, .i .i64 0, .i .i64 0, .i .u64 0, .i .u64 0, .i .u64 0, .i .u64 0, .i .u64 0, .i .u64 0, .i .u64 0, .i .u64 0, .i .u64 0, .i .u64 0, .i .u64 0, .i .u64 0, .i .u64 0, .i .u64 0, .i .u64 0, .i .u64 0, .i .u64 0, .i .u64 0, .sl 1 [], .i .i64 0, .i .i64 0, .i .i64 0, .i .i64 0, .i .i64 0, .sl 6 [], .i .i64 0, .i .i64 0, .i .u64 0, .i .u64 0, .i .u64 0, .i .u64 0, .i .u64 0, .i .u64 0, .i .u64 0, .i .u64 0, .i .u64 0, .i .u64 0, .i .u64 0, .i .u64 0, .i .u64 0, .i .u64 0, .i .u64 0, .i .u64 0, .i .u64 0, .i .u64 0, .sl 1 [], .i .i64 0, .i .u64 0, .i .i64 0, .i .u64 0, .sl 24 [], .i .i64 0, .i .i64 0, .sl 25 [], .i .i64 0, .i .u64 0, .i .i64 0, .i .i64 0, .i .i64 0, .i .u64 0, .i .u64 0, .i .u64 0, .i .u64 0, .i .u64 0, .i .u64 0, .i .u64 0, .i .u64 0, .i .u64 0, .i .u64 0, .i .u64 0, .i .u64 0, .i .u64 0, .i .u64 0, .i .u64 0, .i .u64 0, .i .u64 0, .i .u64 0, .sl 1 [], .i .i64 0, .i .i64 0, .i .i64 0, .i .u64 0, .sl 24 [], .i .i64 0, .i .i64 0, .i .u64 0, .i .u64 0, .i .u64 0, .i .u64 0, .i .u64 0, .i .u64 0, .i .u64 0, .i .u64 0, .i .u64 0, .i .u64 0, .i .u64 0, .i .u64 0, .i .u64 0, .i .u64 0, .i .u64 0, .i .u64 0, .i .u64 0, .i .u64 0, .sl 1 [], .sl 8 t16], 4, ()) H; req (imp ((t10 && t13) && t15) ((t10 && t13) && t15)) <| req (imp ((t10 && t13) && t15) r17.pre) <| req (imp ((t10 && t13) && t15) ((t10 && t13) && t15)) <| let t18 : Bool := COp.run r17.out.1 4 .eql; req (imp ((t10 && t13) && t15) ((t10 && t13) && t15)) <| let t19 : Bool := (((t10 && t13) && t15) && t18); reqG (t19) (inb 0 r2.out.1.length) <| req (imp t19 t19) <| let t20 : List AV := nth r2.out.1 (0 : Int).toNat []; req (imp t19 t19) <| reqG (t19) (inb 0 r2.out.1.length) <| req (imp t19 t19) <| let t21 : List AV := nth r2.out.1 (0 : Int).toNat []; req (imp t19 t19) <| let r22 := F_msg_Same N (t20, t21, ()) H; req (imp t19 t19) <| req (imp t19 t19) <| req (imp t19 r22.pre) <| req (imp t19 t19) <| reqG ((t19 && r22.out.1)) (inb 0 r2.out.1.length) <| req (imp (t19 && r22.out.1) (t19 && r22.out.1)) <| let t23 : List AV := nth r2.out.1 (0 : Int).toNat []; req (imp (t19 && r22.out.1) (t19 && r22.out.1)) <| reqG ((t19 && r22.out.1)) (inb 1 r2.out.1.length) <| req (imp (t19 && r22.out.1) (t19 && r22.out.1)) <| let t24 : List AV := nth r2.out.1 (1 : Int).toNat []; req (imp (t19 && r22.out.1) (t19 && r22.out.1)) <| let r25 := F_msg_Same N (t23, t24, ()) H; req (imp (t19 && r22.out.1) (t19 && r22.out.1)) <| req (imp (t19 && r22.out.1) (t19 && r22.out.1)) <| req (imp (t19 && r22.out.1) r25.pre) <| req (imp (t19 && r22.out.1) (t19 && r22.out.1)) <| req (imp (t19 && r22.out.1) (t19 && r22.out.1)) <| let t26 : Bool := ((t19 && r22.out.1) && (!r25.out.1)); let r27 := F_msg_Word N (6, ()) H; req (imp t26 r27.pre) <| req (imp t26 t26) <| let t28 : Bool := COp.runS r27.out.1 ⟨#[99, 108, 111, 115, 101, 100]⟩ .eql; req (imp t26 t26) <| let r29 := F_msg_Word N (0, ()) H; req (imp (t26 && t28) r29.pre) <| req (imp (t26 && t28) (t26 && t28)) <| let t30 : Bool := COp.runS r29.out.1 ⟨#[]⟩ .eql; req (imp (t26 && t28) (t26 && t28)) <| ok (((t26 && t28) && t30), ()) H))
noncomputable def S_folkmootlaw22_known (N : Nat) : Sem := ⟨[], [.b], .glob, true, F_folkmootlaw22_known N⟩
theorem den_folkmootlaw22_known (N : Nat) (v : Unit) (H : Heap) : fd_folkmootlaw22_known.sem N (G_folkmootlaw22_known N) v H = F_folkmootlaw22_known N v H := by kernel_rfl

/-! folkmoot/folkmootlaw12.few -/
def c_folkmootlaw12_few : C' :=
  .seq (.ops false [
    ⟨some 2, .mov (.c (.b false)), none⟩])
  (.seq (.seq (.ops false [
    ⟨some 4, .mov (.t 0), none⟩,
    ⟨some 5, .lenL (.t 4) 24, none⟩,
    ⟨some 6, .cmp .gtr .i64 (.t 5) (.c (.i .i64 12)), none⟩])
  (.cond (.t 6) (.seq (.ops false [
    ⟨some 2, .mov (.c (.b false)), none⟩])
  (.ret)) (.skip)))
  (.seq (.seq (.ops false [
    ⟨some 3, .mov (.c (.i .i64 0)), none⟩])
  (.loopR 0 (.seq (.seq (.ops false [
    ⟨some 7, .mov (.t 3), none⟩,
    ⟨some 8, .mov (.t 0), none⟩,
    ⟨some 9, .lenL (.t 8) 24, none⟩,
    ⟨some 10, .cmp .lss .i64 (.t 7) (.t 9), none⟩])
  (.cond (.t 10) (.skip) (.exit 0)))
  (.seq (.block 1 (.seq (.ops false [
    ⟨some 13, .mov (.t 0), none⟩,
    ⟨some 14, .mov (.t 3), none⟩,
    ⟨some 15, .ixa (.t 13) (.t 14) .i64 24, none⟩,
    ⟨some 16, .fa (.t 15) 3, none⟩,
    ⟨some 17, .fa (.t 16) 20, none⟩,
    ⟨some 18, .iload (.t 17) (.one (.sl 1)), none⟩,
    ⟨some 19, .lenL (.t 18) 1, none⟩,
    ⟨some 20, .cmp .gtr .i64 (.t 19) (.c (.i .i64 9)), none⟩])
  (.cond (.t 20) (.seq (.ops false [
    ⟨some 2, .mov (.c (.b false)), none⟩])
  (.ret)) (.skip))))
  (.ops false [
    ⟨some 11, .mov (.t 3), none⟩,
    ⟨some 12, .arith .add .i64 (.t 11) (.c (.i .i64 1)), none⟩,
    ⟨some 3, .mov (.t 12), none⟩]))) [⟨0, .glob, (.sl 24)⟩, ⟨3, .glob, (.i .i64)⟩] [] [] [⟨2, .glob, .b⟩]))
  (.seq (.ops false [
    ⟨some 2, .mov (.c (.b true)), none⟩])
  (.ret))))
def fd_folkmootlaw12_few : FD := ⟨21, 0, [(.sl 24)], [.tmp 2 .glob .b], c_folkmootlaw12_few⟩
noncomputable def G_folkmootlaw12_few (N : Nat) : Env := []
noncomputable def F_folkmootlaw12_few (N : Nat) (v : List (List AV) × Unit) (H : Heap) : Res (Bool × Unit) :=
  let t1 : Bool := COp.run (v.1.length : Int) 12 .gtr; (match t1 with | true => (ok (false, ()) H) | false => (let r5 := iter (α := List (List AV) × Int × Unit) (β := Sum (Unit) (Bool × Unit)) (Sum.inl (Tup.d [])) (fun R3 v2 H4 => let t6 : Bool := COp.run v2.2.1 (v2.1.length : Int) .lss; (match t6 with | true => (reqB (inb v2.2.1 v2.1.length) (Sum.inl (Tup.d [])) <| let t7 : List AV := nth v2.1 v2.2.1.toNat []; reqB ((nth t7 23 .junk).isSl 1) (Sum.inl (Tup.d [])) <| let t8 : Int := (((nth t7 23 .junk).els).length : Int); (match COp.run t8 9 .gtr with | true => (ok (Sum.inr (false, ())) H4) | false => (let t9 : Int := AOp.run .i64 v2.2.1 1 .add; R3 (v2.1, t9, ()) H4))) | false => (ok (Sum.inl ()) H4))) N (v.1, 0, ()) H; req r5.pre <| sumElim r5.out (fun w10 => ok (true, ()) r5.H) (fun w11 => ok (w11.1, ()) r5.H)))
noncomputable def S_folkmootlaw12_few (N : Nat) : Sem := ⟨[(.sl 24)], [.b], .glob, true, F_folkmootlaw12_few N⟩
theorem den_folkmootlaw12_few (N : Nat) (v : List (List AV) × Unit) (H : Heap) : fd_folkmootlaw12_few.sem N (G_folkmootlaw12_few N) v H = F_folkmootlaw12_few N v H := by kernel_rfl

/-! folkmoot/folkmootlaw12.Few -/
def c_folkmootlaw12_Few : C' :=
  .seq (.ops false [
    ⟨some 1, .lbox 0 6 (.t 0) false, none⟩,
    ⟨some 2, .mov (.c (.b false)), none⟩])
  (.seq (.ops false [
    ⟨some 3, .fa (.t 1) 5, none⟩,
    ⟨some 4, .lload 0 (.t 3) (.one (.sl 24)), none⟩,
    ⟨some 5, .call true false 46 [(.t 4)], none⟩,
    ⟨some 2, .mov (.t 5), none⟩])
  (.ret))
def fd_folkmootlaw12_Few : FD := ⟨6, 1, [.ag], [.tmp 2 .glob .b], c_folkmootlaw12_Few⟩
noncomputable def G_folkmootlaw12_Few (N : Nat) : Env := [(46, S_folkmootlaw12_few N)]
noncomputable def F_folkmootlaw12_Few (N : Nat) (v : List AV × Unit) (H : Heap) : Res (Bool × Unit) :=
  reqB (v.1.length == 6) (Tup.d [.b]) <| reqB ((nth v.1 5 .junk).isSl 24) (Tup.d [.b]) <| let r1 := F_folkmootlaw12_few N ((nth v.1 5 .junk).els, ()) H; req (r1.pre) <| ok (r1.out.1, ()) H
noncomputable def S_folkmootlaw12_Few (N : Nat) : Sem := ⟨[.ag], [.b], .glob, true, F_folkmootlaw12_Few N⟩
theorem den_folkmootlaw12_Few (N : Nat) (v : List AV × Unit) (H : Heap) : fd_folkmootlaw12_Few.sem N (G_folkmootlaw12_Few N) v H = F_folkmootlaw12_Few N v H := by kernel_rfl

/-! folkmoot/folkmootlaw15.Few -/
def c_folkmootlaw15_Few : C' :=
  .seq (.ops false [
    ⟨some 1, .lbox 0 25 (.t 0) false, none⟩,
    ⟨some 2, .mov (.c (.b false)), none⟩])
  (.seq (.seq (.ops false [
    ⟨some 4, .fa (.t 1) 3, none⟩,
    ⟨some 5, .lload 0 (.t 4) (.one (.sl 6)), none⟩,
    ⟨some 6, .lenL (.t 5) 6, none⟩,
    ⟨some 7, .cmp .gtr .i64 (.t 6) (.c (.i .i64 12)), none⟩,
    ⟨some 8, .mov (.t 7), none⟩,
    ⟨some 9, .fa (.t 1) 4, some (8, false, false)⟩,
    ⟨some 10, .fa (.t 9) 20, some (8, false, false)⟩,
    ⟨some 11, .lload 0 (.t 10) (.one (.sl 1)), some (8, false, false)⟩,
    ⟨some 12, .lenL (.t 11) 1, some (8, false, false)⟩,
    ⟨some 13, .cmp .gtr .i64 (.t 12) (.c (.i .i64 9)), some (8, false, false)⟩,
    ⟨some 14, .pick (.t 8) (.c (.b true)) (.t 13), none⟩])
  (.cond (.t 14) (.seq (.ops false [
    ⟨some 2, .mov (.c (.b false)), none⟩])
  (.ret)) (.skip)))
  (.seq (.seq (.ops false [
    ⟨some 3, .mov (.c (.i .i64 0)), none⟩])
  (.loopR 0 (.seq (.seq (.ops false [
    ⟨some 15, .mov (.t 3), none⟩,
    ⟨some 16, .fa (.t 1) 3, none⟩,
    ⟨some 17, .lload 0 (.t 16) (.one (.sl 6)), none⟩,
    ⟨some 18, .lenL (.t 17) 6, none⟩,
    ⟨some 19, .cmp .lss .i64 (.t 15) (.t 18), none⟩])
  (.cond (.t 19) (.skip) (.exit 0)))
  (.seq (.block 1 (.seq (.ops false [
    ⟨some 22, .fa (.t 1) 3, none⟩,
    ⟨some 23, .lload 0 (.t 22) (.one (.sl 6)), none⟩,
    ⟨some 24, .mov (.t 3), none⟩,
    ⟨some 25, .ixa (.t 23) (.t 24) .i64 6, none⟩,
    ⟨some 26, .iload (.t 25) (.agg 6), none⟩,
    ⟨some 27, .call true false 17 [(.t 26)], none⟩,
    ⟨some 28, .not (.t 27), none⟩])
  (.cond (.t 28) (.seq (.ops false [
    ⟨some 2, .mov (.c (.b false)), none⟩])
  (.ret)) (.skip))))
  (.ops false [
    ⟨some 20, .mov (.t 3), none⟩,
    ⟨some 21, .arith .add .i64 (.t 20) (.c (.i .i64 1)), none⟩,
    ⟨some 3, .mov (.t 21), none⟩]))) [⟨1, .loc, (.lpc 0)⟩, ⟨3, .glob, (.i .i64)⟩] [⟨0, 25, []⟩] [] [⟨2, .glob, .b⟩]))
  (.seq (.ops false [
    ⟨some 2, .mov (.c (.b true)), none⟩])
  (.ret))))
def fd_folkmootlaw15_Few : FD := ⟨29, 1, [.ag], [.tmp 2 .glob .b], c_folkmootlaw15_Few⟩
noncomputable def G_folkmootlaw15_Few (N : Nat) : Env := [(17, S_folkmootlaw12_Few N)]
noncomputable def F_folkmootlaw15_Few (N : Nat) (v : List AV × Unit) (H : Heap) : Res (Bool × Unit) :=
  reqB (v.1.length == 25) (Tup.d [.b]) <| reqB ((nth v.1 3 .junk).isSl 6) (Tup.d [.b]) <| let t1 : Int := (((nth v.1 3 .junk).els).length : Int); req (imp (!(COp.run t1 12 .gtr)) (!(COp.run t1 12 .gtr))) <| reqG (!(COp.run t1 12 .gtr)) ((nth v.1 24 .junk).isSl 1) <| req (imp (!(COp.run t1 12 .gtr)) (!(COp.run t1 12 .gtr))) <| req (imp (!(COp.run t1 12 .gtr)) (!(COp.run t1 12 .gtr))) <| let t2 : Int := (((nth v.1 24 .junk).els).length : Int); req (imp (!(COp.run t1 12 .gtr)) (!(COp.run t1 12 .gtr))) <| req (imp (!(COp.run t1 12 .gtr)) (!(COp.run t1 12 .gtr))) <| let t3 : Bool := ((COp.run t1 12 .gtr) || (COp.run t2 9 .gtr)); (match t3 with | true => (ok (false, ()) H) | false => (let r7 := iter (α := Unit × Int × List AV × Unit) (β := Sum (List AV × Unit) (Bool × List AV × Unit)) (Sum.inl (Tup.d [.ag])) (fun R5 v4 H6 => reqB ((nth v4.2.2.1 3 .junk).isSl 6) (Sum.inl (Tup.d [.ag])) <| let t8 : List (List AV) := (nth v4.2.2.1 3 .junk).els; let t9 : Bool := COp.run v4.2.1 (t8.length : Int) .lss; (match t9 with | true => (reqB ((nth v4.2.2.1 3 .junk).isSl 6) (Sum.inl (Tup.d [.ag])) <| let t10 : List (List AV) := (nth v4.2.2.1 3 .junk).els; reqB (inb v4.2.1 t10.length) (Sum.inl (Tup.d [.ag])) <| let r11 := F_folkmootlaw12_Few N (nth t10 v4.2.1.toNat [], ()) H6; req (r11.pre) <| (match !r11.out.1 with | true => (ok (Sum.inr (false, v4.2.2.1, ())) H6) | false => (let t12 : Int := AOp.run .i64 v4.2.1 1 .add; R5 ((), t12, v4.2.2.1, ()) H6))) | false => (ok (Sum.inl (v4.2.2.1, ())) H6))) N ((), 0, v.1, ()) H; req r7.pre <| sumElim r7.out (fun w13 => ok (true, ()) r7.H) (fun w14 => ok (w14.1, ()) r7.H)))
noncomputable def S_folkmootlaw15_Few (N : Nat) : Sem := ⟨[.ag], [.b], .glob, true, F_folkmootlaw15_Few N⟩
theorem den_folkmootlaw15_Few (N : Nat) (v : List AV × Unit) (H : Heap) : fd_folkmootlaw15_Few.sem N (G_folkmootlaw15_Few N) v H = F_folkmootlaw15_Few N v H := by kernel_rfl

/-! folkmoot/folkmootlaw16.FewQC -/
def c_folkmootlaw16_FewQC : C' :=
  .seq (.ops false [
    ⟨some 1, .lbox 0 3 (.t 0) false, none⟩,
    ⟨some 2, .mov (.c (.b false)), none⟩])
  (.seq (.seq (.ops false [
    ⟨some 4, .fa (.t 1) 2, none⟩,
    ⟨some 5, .lload 0 (.t 4) (.one (.sl 24)), none⟩,
    ⟨some 6, .lenL (.t 5) 24, none⟩,
    ⟨some 7, .cmp .gtr .i64 (.t 6) (.c (.i .i64 10)), none⟩])
  (.cond (.t 7) (.seq (.ops false [
    ⟨some 2, .mov (.c (.b false)), none⟩])
  (.ret)) (.skip)))
  (.seq (.seq (.ops false [
    ⟨some 3, .mov (.c (.i .i64 0)), none⟩])
  (.loopR 0 (.seq (.seq (.ops false [
    ⟨some 8, .mov (.t 3), none⟩,
    ⟨some 9, .fa (.t 1) 2, none⟩,
    ⟨some 10, .lload 0 (.t 9) (.one (.sl 24)), none⟩,
    ⟨some 11, .lenL (.t 10) 24, none⟩,
    ⟨some 12, .cmp .lss .i64 (.t 8) (.t 11), none⟩])
  (.cond (.t 12) (.skip) (.exit 0)))
  (.seq (.block 1 (.seq (.ops false [
    ⟨some 15, .fa (.t 1) 2, none⟩,
    ⟨some 16, .lload 0 (.t 15) (.one (.sl 24)), none⟩,
    ⟨some 17, .mov (.t 3), none⟩,
    ⟨some 18, .ixa (.t 16) (.t 17) .i64 24, none⟩,
    ⟨some 19, .fa (.t 18) 3, none⟩,
    ⟨some 20, .fa (.t 19) 20, none⟩,
    ⟨some 21, .iload (.t 20) (.one (.sl 1)), none⟩,
    ⟨some 22, .lenL (.t 21) 1, none⟩,
    ⟨some 23, .cmp .gtr .i64 (.t 22) (.c (.i .i64 9)), none⟩])
  (.cond (.t 23) (.seq (.ops false [
    ⟨some 2, .mov (.c (.b false)), none⟩])
  (.ret)) (.skip))))
  (.ops false [
    ⟨some 13, .mov (.t 3), none⟩,
    ⟨some 14, .arith .add .i64 (.t 13) (.c (.i .i64 1)), none⟩,
    ⟨some 3, .mov (.t 14), none⟩]))) [⟨1, .loc, (.lpc 0)⟩, ⟨3, .glob, (.i .i64)⟩] [⟨0, 3, []⟩] [] [⟨2, .glob, .b⟩]))
  (.seq (.ops false [
    ⟨some 2, .mov (.c (.b true)), none⟩])
  (.ret))))
def fd_folkmootlaw16_FewQC : FD := ⟨24, 1, [.ag], [.tmp 2 .glob .b], c_folkmootlaw16_FewQC⟩
noncomputable def G_folkmootlaw16_FewQC (N : Nat) : Env := []
noncomputable def F_folkmootlaw16_FewQC (N : Nat) (v : List AV × Unit) (H : Heap) : Res (Bool × Unit) :=
  reqB (v.1.length == 3) (Tup.d [.b]) <| reqB ((nth v.1 2 .junk).isSl 24) (Tup.d [.b]) <| let t1 : Int := (((nth v.1 2 .junk).els).length : Int); (match COp.run t1 10 .gtr with | true => (ok (false, ()) H) | false => (let r5 := iter (α := Unit × Int × List AV × Unit) (β := Sum (List AV × Unit) (Bool × List AV × Unit)) (Sum.inl (Tup.d [.ag])) (fun R3 v2 H4 => reqB ((nth v2.2.2.1 2 .junk).isSl 24) (Sum.inl (Tup.d [.ag])) <| let t6 : List (List AV) := (nth v2.2.2.1 2 .junk).els; let t7 : Bool := COp.run v2.2.1 (t6.length : Int) .lss; (match t7 with | true => (reqB ((nth v2.2.2.1 2 .junk).isSl 24) (Sum.inl (Tup.d [.ag])) <| let t8 : List (List AV) := (nth v2.2.2.1 2 .junk).els; reqB (inb v2.2.1 t8.length) (Sum.inl (Tup.d [.ag])) <| reqB ((nth (nth t8 v2.2.1.toNat []) 23 .junk).isSl 1) (Sum.inl (Tup.d [.ag])) <| let t9 : List (List AV) := (nth (nth t8 v2.2.1.toNat []) 23 .junk).els; let t10 : Bool := COp.run (t9.length : Int) 9 .gtr; (match t10 with | true => (ok (Sum.inr (false, v2.2.2.1, ())) H4) | false => (let t11 : Int := AOp.run .i64 v2.2.1 1 .add; R3 ((), t11, v2.2.2.1, ()) H4))) | false => (ok (Sum.inl (v2.2.2.1, ())) H4))) N ((), 0, v.1, ()) H; req r5.pre <| sumElim r5.out (fun w12 => ok (true, ()) r5.H) (fun w13 => ok (w13.1, ()) r5.H)))
noncomputable def S_folkmootlaw16_FewQC (N : Nat) : Sem := ⟨[.ag], [.b], .glob, true, F_folkmootlaw16_FewQC N⟩
theorem den_folkmootlaw16_FewQC (N : Nat) (v : List AV × Unit) (H : Heap) : fd_folkmootlaw16_FewQC.sem N (G_folkmootlaw16_FewQC N) v H = F_folkmootlaw16_FewQC N v H := by kernel_rfl

/-! folkmoot/folkmootlaw16.Few -/
def c_folkmootlaw16_Few : C' :=
  .seq (.ops false [
    ⟨some 1, .lbox 0 8 (.t 0) false, none⟩,
    ⟨some 2, .mov (.c (.b false)), none⟩])
  (.seq (.seq (.ops false [
    ⟨some 4, .fa (.t 1) 7, none⟩,
    ⟨some 5, .lload 0 (.t 4) (.one (.sl 25)), none⟩,
    ⟨some 6, .lenL (.t 5) 25, none⟩,
    ⟨some 7, .cmp .gtr .i64 (.t 6) (.c (.i .i64 10)), none⟩,
    ⟨some 8, .mov (.t 7), none⟩,
    ⟨some 9, .fa (.t 1) 2, some (8, false, false)⟩,
    ⟨some 10, .lload 0 (.t 9) (.agg 3), some (8, false, false)⟩,
    ⟨some 11, .call true false 47 [(.t 10)], some (8, false, false)⟩,
    ⟨some 12, .not (.t 11), some (8, false, false)⟩,
    ⟨some 13, .pick (.t 8) (.c (.b true)) (.t 12), none⟩])
  (.cond (.t 13) (.seq (.ops false [
    ⟨some 2, .mov (.c (.b false)), none⟩])
  (.ret)) (.skip)))
  (.seq (.seq (.ops false [
    ⟨some 3, .mov (.c (.i .i64 0)), none⟩])
  (.loopR 0 (.seq (.seq (.ops false [
    ⟨some 14, .mov (.t 3), none⟩,
    ⟨some 15, .fa (.t 1) 7, none⟩,
    ⟨some 16, .lload 0 (.t 15) (.one (.sl 25)), none⟩,
    ⟨some 17, .lenL (.t 16) 25, none⟩,
    ⟨some 18, .cmp .lss .i64 (.t 14) (.t 17), none⟩])
  (.cond (.t 18) (.skip) (.exit 0)))
  (.seq (.block 1 (.seq (.ops false [
    ⟨some 21, .fa (.t 1) 7, none⟩,
    ⟨some 22, .lload 0 (.t 21) (.one (.sl 25)), none⟩,
    ⟨some 23, .mov (.t 3), none⟩,
    ⟨some 24, .ixa (.t 22) (.t 23) .i64 25, none⟩,
    ⟨some 25, .iload (.t 24) (.agg 25), none⟩,
    ⟨some 26, .call true false 18 [(.t 25)], none⟩,
    ⟨some 27, .not (.t 26), none⟩])
  (.cond (.t 27) (.seq (.ops false [
    ⟨some 2, .mov (.c (.b false)), none⟩])
  (.ret)) (.skip))))
  (.ops false [
    ⟨some 19, .mov (.t 3), none⟩,
    ⟨some 20, .arith .add .i64 (.t 19) (.c (.i .i64 1)), none⟩,
    ⟨some 3, .mov (.t 20), none⟩]))) [⟨1, .loc, (.lpc 0)⟩, ⟨3, .glob, (.i .i64)⟩] [⟨0, 8, []⟩] [] [⟨2, .glob, .b⟩]))
  (.seq (.ops false [
    ⟨some 2, .mov (.c (.b true)), none⟩])
  (.ret))))
def fd_folkmootlaw16_Few : FD := ⟨28, 1, [.ag], [.tmp 2 .glob .b], c_folkmootlaw16_Few⟩
noncomputable def G_folkmootlaw16_Few (N : Nat) : Env := [(18, S_folkmootlaw15_Few N), (47, S_folkmootlaw16_FewQC N)]
noncomputable def F_folkmootlaw16_Few (N : Nat) (v : List AV × Unit) (H : Heap) : Res (Bool × Unit) :=
  reqB (v.1.length == 8) (Tup.d [.b]) <| reqB ((nth v.1 7 .junk).isSl 25) (Tup.d [.b]) <| let t1 : Int := (((nth v.1 7 .junk).els).length : Int); req (imp (!(COp.run t1 10 .gtr)) (!(COp.run t1 10 .gtr))) <| let r2 := F_folkmootlaw16_FewQC N (sub v.1 2 3, ()) H; req (imp (!(COp.run t1 10 .gtr)) (!(COp.run t1 10 .gtr))) <| req (imp (!(COp.run t1 10 .gtr)) r2.pre) <| req (imp (!(COp.run t1 10 .gtr)) (!(COp.run t1 10 .gtr))) <| req (imp (!(COp.run t1 10 .gtr)) (!(COp.run t1 10 .gtr))) <| let t3 : Bool := ((COp.run t1 10 .gtr) || (!r2.out.1)); (match t3 with | true => (ok (false, ()) H) | false => (let r7 := iter (α := Unit × Int × List AV × Unit) (β := Sum (List AV × Unit) (Bool × List AV × Unit)) (Sum.inl (Tup.d [.ag])) (fun R5 v4 H6 => reqB ((nth v4.2.2.1 7 .junk).isSl 25) (Sum.inl (Tup.d [.ag])) <| let t8 : List (List AV) := (nth v4.2.2.1 7 .junk).els; let t9 : Bool := COp.run v4.2.1 (t8.length : Int) .lss; (match t9 with | true => (reqB ((nth v4.2.2.1 7 .junk).isSl 25) (Sum.inl (Tup.d [.ag])) <| let t10 : List (List AV) := (nth v4.2.2.1 7 .junk).els; reqB (inb v4.2.1 t10.length) (Sum.inl (Tup.d [.ag])) <| let r11 := F_folkmootlaw15_Few N (nth t10 v4.2.1.toNat [], ()) H6; req (r11.pre) <| (match !r11.out.1 with | true => (ok (Sum.inr (false, v4.2.2.1, ())) H6) | false => (let t12 : Int := AOp.run .i64 v4.2.1 1 .add; R5 ((), t12, v4.2.2.1, ()) H6))) | false => (ok (Sum.inl (v4.2.2.1, ())) H6))) N ((), 0, v.1, ()) H; req r7.pre <| sumElim r7.out (fun w13 => ok (true, ()) r7.H) (fun w14 => ok (w14.1, ()) r7.H)))
noncomputable def S_folkmootlaw16_Few (N : Nat) : Sem := ⟨[.ag], [.b], .glob, true, F_folkmootlaw16_Few N⟩
theorem den_folkmootlaw16_Few (N : Nat) (v : List AV × Unit) (H : Heap) : fd_folkmootlaw16_Few.sem N (G_folkmootlaw16_Few N) v H = F_folkmootlaw16_Few N v H := by kernel_rfl

/-! folkmoot/folkmootlaw19.Few -/
def c_folkmootlaw19_Few : C' :=
  .seq (.ops false [
    ⟨some 1, .lbox 0 26 (.t 0) false, none⟩,
    ⟨some 2, .mov (.c (.b false)), none⟩])
  (.seq (.ops false [
    ⟨some 3, .fa (.t 1) 2, none⟩,
    ⟨some 4, .lload 0 (.t 3) (.agg 3), none⟩,
    ⟨some 5, .call true false 47 [(.t 4)], none⟩,
    ⟨some 6, .mov (.t 5), none⟩,
    ⟨some 7, .fa (.t 1) 5, some (6, true, false)⟩,
    ⟨some 8, .fa (.t 7) 20, some (6, true, false)⟩,
    ⟨some 9, .lload 0 (.t 8) (.one (.sl 1)), some (6, true, false)⟩,
    ⟨some 10, .lenL (.t 9) 1, some (6, true, false)⟩,
    ⟨some 11, .cmp .leq .i64 (.t 10) (.c (.i .i64 9)), some (6, true, false)⟩,
    ⟨some 12, .pick (.t 6) (.t 11) (.c (.b false)), none⟩,
    ⟨some 2, .mov (.t 12), none⟩])
  (.ret))
def fd_folkmootlaw19_Few : FD := ⟨13, 1, [.ag], [.tmp 2 .glob .b], c_folkmootlaw19_Few⟩
noncomputable def G_folkmootlaw19_Few (N : Nat) : Env := [(47, S_folkmootlaw16_FewQC N)]
noncomputable def F_folkmootlaw19_Few (N : Nat) (v : List AV × Unit) (H : Heap) : Res (Bool × Unit) :=
  reqB (v.1.length == 26) (Tup.d [.b]) <| let r1 := F_folkmootlaw16_FewQC N (sub v.1 2 3, ()) H; req (r1.pre) <| req (imp r1.out.1 r1.out.1) <| reqG (r1.out.1) ((nth v.1 25 .junk).isSl 1) <| req (imp r1.out.1 r1.out.1) <| req (imp r1.out.1 r1.out.1) <| let t2 : Int := (((nth v.1 25 .junk).els).length : Int); req (imp r1.out.1 r1.out.1) <| req (imp r1.out.1 r1.out.1) <| let t3 : Bool := (r1.out.1 && (COp.run t2 9 .leq)); ok (t3, ()) H
noncomputable def S_folkmootlaw19_Few (N : Nat) : Sem := ⟨[.ag], [.b], .glob, true, F_folkmootlaw19_Few N⟩
theorem den_folkmootlaw19_Few (N : Nat) (v : List AV × Unit) (H : Heap) : fd_folkmootlaw19_Few.sem N (G_folkmootlaw19_Few N) v H = F_folkmootlaw19_Few N v H := by kernel_rfl

/-! folkmoot/folkmootlaw22.Few -/
def c_folkmootlaw22_Few : C' :=
  .seq (.ops false [
    ⟨some 1, .lbox 0 147 (.t 0) false, none⟩,
    ⟨some 2, .mov (.c (.b false)), none⟩])
  (.seq (.seq (.ops false [
    ⟨some 4, .fa (.t 1) 8, none⟩,
    ⟨some 5, .fa (.t 4) 3, none⟩,
    ⟨some 6, .fa (.t 5) 20, none⟩,
    ⟨some 7, .lload 0 (.t 6) (.one (.sl 1)), none⟩,
    ⟨some 8, .lenL (.t 7) 1, none⟩,
    ⟨some 9, .cmp .gtr .i64 (.t 8) (.c (.i .i64 9)), none⟩,
    ⟨some 10, .mov (.t 9), none⟩,
    ⟨some 11, .fa (.t 1) 32, some (10, false, false)⟩,
    ⟨some 12, .lload 0 (.t 11) (.agg 6), some (10, false, false)⟩,
    ⟨some 13, .call true false 17 [(.t 12)], some (10, false, false)⟩,
    ⟨some 14, .not (.t 13), some (10, false, false)⟩,
    ⟨some 15, .pick (.t 10) (.c (.b true)) (.t 14), none⟩,
    ⟨some 16, .mov (.t 15), none⟩,
    ⟨some 17, .fa (.t 1) 38, some (16, false, false)⟩,
    ⟨some 18, .fa (.t 17) 2, some (16, false, false)⟩,
    ⟨some 19, .fa (.t 18) 20, some (16, false, false)⟩,
    ⟨some 20, .lload 0 (.t 19) (.one (.sl 1)), some (16, false, false)⟩,
    ⟨some 21, .lenL (.t 20) 1, some (16, false, false)⟩,
    ⟨some 22, .cmp .gtr .i64 (.t 21) (.c (.i .i64 9)), some (16, false, false)⟩,
    ⟨some 23, .pick (.t 16) (.c (.b true)) (.t 22), none⟩,
    ⟨some 24, .mov (.t 23), none⟩,
    ⟨some 25, .fa (.t 1) 63, some (24, false, false)⟩,
    ⟨some 26, .lload 0 (.t 25) (.agg 25), some (24, false, false)⟩,
    ⟨some 27, .call true false 18 [(.t 26)], some (24, false, false)⟩,
    ⟨some 28, .not (.t 27), some (24, false, false)⟩,
    ⟨some 29, .pick (.t 24) (.c (.b true)) (.t 28), none⟩,
    ⟨some 30, .mov (.t 29), none⟩,
    ⟨some 31, .fa (.t 1) 88, some (30, false, false)⟩,
    ⟨some 32, .lload 0 (.t 31) (.agg 8), some (30, false, false)⟩,
    ⟨some 33, .call true false 19 [(.t 32)], some (30, false, false)⟩,
    ⟨some 34, .not (.t 33), some (30, false, false)⟩,
    ⟨some 35, .pick (.t 30) (.c (.b true)) (.t 34), none⟩,
    ⟨some 36, .mov (.t 35), none⟩,
    ⟨some 37, .fa (.t 1) 96, some (36, false, false)⟩,
    ⟨some 38, .fa (.t 37) 3, some (36, false, false)⟩,
    ⟨some 39, .fa (.t 38) 20, some (36, false, false)⟩,
    ⟨some 40, .lload 0 (.t 39) (.one (.sl 1)), some (36, false, false)⟩,
    ⟨some 41, .lenL (.t 40) 1, some (36, false, false)⟩,
    ⟨some 42, .cmp .gtr .i64 (.t 41) (.c (.i .i64 9)), some (36, false, false)⟩,
    ⟨some 43, .pick (.t 36) (.c (.b true)) (.t 42), none⟩,
    ⟨some 44, .mov (.t 43), none⟩,
    ⟨some 45, .fa (.t 1) 120, some (44, false, false)⟩,
    ⟨some 46, .lload 0 (.t 45) (.agg 26), some (44, false, false)⟩,
    ⟨some 47, .call true false 20 [(.t 46)], some (44, false, false)⟩,
    ⟨some 48, .not (.t 47), some (44, false, false)⟩,
    ⟨some 49, .pick (.t 44) (.c (.b true)) (.t 48), none⟩,
    ⟨some 50, .mov (.t 49), none⟩,
    ⟨some 51, .fa (.t 1) 146, some (50, false, false)⟩,
    ⟨some 52, .lload 0 (.t 51) (.one (.sl 8)), some (50, false, false)⟩,
    ⟨some 53, .lenL (.t 52) 8, some (50, false, false)⟩,
    ⟨some 54, .cmp .gtr .i64 (.t 53) (.c (.i .i64 300)), some (50, false, false)⟩,
    ⟨some 55, .pick (.t 50) (.c (.b true)) (.t 54), none⟩])
  (.cond (.t 55) (.seq (.ops false [
    ⟨some 2, .mov (.c (.b false)), none⟩])
  (.ret)) (.skip)))
  (.seq (.seq (.ops false [
    ⟨some 3, .mov (.c (.i .i64 0)), none⟩])
  (.loopR 0 (.seq (.seq (.ops false [
    ⟨some 56, .mov (.t 3), none⟩,
    ⟨some 57, .fa (.t 1) 146, none⟩,
    ⟨some 58, .lload 0 (.t 57) (.one (.sl 8)), none⟩,
    ⟨some 59, .lenL (.t 58) 8, none⟩,
    ⟨some 60, .cmp .lss .i64 (.t 56) (.t 59), none⟩])
  (.cond (.t 60) (.skip) (.exit 0)))
  (.seq (.block 1 (.seq (.ops false [
    ⟨some 63, .fa (.t 1) 146, none⟩,
    ⟨some 64, .lload 0 (.t 63) (.one (.sl 8)), none⟩,
    ⟨some 65, .mov (.t 3), none⟩,
    ⟨some 66, .ixa (.t 64) (.t 65) .i64 8, none⟩,
    ⟨some 67, .iload (.t 66) (.agg 8), none⟩,
    ⟨some 68, .call true false 19 [(.t 67)], none⟩,
    ⟨some 69, .not (.t 68), none⟩])
  (.cond (.t 69) (.seq (.ops false [
    ⟨some 2, .mov (.c (.b false)), none⟩])
  (.ret)) (.skip))))
  (.ops false [
    ⟨some 61, .mov (.t 3), none⟩,
    ⟨some 62, .arith .add .i64 (.t 61) (.c (.i .i64 1)), none⟩,
    ⟨some 3, .mov (.t 62), none⟩]))) [⟨1, .loc, (.lpc 0)⟩, ⟨3, .glob, (.i .i64)⟩] [⟨0, 147, []⟩] [] [⟨2, .glob, .b⟩]))
  (.seq (.ops false [
    ⟨some 2, .mov (.c (.b true)), none⟩])
  (.ret))))
def fd_folkmootlaw22_Few : FD := ⟨70, 1, [.ag], [.tmp 2 .glob .b], c_folkmootlaw22_Few⟩
noncomputable def G_folkmootlaw22_Few (N : Nat) : Env := [(17, S_folkmootlaw12_Few N), (18, S_folkmootlaw15_Few N), (19, S_folkmootlaw16_Few N), (20, S_folkmootlaw19_Few N)]
noncomputable def F_folkmootlaw22_Few (N : Nat) (v : List AV × Unit) (H : Heap) : Res (Bool × Unit) :=
  reqB (v.1.length == 147) (Tup.d [.b]) <| reqB ((nth v.1 31 .junk).isSl 1) (Tup.d [.b]) <| let t1 : Int := (((nth v.1 31 .junk).els).length : Int); req (imp (!(COp.run t1 9 .gtr)) (!(COp.run t1 9 .gtr))) <| let r2 := F_folkmootlaw12_Few N (sub v.1 32 6, ()) H; req (imp (!(COp.run t1 9 .gtr)) (!(COp.run t1 9 .gtr))) <| req (imp (!(COp.run t1 9 .gtr)) r2.pre) <| req (imp (!(COp.run t1 9 .gtr)) (!(COp.run t1 9 .gtr))) <| req (imp (!(COp.run t1 9 .gtr)) (!(COp.run t1 9 .gtr))) <| let t3 : Bool := ((COp.run t1 9 .gtr) || (!r2.out.1)); req (imp (!t3) (!t3)) <| req (imp (!t3) (!t3)) <| reqG (!t3) ((nth v.1 60 .junk).isSl 1) <| req (imp (!t3) (!t3)) <| req (imp (!t3) (!t3)) <| let t4 : Int := (((nth v.1 60 .junk).els).length : Int); req (imp (!t3) (!t3)) <| req (imp (!t3) (!t3)) <| let t5 : Bool := (t3 || (COp.run t4 9 .gtr)); req (imp (!t5) (!t5)) <| let r6 := F_folkmootlaw15_Few N (sub v.1 63 25, ()) H; req (imp (!t5) (!t5)) <| req (imp (!t5) r6.pre) <| req (imp (!t5) (!t5)) <| req (imp (!t5) (!t5)) <| req (imp (!(t5 || (!r6.out.1))) (!(t5 || (!r6.out.1)))) <| let r7 := F_folkmootlaw16_Few N (sub v.1 88 8, ()) H; req (imp (!(t5 || (!r6.out.1))) (!(t5 || (!r6.out.1)))) <| req (imp (!(t5 || (!r6.out.1))) r7.pre) <| req (imp (!(t5 || (!r6.out.1))) (!(t5 || (!r6.out.1)))) <| req (imp (!(t5 || (!r6.out.1))) (!(t5 || (!r6.out.1)))) <| let t8 : Bool := ((t5 || (!r6.out.1)) || (!r7.out.1)); req (imp (!t8) (!t8)) <| req (imp (!t8) (!t8)) <| reqG (!t8) ((nth v.1 119 .junk).isSl 1) <| req (imp (!t8) (!t8)) <| req (imp (!t8) (!t8)) <| let t9 : Int := (((nth v.1 119 .junk).els).length : Int); req (imp (!t8) (!t8)) <| req (imp (!t8) (!t8)) <| let t10 : Bool := (t8 || (COp.run t9 9 .gtr)); req (imp (!t10) (!t10)) <| let r11 := F_folkmootlaw19_Few N (sub v.1 120 26, ()) H; req (imp (!t10) (!t10)) <| req (imp (!t10) r11.pre) <| req (imp (!t10) (!t10)) <| req (imp (!t10) (!t10)) <| reqG (!(t10 || (!r11.out.1))) ((nth v.1 146 .junk).isSl 8) <| req (imp (!(t10 || (!r11.out.1))) (!(t10 || (!r11.out.1)))) <| req (imp (!(t10 || (!r11.out.1))) (!(t10 || (!r11.out.1)))) <| let t12 : Int := (((nth v.1 146 .junk).els).length : Int); req (imp (!(t10 || (!r11.out.1))) (!(t10 || (!r11.out.1)))) <| req (imp (!(t10 || (!r11.out.1))) (!(t10 || (!r11.out.1)))) <| let t13 : Bool := ((t10 || (!r11.out.1)) || (COp.run t12 300 .gtr)); (match t13 with | true => (ok (false, ()) H) | false => (let r17 := iter (α := Unit × Int × List AV × Unit) (β := Sum (List AV × Unit) (Bool × List AV × Unit)) (Sum.inl (Tup.d [.ag])) (fun R15 v14 H16 => reqB ((nth v14.2.2.1 146 .junk).isSl 8) (Sum.inl (Tup.d [.ag])) <| let t18 : List (List AV) := (nth v14.2.2.1 146 .junk).els; let t19 : Bool := COp.run v14.2.1 (t18.length : Int) .lss; (match t19 with | true => (reqB ((nth v14.2.2.1 146 .junk).isSl 8) (Sum.inl (Tup.d [.ag])) <| let t20 : List (List AV) := (nth v14.2.2.1 146 .junk).els; reqB (inb v14.2.1 t20.length) (Sum.inl (Tup.d [.ag])) <| let t21 : List AV := nth t20 v14.2.1.toNat []; let r22 := F_folkmootlaw16_Few N (t21, ()) H16; req (r22.pre) <| (match !r22.out.1 with | true => (ok (Sum.inr (false, v14.2.2.1, ())) H16) | false => (let t23 : Int := AOp.run .i64 v14.2.1 1 .add; R15 ((), t23, v14.2.2.1, ()) H16))) | false => (ok (Sum.inl (v14.2.2.1, ())) H16))) N ((), 0, v.1, ()) H; req r17.pre <| sumElim r17.out (fun w24 => ok (true, ()) r17.H) (fun w25 => ok (w25.1, ()) r17.H)))
noncomputable def S_folkmootlaw22_Few (N : Nat) : Sem := ⟨[.ag], [.b], .glob, true, F_folkmootlaw22_Few N⟩
theorem den_folkmootlaw22_Few (N : Nat) (v : List AV × Unit) (H : Heap) : fd_folkmootlaw22_Few.sem N (G_folkmootlaw22_Few N) v H = F_folkmootlaw22_Few N v H := by kernel_rfl

/-! folkmoot/folkmootlaw9.To -/
def c_folkmootlaw9_To : C' :=
  .seq (.ops false [
    ⟨some 1, .lbox 0 5 (.t 0) false, none⟩,
    ⟨some 2, .lalloc 1 5 [.i .i64 0, .i .i64 0, .i .i64 0, .i .i64 0, .i .i64 0] [], none⟩])
  (.seq (.ops false [
    ⟨some 3, .fa (.t 1) 0, none⟩,
    ⟨some 4, .lload 0 (.t 3) (.one (.i .i64)), none⟩,
    ⟨some 5, .fa (.t 1) 1, none⟩,
    ⟨some 6, .lload 0 (.t 5) (.one (.i .i64)), none⟩,
    ⟨some 7, .fa (.t 1) 2, none⟩,
    ⟨some 8, .lload 0 (.t 7) (.one (.i .i64)), none⟩,
    ⟨some 9, .fa (.t 1) 3, none⟩,
    ⟨some 10, .lload 0 (.t 9) (.one (.i .i64)), none⟩,
    ⟨some 11, .fa (.t 1) 4, none⟩,
    ⟨some 12, .lload 0 (.t 11) (.one (.i .i64)), none⟩,
    ⟨some 13, .build [.i .i64 0, .i .i64 0, .i .i64 0, .i .i64 0, .i .i64 0] [((.t 4), 0, 1), ((.t 6), 1, 1), ((.t 8), 2, 1), ((.t 10), 3, 1), ((.t 12), 4, 1)], none⟩,
    ⟨none, .lstore 1 (.t 2) (.agg 5) (.t 13), none⟩])
  (.ret))
def fd_folkmootlaw9_To : FD := ⟨14, 2, [.ag], [.cell 2 (.agg 5) .ag], c_folkmootlaw9_To⟩
noncomputable def G_folkmootlaw9_To (N : Nat) : Env := []
noncomputable def F_folkmootlaw9_To (N : Nat) (v : List AV × Unit) (H : Heap) : Res (List AV × Unit) :=
  reqB (v.1.length == 5) (Tup.d [.ag]) <| reqB ((nth v.1 0 .junk).isI .i64) (Tup.d [.ag]) <| reqB ((nth v.1 1 .junk).isI .i64) (Tup.d [.ag]) <| reqB ((nth v.1 2 .junk).isI .i64) (Tup.d [.ag]) <| reqB ((nth v.1 3 .junk).isI .i64) (Tup.d [.ag]) <| reqB ((nth v.1 4 .junk).isI .i64) (Tup.d [.ag]) <| ok ([.i .i64 ((nth v.1 0 .junk).num), .i .i64 ((nth v.1 1 .junk).num), .i .i64 ((nth v.1 2 .junk).num), .i .i64 ((nth v.1 3 .junk).num), .i .i64 ((nth v.1 4 .junk).num)], ()) H
noncomputable def S_folkmootlaw9_To (N : Nat) : Sem := ⟨[.ag], [.ag], .glob, true, F_folkmootlaw9_To N⟩
theorem den_folkmootlaw9_To (N : Nat) (v : List AV × Unit) (H : Heap) : fd_folkmootlaw9_To.sem N (G_folkmootlaw9_To N) v H = F_folkmootlaw9_To N v H := by kernel_rfl

/-! folkmoot/folkmootlaw3.To -/
def c_folkmootlaw3_To : C' :=
  .seq (.ops false [
    ⟨some 1, .lbox 0 18 (.t 0) false, none⟩,
    ⟨some 2, .lalloc 1 18 [.i .u64 0, .i .u64 0, .i .u64 0, .i .u64 0, .i .u64 0, .i .u64 0, .i .u64 0, .i .u64 0, .i .u64 0, .i .u64 0, .i .u64 0, .i .u64 0, .i .u64 0, .i .u64 0, .i .u64 0, .i .u64 0, .i .u64 0, .i .u64 0] [], none⟩])
  (.seq (.ops false [
    ⟨some 3, .lalloc 2 18 [.i .u64 0, .i .u64 0, .i .u64 0, .i .u64 0, .i .u64 0, .i .u64 0, .i .u64 0, .i .u64 0, .i .u64 0, .i .u64 0, .i .u64 0, .i .u64 0, .i .u64 0, .i .u64 0, .i .u64 0, .i .u64 0, .i .u64 0, .i .u64 0] [], none⟩])
  (.seq (.seq (.ops false [
    ⟨some 4, .mov (.c (.i .i64 0)), none⟩])
  (.loop 0 (.seq (.seq (.ops false [
    ⟨some 5, .mov (.t 4), none⟩,
    ⟨some 6, .cmp .lss .i64 (.t 5) (.c (.i .i64 18)), none⟩])
  (.cond (.t 6) (.skip) (.exit 0)))
  (.seq (.block 1 (.ops false [
    ⟨some 9, .mov (.t 4), none⟩,
    ⟨some 10, .mov (.t 4), none⟩,
    ⟨some 11, .ixp (.t 1) (.t 10) .i64 18 1, none⟩,
    ⟨some 12, .lload 0 (.t 11) (.one (.i .u64)), none⟩,
    ⟨some 13, .ixp (.t 3) (.t 9) .i64 18 1, none⟩,
    ⟨none, .lstore 2 (.t 13) (.one (.i .u64)) (.t 12), none⟩]))
  (.ops false [
    ⟨some 7, .mov (.t 4), none⟩,
    ⟨some 8, .arith .add .i64 (.t 7) (.c (.i .i64 1)), none⟩,
    ⟨some 4, .mov (.t 8), none⟩]))) [⟨1, .loc, (.lpc 0)⟩, ⟨2, .loc, (.lpc 1)⟩, ⟨3, .loc, (.lpc 2)⟩, ⟨4, .glob, (.i .i64)⟩] [⟨0, 18, []⟩, ⟨1, 18, []⟩, ⟨2, 18, []⟩] [⟨2, .loc, (.lpc 1)⟩, ⟨3, .loc, (.lpc 2)⟩]))
  (.seq (.ops false [
    ⟨some 14, .lload 2 (.t 3) (.agg 18), none⟩,
    ⟨none, .lstore 1 (.t 2) (.agg 18) (.t 14), none⟩])
  (.ret))))
def fd_folkmootlaw3_To : FD := ⟨15, 3, [.ag], [.cell 2 (.agg 18) .ag], c_folkmootlaw3_To⟩
noncomputable def G_folkmootlaw3_To (N : Nat) : Env := []
noncomputable def F_folkmootlaw3_To (N : Nat) (v : List AV × Unit) (H : Heap) : Res (List AV × Unit) :=
  reqB (v.1.length == 18) (Tup.d [.ag]) <| let r4 := iter (α := Unit × Unit × Unit × Int × List AV × List AV × List AV × Unit) (β := Unit × Unit × List AV × List AV × List AV × Unit) (Tup.d [(.lpc 1), (.lpc 2), .ag, .ag, .ag]) (fun R2 v1 H3 => let t5 : Bool := COp.run v1.2.2.2.1 18 .lss; (match t5 with | true => (reqB (inb v1.2.2.2.1 18) (Tup.d [(.lpc 1), (.lpc 2), .ag, .ag, .ag]) <| let t6 : Nat := 0 + (v1.2.2.2.1.toNat * 1); reqB (decide (t6 < 18) && (nth v1.2.2.2.2.1 t6 .junk).isI .u64) (Tup.d [(.lpc 1), (.lpc 2), .ag, .ag, .ag]) <| let t7 : Int := (nth v1.2.2.2.2.1 t6 .junk).num; reqB (inb v1.2.2.2.1 18) (Tup.d [(.lpc 1), (.lpc 2), .ag, .ag, .ag]) <| let t8 : Nat := 0 + (v1.2.2.2.1.toNat * 1); reqB (decide (t8 + 1 ≤ 18)) (Tup.d [(.lpc 1), (.lpc 2), .ag, .ag, .ag]) <| let t9 : List AV := upd v1.2.2.2.2.2.2.1 t8 (.i .u64 t7); let t10 : Int := AOp.run .i64 v1.2.2.2.1 1 .add; R2 ((), (), (), t10, v1.2.2.2.2.1, v1.2.2.2.2.2.1, t9, ()) H3) | false => (ok ((), (), v1.2.2.2.2.1, v1.2.2.2.2.2.1, v1.2.2.2.2.2.2.1, ()) H3))) N ((), (), (), 0, v.1, [.i .u64 0, .i .u64 0, .i .u64 0, .i .u64 0, .i .u64 0, .i .u64 0, .i .u64 0, .i .u64 0, .i .u64 0, .i .u64 0, .i .u64 0, .i .u64 0, .i .u64 0, .i .u64 0, .i .u64 0, .i .u64 0, .i .u64 0, .i .u64 0], [.i .u64 0, .i .u64 0, .i .u64 0, .i .u64 0, .i .u64 0, .i .u64 0, .i .u64 0, .i .u64 0, .i .u64 0, .i .u64 0, .i .u64 0, .i .u64 0, .i .u64 0, .i .u64 0, .i .u64 0, .i .u64 0, .i .u64 0, .i .u64 0], ()) H; req r4.pre <| reqB (r4.out.2.2.2.2.1.length == 18) (Tup.d [.ag]) <| ok (r4.out.2.2.2.2.1, ()) r4.H
noncomputable def S_folkmootlaw3_To (N : Nat) : Sem := ⟨[.ag], [.ag], .glob, true, F_folkmootlaw3_To N⟩
theorem den_folkmootlaw3_To (N : Nat) (v : List AV × Unit) (H : Heap) : fd_folkmootlaw3_To.sem N (G_folkmootlaw3_To N) v H = F_folkmootlaw3_To N v H := by kernel_rfl

/-! folkmoot/folkmootlaw4.To -/
def c_folkmootlaw4_To : C' :=
  .seq (.ops false [
    ⟨some 2, .mov (.co (.sl 1 [])), none⟩])
  (.seq (.ops false [
    ⟨some 3, .mov (.co (.sl 1 [])), none⟩])
  (.seq (.seq (.ops false [
    ⟨some 4, .mov (.c (.i .i64 0)), none⟩])
  (.loop 0 (.seq (.seq (.ops false [
    ⟨some 5, .mov (.t 4), none⟩,
    ⟨some 6, .mov (.t 0), none⟩,
    ⟨some 7, .lenL (.t 6) 1, none⟩,
    ⟨some 8, .cmp .lss .i64 (.t 5) (.t 7), none⟩])
  (.cond (.t 8) (.skip) (.exit 0)))
  (.seq (.block 1 (.ops false [
    ⟨some 11, .movO 3, none⟩,
    ⟨some 12, .mov (.t 0), none⟩,
    ⟨some 13, .mov (.t 4), none⟩,
    ⟨some 14, .ixa (.t 12) (.t 13) .i64 1, none⟩,
    ⟨some 15, .iload (.t 14) (.one (.i .u64)), none⟩,
    ⟨some 16, .bslice 1 1 [.i .u64 0] [((.t 15), 0)], none⟩,
    ⟨some 17, .app 11 (.t 16) 1 8, none⟩,
    ⟨some 3, .movO 17, none⟩]))
  (.ops false [
    ⟨some 9, .mov (.t 4), none⟩,
    ⟨some 10, .arith .add .i64 (.t 9) (.c (.i .i64 1)), none⟩,
    ⟨some 4, .mov (.t 10), none⟩]))) [⟨0, .glob, (.sl 1)⟩, ⟨3, .own, (.sl 1)⟩, ⟨4, .glob, (.i .i64)⟩] [] [⟨3, .own, (.sl 1)⟩]))
  (.seq (.ops false [
    ⟨some 18, .mov (.t 3), none⟩,
    ⟨some 2, .mov (.t 18), none⟩])
  (.ret))))
def fd_folkmootlaw4_To : FD := ⟨19, 0, [(.sl 1)], [.tmp 2 .glob (.sl 1)], c_folkmootlaw4_To⟩
noncomputable def G_folkmootlaw4_To (N : Nat) : Env := []
noncomputable def F_folkmootlaw4_To (N : Nat) (v : List (List AV) × Unit) (H : Heap) : Res (List (List AV) × Unit) :=
  let r4 := iter (α := List (List AV) × List (List AV) × Int × Unit) (β := List (List AV) × Unit) (Tup.d [(.sl 1)]) (fun R2 v1 H3 => let t5 : Bool := COp.run v1.2.2.1 (v1.1.length : Int) .lss; (match t5 with | true => (reqB (inb v1.2.2.1 v1.1.length) (Tup.d [(.sl 1)]) <| let t6 : List AV := nth v1.1 v1.2.2.1.toNat []; reqB ((nth t6 0 .junk).isI .u64) (Tup.d [(.sl 1)]) <| let t7 : List (List AV) := [[.i .u64 ((nth t6 0 .junk).num)]]; reqB (roomL v1.2.1 t7 8) (Tup.d [(.sl 1)]) <| let t8 : Int := AOp.run .i64 v1.2.2.1 1 .add; R2 (v1.1, cat v1.2.1 t7, t8, ()) H3) | false => (ok (v1.2.1, ()) H3))) N (v.1, [], 0, ()) H; req r4.pre <| ok (r4.out.1, ()) r4.H
noncomputable def S_folkmootlaw4_To (N : Nat) : Sem := ⟨[(.sl 1)], [(.sl 1)], .glob, true, F_folkmootlaw4_To N⟩
theorem den_folkmootlaw4_To (N : Nat) (v : List (List AV) × Unit) (H : Heap) : fd_folkmootlaw4_To.sem N (G_folkmootlaw4_To N) v H = F_folkmootlaw4_To N v H := by kernel_rfl

/-! folkmoot/folkmootlaw5.To -/
def c_folkmootlaw5_To : C' :=
  .seq (.ops false [
    ⟨some 1, .lbox 0 21 (.t 0) false, none⟩,
    ⟨some 2, .lalloc 1 21 [.i .i64 0, .i .i64 0, .i .u64 0, .i .u64 0, .i .u64 0, .i .u64 0, .i .u64 0, .i .u64 0, .i .u64 0, .i .u64 0, .i .u64 0, .i .u64 0, .i .u64 0, .i .u64 0, .i .u64 0, .i .u64 0, .i .u64 0, .i .u64 0, .i .u64 0, .i .u64 0, .sl 1 []] [20], none⟩])
  (.seq (.ops true [
    ⟨some 3, .fa (.t 1) 0, none⟩,
    ⟨some 4, .lload 0 (.t 3) (.one (.i .i64)), none⟩,
    ⟨some 5, .fa (.t 1) 1, none⟩,
    ⟨some 6, .lload 0 (.t 5) (.one (.i .i64)), none⟩,
    ⟨some 7, .fa (.t 1) 2, none⟩,
    ⟨some 8, .lload 0 (.t 7) (.agg 18), none⟩,
    ⟨some 9, .call true false 67 [(.t 8)], none⟩,
    ⟨some 10, .fa (.t 1) 20, none⟩,
    ⟨some 11, .lload 0 (.t 10) (.one (.sl 1)), none⟩,
    ⟨some 12, .call true false 68 [(.t 11)], none⟩,
    ⟨some 13, .build [.i .i64 0, .i .i64 0, .i .u64 0, .i .u64 0, .i .u64 0, .i .u64 0, .i .u64 0, .i .u64 0, .i .u64 0, .i .u64 0, .i .u64 0, .i .u64 0, .i .u64 0, .i .u64 0, .i .u64 0, .i .u64 0, .i .u64 0, .i .u64 0, .i .u64 0, .i .u64 0, .sl 1 []] [((.t 4), 0, 1), ((.t 6), 1, 1), ((.t 9), 2, 18), ((.t 12), 20, 1)], none⟩,
    ⟨none, .lstore 1 (.t 2) (.agg 21) (.t 13), none⟩])
  (.ret))
def fd_folkmootlaw5_To : FD := ⟨14, 2, [.ag], [.cell 2 (.agg 21) .ag], c_folkmootlaw5_To⟩
noncomputable def G_folkmootlaw5_To (N : Nat) : Env := [(67, S_folkmootlaw3_To N), (68, S_folkmootlaw4_To N)]
noncomputable def F_folkmootlaw5_To (N : Nat) (v : List AV × Unit) (H : Heap) : Res (List AV × Unit) :=
  reqB (v.1.length == 21) (Tup.d [.ag]) <| reqB ((nth v.1 0 .junk).isI .i64) (Tup.d [.ag]) <| reqB ((nth v.1 1 .junk).isI .i64) (Tup.d [.ag]) <| let r1 := F_folkmootlaw3_To N (sub v.1 2 18, ()) H; req (r1.pre) <| reqB ((nth v.1 20 .junk).isSl 1) (Tup.d [.ag]) <| let r2 := F_folkmootlaw4_To N ((nth v.1 20 .junk).els, ()) H; req (r2.pre) <| reqB ((r1.out.1.length == 18)) (Tup.d [.ag]) <| ok ([.i .i64 ((nth v.1 0 .junk).num), .i .i64 ((nth v.1 1 .junk).num), nth r1.out.1 0 .junk, nth r1.out.1 1 .junk, nth r1.out.1 2 .junk, nth r1.out.1 3 .junk, nth r1.out.1 4 .junk, nth r1.out.1 5 .junk, nth r1.out.1 6 .junk, nth r1.out.1 7 .junk, nth r1.out.1 8 .junk, nth r1.out.1 9 .junk, nth r1.out.1 10 .junk, nth r1.out.1 11 .junk, nth r1.out.1 12 .junk, nth r1.out.1 13 .junk, nth r1.out.1 14 .junk, nth r1.out.1 15 .junk, nth r1.out.1 16 .junk, nth r1.out.1 17 .junk, .sl 1 r2.out.1], ()) H
noncomputable def S_folkmootlaw5_To (N : Nat) : Sem := ⟨[.ag], [.ag], .glob, true, F_folkmootlaw5_To N⟩
theorem den_folkmootlaw5_To (N : Nat) (v : List AV × Unit) (H : Heap) : fd_folkmootlaw5_To.sem N (G_folkmootlaw5_To N) v H = F_folkmootlaw5_To N v H := by kernel_rfl

/-! folkmoot/folkmootlaw11.To -/
def c_folkmootlaw11_To : C' :=
  .seq (.ops false [
    ⟨some 1, .lbox 0 24 (.t 0) false, none⟩,
    ⟨some 2, .lalloc 1 24 [.i .u64 0, .i .i64 0, .i .i64 0, .i .i64 0, .i .i64 0, .i .u64 0, .i .u64 0, .i .u64 0, .i .u64 0, .i .u64 0, .i .u64 0, .i .u64 0, .i .u64 0, .i .u64 0, .i .u64 0, .i .u64 0, .i .u64 0, .i .u64 0, .i .u64 0, .i .u64 0, .i .u64 0, .i .u64 0, .i .u64 0, .sl 1 []] [23], none⟩])
  (.seq (.ops true [
    ⟨some 3, .fa (.t 1) 0, none⟩,
    ⟨some 4, .lload 0 (.t 3) (.one (.i .u64)), none⟩,
    ⟨some 5, .fa (.t 1) 1, none⟩,
    ⟨some 6, .lload 0 (.t 5) (.one (.i .i64)), none⟩,
    ⟨some 7, .fa (.t 1) 2, none⟩,
    ⟨some 8, .lload 0 (.t 7) (.one (.i .i64)), none⟩,
    ⟨some 9, .fa (.t 1) 3, none⟩,
    ⟨some 10, .lload 0 (.t 9) (.agg 21), none⟩,
    ⟨some 11, .call true false 48 [(.t 10)], none⟩,
    ⟨some 12, .build [.i .u64 0, .i .i64 0, .i .i64 0, .i .i64 0, .i .i64 0, .i .u64 0, .i .u64 0, .i .u64 0, .i .u64 0, .i .u64 0, .i .u64 0, .i .u64 0, .i .u64 0, .i .u64 0, .i .u64 0, .i .u64 0, .i .u64 0, .i .u64 0, .i .u64 0, .i .u64 0, .i .u64 0, .i .u64 0, .i .u64 0, .sl 1 []] [((.t 4), 0, 1), ((.t 6), 1, 1), ((.t 8), 2, 1), ((.t 11), 3, 21)], none⟩,
    ⟨none, .lstore 1 (.t 2) (.agg 24) (.t 12), none⟩])
  (.ret))
def fd_folkmootlaw11_To : FD := ⟨13, 2, [.ag], [.cell 2 (.agg 24) .ag], c_folkmootlaw11_To⟩
noncomputable def G_folkmootlaw11_To (N : Nat) : Env := [(48, S_folkmootlaw5_To N)]
noncomputable def F_folkmootlaw11_To (N : Nat) (v : List AV × Unit) (H : Heap) : Res (List AV × Unit) :=
  reqB (v.1.length == 24) (Tup.d [.ag]) <| reqB ((nth v.1 0 .junk).isI .u64) (Tup.d [.ag]) <| reqB ((nth v.1 1 .junk).isI .i64) (Tup.d [.ag]) <| reqB ((nth v.1 2 .junk).isI .i64) (Tup.d [.ag]) <| let r1 := F_folkmootlaw5_To N (sub v.1 3 21, ()) H; req (r1.pre) <| reqB ((r1.out.1.length == 21)) (Tup.d [.ag]) <| ok ([.i .u64 ((nth v.1 0 .junk).num), .i .i64 ((nth v.1 1 .junk).num), .i .i64 ((nth v.1 2 .junk).num), nth r1.out.1 0 .junk, nth r1.out.1 1 .junk, nth r1.out.1 2 .junk, nth r1.out.1 3 .junk, nth r1.out.1 4 .junk, nth r1.out.1 5 .junk, nth r1.out.1 6 .junk, nth r1.out.1 7 .junk, nth r1.out.1 8 .junk, nth r1.out.1 9 .junk, nth r1.out.1 10 .junk, nth r1.out.1 11 .junk, nth r1.out.1 12 .junk, nth r1.out.1 13 .junk, nth r1.out.1 14 .junk, nth r1.out.1 15 .junk, nth r1.out.1 16 .junk, nth r1.out.1 17 .junk, nth r1.out.1 18 .junk, nth r1.out.1 19 .junk, nth r1.out.1 20 .junk], ()) H
noncomputable def S_folkmootlaw11_To (N : Nat) : Sem := ⟨[.ag], [.ag], .glob, true, F_folkmootlaw11_To N⟩
theorem den_folkmootlaw11_To (N : Nat) (v : List AV × Unit) (H : Heap) : fd_folkmootlaw11_To.sem N (G_folkmootlaw11_To N) v H = F_folkmootlaw11_To N v H := by kernel_rfl

/-! folkmoot/folkmootlaw11.ToAll -/
def c_folkmootlaw11_ToAll : C' :=
  .seq (.ops false [
    ⟨some 2, .mov (.co (.sl 24 [])), none⟩])
  (.seq (.ops false [
    ⟨some 3, .mov (.co (.sl 24 [])), none⟩])
  (.seq (.seq (.ops false [
    ⟨some 4, .mov (.c (.i .i64 0)), none⟩])
  (.loop 0 (.seq (.seq (.ops false [
    ⟨some 5, .mov (.t 4), none⟩,
    ⟨some 6, .mov (.t 0), none⟩,
    ⟨some 7, .lenL (.t 6) 24, none⟩,
    ⟨some 8, .cmp .lss .i64 (.t 5) (.t 7), none⟩])
  (.cond (.t 8) (.skip) (.exit 0)))
  (.seq (.block 1 (.ops false [
    ⟨some 11, .movO 3, none⟩,
    ⟨some 12, .mov (.t 0), none⟩,
    ⟨some 13, .mov (.t 4), none⟩,
    ⟨some 14, .ixa (.t 12) (.t 13) .i64 24, none⟩,
    ⟨some 15, .iload (.t 14) (.agg 24), none⟩,
    ⟨some 16, .call true false 22 [(.t 15)], none⟩,
    ⟨some 17, .bslice 24 1 [.i .u64 0, .i .i64 0, .i .i64 0, .i .i64 0, .i .i64 0, .i .u64 0, .i .u64 0, .i .u64 0, .i .u64 0, .i .u64 0, .i .u64 0, .i .u64 0, .i .u64 0, .i .u64 0, .i .u64 0, .i .u64 0, .i .u64 0, .i .u64 0, .i .u64 0, .i .u64 0, .i .u64 0, .i .u64 0, .i .u64 0, .sl 1 []] [((.t 16), 0)], none⟩,
    ⟨some 18, .app 11 (.t 17) 24 208, none⟩,
    ⟨some 3, .movO 18, none⟩]))
  (.ops false [
    ⟨some 9, .mov (.t 4), none⟩,
    ⟨some 10, .arith .add .i64 (.t 9) (.c (.i .i64 1)), none⟩,
    ⟨some 4, .mov (.t 10), none⟩]))) [⟨0, .glob, (.sl 24)⟩, ⟨3, .own, (.sl 24)⟩, ⟨4, .glob, (.i .i64)⟩] [] [⟨3, .own, (.sl 24)⟩]))
  (.seq (.ops false [
    ⟨some 19, .mov (.t 3), none⟩,
    ⟨some 2, .mov (.t 19), none⟩])
  (.ret))))
def fd_folkmootlaw11_ToAll : FD := ⟨20, 0, [(.sl 24)], [.tmp 2 .glob (.sl 24)], c_folkmootlaw11_ToAll⟩
noncomputable def G_folkmootlaw11_ToAll (N : Nat) : Env := [(22, S_folkmootlaw11_To N)]
noncomputable def F_folkmootlaw11_ToAll (N : Nat) (v : List (List AV) × Unit) (H : Heap) : Res (List (List AV) × Unit) :=
  let r4 := iter (α := List (List AV) × List (List AV) × Int × Unit) (β := List (List AV) × Unit) (Tup.d [(.sl 24)]) (fun R2 v1 H3 => let t5 : Bool := COp.run v1.2.2.1 (v1.1.length : Int) .lss; (match t5 with | true => (reqB (inb v1.2.2.1 v1.1.length) (Tup.d [(.sl 24)]) <| let t6 : List AV := nth v1.1 v1.2.2.1.toNat []; let r7 := F_folkmootlaw11_To N (t6, ()) H3; req (r7.pre) <| reqB ((r7.out.1.length == 24)) (Tup.d [(.sl 24)]) <| reqB (roomL v1.2.1 [r7.out.1] 208) (Tup.d [(.sl 24)]) <| let t8 : Int := AOp.run .i64 v1.2.2.1 1 .add; R2 (v1.1, cat v1.2.1 [r7.out.1], t8, ()) H3) | false => (ok (v1.2.1, ()) H3))) N (v.1, [], 0, ()) H; req r4.pre <| ok (r4.out.1, ()) r4.H
noncomputable def S_folkmootlaw11_ToAll (N : Nat) : Sem := ⟨[(.sl 24)], [(.sl 24)], .glob, true, F_folkmootlaw11_ToAll N⟩
theorem den_folkmootlaw11_ToAll (N : Nat) (v : List (List AV) × Unit) (H : Heap) : fd_folkmootlaw11_ToAll.sem N (G_folkmootlaw11_ToAll N) v H = F_folkmootlaw11_ToAll N v H := by kernel_rfl

/-! folkmoot/folkmootlaw12.To -/
def c_folkmootlaw12_To : C' :=
  .seq (.ops false [
    ⟨some 1, .lbox 0 6 (.t 0) false, none⟩,
    ⟨some 2, .lalloc 1 6 [.i .i64 0, .i .i64 0, .i .i64 0, .i .i64 0, .i .i64 0, .sl 24 []] [5], none⟩])
  (.seq (.ops true [
    ⟨some 3, .fa (.t 1) 0, none⟩,
    ⟨some 4, .lload 0 (.t 3) (.agg 5), none⟩,
    ⟨some 5, .call true false 21 [(.t 4)], none⟩,
    ⟨some 6, .fa (.t 1) 5, none⟩,
    ⟨some 7, .lload 0 (.t 6) (.one (.sl 24)), none⟩,
    ⟨some 8, .call true false 49 [(.t 7)], none⟩,
    ⟨some 9, .build [.i .i64 0, .i .i64 0, .i .i64 0, .i .i64 0, .i .i64 0, .sl 24 []] [((.t 5), 0, 5), ((.t 8), 5, 1)], none⟩,
    ⟨none, .lstore 1 (.t 2) (.agg 6) (.t 9), none⟩])
  (.ret))
def fd_folkmootlaw12_To : FD := ⟨10, 2, [.ag], [.cell 2 (.agg 6) .ag], c_folkmootlaw12_To⟩
noncomputable def G_folkmootlaw12_To (N : Nat) : Env := [(21, S_folkmootlaw9_To N), (49, S_folkmootlaw11_ToAll N)]
noncomputable def F_folkmootlaw12_To (N : Nat) (v : List AV × Unit) (H : Heap) : Res (List AV × Unit) :=
  reqB (v.1.length == 6) (Tup.d [.ag]) <| let r1 := F_folkmootlaw9_To N (sub v.1 0 5, ()) H; req (r1.pre) <| reqB ((nth v.1 5 .junk).isSl 24) (Tup.d [.ag]) <| let r2 := F_folkmootlaw11_ToAll N ((nth v.1 5 .junk).els, ()) H; req (r2.pre) <| reqB ((r1.out.1.length == 5)) (Tup.d [.ag]) <| ok ([nth r1.out.1 0 .junk, nth r1.out.1 1 .junk, nth r1.out.1 2 .junk, nth r1.out.1 3 .junk, nth r1.out.1 4 .junk, .sl 24 r2.out.1], ()) H
noncomputable def S_folkmootlaw12_To (N : Nat) : Sem := ⟨[.ag], [.ag], .glob, true, F_folkmootlaw12_To N⟩
theorem den_folkmootlaw12_To (N : Nat) (v : List AV × Unit) (H : Heap) : fd_folkmootlaw12_To.sem N (G_folkmootlaw12_To N) v H = F_folkmootlaw12_To N v H := by kernel_rfl

/-! folkmoot/folkmootlaw14.To -/
def c_folkmootlaw14_To : C' :=
  .seq (.ops false [
    ⟨some 1, .lbox 0 23 (.t 0) false, none⟩,
    ⟨some 2, .lalloc 1 23 [.i .u64 0, .i .i64 0, .i .i64 0, .i .i64 0, .i .u64 0, .i .u64 0, .i .u64 0, .i .u64 0, .i .u64 0, .i .u64 0, .i .u64 0, .i .u64 0, .i .u64 0, .i .u64 0, .i .u64 0, .i .u64 0, .i .u64 0, .i .u64 0, .i .u64 0, .i .u64 0, .i .u64 0, .i .u64 0, .sl 1 []] [22], none⟩])
  (.seq (.ops true [
    ⟨some 3, .fa (.t 1) 0, none⟩,
    ⟨some 4, .lload 0 (.t 3) (.one (.i .u64)), none⟩,
    ⟨some 5, .fa (.t 1) 1, none⟩,
    ⟨some 6, .lload 0 (.t 5) (.one (.i .i64)), none⟩,
    ⟨some 7, .fa (.t 1) 2, none⟩,
    ⟨some 8, .lload 0 (.t 7) (.agg 21), none⟩,
    ⟨some 9, .call true false 48 [(.t 8)], none⟩,
    ⟨some 10, .build [.i .u64 0, .i .i64 0, .i .i64 0, .i .i64 0, .i .u64 0, .i .u64 0, .i .u64 0, .i .u64 0, .i .u64 0, .i .u64 0, .i .u64 0, .i .u64 0, .i .u64 0, .i .u64 0, .i .u64 0, .i .u64 0, .i .u64 0, .i .u64 0, .i .u64 0, .i .u64 0, .i .u64 0, .i .u64 0, .sl 1 []] [((.t 4), 0, 1), ((.t 6), 1, 1), ((.t 9), 2, 21)], none⟩,
    ⟨none, .lstore 1 (.t 2) (.agg 23) (.t 10), none⟩])
  (.ret))
def fd_folkmootlaw14_To : FD := ⟨11, 2, [.ag], [.cell 2 (.agg 23) .ag], c_folkmootlaw14_To⟩
noncomputable def G_folkmootlaw14_To (N : Nat) : Env := [(48, S_folkmootlaw5_To N)]
noncomputable def F_folkmootlaw14_To (N : Nat) (v : List AV × Unit) (H : Heap) : Res (List AV × Unit) :=
  reqB (v.1.length == 23) (Tup.d [.ag]) <| reqB ((nth v.1 0 .junk).isI .u64) (Tup.d [.ag]) <| reqB ((nth v.1 1 .junk).isI .i64) (Tup.d [.ag]) <| let r1 := F_folkmootlaw5_To N (sub v.1 2 21, ()) H; req (r1.pre) <| reqB ((r1.out.1.length == 21)) (Tup.d [.ag]) <| ok ([.i .u64 ((nth v.1 0 .junk).num), .i .i64 ((nth v.1 1 .junk).num), nth r1.out.1 0 .junk, nth r1.out.1 1 .junk, nth r1.out.1 2 .junk, nth r1.out.1 3 .junk, nth r1.out.1 4 .junk, nth r1.out.1 5 .junk, nth r1.out.1 6 .junk, nth r1.out.1 7 .junk, nth r1.out.1 8 .junk, nth r1.out.1 9 .junk, nth r1.out.1 10 .junk, nth r1.out.1 11 .junk, nth r1.out.1 12 .junk, nth r1.out.1 13 .junk, nth r1.out.1 14 .junk, nth r1.out.1 15 .junk, nth r1.out.1 16 .junk, nth r1.out.1 17 .junk, nth r1.out.1 18 .junk, nth r1.out.1 19 .junk, nth r1.out.1 20 .junk], ()) H
noncomputable def S_folkmootlaw14_To (N : Nat) : Sem := ⟨[.ag], [.ag], .glob, true, F_folkmootlaw14_To N⟩
theorem den_folkmootlaw14_To (N : Nat) (v : List AV × Unit) (H : Heap) : fd_folkmootlaw14_To.sem N (G_folkmootlaw14_To N) v H = F_folkmootlaw14_To N v H := by kernel_rfl

/-! folkmoot/folkmootlaw12.ToAll -/
def c_folkmootlaw12_ToAll : C' :=
  .seq (.ops false [
    ⟨some 2, .mov (.co (.sl 6 [])), none⟩])
  (.seq (.ops false [
    ⟨some 3, .mov (.co (.sl 6 [])), none⟩])
  (.seq (.seq (.ops false [
    ⟨some 4, .mov (.c (.i .i64 0)), none⟩])
  (.loop 0 (.seq (.seq (.ops false [
    ⟨some 5, .mov (.t 4), none⟩,
    ⟨some 6, .mov (.t 0), none⟩,
    ⟨some 7, .lenL (.t 6) 6, none⟩,
    ⟨some 8, .cmp .lss .i64 (.t 5) (.t 7), none⟩])
  (.cond (.t 8) (.skip) (.exit 0)))
  (.seq (.block 1 (.ops false [
    ⟨some 11, .movO 3, none⟩,
    ⟨some 12, .mov (.t 0), none⟩,
    ⟨some 13, .mov (.t 4), none⟩,
    ⟨some 14, .ixa (.t 12) (.t 13) .i64 6, none⟩,
    ⟨some 15, .iload (.t 14) (.agg 6), none⟩,
    ⟨some 16, .call true false 23 [(.t 15)], none⟩,
    ⟨some 17, .bslice 6 1 [.i .i64 0, .i .i64 0, .i .i64 0, .i .i64 0, .i .i64 0, .sl 24 []] [((.t 16), 0)], none⟩,
    ⟨some 18, .app 11 (.t 17) 6 64, none⟩,
    ⟨some 3, .movO 18, none⟩]))
  (.ops false [
    ⟨some 9, .mov (.t 4), none⟩,
    ⟨some 10, .arith .add .i64 (.t 9) (.c (.i .i64 1)), none⟩,
    ⟨some 4, .mov (.t 10), none⟩]))) [⟨0, .glob, (.sl 6)⟩, ⟨3, .own, (.sl 6)⟩, ⟨4, .glob, (.i .i64)⟩] [] [⟨3, .own, (.sl 6)⟩]))
  (.seq (.ops false [
    ⟨some 19, .mov (.t 3), none⟩,
    ⟨some 2, .mov (.t 19), none⟩])
  (.ret))))
def fd_folkmootlaw12_ToAll : FD := ⟨20, 0, [(.sl 6)], [.tmp 2 .glob (.sl 6)], c_folkmootlaw12_ToAll⟩
noncomputable def G_folkmootlaw12_ToAll (N : Nat) : Env := [(23, S_folkmootlaw12_To N)]
noncomputable def F_folkmootlaw12_ToAll (N : Nat) (v : List (List AV) × Unit) (H : Heap) : Res (List (List AV) × Unit) :=
  let r4 := iter (α := List (List AV) × List (List AV) × Int × Unit) (β := List (List AV) × Unit) (Tup.d [(.sl 6)]) (fun R2 v1 H3 => let t5 : Bool := COp.run v1.2.2.1 (v1.1.length : Int) .lss; (match t5 with | true => (reqB (inb v1.2.2.1 v1.1.length) (Tup.d [(.sl 6)]) <| let t6 : List AV := nth v1.1 v1.2.2.1.toNat []; let r7 := F_folkmootlaw12_To N (t6, ()) H3; req (r7.pre) <| reqB ((r7.out.1.length == 6)) (Tup.d [(.sl 6)]) <| reqB (roomL v1.2.1 [r7.out.1] 64) (Tup.d [(.sl 6)]) <| let t8 : Int := AOp.run .i64 v1.2.2.1 1 .add; R2 (v1.1, cat v1.2.1 [r7.out.1], t8, ()) H3) | false => (ok (v1.2.1, ()) H3))) N (v.1, [], 0, ()) H; req r4.pre <| ok (r4.out.1, ()) r4.H
noncomputable def S_folkmootlaw12_ToAll (N : Nat) : Sem := ⟨[(.sl 6)], [(.sl 6)], .glob, true, F_folkmootlaw12_ToAll N⟩
theorem den_folkmootlaw12_ToAll (N : Nat) (v : List (List AV) × Unit) (H : Heap) : fd_folkmootlaw12_ToAll.sem N (G_folkmootlaw12_ToAll N) v H = F_folkmootlaw12_ToAll N v H := by kernel_rfl

/-! folkmoot/folkmootlaw15.To -/
def c_folkmootlaw15_To : C' :=
  .seq (.ops false [
    ⟨some 1, .lbox 0 25 (.t 0) false, none⟩,
    ⟨some 2, .lalloc 1 25 [.i .i64 0, .i .i64 0, .i .i64 0, .sl 6 [], .i .i64 0, .i .i64 0, .i .u64 0, .i .u64 0, .i .u64 0, .i .u64 0, .i .u64 0, .i .u64 0, .i .u64 0, .i .u64 0, .i .u64 0, .i .u64 0, .i .u64 0, .i .u64 0, .i .u64 0, .i .u64 0, .i .u64 0, .i .u64 0, .i .u64 0, .i .u64 0, .sl 1 []] [3, 24], none⟩])
  (.seq (.ops true [
    ⟨some 3, .fa (.t 1) 0, none⟩,
    ⟨some 4, .lload 0 (.t 3) (.one (.i .i64)), none⟩,
    ⟨some 5, .fa (.t 1) 1, none⟩,
    ⟨some 6, .lload 0 (.t 5) (.one (.i .i64)), none⟩,
    ⟨some 7, .fa (.t 1) 2, none⟩,
    ⟨some 8, .lload 0 (.t 7) (.one (.i .i64)), none⟩,
    ⟨some 9, .fa (.t 1) 3, none⟩,
    ⟨some 10, .lload 0 (.t 9) (.one (.sl 6)), none⟩,
    ⟨some 11, .call true false 50 [(.t 10)], none⟩,
    ⟨some 12, .fa (.t 1) 4, none⟩,
    ⟨some 13, .lload 0 (.t 12) (.agg 21), none⟩,
    ⟨some 14, .call true false 48 [(.t 13)], none⟩,
    ⟨some 15, .build [.i .i64 0, .i .i64 0, .i .i64 0, .sl 6 [], .i .i64 0, .i .i64 0, .i .u64 0, .i .u64 0, .i .u64 0, .i .u64 0, .i .u64 0, .i .u64 0, .i .u64 0, .i .u64 0, .i .u64 0, .i .u64 0, .i .u64 0, .i .u64 0, .i .u64 0, .i .u64 0, .i .u64 0, .i .u64 0, .i .u64 0, .i .u64 0, .sl 1 []] [((.t 4), 0, 1), ((.t 6), 1, 1), ((.t 8), 2, 1), ((.t 11), 3, 1), ((.t 14), 4, 21)], none⟩,
    ⟨none, .lstore 1 (.t 2) (.agg 25) (.t 15), none⟩])
  (.ret))
def fd_folkmootlaw15_To : FD := ⟨16, 2, [.ag], [.cell 2 (.agg 25) .ag], c_folkmootlaw15_To⟩
noncomputable def G_folkmootlaw15_To (N : Nat) : Env := [(48, S_folkmootlaw5_To N), (50, S_folkmootlaw12_ToAll N)]
noncomputable def F_folkmootlaw15_To (N : Nat) (v : List AV × Unit) (H : Heap) : Res (List AV × Unit) :=
  reqB (v.1.length == 25) (Tup.d [.ag]) <| reqB ((nth v.1 0 .junk).isI .i64) (Tup.d [.ag]) <| reqB ((nth v.1 1 .junk).isI .i64) (Tup.d [.ag]) <| reqB ((nth v.1 2 .junk).isI .i64) (Tup.d [.ag]) <| reqB ((nth v.1 3 .junk).isSl 6) (Tup.d [.ag]) <| let r1 := F_folkmootlaw12_ToAll N ((nth v.1 3 .junk).els, ()) H; req (r1.pre) <| let r2 := F_folkmootlaw5_To N (sub v.1 4 21, ()) H; req (r2.pre) <| reqB ((r2.out.1.length == 21)) (Tup.d [.ag]) <| ok ([.i .i64 ((nth v.1 0 .junk).num), .i .i64 ((nth v.1 1 .junk).num), .i .i64 ((nth v.1 2 .junk).num), .sl 6 r1.out.1, nth r2.out.1 0 .junk, nth r2.out.1 1 .junk, nth r2.out.1 2 .junk, nth r2.out.1 3 .junk, nth r2.out.1 4 .junk, nth r2.out.1 5 .junk, nth r2.out.1 6 .junk, nth r2.out.1 7 .junk, nth r2.out.1 8 .junk, nth r2.out.1 9 .junk, nth r2.out.1 10 .junk, nth r2.out.1 11 .junk, nth r2.out.1 12 .junk, nth r2.out.1 13 .junk, nth r2.out.1 14 .junk, nth r2.out.1 15 .junk, nth r2.out.1 16 .junk, nth r2.out.1 17 .junk, nth r2.out.1 18 .junk, nth r2.out.1 19 .junk, nth r2.out.1 20 .junk], ()) H
noncomputable def S_folkmootlaw15_To (N : Nat) : Sem := ⟨[.ag], [.ag], .glob, true, F_folkmootlaw15_To N⟩
theorem den_folkmootlaw15_To (N : Nat) (v : List AV × Unit) (H : Heap) : fd_folkmootlaw15_To.sem N (G_folkmootlaw15_To N) v H = F_folkmootlaw15_To N v H := by kernel_rfl

/-! folkmoot/folkmootlaw16.ToVote -/
def c_folkmootlaw16_ToVote : C' :=
  .seq (.ops false [
    ⟨some 1, .lbox 0 24 (.t 0) false, none⟩,
    ⟨some 2, .lalloc 1 24 [.i .i64 0, .i .u64 0, .i .i64 0, .i .i64 0, .i .i64 0, .i .u64 0, .i .u64 0, .i .u64 0, .i .u64 0, .i .u64 0, .i .u64 0, .i .u64 0, .i .u64 0, .i .u64 0, .i .u64 0, .i .u64 0, .i .u64 0, .i .u64 0, .i .u64 0, .i .u64 0, .i .u64 0, .i .u64 0, .i .u64 0, .sl 1 []] [23], none⟩])
  (.seq (.ops true [
    ⟨some 3, .fa (.t 1) 0, none⟩,
    ⟨some 4, .lload 0 (.t 3) (.one (.i .i64)), none⟩,
    ⟨some 5, .fa (.t 1) 1, none⟩,
    ⟨some 6, .lload 0 (.t 5) (.one (.i .u64)), none⟩,
    ⟨some 7, .fa (.t 1) 2, none⟩,
    ⟨some 8, .lload 0 (.t 7) (.one (.i .i64)), none⟩,
    ⟨some 9, .fa (.t 1) 3, none⟩,
    ⟨some 10, .lload 0 (.t 9) (.agg 21), none⟩,
    ⟨some 11, .call true false 48 [(.t 10)], none⟩,
    ⟨some 12, .build [.i .i64 0, .i .u64 0, .i .i64 0, .i .i64 0, .i .i64 0, .i .u64 0, .i .u64 0, .i .u64 0, .i .u64 0, .i .u64 0, .i .u64 0, .i .u64 0, .i .u64 0, .i .u64 0, .i .u64 0, .i .u64 0, .i .u64 0, .i .u64 0, .i .u64 0, .i .u64 0, .i .u64 0, .i .u64 0, .i .u64 0, .sl 1 []] [((.t 4), 0, 1), ((.t 6), 1, 1), ((.t 8), 2, 1), ((.t 11), 3, 21)], none⟩,
    ⟨none, .lstore 1 (.t 2) (.agg 24) (.t 12), none⟩])
  (.ret))
def fd_folkmootlaw16_ToVote : FD := ⟨13, 2, [.ag], [.cell 2 (.agg 24) .ag], c_folkmootlaw16_ToVote⟩
noncomputable def G_folkmootlaw16_ToVote (N : Nat) : Env := [(48, S_folkmootlaw5_To N)]
noncomputable def F_folkmootlaw16_ToVote (N : Nat) (v : List AV × Unit) (H : Heap) : Res (List AV × Unit) :=
  reqB (v.1.length == 24) (Tup.d [.ag]) <| reqB ((nth v.1 0 .junk).isI .i64) (Tup.d [.ag]) <| reqB ((nth v.1 1 .junk).isI .u64) (Tup.d [.ag]) <| reqB ((nth v.1 2 .junk).isI .i64) (Tup.d [.ag]) <| let r1 := F_folkmootlaw5_To N (sub v.1 3 21, ()) H; req (r1.pre) <| reqB ((r1.out.1.length == 21)) (Tup.d [.ag]) <| ok ([.i .i64 ((nth v.1 0 .junk).num), .i .u64 ((nth v.1 1 .junk).num), .i .i64 ((nth v.1 2 .junk).num), nth r1.out.1 0 .junk, nth r1.out.1 1 .junk, nth r1.out.1 2 .junk, nth r1.out.1 3 .junk, nth r1.out.1 4 .junk, nth r1.out.1 5 .junk, nth r1.out.1 6 .junk, nth r1.out.1 7 .junk, nth r1.out.1 8 .junk, nth r1.out.1 9 .junk, nth r1.out.1 10 .junk, nth r1.out.1 11 .junk, nth r1.out.1 12 .junk, nth r1.out.1 13 .junk, nth r1.out.1 14 .junk, nth r1.out.1 15 .junk, nth r1.out.1 16 .junk, nth r1.out.1 17 .junk, nth r1.out.1 18 .junk, nth r1.out.1 19 .junk, nth r1.out.1 20 .junk], ()) H
noncomputable def S_folkmootlaw16_ToVote (N : Nat) : Sem := ⟨[.ag], [.ag], .glob, true, F_folkmootlaw16_ToVote N⟩
theorem den_folkmootlaw16_ToVote (N : Nat) (v : List AV × Unit) (H : Heap) : fd_folkmootlaw16_ToVote.sem N (G_folkmootlaw16_ToVote N) v H = F_folkmootlaw16_ToVote N v H := by kernel_rfl

/-! folkmoot/folkmootlaw16.ToVotes -/
def c_folkmootlaw16_ToVotes : C' :=
  .seq (.ops false [
    ⟨some 2, .mov (.co (.sl 24 [])), none⟩])
  (.seq (.ops false [
    ⟨some 3, .mov (.co (.sl 24 [])), none⟩])
  (.seq (.seq (.ops false [
    ⟨some 4, .mov (.c (.i .i64 0)), none⟩])
  (.loop 0 (.seq (.seq (.ops false [
    ⟨some 5, .mov (.t 4), none⟩,
    ⟨some 6, .mov (.t 0), none⟩,
    ⟨some 7, .lenL (.t 6) 24, none⟩,
    ⟨some 8, .cmp .lss .i64 (.t 5) (.t 7), none⟩])
  (.cond (.t 8) (.skip) (.exit 0)))
  (.seq (.block 1 (.ops false [
    ⟨some 11, .movO 3, none⟩,
    ⟨some 12, .mov (.t 0), none⟩,
    ⟨some 13, .mov (.t 4), none⟩,
    ⟨some 14, .ixa (.t 12) (.t 13) .i64 24, none⟩,
    ⟨some 15, .iload (.t 14) (.agg 24), none⟩,
    ⟨some 16, .call true false 27 [(.t 15)], none⟩,
    ⟨some 17, .bslice 24 1 [.i .i64 0, .i .u64 0, .i .i64 0, .i .i64 0, .i .i64 0, .i .u64 0, .i .u64 0, .i .u64 0, .i .u64 0, .i .u64 0, .i .u64 0, .i .u64 0, .i .u64 0, .i .u64 0, .i .u64 0, .i .u64 0, .i .u64 0, .i .u64 0, .i .u64 0, .i .u64 0, .i .u64 0, .i .u64 0, .i .u64 0, .sl 1 []] [((.t 16), 0)], none⟩,
    ⟨some 18, .app 11 (.t 17) 24 208, none⟩,
    ⟨some 3, .movO 18, none⟩]))
  (.ops false [
    ⟨some 9, .mov (.t 4), none⟩,
    ⟨some 10, .arith .add .i64 (.t 9) (.c (.i .i64 1)), none⟩,
    ⟨some 4, .mov (.t 10), none⟩]))) [⟨0, .glob, (.sl 24)⟩, ⟨3, .own, (.sl 24)⟩, ⟨4, .glob, (.i .i64)⟩] [] [⟨3, .own, (.sl 24)⟩]))
  (.seq (.ops false [
    ⟨some 19, .mov (.t 3), none⟩,
    ⟨some 2, .mov (.t 19), none⟩])
  (.ret))))
def fd_folkmootlaw16_ToVotes : FD := ⟨20, 0, [(.sl 24)], [.tmp 2 .glob (.sl 24)], c_folkmootlaw16_ToVotes⟩
noncomputable def G_folkmootlaw16_ToVotes (N : Nat) : Env := [(27, S_folkmootlaw16_ToVote N)]
noncomputable def F_folkmootlaw16_ToVotes (N : Nat) (v : List (List AV) × Unit) (H : Heap) : Res (List (List AV) × Unit) :=
  let r4 := iter (α := List (List AV) × List (List AV) × Int × Unit) (β := List (List AV) × Unit) (Tup.d [(.sl 24)]) (fun R2 v1 H3 => let t5 : Bool := COp.run v1.2.2.1 (v1.1.length : Int) .lss; (match t5 with | true => (reqB (inb v1.2.2.1 v1.1.length) (Tup.d [(.sl 24)]) <| let t6 : List AV := nth v1.1 v1.2.2.1.toNat []; let r7 := F_folkmootlaw16_ToVote N (t6, ()) H3; req (r7.pre) <| reqB ((r7.out.1.length == 24)) (Tup.d [(.sl 24)]) <| reqB (roomL v1.2.1 [r7.out.1] 208) (Tup.d [(.sl 24)]) <| let t8 : Int := AOp.run .i64 v1.2.2.1 1 .add; R2 (v1.1, cat v1.2.1 [r7.out.1], t8, ()) H3) | false => (ok (v1.2.1, ()) H3))) N (v.1, [], 0, ()) H; req r4.pre <| ok (r4.out.1, ()) r4.H
noncomputable def S_folkmootlaw16_ToVotes (N : Nat) : Sem := ⟨[(.sl 24)], [(.sl 24)], .glob, true, F_folkmootlaw16_ToVotes N⟩
theorem den_folkmootlaw16_ToVotes (N : Nat) (v : List (List AV) × Unit) (H : Heap) : fd_folkmootlaw16_ToVotes.sem N (G_folkmootlaw16_ToVotes N) v H = F_folkmootlaw16_ToVotes N v H := by kernel_rfl

/-! folkmoot/folkmootlaw16.ToQC -/
def c_folkmootlaw16_ToQC : C' :=
  .seq (.ops false [
    ⟨some 1, .lbox 0 3 (.t 0) false, none⟩,
    ⟨some 2, .lalloc 1 3 [.i .i64 0, .i .u64 0, .sl 24 []] [2], none⟩])
  (.seq (.ops true [
    ⟨some 3, .fa (.t 1) 0, none⟩,
    ⟨some 4, .lload 0 (.t 3) (.one (.i .i64)), none⟩,
    ⟨some 5, .fa (.t 1) 1, none⟩,
    ⟨some 6, .lload 0 (.t 5) (.one (.i .u64)), none⟩,
    ⟨some 7, .fa (.t 1) 2, none⟩,
    ⟨some 8, .lload 0 (.t 7) (.one (.sl 24)), none⟩,
    ⟨some 9, .call true false 69 [(.t 8)], none⟩,
    ⟨some 10, .build [.i .i64 0, .i .u64 0, .sl 24 []] [((.t 4), 0, 1), ((.t 6), 1, 1), ((.t 9), 2, 1)], none⟩,
    ⟨none, .lstore 1 (.t 2) (.agg 3) (.t 10), none⟩])
  (.ret))
def fd_folkmootlaw16_ToQC : FD := ⟨11, 2, [.ag], [.cell 2 (.agg 3) .ag], c_folkmootlaw16_ToQC⟩
noncomputable def G_folkmootlaw16_ToQC (N : Nat) : Env := [(69, S_folkmootlaw16_ToVotes N)]
noncomputable def F_folkmootlaw16_ToQC (N : Nat) (v : List AV × Unit) (H : Heap) : Res (List AV × Unit) :=
  reqB (v.1.length == 3) (Tup.d [.ag]) <| reqB ((nth v.1 0 .junk).isI .i64) (Tup.d [.ag]) <| reqB ((nth v.1 1 .junk).isI .u64) (Tup.d [.ag]) <| reqB ((nth v.1 2 .junk).isSl 24) (Tup.d [.ag]) <| let r1 := F_folkmootlaw16_ToVotes N ((nth v.1 2 .junk).els, ()) H; req (r1.pre) <| ok ([.i .i64 ((nth v.1 0 .junk).num), .i .u64 ((nth v.1 1 .junk).num), .sl 24 r1.out.1], ()) H
noncomputable def S_folkmootlaw16_ToQC (N : Nat) : Sem := ⟨[.ag], [.ag], .glob, true, F_folkmootlaw16_ToQC N⟩
theorem den_folkmootlaw16_ToQC (N : Nat) (v : List AV × Unit) (H : Heap) : fd_folkmootlaw16_ToQC.sem N (G_folkmootlaw16_ToQC N) v H = F_folkmootlaw16_ToQC N v H := by kernel_rfl

/-! folkmoot/folkmootlaw15.ToAll -/
def c_folkmootlaw15_ToAll : C' :=
  .seq (.ops false [
    ⟨some 2, .mov (.co (.sl 25 [])), none⟩])
  (.seq (.ops false [
    ⟨some 3, .mov (.co (.sl 25 [])), none⟩])
  (.seq (.seq (.ops false [
    ⟨some 4, .mov (.c (.i .i64 0)), none⟩])
  (.loop 0 (.seq (.seq (.ops false [
    ⟨some 5, .mov (.t 4), none⟩,
    ⟨some 6, .mov (.t 0), none⟩,
    ⟨some 7, .lenL (.t 6) 25, none⟩,
    ⟨some 8, .cmp .lss .i64 (.t 5) (.t 7), none⟩])
  (.cond (.t 8) (.skip) (.exit 0)))
  (.seq (.block 1 (.ops false [
    ⟨some 11, .movO 3, none⟩,
    ⟨some 12, .mov (.t 0), none⟩,
    ⟨some 13, .mov (.t 4), none⟩,
    ⟨some 14, .ixa (.t 12) (.t 13) .i64 25, none⟩,
    ⟨some 15, .iload (.t 14) (.agg 25), none⟩,
    ⟨some 16, .call true false 25 [(.t 15)], none⟩,
    ⟨some 17, .bslice 25 1 [.i .i64 0, .i .i64 0, .i .i64 0, .sl 6 [], .i .i64 0, .i .i64 0, .i .u64 0, .i .u64 0, .i .u64 0, .i .u64 0, .i .u64 0, .i .u64 0, .i .u64 0, .i .u64 0, .i .u64 0, .i .u64 0, .i .u64 0, .i .u64 0, .i .u64 0, .i .u64 0, .i .u64 0, .i .u64 0, .i .u64 0, .i .u64 0, .sl 1 []] [((.t 16), 0)], none⟩,
    ⟨some 18, .app 11 (.t 17) 25 232, none⟩,
    ⟨some 3, .movO 18, none⟩]))
  (.ops false [
    ⟨some 9, .mov (.t 4), none⟩,
    ⟨some 10, .arith .add .i64 (.t 9) (.c (.i .i64 1)), none⟩,
    ⟨some 4, .mov (.t 10), none⟩]))) [⟨0, .glob, (.sl 25)⟩, ⟨3, .own, (.sl 25)⟩, ⟨4, .glob, (.i .i64)⟩] [] [⟨3, .own, (.sl 25)⟩]))
  (.seq (.ops false [
    ⟨some 19, .mov (.t 3), none⟩,
    ⟨some 2, .mov (.t 19), none⟩])
  (.ret))))
def fd_folkmootlaw15_ToAll : FD := ⟨20, 0, [(.sl 25)], [.tmp 2 .glob (.sl 25)], c_folkmootlaw15_ToAll⟩
noncomputable def G_folkmootlaw15_ToAll (N : Nat) : Env := [(25, S_folkmootlaw15_To N)]
noncomputable def F_folkmootlaw15_ToAll (N : Nat) (v : List (List AV) × Unit) (H : Heap) : Res (List (List AV) × Unit) :=
  let r4 := iter (α := List (List AV) × List (List AV) × Int × Unit) (β := List (List AV) × Unit) (Tup.d [(.sl 25)]) (fun R2 v1 H3 => let t5 : Bool := COp.run v1.2.2.1 (v1.1.length : Int) .lss; (match t5 with | true => (reqB (inb v1.2.2.1 v1.1.length) (Tup.d [(.sl 25)]) <| let t6 : List AV := nth v1.1 v1.2.2.1.toNat []; let r7 := F_folkmootlaw15_To N (t6, ()) H3; req (r7.pre) <| reqB ((r7.out.1.length == 25)) (Tup.d [(.sl 25)]) <| reqB (roomL v1.2.1 [r7.out.1] 232) (Tup.d [(.sl 25)]) <| let t8 : Int := AOp.run .i64 v1.2.2.1 1 .add; R2 (v1.1, cat v1.2.1 [r7.out.1], t8, ()) H3) | false => (ok (v1.2.1, ()) H3))) N (v.1, [], 0, ()) H; req r4.pre <| ok (r4.out.1, ()) r4.H
noncomputable def S_folkmootlaw15_ToAll (N : Nat) : Sem := ⟨[(.sl 25)], [(.sl 25)], .glob, true, F_folkmootlaw15_ToAll N⟩
theorem den_folkmootlaw15_ToAll (N : Nat) (v : List (List AV) × Unit) (H : Heap) : fd_folkmootlaw15_ToAll.sem N (G_folkmootlaw15_ToAll N) v H = F_folkmootlaw15_ToAll N v H := by kernel_rfl

/-! folkmoot/folkmootlaw16.To -/
def c_folkmootlaw16_To : C' :=
  .seq (.ops false [
    ⟨some 1, .lbox 0 8 (.t 0) false, none⟩,
    ⟨some 2, .lalloc 1 8 [.i .i64 0, .i .u64 0, .i .i64 0, .i .u64 0, .sl 24 [], .i .i64 0, .i .i64 0, .sl 25 []] [4, 7], none⟩])
  (.seq (.ops true [
    ⟨some 3, .fa (.t 1) 0, none⟩,
    ⟨some 4, .lload 0 (.t 3) (.one (.i .i64)), none⟩,
    ⟨some 5, .fa (.t 1) 1, none⟩,
    ⟨some 6, .lload 0 (.t 5) (.one (.i .u64)), none⟩,
    ⟨some 7, .fa (.t 1) 2, none⟩,
    ⟨some 8, .lload 0 (.t 7) (.agg 3), none⟩,
    ⟨some 9, .call true false 51 [(.t 8)], none⟩,
    ⟨some 10, .fa (.t 1) 5, none⟩,
    ⟨some 11, .lload 0 (.t 10) (.one (.i .i64)), none⟩,
    ⟨some 12, .fa (.t 1) 6, none⟩,
    ⟨some 13, .lload 0 (.t 12) (.one (.i .i64)), none⟩,
    ⟨some 14, .fa (.t 1) 7, none⟩,
    ⟨some 15, .lload 0 (.t 14) (.one (.sl 25)), none⟩,
    ⟨some 16, .call true false 52 [(.t 15)], none⟩,
    ⟨some 17, .build [.i .i64 0, .i .u64 0, .i .i64 0, .i .u64 0, .sl 24 [], .i .i64 0, .i .i64 0, .sl 25 []] [((.t 4), 0, 1), ((.t 6), 1, 1), ((.t 9), 2, 3), ((.t 11), 5, 1), ((.t 13), 6, 1), ((.t 16), 7, 1)], none⟩,
    ⟨none, .lstore 1 (.t 2) (.agg 8) (.t 17), none⟩])
  (.ret))
def fd_folkmootlaw16_To : FD := ⟨18, 2, [.ag], [.cell 2 (.agg 8) .ag], c_folkmootlaw16_To⟩
noncomputable def G_folkmootlaw16_To (N : Nat) : Env := [(51, S_folkmootlaw16_ToQC N), (52, S_folkmootlaw15_ToAll N)]
noncomputable def F_folkmootlaw16_To (N : Nat) (v : List AV × Unit) (H : Heap) : Res (List AV × Unit) :=
  reqB (v.1.length == 8) (Tup.d [.ag]) <| reqB ((nth v.1 0 .junk).isI .i64) (Tup.d [.ag]) <| reqB ((nth v.1 1 .junk).isI .u64) (Tup.d [.ag]) <| let r1 := F_folkmootlaw16_ToQC N (sub v.1 2 3, ()) H; req (r1.pre) <| reqB ((nth v.1 5 .junk).isI .i64) (Tup.d [.ag]) <| reqB ((nth v.1 6 .junk).isI .i64) (Tup.d [.ag]) <| reqB ((nth v.1 7 .junk).isSl 25) (Tup.d [.ag]) <| let r2 := F_folkmootlaw15_ToAll N ((nth v.1 7 .junk).els, ()) H; req (r2.pre) <| reqB ((r1.out.1.length == 3)) (Tup.d [.ag]) <| ok ([.i .i64 ((nth v.1 0 .junk).num), .i .u64 ((nth v.1 1 .junk).num), nth r1.out.1 0 .junk, nth r1.out.1 1 .junk, nth r1.out.1 2 .junk, .i .i64 ((nth v.1 5 .junk).num), .i .i64 ((nth v.1 6 .junk).num), .sl 25 r2.out.1], ()) H
noncomputable def S_folkmootlaw16_To (N : Nat) : Sem := ⟨[.ag], [.ag], .glob, true, F_folkmootlaw16_To N⟩
theorem den_folkmootlaw16_To (N : Nat) (v : List AV × Unit) (H : Heap) : fd_folkmootlaw16_To.sem N (G_folkmootlaw16_To N) v H = F_folkmootlaw16_To N v H := by kernel_rfl

/-! folkmoot/folkmootlaw19.To -/
def c_folkmootlaw19_To : C' :=
  .seq (.ops false [
    ⟨some 1, .lbox 0 26 (.t 0) false, none⟩,
    ⟨some 2, .lalloc 1 26 [.i .i64 0, .i .i64 0, .i .i64 0, .i .u64 0, .sl 24 [], .i .i64 0, .i .i64 0, .i .u64 0, .i .u64 0, .i .u64 0, .i .u64 0, .i .u64 0, .i .u64 0, .i .u64 0, .i .u64 0, .i .u64 0, .i .u64 0, .i .u64 0, .i .u64 0, .i .u64 0, .i .u64 0, .i .u64 0, .i .u64 0, .i .u64 0, .i .u64 0, .sl 1 []] [4, 25], none⟩])
  (.seq (.ops true [
    ⟨some 3, .fa (.t 1) 0, none⟩,
    ⟨some 4, .lload 0 (.t 3) (.one (.i .i64)), none⟩,
    ⟨some 5, .fa (.t 1) 1, none⟩,
    ⟨some 6, .lload 0 (.t 5) (.one (.i .i64)), none⟩,
    ⟨some 7, .fa (.t 1) 2, none⟩,
    ⟨some 8, .lload 0 (.t 7) (.agg 3), none⟩,
    ⟨some 9, .call true false 51 [(.t 8)], none⟩,
    ⟨some 10, .fa (.t 1) 5, none⟩,
    ⟨some 11, .lload 0 (.t 10) (.agg 21), none⟩,
    ⟨some 12, .call true false 48 [(.t 11)], none⟩,
    ⟨some 13, .build [.i .i64 0, .i .i64 0, .i .i64 0, .i .u64 0, .sl 24 [], .i .i64 0, .i .i64 0, .i .u64 0, .i .u64 0, .i .u64 0, .i .u64 0, .i .u64 0, .i .u64 0, .i .u64 0, .i .u64 0, .i .u64 0, .i .u64 0, .i .u64 0, .i .u64 0, .i .u64 0, .i .u64 0, .i .u64 0, .i .u64 0, .i .u64 0, .i .u64 0, .sl 1 []] [((.t 4), 0, 1), ((.t 6), 1, 1), ((.t 9), 2, 3), ((.t 12), 5, 21)], none⟩,
    ⟨none, .lstore 1 (.t 2) (.agg 26) (.t 13), none⟩])
  (.ret))
def fd_folkmootlaw19_To : FD := ⟨14, 2, [.ag], [.cell 2 (.agg 26) .ag], c_folkmootlaw19_To⟩
noncomputable def G_folkmootlaw19_To (N : Nat) : Env := [(48, S_folkmootlaw5_To N), (51, S_folkmootlaw16_ToQC N)]
noncomputable def F_folkmootlaw19_To (N : Nat) (v : List AV × Unit) (H : Heap) : Res (List AV × Unit) :=
  reqB (v.1.length == 26) (Tup.d [.ag]) <| reqB ((nth v.1 0 .junk).isI .i64) (Tup.d [.ag]) <| reqB ((nth v.1 1 .junk).isI .i64) (Tup.d [.ag]) <| let r1 := F_folkmootlaw16_ToQC N (sub v.1 2 3, ()) H; req (r1.pre) <| let r2 := F_folkmootlaw5_To N (sub v.1 5 21, ()) H; req (r2.pre) <| reqB ((r1.out.1.length == 3)) (Tup.d [.ag]) <| reqB ((r2.out.1.length == 21)) (Tup.d [.ag]) <| ok ([.i .i64 ((nth v.1 0 .junk).num), .i .i64 ((nth v.1 1 .junk).num), nth r1.out.1 0 .junk, nth r1.out.1 1 .junk, nth r1.out.1 2 .junk, nth r2.out.1 0 .junk, nth r2.out.1 1 .junk, nth r2.out.1 2 .junk, nth r2.out.1 3 .junk, nth r2.out.1 4 .junk, nth r2.out.1 5 .junk, nth r2.out.1 6 .junk, nth r2.out.1 7 .junk, nth r2.out.1 8 .junk, nth r2.out.1 9 .junk, nth r2.out.1 10 .junk, nth r2.out.1 11 .junk, nth r2.out.1 12 .junk, nth r2.out.1 13 .junk, nth r2.out.1 14 .junk, nth r2.out.1 15 .junk, nth r2.out.1 16 .junk, nth r2.out.1 17 .junk, nth r2.out.1 18 .junk, nth r2.out.1 19 .junk, nth r2.out.1 20 .junk], ()) H
noncomputable def S_folkmootlaw19_To (N : Nat) : Sem := ⟨[.ag], [.ag], .glob, true, F_folkmootlaw19_To N⟩
theorem den_folkmootlaw19_To (N : Nat) (v : List AV × Unit) (H : Heap) : fd_folkmootlaw19_To.sem N (G_folkmootlaw19_To N) v H = F_folkmootlaw19_To N v H := by kernel_rfl

/-! folkmoot/folkmootlaw22.To -/
def c_folkmootlaw22_To : C' :=
  .seq (.ops false [
    ⟨some 1, .lbox 0 147 (.t 0) false, none⟩,
    ⟨some 2, .lalloc 1 147 [.i .i64 0, .i .i64 0, .i .i64 0, .i .i64 0, .i .i64 0, .i .i64 0, .i .i64 0, .i .i64 0, .i .u64 0, .i .i64 0, .i .i64 0, .i .i64 0, .i .i64 0, .i .u64 0, .i .u64 0, .i .u64 0, .i .u64 0, .i .u64 0, .i .u64 0, .i .u64 0, .i .u64 0, .i .u64 0, .i .u64 0, .i .u64 0, .i .u64 0, .i .u64 0, .i .u64 0, .i .u64 0, .i .u64 0, .i .u64 0, .i .u64 0, .sl 1 [], .i .i64 0, .i .i64 0, .i .i64 0, .i .i64 0, .i .i64 0, .sl 24 [], .i .u64 0, .i .i64 0, .i .i64 0, .i .i64 0, .i .u64 0, .i .u64 0, .i .u64 0, .i .u64 0, .i .u64 0, .i .u64 0, .i .u64 0, .i .u64 0, .i .u64 0, .i .u64 0, .i .u64 0, .i .u64 0, .i .u64 0, .i .u64 0, .i .u64 0, .i .u64 0, .i .u64 0, .i .u64 0, .sl 1 [], .i .i64 0, .i .i64 0, .i .i64 0, .i .i64 0, .i .i64 0, .sl 6 [], .i .i64 0, .i .i64 0, .i .u64 0, .i .u64 0, .i .u64 0, .i .u64 0, .i .u64 0, .i .u64 0, .i .u64 0, .i .u64 0, .i .u64 0, .i .u64 0, .i .u64 0, .i .u64 0, .i .u64 0, .i .u64 0, .i .u64 0, .i .u64 0, .i .u64 0, .i .u64 0, .sl 1 [], .i .i64 0, .i .u64 0, .i .i64 0, .i .u64 0, .sl 24 [], .i .i64 0, .i .i64 0, .sl 25 [], .i .i64 0, .i .u64 0, .i .i64 0, .i .i64 0, .i .i64 0, .i .u64 0, .i .u64 0, .i .u64 0, .i .u64 0, .i .u64 0, .i .u64 0, .i .u64 0, .i .u64 0, .i .u64 0, .i .u64 0, .i .u64 0, .i .u64 0, .i .u64 0, .i .u64 0, .i .u64 0, .i .u64 0, .i .u64 0, .i .u64 0, .sl 1 [], .i .i64 0, .i .i64 0, .i .i64 0, .i .u64 0, .sl 24 [], .i .i64 0, .i .i64 0, .i .u64 0, .i .u64 0, .i .u64 0, .i .u64 0, .i .u64 0, .i .u64 0, .i .u64 0, .i .u64 0, .i .u64 0, .i .u64 0, .i .u64 0, .i .u64 0, .i .u64 0, .i .u64 0, .i .u64 0, .i .u64 0, .i .u64 0, .i .u64 0, .sl 1 [], .sl 8 []] [31, 37, 60, 66, 87, 92, 95, 119, 124, 145, 146], none⟩])
  (.seq (.ops true [
    ⟨some 5, .fa (.t 1) 0, none⟩,
    ⟨some 6, .lload 0 (.t 5) (.one (.i .i64)), none⟩,
    ⟨some 7, .fa (.t 1) 1, none⟩,
    ⟨some 8, .lload 0 (.t 7) (.one (.i .i64)), none⟩,
    ⟨some 9, .fa (.t 1) 2, none⟩,
    ⟨some 10, .lload 0 (.t 9) (.one (.i .i64)), none⟩,
    ⟨some 11, .fa (.t 1) 3, none⟩,
    ⟨some 12, .lload 0 (.t 11) (.agg 5), none⟩,
    ⟨some 13, .call true false 21 [(.t 12)], none⟩,
    ⟨some 14, .fa (.t 1) 8, none⟩,
    ⟨some 15, .lload 0 (.t 14) (.agg 24), none⟩,
    ⟨some 16, .call true false 22 [(.t 15)], none⟩,
    ⟨some 17, .fa (.t 1) 32, none⟩,
    ⟨some 18, .lload 0 (.t 17) (.agg 6), none⟩,
    ⟨some 19, .call true false 23 [(.t 18)], none⟩,
    ⟨some 20, .fa (.t 1) 38, none⟩,
    ⟨some 21, .lload 0 (.t 20) (.agg 23), none⟩,
    ⟨some 22, .call true false 24 [(.t 21)], none⟩,
    ⟨some 23, .fa (.t 1) 61, none⟩,
    ⟨some 24, .lload 0 (.t 23) (.one (.i .i64)), none⟩,
    ⟨some 25, .fa (.t 1) 62, none⟩,
    ⟨some 26, .lload 0 (.t 25) (.one (.i .i64)), none⟩,
    ⟨some 27, .fa (.t 1) 63, none⟩,
    ⟨some 28, .lload 0 (.t 27) (.agg 25), none⟩,
    ⟨some 29, .call true false 25 [(.t 28)], none⟩,
    ⟨some 30, .fa (.t 1) 88, none⟩,
    ⟨some 31, .lload 0 (.t 30) (.agg 8), none⟩,
    ⟨some 32, .call true false 26 [(.t 31)], none⟩,
    ⟨some 33, .fa (.t 1) 96, none⟩,
    ⟨some 34, .lload 0 (.t 33) (.agg 24), none⟩,
    ⟨some 35, .call true false 27 [(.t 34)], none⟩,
    ⟨some 36, .fa (.t 1) 120, none⟩,
    ⟨some 37, .lload 0 (.t 36) (.agg 26), none⟩,
    ⟨some 38, .call true false 28 [(.t 37)], none⟩,
    ⟨some 39, .build [.i .i64 0, .i .i64 0, .i .i64 0, .i .i64 0, .i .i64 0, .i .i64 0, .i .i64 0, .i .i64 0, .i .u64 0, .i .i64 0, .i .i64 0, .i .i64 0, .i .i64 0, .i .u64 0, .i .u64 0, .i .u64 0, .i .u64 0, .i .u64 0, .i .u64 0, .i .u64 0, .i .u64 0, .i .u64 0, .i .u64 0, .i .u64 0, .i .u64 0, .i .u64 0, .i .u64 0, .i .u64 0, .i .u64 0, .i .u64 0, .i .u64 0, .sl 1 [], .i .i64 0, .i .i64 0, .i .i64 0, .i .i64 0, .i .i64 0, .sl 24 [], .i .u64 0, .i .i64 0, .i .i64 0, .i .i64 0, .i .u64 0, .i .u64 0, .i .u64 0, .i .u64 0, .i .u64 0, .i .u64 0, .i .u64 0, .i .u64 0, .i .u64 0, .i .u64 0, .i .u64 0, .i .u64 0, .i .u64 0, .i .u64 0, .i .u64 0, .i .u64 0, .i .u64 0, .i .u64 0, .sl 1 [], .i .i64 0, .i .i64 0, .i .i64 0, .i .i64 0, .i .i64 0, .sl 6 [], .i .i64 0, .i .i64 0, .i .u64 0, .i .u64 0, .i .u64 0, .i .u64 0, .i .u64 0, .i .u64 0, .i .u64 0, .i .u64 0, .i .u64 0, .i .u64 0, .i .u64 0, .i .u64 0, .i .u64 0, .i .u64 0, .i .u64 0, .i .u64 0, .i .u64 0, .i .u64 0, .sl 1 [], .i .i64 0, .i .u64 0, .i .i64 0, .i .u64 0, .sl 24 [], .i .i64 0, .i .i64 0, .sl 25 [], .i .i64 0, .i .u64 0, .i .i64 0, .i .i64 0, .i .i64 0, .i .u64 0, .i .u64 0, .i .u64 0, .i .u64 0, .i .u64 0, .i .u64 0, .i .u64 0, .i .u64 0, .i .u64 0, .i .u64 0, .i .u64 0, .i .u64 0, .i .u64 0, .i .u64 0, .i .u64 0, .i .u64 0, .i .u64 0, .i .u64 0, .sl 1 [], .i .i64 0, .i .i64 0, .i .i64 0, .i .u64 0, .sl 24 [], .i .i64 0, .i .i64 0, .i .u64 0, .i .u64 0, .i .u64 0, .i .u64 0, .i .u64 0, .i .u64 0, .i .u64 0, .i .u64 0, .i .u64 0, .i .u64 0, .i .u64 0, .i .u64 0, .i .u64 0, .i .u64 0, .i .u64 0, .i .u64 0, .i .u64 0, .i .u64 0, .sl 1 [], .sl 8 []] [((.t 6), 0, 1), ((.t 8), 1, 1), ((.t 10), 2, 1), ((.t 13), 3, 5), ((.t 16), 8, 24), ((.t 19), 32, 6), ((.t 22), 38, 23), ((.t 24), 61, 1), ((.t 26), 62, 1), ((.t 29), 63, 25), ((.t 32), 88, 8), ((.t 35), 96, 24), ((.t 38), 120, 26)], none⟩,
    ⟨some 3, .lalloc 2 147 [.i .i64 0, .i .i64 0, .i .i64 0, .i .i64 0, .i .i64 0, .i .i64 0, .i .i64 0, .i .i64 0, .i .u64 0, .i .i64 0, .i .i64 0, .i .i64 0, .i .i64 0, .i .u64 0, .i .u64 0, .i .u64 0, .i .u64 0, .i .u64 0, .i .u64 0, .i .u64 0, .i .u64 0, .i .u64 0, .i .u64 0, .i .u64 0, .i .u64 0, .i .u64 0, .i .u64 0, .i .u64 0, .i .u64 0, .i .u64 0, .i .u64 0, .sl 1 [], .i .i64 0, .i .i64 0, .i .i64 0, .i .i64 0, .i .i64 0, .sl 24 [], .i .u64 0, .i .i64 0, .i .i64 0, .i .i64 0, .i .u64 0, .i .u64 0, .i .u64 0, .i .u64 0, .i .u64 0, .i .u64 0, .i .u64 0, .i .u64 0, .i .u64 0, .i .u64 0, .i .u64 0, .i .u64 0, .i .u64 0, .i .u64 0, .i .u64 0, .i .u64 0, .i .u64 0, .i .u64 0, .sl 1 [], .i .i64 0, .i .i64 0, .i .i64 0, .i .i64 0, .i .i64 0, .sl 6 [], .i .i64 0, .i .i64 0, .i .u64 0, .i .u64 0, .i .u64 0, .i .u64 0, .i .u64 0, .i .u64 0, .i .u64 0, .i .u64 0, .i .u64 0, .i .u64 0, .i .u64 0, .i .u64 0, .i .u64 0, .i .u64 0, .i .u64 0, .i .u64 0, .i .u64 0, .i .u64 0, .sl 1 [], .i .i64 0, .i .u64 0, .i .i64 0, .i .u64 0, .sl 24 [], .i .i64 0, .i .i64 0, .sl 25 [], .i .i64 0, .i .u64 0, .i .i64 0, .i .i64 0, .i .i64 0, .i .u64 0, .i .u64 0, .i .u64 0, .i .u64 0, .i .u64 0, .i .u64 0, .i .u64 0, .i .u64 0, .i .u64 0, .i .u64 0, .i .u64 0, .i .u64 0, .i .u64 0, .i .u64 0, .i .u64 0, .i .u64 0, .i .u64 0, .i .u64 0, .sl 1 [], .i .i64 0, .i .i64 0, .i .i64 0, .i .u64 0, .sl 24 [], .i .i64 0, .i .i64 0, .i .u64 0, .i .u64 0, .i .u64 0, .i .u64 0, .i .u64 0, .i .u64 0, .i .u64 0, .i .u64 0, .i .u64 0, .i .u64 0, .i .u64 0, .i .u64 0, .i .u64 0, .i .u64 0, .i .u64 0, .i .u64 0, .i .u64 0, .i .u64 0, .sl 1 [], .sl 8 []] [31, 37, 60, 66, 87, 92, 95, 119, 124, 145, 146], none⟩,
    ⟨none, .lstore 2 (.t 3) (.agg 147) (.t 39), none⟩])
  (.seq (.seq (.ops false [
    ⟨some 4, .mov (.c (.i .i64 0)), none⟩])
  (.loop 0 (.seq (.seq (.ops false [
    ⟨some 40, .mov (.t 4), none⟩,
    ⟨some 41, .fa (.t 1) 146, none⟩,
    ⟨some 42, .lload 0 (.t 41) (.one (.sl 8)), none⟩,
    ⟨some 43, .lenL (.t 42) 8, none⟩,
    ⟨some 44, .cmp .lss .i64 (.t 40) (.t 43), none⟩])
  (.cond (.t 44) (.skip) (.exit 0)))
  (.seq (.block 1 (.ops true [
    ⟨some 47, .fa (.t 3) 146, none⟩,
    ⟨some 48, .lloadO 2 (.t 47) 8, none⟩,
    ⟨some 49, .fa (.t 1) 146, none⟩,
    ⟨some 50, .lload 0 (.t 49) (.one (.sl 8)), none⟩,
    ⟨some 51, .mov (.t 4), none⟩,
    ⟨some 52, .ixa (.t 50) (.t 51) .i64 8, none⟩,
    ⟨some 53, .iload (.t 52) (.agg 8), none⟩,
    ⟨some 54, .call true false 26 [(.t 53)], none⟩,
    ⟨some 55, .bslice 8 1 [.i .i64 0, .i .u64 0, .i .i64 0, .i .u64 0, .sl 24 [], .i .i64 0, .i .i64 0, .sl 25 []] [((.t 54), 0)], none⟩,
    ⟨some 56, .app 48 (.t 55) 8 96, none⟩,
    ⟨some 57, .fa (.t 3) 146, none⟩,
    ⟨none, .lstoreO 2 (.t 57) 56, none⟩]))
  (.ops false [
    ⟨some 45, .mov (.t 4), none⟩,
    ⟨some 46, .arith .add .i64 (.t 45) (.c (.i .i64 1)), none⟩,
    ⟨some 4, .mov (.t 46), none⟩]))) [⟨1, .loc, (.lpc 0)⟩, ⟨2, .loc, (.lpc 1)⟩, ⟨3, .loc, (.lpc 2)⟩, ⟨4, .glob, (.i .i64)⟩] [⟨0, 147, []⟩, ⟨1, 147, [31, 37, 60, 66, 87, 92, 95, 119, 124, 145, 146]⟩, ⟨2, 147, [146]⟩] [⟨2, .loc, (.lpc 1)⟩, ⟨3, .loc, (.lpc 2)⟩]))
  (.seq (.ops false [
    ⟨some 58, .lload 2 (.t 3) (.agg 147), none⟩,
    ⟨none, .lstore 1 (.t 2) (.agg 147) (.t 58), none⟩])
  (.ret))))
def fd_folkmootlaw22_To : FD := ⟨59, 3, [.ag], [.cell 2 (.agg 147) .ag], c_folkmootlaw22_To⟩
noncomputable def G_folkmootlaw22_To (N : Nat) : Env := [(21, S_folkmootlaw9_To N), (22, S_folkmootlaw11_To N), (23, S_folkmootlaw12_To N), (24, S_folkmootlaw14_To N), (25, S_folkmootlaw15_To N), (26, S_folkmootlaw16_To N), (27, S_folkmootlaw16_ToVote N), (28, S_folkmootlaw19_To N)]
noncomputable def F_folkmootlaw22_To (N : Nat) (v : List AV × Unit) (H : Heap) : Res (List AV × Unit) :=
  reqB (v.1.length == 147) (Tup.d [.ag]) <| reqB ((nth v.1 0 .junk).isI .i64) (Tup.d [.ag]) <| reqB ((nth v.1 1 .junk).isI .i64) (Tup.d [.ag]) <| reqB ((nth v.1 2 .junk).isI .i64) (Tup.d [.ag]) <| let r1 := F_folkmootlaw9_To N (sub v.1 3 5, ()) H; req (r1.pre) <| let r2 := F_folkmootlaw11_To N (sub v.1 8 24, ()) H; req (r2.pre) <| let r3 := F_folkmootlaw12_To N (sub v.1 32 6, ()) H; req (r3.pre) <| let r4 := F_folkmootlaw14_To N (sub v.1 38 23, ()) H; req (r4.pre) <| reqB ((nth v.1 61 .junk).isI .i64) (Tup.d [.ag]) <| reqB ((nth v.1 62 .junk).isI .i64) (Tup.d [.ag]) <| let r5 := F_folkmootlaw15_To N (sub v.1 63 25, ()) H; req (r5.pre) <| let r6 := F_folkmootlaw16_To N (sub v.1 88 8, ()) H; req (r6.pre) <| let r7 := F_folkmootlaw16_ToVote N (sub v.1 96 24, ()) H; req (r7.pre) <| let r8 := F_folkmootlaw19_To N (sub v.1 120 26, ()) H; req (r8.pre) <| reqB ((r1.out.1.length == 5)) (Tup.d [.ag]) <| reqB ((r2.out.1.length == 24)) (Tup.d [.ag]) <| reqB ((r3.out.1.length == 6)) (Tup.d [.ag]) <| reqB ((r4.out.1.length == 23)) (Tup.d [.ag]) <| reqB ((r5.out.1.length == 25)) (Tup.d [.ag]) <| reqB ((r6.out.1.length == 8)) (Tup.d [.ag]) <| reqB ((r7.out.1.length == 24)) (Tup.d [.ag]) <| reqB ((r8.out.1.length == 26)) (Tup.d [.ag]) <| let r12 := iter (α := Unit × Unit × Unit × Int × List AV × List AV × List AV × Unit) (β := Unit × Unit × List AV × List AV × List AV × Unit) (Tup.d [(.lpc 1), (.lpc 2), .ag, .ag, .ag]) (fun R10 v9 H11 => reqB ((nth v9.2.2.2.2.1 146 .junk).isSl 8) (Tup.d [(.lpc 1), (.lpc 2), .ag, .ag, .ag]) <| let t13 : List (List AV) := (nth v9.2.2.2.2.1 146 .junk).els; let t14 : Bool := COp.run v9.2.2.2.1 (t13.length : Int) .lss; (match t14 with | true => (reqB ((nth v9.2.2.2.2.2.2.1 146 .junk).isSl 8) (Tup.d [(.lpc 1), (.lpc 2), .ag, .ag, .ag]) <| reqB ((nth v9.2.2.2.2.1 146 .junk).isSl 8) (Tup.d [(.lpc 1), (.lpc 2), .ag, .ag, .ag]) <| let t15 : List (List AV) := (nth v9.2.2.2.2.1 146 .junk).els; reqB (inb v9.2.2.2.1 t15.length) (Tup.d [(.lpc 1), (.lpc 2), .ag, .ag, .ag]) <| let t16 : List AV := nth t15 v9.2.2.2.1.toNat []; let r17 := F_folkmootlaw16_To N (t16, ()) H11; req (r17.pre) <| reqB ((r17.out.1.length == 8)) (Tup.d [(.lpc 1), (.lpc 2), .ag, .ag, .ag]) <| reqB (roomL ((nth v9.2.2.2.2.2.2.1 146 .junk).els) [r17.out.1] 96) (Tup.d [(.lpc 1), (.lpc 2), .ag, .ag, .ag]) <| let t18 : List (List AV) := cat ((nth v9.2.2.2.2.2.2.1 146 .junk).els) [r17.out.1]; let t19 : Int := AOp.run .i64 v9.2.2.2.1 1 .add; R10 ((), (), (), t19, v9.2.2.2.2.1, v9.2.2.2.2.2.1, upd v9.2.2.2.2.2.2.1 146 (.sl 8 t18), ()) H11) | false => (ok ((), (), v9.2.2.2.2.1, v9.2.2.2.2.2.1, v9.2.2.2.2.2.2.1, ()) H11))) N ((), (), (), 0, v.1, [.i .i64 0, .i .i64 0, .i .i64 0, .i .i64 0, .i .i64 0, .i .i64 0, .i .i64 0, .i .i64 0, .i .u64 0, .i .i64 0, .i .i64 0, .i .i64 0, .i .i64 0, .i .u64 0, .i .u64 0, .i .u64 0, .i .u64 0, .i .u64 0, .i .u64 0, .i .u64 0, .i .u64 0, .i .u64 0, .i .u64 0, .i .u64 0, .i .u64 0, .i .u64 0, .i .u64 0, .i .u64 0, .i .u64 0, .i .u64 0, .i .u64 0, .sl 1 [], .i .i64 0, .i .i64 0, .i .i64 0, .i .i64 0, .i .i64 0, .sl 24 [], .i .u64 0, .i .i64 0, .i .i64 0, .i .i64 0, .i .u64 0, .i .u64 0, .i .u64 0, .i .u64 0, .i .u64 0, .i .u64 0, .i .u64 0, .i .u64 0, .i .u64 0, .i .u64 0, .i .u64 0, .i .u64 0, .i .u64 0, .i .u64 0, .i .u64 0, .i .u64 0, .i .u64 0, .i .u64 0, .sl 1 [], .i .i64 0, .i .i64 0, .i .i64 0, .i .i64 0, .i .i64 0, .sl 6 [], .i .i64 0, .i .i64 0, .i .u64 0, .i .u64 0, .i .u64 0, .i .u64 0, .i .u64 0, .i .u64 0, .i .u64 0, .i .u64 0, .i .u64 0, .i .u64 0, .i .u64 0, .i .u64 0, .i .u64 0, .i .u64 0, .i .u64 0, .i .u64 0, .i .u64 0, .i .u64 0, .sl 1 [], .i .i64 0, .i .u64 0, .i .i64 0, .i .u64 0, .sl 24 [], .i .i64 0, .i .i64 0, .sl 25 [], .i .i64 0, .i .u64 0, .i .i64 0, .i .i64 0, .i .i64 0, .i .u64 0, .i .u64 0, .i .u64 0, .i .u64 0, .i .u64 0, .i .u64 0, .i .u64 0, .i .u64 0, .i .u64 0, .i .u64 0, .i .u64 0, .i .u64 0, .i .u64 0, .i .u64 0, .i .u64 0, .i .u64 0, .i .u64 0, .i .u64 0, .sl 1 [], .i .i64 0, .i .i64 0, .i .i64 0, .i .u64 0, .sl 24 [], .i .i64 0, .i .i64 0, .i .u64 0, .i .u64 0, .i .u64 0, .i .u64 0, .i .u64 0, .i .u64 0, .i .u64 0, .i .u64 0, .i .u64 0, .i .u64 0, .i .u64 0, .i .u64 0, .i .u64 0, .i .u64 0, .i .u64 0, .i .u64 0, .i .u64 0, .i .u64 0, .sl 1 [], .sl 8 []], [.i .i64 ((nth v.1 0 .junk).num), .i .i64 ((nth v.1 1 .junk).num), .i .i64 ((nth v.1 2 .junk).num), nth r1.out.1 0 .junk, nth r1.out.1 1 .junk, nth r1.out.1 2 .junk, nth r1.out.1 3 .junk, nth r1.out.1 4 .junk, nth r2.out.1 0 .junk, nth r2.out.1 1 .junk, nth r2.out.1 2 .junk, nth r2.out.1 3 .junk, nth r2.out.1 4 .junk, nth r2.out.1 5 .junk, nth r2.out.1 6 .junk, nth r2.out.1 7 .junk, nth r2.out.1 8 .junk, nth r2.out.1 9 .junk, nth r2.out.1 10 .junk, nth r2.out.1 11 .junk, nth r2.out.1 12 .junk, nth r2.out.1 13 .junk, nth r2.out.1 14 .junk, nth r2.out.1 15 .junk, nth r2.out.1 16 .junk, nth r2.out.1 17 .junk, nth r2.out.1 18 .junk, nth r2.out.1 19 .junk, nth r2.out.1 20 .junk, nth r2.out.1 21 .junk, nth r2.out.1 22 .junk, nth r2.out.1 23 .junk, nth r3.out.1 0 .junk, nth r3.out.1 1 .junk, nth r3.out.1 2 .junk, nth r3.out.1 3 .junk, nth r3.out.1 4 .junk, nth r3.out.1 5 .junk, nth r4.out.1 0 .junk, nth r4.out.1 1 .junk, nth r4.out.1 2 .junk, nth r4.out.1 3 .junk, nth r4.out.1 4 .junk, nth r4.out.1 5 .junk, nth r4.out.1 6 .junk, nth r4.out.1 7 .junk, nth r4.out.1 8 .junk, nth r4.out.1 9 .junk, nth r4.out.1 10 .junk, nth r4.out.1 11 .junk, nth r4.out.1 12 .junk, nth r4.out.1 13 .junk, nth r4.out.1 14 .junk, nth r4.out.1 15 .junk, nth r4.out.1 16 .junk, nth r4.out.1 17 .junk, nth r4.out.1 18 .junk, nth r4.out.1 19 .junk, nth r4.out.1 20 .junk, nth r4.out.1 21 .junk, nth r4.out.1 22 .junk, .i .i64 ((nth v.1 61 .junk).num), .i .i64 ((nth v.1 62 .junk).num), nth r5.out.1 0 .junk, nth r5.out.1 1 .junk, nth r5.out.1 2 .junk, nth r5.out.1 3 .junk, nth r5.out.1 4 .junk, nth r5.out.1 5 .junk, nth r5.out.1 6 .junk, nth r5.out.1 7 .junk, nth r5.out.1 8 .junk, nth r5.out.1 9 .junk, nth r5.out.1 10 .junk, nth r5.out.1 11 .junk, nth r5.out.1 12 .junk, nth r5.out.1 13 .junk, nth r5.out.1 14 .junk, nth r5.out.1 15 .junk, nth r5.out.1 16 .junk, nth r5.out.1 17 .junk, nth r5.out.1 18 .junk, nth r5.out.1 19 .junk, nth r5.out.1 20 .junk, nth r5.out.1 21 .junk, nth r5.out.1 22 .junk, nth r5.out.1 23 .junk, nth r5.out.1 24 .junk, nth r6.out.1 0 .junk, nth r6.out.1 1 .junk, nth r6.out.1 2 .junk, nth r6.out.1 3 .junk, nth r6.out.1 4 .junk, nth r6.out.1 5 .junk, nth r6.out.1 6 .junk, nth r6.out.1 7 .junk, nth r7.out.1 0 .junk, nth r7.out.1 1 .junk, nth r7.out.1 2 .junk, nth r7.out.1 3 .junk, nth r7.out.1 4 .junk, nth r7.out.1 5 .junk, nth r7.out.1 6 .junk, nth r7.out.1 7 .junk, nth r7.out.1 8 .junk, nth r7.out.1 9 .junk, nth r7.out.1 10 .junk, nth r7.out.1 11 .junk, nth r7.out.1 12 .junk, nth r7.out.1 13 .junk, nth r7.out.1 14 .junk, nth r7.out.1 15 .junk, nth r7.out.1 16 .junk, nth r7.out.1 17 .junk, nth r7.out.1 18 .junk, nth r7.out.1 19 .junk, nth r7.out.1 20 .junk, nth r7.out.1 21 .junk, nth r7.out.1 22 .junk, nth r7.out.1 23 .junk, nth r8.out.1 0 .junk, nth r8.out.1 1 .junk, nth r8.out.1 2 .junk, nth r8.out.1 3 .junk, nth r8.out.1 4 .junk, nth r8.out.1 5 .junk, nth r8.out.1 6 .junk, nth r8.out.1 7 .junk, nth r8.out.1 8 .junk, nth r8.out.1 9 .junk, nth r8.out.1 10 .junk, nth r8.out.1 11 .junk, nth r8.out.1 12 .junk, nth r8.out.1 13 .junk, nth r8.out.1 14 .junk, nth r8.out.1 15 .junk, nth r8.out.1 16 .junk, nth r8.out.1 17 .junk, nth r8.out.1 18 .junk, nth r8.out.1 19 .junk, nth r8.out.1 20 .junk, nth r8.out.1 21 .junk, nth r8.out.1 22 .junk, nth r8.out.1 23 .junk, nth r8.out.1 24 .junk, nth r8.out.1 25 .junk, .sl 8 []], ()) H; req r12.pre <| reqB (r12.out.2.2.2.2.1.length == 147) (Tup.d [.ag]) <| ok (r12.out.2.2.2.2.1, ()) r12.H
noncomputable def S_folkmootlaw22_To (N : Nat) : Sem := ⟨[.ag], [.ag], .glob, true, F_folkmootlaw22_To N⟩
theorem den_folkmootlaw22_To (N : Nat) (v : List AV × Unit) (H : Heap) : fd_folkmootlaw22_To.sem N (G_folkmootlaw22_To N) v H = F_folkmootlaw22_To N v H := by kernel_rfl

/-! folkmoot/folkmootref28.CheckMsg -/
def c_folkmootref28_CheckMsg : C' :=
  .seq (.ops false [
    ⟨some 2, .lbox 0 147 (.t 0) false, none⟩,
    ⟨some 4, .mov (.c (.i .i64 0)), none⟩])
  (.seq (.seq (.ops false [
    ⟨some 5, .fa (.t 2) 0, none⟩,
    ⟨some 6, .lload 0 (.t 5) (.one (.i .i64)), none⟩,
    ⟨some 7, .cmp .lss .i64 (.t 6) (.c (.i .i64 1)), none⟩,
    ⟨some 8, .mov (.t 7), none⟩,
    ⟨some 9, .fa (.t 2) 0, some (8, false, false)⟩,
    ⟨some 10, .lload 0 (.t 9) (.one (.i .i64)), some (8, false, false)⟩,
    ⟨some 11, .cmp .gtr .i64 (.t 10) (.c (.i .i64 9)), some (8, false, false)⟩,
    ⟨some 12, .pick (.t 8) (.c (.b true)) (.t 11), none⟩,
    ⟨some 13, .mov (.t 12), none⟩,
    ⟨some 14, .fa (.t 2) 1, some (13, false, false)⟩,
    ⟨some 15, .lload 0 (.t 14) (.one (.i .i64)), some (13, false, false)⟩,
    ⟨some 16, .cmp .lss .i64 (.t 15) (.c (.i .i64 0)), some (13, false, false)⟩,
    ⟨some 17, .pick (.t 13) (.c (.b true)) (.t 16), none⟩,
    ⟨some 18, .mov (.t 17), none⟩,
    ⟨some 19, .fa (.t 2) 1, some (18, false, false)⟩,
    ⟨some 20, .lload 0 (.t 19) (.one (.i .i64)), some (18, false, false)⟩,
    ⟨some 21, .mov (.t 1), some (18, false, false)⟩,
    ⟨some 22, .cmp .gtr .i64 (.t 20) (.t 21), some (18, false, false)⟩,
    ⟨some 23, .pick (.t 18) (.c (.b true)) (.t 22), none⟩,
    ⟨some 24, .mov (.t 23), none⟩,
    ⟨some 25, .fa (.t 2) 2, some (24, false, false)⟩,
    ⟨some 26, .lload 0 (.t 25) (.one (.i .i64)), some (24, false, false)⟩,
    ⟨some 27, .cmp .lss .i64 (.t 26) (.c (.i .i64 0)), some (24, false, false)⟩,
    ⟨some 28, .pick (.t 24) (.c (.b true)) (.t 27), none⟩,
    ⟨some 29, .mov (.t 28), none⟩,
    ⟨some 30, .fa (.t 2) 2, some (29, false, false)⟩,
    ⟨some 31, .lload 0 (.t 30) (.one (.i .i64)), some (29, false, false)⟩,
    ⟨some 32, .mov (.t 1), some (29, false, false)⟩,
    ⟨some 33, .cmp .gtr .i64 (.t 31) (.t 32), some (29, false, false)⟩,
    ⟨some 34, .pick (.t 29) (.c (.b true)) (.t 33), none⟩])
  (.cond (.t 34) (.seq (.ops false [
    ⟨some 4, .mov (.c (.i .i64 1)), none⟩])
  (.ret)) (.skip)))
  (.seq (.seq (.ops false [
    ⟨some 35, .fa (.t 2) 146, none⟩,
    ⟨some 36, .lload 0 (.t 35) (.one (.sl 8)), none⟩,
    ⟨some 37, .lenL (.t 36) 8, none⟩,
    ⟨some 38, .cmp .gtr .i64 (.t 37) (.c (.i .i64 256)), none⟩])
  (.cond (.t 38) (.seq (.ops false [
    ⟨some 4, .mov (.c (.i .i64 4)), none⟩])
  (.ret)) (.skip)))
  (.seq (.ops false [
    ⟨some 4, .mov (.c (.i .i64 0)), none⟩])
  (.ret))))
def fd_folkmootref28_CheckMsg : FD := ⟨39, 1, [.ag, (.i .i64)], [.tmp 4 .glob (.i .i64)], c_folkmootref28_CheckMsg⟩
noncomputable def G_folkmootref28_CheckMsg (N : Nat) : Env := []
noncomputable def F_folkmootref28_CheckMsg (N : Nat) (v : List AV × Int × Unit) (H : Heap) : Res (Int × Unit) :=
  reqB (v.1.length == 147) (Tup.d [(.i .i64)]) <| reqB ((nth v.1 0 .junk).isI .i64) (Tup.d [(.i .i64)]) <| let t1 : Bool := COp.run ((nth v.1 0 .junk).num) 1 .lss; reqG (!t1) ((nth v.1 0 .junk).isI .i64) <| req (imp (!t1) (!t1)) <| req (imp (!t1) (!t1)) <| let t2 : Bool := COp.run ((nth v.1 0 .junk).num) 9 .gtr; req (imp (!t1) (!t1)) <| reqG (!(t1 || t2)) ((nth v.1 1 .junk).isI .i64) <| req (imp (!(t1 || t2)) (!(t1 || t2))) <| req (imp (!(t1 || t2)) (!(t1 || t2))) <| let t3 : Bool := COp.run ((nth v.1 1 .junk).num) 0 .lss; req (imp (!(t1 || t2)) (!(t1 || t2))) <| reqG (!((t1 || t2) || t3)) ((nth v.1 1 .junk).isI .i64) <| req (imp (!((t1 || t2) || t3)) (!((t1 || t2) || t3))) <| req (imp (!((t1 || t2) || t3)) (!((t1 || t2) || t3))) <| req (imp (!((t1 || t2) || t3)) (!((t1 || t2) || t3))) <| let t4 : Bool := COp.run ((nth v.1 1 .junk).num) v.2.1 .gtr; req (imp (!((t1 || t2) || t3)) (!((t1 || t2) || t3))) <| let t5 : Bool := (((t1 || t2) || t3) || t4); reqG (!t5) ((nth v.1 2 .junk).isI .i64) <| req (imp (!t5) (!t5)) <| req (imp (!t5) (!t5)) <| let t6 : Bool := COp.run ((nth v.1 2 .junk).num) 0 .lss; req (imp (!t5) (!t5)) <| reqG (!(t5 || t6)) ((nth v.1 2 .junk).isI .i64) <| req (imp (!(t5 || t6)) (!(t5 || t6))) <| req (imp (!(t5 || t6)) (!(t5 || t6))) <| req (imp (!(t5 || t6)) (!(t5 || t6))) <| let t7 : Bool := COp.run ((nth v.1 2 .junk).num) v.2.1 .gtr; req (imp (!(t5 || t6)) (!(t5 || t6))) <| (match ((t5 || t6) || t7) with | true => (ok (1, ()) H) | false => (reqB ((nth v.1 146 .junk).isSl 8) (Tup.d [(.i .i64)]) <| let t8 : Int := (((nth v.1 146 .junk).els).length : Int); (match COp.run t8 256 .gtr with | true => (ok (4, ()) H) | false => (ok (0, ()) H))))
noncomputable def S_folkmootref28_CheckMsg (N : Nat) : Sem := ⟨[.ag, (.i .i64)], [(.i .i64)], .glob, true, F_folkmootref28_CheckMsg N⟩
theorem den_folkmootref28_CheckMsg (N : Nat) (v : List AV × Int × Unit) (H : Heap) : fd_folkmootref28_CheckMsg.sem N (G_folkmootref28_CheckMsg N) v H = F_folkmootref28_CheckMsg N v H := by kernel_rfl

/-! folkmoot/folkmootref6.SameSig -/
def c_folkmootref6_SameSig : C' :=
  .seq (.ops false [
    ⟨some 2, .lbox 0 21 (.t 0) false, none⟩,
    ⟨some 3, .lbox 1 21 (.t 1) false, none⟩,
    ⟨some 4, .mov (.c (.b false)), none⟩])
  (.seq (.seq (.ops false [
    ⟨some 6, .fa (.t 2) 0, none⟩,
    ⟨some 7, .lload 0 (.t 6) (.one (.i .i64)), none⟩,
    ⟨some 8, .fa (.t 3) 0, none⟩,
    ⟨some 9, .lload 1 (.t 8) (.one (.i .i64)), none⟩,
    ⟨some 10, .cmp .neq .i64 (.t 7) (.t 9), none⟩,
    ⟨some 11, .mov (.t 10), none⟩,
    ⟨some 12, .fa (.t 2) 1, some (11, false, false)⟩,
    ⟨some 13, .lload 0 (.t 12) (.one (.i .i64)), some (11, false, false)⟩,
    ⟨some 14, .fa (.t 3) 1, some (11, false, false)⟩,
    ⟨some 15, .lload 1 (.t 14) (.one (.i .i64)), some (11, false, false)⟩,
    ⟨some 16, .cmp .neq .i64 (.t 13) (.t 15), some (11, false, false)⟩,
    ⟨some 17, .pick (.t 11) (.c (.b true)) (.t 16), none⟩,
    ⟨some 18, .mov (.t 17), none⟩,
    ⟨some 19, .fa (.t 2) 2, some (18, false, false)⟩,
    ⟨some 20, .lload 0 (.t 19) (.agg 18), some (18, false, false)⟩,
    ⟨some 21, .fa (.t 3) 2, some (18, false, false)⟩,
    ⟨some 22, .lload 1 (.t 21) (.agg 18), some (18, false, false)⟩,
    ⟨some 23, .aeq true [.u64, .u64, .u64, .u64, .u64, .u64, .u64, .u64, .u64, .u64, .u64, .u64, .u64, .u64, .u64, .u64, .u64, .u64] (.t 20) (.t 22), some (18, false, false)⟩,
    ⟨some 24, .pick (.t 18) (.c (.b true)) (.t 23), none⟩,
    ⟨some 25, .mov (.t 24), none⟩,
    ⟨some 26, .fa (.t 2) 20, some (25, false, false)⟩,
    ⟨some 27, .lload 0 (.t 26) (.one (.sl 1)), some (25, false, false)⟩,
    ⟨some 28, .lenL (.t 27) 1, some (25, false, false)⟩,
    ⟨some 29, .fa (.t 3) 20, some (25, false, false)⟩,
    ⟨some 30, .lload 1 (.t 29) (.one (.sl 1)), some (25, false, false)⟩,
    ⟨some 31, .lenL (.t 30) 1, some (25, false, false)⟩,
    ⟨some 32, .cmp .neq .i64 (.t 28) (.t 31), some (25, false, false)⟩,
    ⟨some 33, .pick (.t 25) (.c (.b true)) (.t 32), none⟩])
  (.cond (.t 33) (.seq (.ops false [
    ⟨some 4, .mov (.c (.b false)), none⟩])
  (.ret)) (.skip)))
  (.seq (.seq (.ops false [
    ⟨some 5, .mov (.c (.i .i64 0)), none⟩])
  (.loopR 0 (.seq (.seq (.ops false [
    ⟨some 34, .mov (.t 5), none⟩,
    ⟨some 35, .fa (.t 2) 20, none⟩,
    ⟨some 36, .lload 0 (.t 35) (.one (.sl 1)), none⟩,
    ⟨some 37, .lenL (.t 36) 1, none⟩,
    ⟨some 38, .cmp .lss .i64 (.t 34) (.t 37), none⟩])
  (.cond (.t 38) (.skip) (.exit 0)))
  (.seq (.block 1 (.seq (.ops true [
    ⟨some 41, .fa (.t 2) 20, none⟩,
    ⟨some 42, .lload 0 (.t 41) (.one (.sl 1)), none⟩,
    ⟨some 43, .mov (.t 5), none⟩,
    ⟨some 44, .ixa (.t 42) (.t 43) .i64 1, none⟩,
    ⟨some 45, .iload (.t 44) (.one (.i .u64)), none⟩,
    ⟨some 46, .fa (.t 3) 20, none⟩,
    ⟨some 47, .lload 1 (.t 46) (.one (.sl 1)), none⟩,
    ⟨some 48, .mov (.t 5), none⟩,
    ⟨some 49, .ixa (.t 47) (.t 48) .i64 1, none⟩,
    ⟨some 50, .iload (.t 49) (.one (.i .u64)), none⟩,
    ⟨some 51, .cmp .neq .u64 (.t 45) (.t 50), none⟩])
  (.cond (.t 51) (.seq (.ops false [
    ⟨some 4, .mov (.c (.b false)), none⟩])
  (.ret)) (.skip))))
  (.ops false [
    ⟨some 39, .mov (.t 5), none⟩,
    ⟨some 40, .arith .add .i64 (.t 39) (.c (.i .i64 1)), none⟩,
    ⟨some 5, .mov (.t 40), none⟩]))) [⟨2, .loc, (.lpc 0)⟩, ⟨3, .loc, (.lpc 1)⟩, ⟨5, .glob, (.i .i64)⟩] [⟨0, 21, []⟩, ⟨1, 21, []⟩] [] [⟨4, .glob, .b⟩]))
  (.seq (.ops false [
    ⟨some 4, .mov (.c (.b true)), none⟩])
  (.ret))))
def fd_folkmootref6_SameSig : FD := ⟨52, 2, [.ag, .ag], [.tmp 4 .glob .b], c_folkmootref6_SameSig⟩
noncomputable def G_folkmootref6_SameSig (N : Nat) : Env := []
noncomputable def F_folkmootref6_SameSig (N : Nat) (v : List AV × List AV × Unit) (H : Heap) : Res (Bool × Unit) :=
  reqB (v.1.length == 21) (Tup.d [.b]) <| reqB (v.2.1.length == 21) (Tup.d [.b]) <| reqB ((nth v.1 0 .junk).isI .i64) (Tup.d [.b]) <| reqB ((nth v.2.1 0 .junk).isI .i64) (Tup.d [.b]) <| let t1 : Bool := COp.run ((nth v.1 0 .junk).num) ((nth v.2.1 0 .junk).num) .neq; reqG (!t1) ((nth v.1 1 .junk).isI .i64) <| req (imp (!t1) (!t1)) <| reqG (!t1) ((nth v.2.1 1 .junk).isI .i64) <| req (imp (!t1) (!t1)) <| req (imp (!t1) (!t1)) <| req (imp (!t1) (!t1)) <| let t2 : Bool := COp.run ((nth v.1 1 .junk).num) ((nth v.2.1 1 .junk).num) .neq; req (imp (!t1) (!t1)) <| req (imp (!(t1 || t2)) (!(t1 || t2))) <| req (imp (!(t1 || t2)) (!(t1 || t2))) <| reqG (!(t1 || t2)) (allI [.u64, .u64, .u64, .u64, .u64, .u64, .u64, .u64, .u64, .u64, .u64, .u64, .u64, .u64, .u64, .u64, .u64, .u64] (sub v.1 2 18)) <| reqG (!(t1 || t2)) (allI [.u64, .u64, .u64, .u64, .u64, .u64, .u64, .u64, .u64, .u64, .u64, .u64, .u64, .u64, .u64, .u64, .u64, .u64] (sub v.2.1 2 18)) <| req (imp (!(t1 || t2)) (!(t1 || t2))) <| req (imp (!(t1 || t2)) (!(t1 || t2))) <| let t3 : Bool := !(eqI 18 (sub v.1 2 18) (sub v.2.1 2 18)); req (imp (!(t1 || t2)) (!(t1 || t2))) <| reqG (!((t1 || t2) || t3)) ((nth v.1 20 .junk).isSl 1) <| req (imp (!((t1 || t2) || t3)) (!((t1 || t2) || t3))) <| req (imp (!((t1 || t2) || t3)) (!((t1 || t2) || t3))) <| let t4 : Int := (((nth v.1 20 .junk).els).length : Int); reqG (!((t1 || t2) || t3)) ((nth v.2.1 20 .junk).isSl 1) <| req (imp (!((t1 || t2) || t3)) (!((t1 || t2) || t3))) <| let t5 : List (List AV) := (nth v.2.1 20 .junk).els; req (imp (!((t1 || t2) || t3)) (!((t1 || t2) || t3))) <| req (imp (!((t1 || t2) || t3)) (!((t1 || t2) || t3))) <| req (imp (!((t1 || t2) || t3)) (!((t1 || t2) || t3))) <| let t6 : Bool := COp.run t4 (t5.length : Int) .neq; req (imp (!((t1 || t2) || t3)) (!((t1 || t2) || t3))) <| let t7 : Bool := (((t1 || t2) || t3) || t6); (match t7 with | true => (ok (false, ()) H) | false => (let r11 := iter (α := Unit × Unit × Int × List AV × List AV × Unit) (β := Sum (List AV × List AV × Unit) (Bool × List AV × List AV × Unit)) (Sum.inl (Tup.d [.ag, .ag])) (fun R9 v8 H10 => reqB ((nth v8.2.2.2.1 20 .junk).isSl 1) (Sum.inl (Tup.d [.ag, .ag])) <| let t12 : List (List AV) := (nth v8.2.2.2.1 20 .junk).els; let t13 : Bool := COp.run v8.2.2.1 (t12.length : Int) .lss; (match t13 with | true => (reqB ((nth v8.2.2.2.1 20 .junk).isSl 1) (Sum.inl (Tup.d [.ag, .ag])) <| let t14 : List (List AV) := (nth v8.2.2.2.1 20 .junk).els; reqB (inb v8.2.2.1 t14.length) (Sum.inl (Tup.d [.ag, .ag])) <| let t15 : List AV := nth t14 v8.2.2.1.toNat []; reqB ((nth t15 0 .junk).isI .u64) (Sum.inl (Tup.d [.ag, .ag])) <| reqB ((nth v8.2.2.2.2.1 20 .junk).isSl 1) (Sum.inl (Tup.d [.ag, .ag])) <| let t16 : List (List AV) := (nth v8.2.2.2.2.1 20 .junk).els; reqB (inb v8.2.2.1 t16.length) (Sum.inl (Tup.d [.ag, .ag])) <| let t17 : List AV := nth t16 v8.2.2.1.toNat []; reqB ((nth t17 0 .junk).isI .u64) (Sum.inl (Tup.d [.ag, .ag])) <| let t18 : Bool := COp.run ((nth t15 0 .junk).num) ((nth t17 0 .junk).num) .neq; (match t18 with | true => (ok (Sum.inr (false, v8.2.2.2.1, v8.2.2.2.2.1, ())) H10) | false => (let t19 : Int := AOp.run .i64 v8.2.2.1 1 .add; R9 ((), (), t19, v8.2.2.2.1, v8.2.2.2.2.1, ()) H10))) | false => (ok (Sum.inl (v8.2.2.2.1, v8.2.2.2.2.1, ())) H10))) N ((), (), 0, v.1, v.2.1, ()) H; req r11.pre <| sumElim r11.out (fun w20 => ok (true, ()) r11.H) (fun w21 => ok (w21.1, ()) r11.H)))
noncomputable def S_folkmootref6_SameSig (N : Nat) : Sem := ⟨[.ag, .ag], [.b], .glob, true, F_folkmootref6_SameSig N⟩
theorem den_folkmootref6_SameSig (N : Nat) (v : List AV × List AV × Unit) (H : Heap) : fd_folkmootref6_SameSig.sem N (G_folkmootref6_SameSig N) v H = F_folkmootref6_SameSig N v H := by kernel_rfl

/-! folkmoot/folkmootref15.SameStamp -/
def c_folkmootref15_SameStamp : C' :=
  .seq (.ops false [
    ⟨some 2, .lbox 0 24 (.t 0) false, none⟩,
    ⟨some 3, .lbox 1 24 (.t 1) false, none⟩,
    ⟨some 4, .mov (.c (.b false)), none⟩])
  (.seq (.ops false [
    ⟨some 5, .fa (.t 2) 0, none⟩,
    ⟨some 6, .lload 0 (.t 5) (.one (.i .u64)), none⟩,
    ⟨some 7, .fa (.t 3) 0, none⟩,
    ⟨some 8, .lload 1 (.t 7) (.one (.i .u64)), none⟩,
    ⟨some 9, .cmp .eql .u64 (.t 6) (.t 8), none⟩,
    ⟨some 10, .mov (.t 9), none⟩,
    ⟨some 11, .fa (.t 2) 1, some (10, true, false)⟩,
    ⟨some 12, .lload 0 (.t 11) (.one (.i .i64)), some (10, true, false)⟩,
    ⟨some 13, .fa (.t 3) 1, some (10, true, false)⟩,
    ⟨some 14, .lload 1 (.t 13) (.one (.i .i64)), some (10, true, false)⟩,
    ⟨some 15, .cmp .eql .i64 (.t 12) (.t 14), some (10, true, false)⟩,
    ⟨some 16, .pick (.t 10) (.t 15) (.c (.b false)), none⟩,
    ⟨some 17, .mov (.t 16), none⟩,
    ⟨some 18, .fa (.t 2) 2, some (17, true, false)⟩,
    ⟨some 19, .lload 0 (.t 18) (.one (.i .i64)), some (17, true, false)⟩,
    ⟨some 20, .fa (.t 3) 2, some (17, true, false)⟩,
    ⟨some 21, .lload 1 (.t 20) (.one (.i .i64)), some (17, true, false)⟩,
    ⟨some 22, .cmp .eql .i64 (.t 19) (.t 21), some (17, true, false)⟩,
    ⟨some 23, .pick (.t 17) (.t 22) (.c (.b false)), none⟩,
    ⟨some 24, .mov (.t 23), none⟩,
    ⟨some 25, .fa (.t 2) 3, some (24, true, false)⟩,
    ⟨some 26, .lload 0 (.t 25) (.agg 21), some (24, true, false)⟩,
    ⟨some 27, .fa (.t 3) 3, some (24, true, false)⟩,
    ⟨some 28, .lload 1 (.t 27) (.agg 21), some (24, true, false)⟩,
    ⟨some 29, .call true false 40 [(.t 26), (.t 28)], some (24, true, false)⟩,
    ⟨some 30, .pick (.t 24) (.t 29) (.c (.b false)), none⟩,
    ⟨some 4, .mov (.t 30), none⟩])
  (.ret))
def fd_folkmootref15_SameStamp : FD := ⟨31, 2, [.ag, .ag], [.tmp 4 .glob .b], c_folkmootref15_SameStamp⟩
noncomputable def G_folkmootref15_SameStamp (N : Nat) : Env := [(40, S_folkmootref6_SameSig N)]
noncomputable def F_folkmootref15_SameStamp (N : Nat) (v : List AV × List AV × Unit) (H : Heap) : Res (Bool × Unit) :=
  reqB (v.1.length == 24) (Tup.d [.b]) <| reqB (v.2.1.length == 24) (Tup.d [.b]) <| reqB ((nth v.1 0 .junk).isI .u64) (Tup.d [.b]) <| reqB ((nth v.2.1 0 .junk).isI .u64) (Tup.d [.b]) <| let t1 : Bool := COp.run ((nth v.1 0 .junk).num) ((nth v.2.1 0 .junk).num) .eql; reqG (t1) ((nth v.1 1 .junk).isI .i64) <| req (imp t1 t1) <| reqG (t1) ((nth v.2.1 1 .junk).isI .i64) <| req (imp t1 t1) <| req (imp t1 t1) <| req (imp t1 t1) <| let t2 : Bool := COp.run ((nth v.1 1 .junk).num) ((nth v.2.1 1 .junk).num) .eql; req (imp t1 t1) <| reqG ((t1 && t2)) ((nth v.1 2 .junk).isI .i64) <| req (imp (t1 && t2) (t1 && t2)) <| reqG ((t1 && t2)) ((nth v.2.1 2 .junk).isI .i64) <| req (imp (t1 && t2) (t1 && t2)) <| req (imp (t1 && t2) (t1 && t2)) <| req (imp (t1 && t2) (t1 && t2)) <| let t3 : Bool := COp.run ((nth v.1 2 .junk).num) ((nth v.2.1 2 .junk).num) .eql; req (imp (t1 && t2) (t1 && t2)) <| req (imp ((t1 && t2) && t3) ((t1 && t2) && t3)) <| req (imp ((t1 && t2) && t3) ((t1 && t2) && t3)) <| let r4 := F_folkmootref6_SameSig N (sub v.1 3 21, sub v.2.1 3 21, ()) H; req (imp ((t1 && t2) && t3) ((t1 && t2) && t3)) <| req (imp ((t1 && t2) && t3) ((t1 && t2) && t3)) <| req (imp ((t1 && t2) && t3) r4.pre) <| req (imp ((t1 && t2) && t3) ((t1 && t2) && t3)) <| let t5 : Bool := (((t1 && t2) && t3) && r4.out.1); ok (t5, ()) H
noncomputable def S_folkmootref15_SameStamp (N : Nat) : Sem := ⟨[.ag, .ag], [.b], .glob, true, F_folkmootref15_SameStamp N⟩
theorem den_folkmootref15_SameStamp (N : Nat) (v : List AV × List AV × Unit) (H : Heap) : fd_folkmootref15_SameStamp.sem N (G_folkmootref15_SameStamp N) v H = F_folkmootref15_SameStamp N v H := by kernel_rfl

/-! folkmoot/folkmootref15.SameCert -/
def c_folkmootref15_SameCert : C' :=
  .seq (.ops false [
    ⟨some 2, .lbox 0 6 (.t 0) false, none⟩,
    ⟨some 3, .lbox 1 6 (.t 1) false, none⟩,
    ⟨some 4, .mov (.c (.b false)), none⟩])
  (.seq (.seq (.ops false [
    ⟨some 6, .fa (.t 2) 0, none⟩,
    ⟨some 7, .lload 0 (.t 6) (.agg 5), none⟩,
    ⟨some 8, .fa (.t 3) 0, none⟩,
    ⟨some 9, .lload 1 (.t 8) (.agg 5), none⟩,
    ⟨some 10, .aeq true [.i64, .i64, .i64, .i64, .i64] (.t 7) (.t 9), none⟩,
    ⟨some 11, .mov (.t 10), none⟩,
    ⟨some 12, .fa (.t 2) 5, some (11, false, false)⟩,
    ⟨some 13, .lload 0 (.t 12) (.one (.sl 24)), some (11, false, false)⟩,
    ⟨some 14, .lenL (.t 13) 24, some (11, false, false)⟩,
    ⟨some 15, .fa (.t 3) 5, some (11, false, false)⟩,
    ⟨some 16, .lload 1 (.t 15) (.one (.sl 24)), some (11, false, false)⟩,
    ⟨some 17, .lenL (.t 16) 24, some (11, false, false)⟩,
    ⟨some 18, .cmp .neq .i64 (.t 14) (.t 17), some (11, false, false)⟩,
    ⟨some 19, .pick (.t 11) (.c (.b true)) (.t 18), none⟩])
  (.cond (.t 19) (.seq (.ops false [
    ⟨some 4, .mov (.c (.b false)), none⟩])
  (.ret)) (.skip)))
  (.seq (.seq (.ops false [
    ⟨some 5, .mov (.c (.i .i64 0)), none⟩])
  (.loopR 0 (.seq (.seq (.ops false [
    ⟨some 20, .mov (.t 5), none⟩,
    ⟨some 21, .fa (.t 2) 5, none⟩,
    ⟨some 22, .lload 0 (.t 21) (.one (.sl 24)), none⟩,
    ⟨some 23, .lenL (.t 22) 24, none⟩,
    ⟨some 24, .cmp .lss .i64 (.t 20) (.t 23), none⟩])
  (.cond (.t 24) (.skip) (.exit 0)))
  (.seq (.block 1 (.seq (.ops true [
    ⟨some 27, .fa (.t 2) 5, none⟩,
    ⟨some 28, .lload 0 (.t 27) (.one (.sl 24)), none⟩,
    ⟨some 29, .mov (.t 5), none⟩,
    ⟨some 30, .ixa (.t 28) (.t 29) .i64 24, none⟩,
    ⟨some 31, .iload (.t 30) (.agg 24), none⟩,
    ⟨some 32, .fa (.t 3) 5, none⟩,
    ⟨some 33, .lload 1 (.t 32) (.one (.sl 24)), none⟩,
    ⟨some 34, .mov (.t 5), none⟩,
    ⟨some 35, .ixa (.t 33) (.t 34) .i64 24, none⟩,
    ⟨some 36, .iload (.t 35) (.agg 24), none⟩,
    ⟨some 37, .call true false 38 [(.t 31), (.t 36)], none⟩,
    ⟨some 38, .not (.t 37), none⟩])
  (.cond (.t 38) (.seq (.ops false [
    ⟨some 4, .mov (.c (.b false)), none⟩])
  (.ret)) (.skip))))
  (.ops false [
    ⟨some 25, .mov (.t 5), none⟩,
    ⟨some 26, .arith .add .i64 (.t 25) (.c (.i .i64 1)), none⟩,
    ⟨some 5, .mov (.t 26), none⟩]))) [⟨2, .loc, (.lpc 0)⟩, ⟨3, .loc, (.lpc 1)⟩, ⟨5, .glob, (.i .i64)⟩] [⟨0, 6, []⟩, ⟨1, 6, []⟩] [] [⟨4, .glob, .b⟩]))
  (.seq (.ops false [
    ⟨some 4, .mov (.c (.b true)), none⟩])
  (.ret))))
def fd_folkmootref15_SameCert : FD := ⟨39, 2, [.ag, .ag], [.tmp 4 .glob .b], c_folkmootref15_SameCert⟩
noncomputable def G_folkmootref15_SameCert (N : Nat) : Env := [(38, S_folkmootref15_SameStamp N)]
noncomputable def F_folkmootref15_SameCert (N : Nat) (v : List AV × List AV × Unit) (H : Heap) : Res (Bool × Unit) :=
  reqB (v.1.length == 6) (Tup.d [.b]) <| reqB (v.2.1.length == 6) (Tup.d [.b]) <| reqB (allI [.i64, .i64, .i64, .i64, .i64] (sub v.1 0 5)) (Tup.d [.b]) <| reqB (allI [.i64, .i64, .i64, .i64, .i64] (sub v.2.1 0 5)) (Tup.d [.b]) <| let t1 : Bool := !(eqI 5 (sub v.1 0 5) (sub v.2.1 0 5)); reqG (!t1) ((nth v.1 5 .junk).isSl 24) <| req (imp (!t1) (!t1)) <| req (imp (!t1) (!t1)) <| let t2 : Int := (((nth v.1 5 .junk).els).length : Int); reqG (!t1) ((nth v.2.1 5 .junk).isSl 24) <| req (imp (!t1) (!t1)) <| req (imp (!t1) (!t1)) <| let t3 : Int := (((nth v.2.1 5 .junk).els).length : Int); req (imp (!t1) (!t1)) <| req (imp (!t1) (!t1)) <| req (imp (!t1) (!t1)) <| let t4 : Bool := (t1 || (COp.run t2 t3 .neq)); (match t4 with | true => (ok (false, ()) H) | false => (let r8 := iter (α := Unit × Unit × Int × List AV × List AV × Unit) (β := Sum (List AV × List AV × Unit) (Bool × List AV × List AV × Unit)) (Sum.inl (Tup.d [.ag, .ag])) (fun R6 v5 H7 => reqB ((nth v5.2.2.2.1 5 .junk).isSl 24) (Sum.inl (Tup.d [.ag, .ag])) <| let t9 : List (List AV) := (nth v5.2.2.2.1 5 .junk).els; let t10 : Bool := COp.run v5.2.2.1 (t9.length : Int) .lss; (match t10 with | true => (reqB ((nth v5.2.2.2.1 5 .junk).isSl 24) (Sum.inl (Tup.d [.ag, .ag])) <| let t11 : List (List AV) := (nth v5.2.2.2.1 5 .junk).els; reqB (inb v5.2.2.1 t11.length) (Sum.inl (Tup.d [.ag, .ag])) <| let t12 : List AV := nth t11 v5.2.2.1.toNat []; reqB ((nth v5.2.2.2.2.1 5 .junk).isSl 24) (Sum.inl (Tup.d [.ag, .ag])) <| let t13 : List (List AV) := (nth v5.2.2.2.2.1 5 .junk).els; reqB (inb v5.2.2.1 t13.length) (Sum.inl (Tup.d [.ag, .ag])) <| let t14 : List AV := nth t13 v5.2.2.1.toNat []; let r15 := F_folkmootref15_SameStamp N (t12, t14, ()) H7; req (r15.pre) <| (match !r15.out.1 with | true => (ok (Sum.inr (false, v5.2.2.2.1, v5.2.2.2.2.1, ())) H7) | false => (let t16 : Int := AOp.run .i64 v5.2.2.1 1 .add; R6 ((), (), t16, v5.2.2.2.1, v5.2.2.2.2.1, ()) H7))) | false => (ok (Sum.inl (v5.2.2.2.1, v5.2.2.2.2.1, ())) H7))) N ((), (), 0, v.1, v.2.1, ()) H; req r8.pre <| sumElim r8.out (fun w17 => ok (true, ()) r8.H) (fun w18 => ok (w18.1, ()) r8.H)))
noncomputable def S_folkmootref15_SameCert (N : Nat) : Sem := ⟨[.ag, .ag], [.b], .glob, true, F_folkmootref15_SameCert N⟩
theorem den_folkmootref15_SameCert (N : Nat) (v : List AV × List AV × Unit) (H : Heap) : fd_folkmootref15_SameCert.sem N (G_folkmootref15_SameCert N) v H = F_folkmootref15_SameCert N v H := by kernel_rfl

/-! folkmoot/folkmootref15.SameReport -/
def c_folkmootref15_SameReport : C' :=
  .seq (.ops false [
    ⟨some 2, .lbox 0 25 (.t 0) false, none⟩,
    ⟨some 3, .lbox 1 25 (.t 1) false, none⟩,
    ⟨some 4, .mov (.c (.b false)), none⟩])
  (.seq (.seq (.ops false [
    ⟨some 6, .fa (.t 2) 0, none⟩,
    ⟨some 7, .lload 0 (.t 6) (.one (.i .i64)), none⟩,
    ⟨some 8, .fa (.t 3) 0, none⟩,
    ⟨some 9, .lload 1 (.t 8) (.one (.i .i64)), none⟩,
    ⟨some 10, .cmp .neq .i64 (.t 7) (.t 9), none⟩,
    ⟨some 11, .mov (.t 10), none⟩,
    ⟨some 12, .fa (.t 2) 1, some (11, false, false)⟩,
    ⟨some 13, .lload 0 (.t 12) (.one (.i .i64)), some (11, false, false)⟩,
    ⟨some 14, .fa (.t 3) 1, some (11, false, false)⟩,
    ⟨some 15, .lload 1 (.t 14) (.one (.i .i64)), some (11, false, false)⟩,
    ⟨some 16, .cmp .neq .i64 (.t 13) (.t 15), some (11, false, false)⟩,
    ⟨some 17, .pick (.t 11) (.c (.b true)) (.t 16), none⟩,
    ⟨some 18, .mov (.t 17), none⟩,
    ⟨some 19, .fa (.t 2) 2, some (18, false, false)⟩,
    ⟨some 20, .lload 0 (.t 19) (.one (.i .i64)), some (18, false, false)⟩,
    ⟨some 21, .fa (.t 3) 2, some (18, false, false)⟩,
    ⟨some 22, .lload 1 (.t 21) (.one (.i .i64)), some (18, false, false)⟩,
    ⟨some 23, .cmp .neq .i64 (.t 20) (.t 22), some (18, false, false)⟩,
    ⟨some 24, .pick (.t 18) (.c (.b true)) (.t 23), none⟩,
    ⟨some 25, .mov (.t 24), none⟩,
    ⟨some 26, .fa (.t 2) 3, some (25, false, false)⟩,
    ⟨some 27, .lload 0 (.t 26) (.one (.sl 6)), some (25, false, false)⟩,
    ⟨some 28, .lenL (.t 27) 6, some (25, false, false)⟩,
    ⟨some 29, .fa (.t 3) 3, some (25, false, false)⟩,
    ⟨some 30, .lload 1 (.t 29) (.one (.sl 6)), some (25, false, false)⟩,
    ⟨some 31, .lenL (.t 30) 6, some (25, false, false)⟩,
    ⟨some 32, .cmp .neq .i64 (.t 28) (.t 31), some (25, false, false)⟩,
    ⟨some 33, .pick (.t 25) (.c (.b true)) (.t 32), none⟩,
    ⟨some 34, .mov (.t 33), none⟩,
    ⟨some 35, .fa (.t 2) 4, some (34, false, false)⟩,
    ⟨some 36, .lload 0 (.t 35) (.agg 21), some (34, false, false)⟩,
    ⟨some 37, .fa (.t 3) 4, some (34, false, false)⟩,
    ⟨some 38, .lload 1 (.t 37) (.agg 21), some (34, false, false)⟩,
    ⟨some 39, .call true false 40 [(.t 36), (.t 38)], some (34, false, false)⟩,
    ⟨some 40, .not (.t 39), some (34, false, false)⟩,
    ⟨some 41, .pick (.t 34) (.c (.b true)) (.t 40), none⟩])
  (.cond (.t 41) (.seq (.ops false [
    ⟨some 4, .mov (.c (.b false)), none⟩])
  (.ret)) (.skip)))
  (.seq (.seq (.ops false [
    ⟨some 5, .mov (.c (.i .i64 0)), none⟩])
  (.loopR 0 (.seq (.seq (.ops false [
    ⟨some 42, .mov (.t 5), none⟩,
    ⟨some 43, .fa (.t 2) 3, none⟩,
    ⟨some 44, .lload 0 (.t 43) (.one (.sl 6)), none⟩,
    ⟨some 45, .lenL (.t 44) 6, none⟩,
    ⟨some 46, .cmp .lss .i64 (.t 42) (.t 45), none⟩])
  (.cond (.t 46) (.skip) (.exit 0)))
  (.seq (.block 1 (.seq (.ops true [
    ⟨some 49, .fa (.t 2) 3, none⟩,
    ⟨some 50, .lload 0 (.t 49) (.one (.sl 6)), none⟩,
    ⟨some 51, .mov (.t 5), none⟩,
    ⟨some 52, .ixa (.t 50) (.t 51) .i64 6, none⟩,
    ⟨some 53, .iload (.t 52) (.agg 6), none⟩,
    ⟨some 54, .fa (.t 3) 3, none⟩,
    ⟨some 55, .lload 1 (.t 54) (.one (.sl 6)), none⟩,
    ⟨some 56, .mov (.t 5), none⟩,
    ⟨some 57, .ixa (.t 55) (.t 56) .i64 6, none⟩,
    ⟨some 58, .iload (.t 57) (.agg 6), none⟩,
    ⟨some 59, .call true false 39 [(.t 53), (.t 58)], none⟩,
    ⟨some 60, .not (.t 59), none⟩])
  (.cond (.t 60) (.seq (.ops false [
    ⟨some 4, .mov (.c (.b false)), none⟩])
  (.ret)) (.skip))))
  (.ops false [
    ⟨some 47, .mov (.t 5), none⟩,
    ⟨some 48, .arith .add .i64 (.t 47) (.c (.i .i64 1)), none⟩,
    ⟨some 5, .mov (.t 48), none⟩]))) [⟨2, .loc, (.lpc 0)⟩, ⟨3, .loc, (.lpc 1)⟩, ⟨5, .glob, (.i .i64)⟩] [⟨0, 25, []⟩, ⟨1, 25, []⟩] [] [⟨4, .glob, .b⟩]))
  (.seq (.ops false [
    ⟨some 4, .mov (.c (.b true)), none⟩])
  (.ret))))
def fd_folkmootref15_SameReport : FD := ⟨61, 2, [.ag, .ag], [.tmp 4 .glob .b], c_folkmootref15_SameReport⟩
noncomputable def G_folkmootref15_SameReport (N : Nat) : Env := [(39, S_folkmootref15_SameCert N), (40, S_folkmootref6_SameSig N)]
noncomputable def F_folkmootref15_SameReport (N : Nat) (v : List AV × List AV × Unit) (H : Heap) : Res (Bool × Unit) :=
  reqB (v.1.length == 25) (Tup.d [.b]) <| reqB (v.2.1.length == 25) (Tup.d [.b]) <| reqB ((nth v.1 0 .junk).isI .i64) (Tup.d [.b]) <| reqB ((nth v.2.1 0 .junk).isI .i64) (Tup.d [.b]) <| let t1 : Bool := COp.run ((nth v.1 0 .junk).num) ((nth v.2.1 0 .junk).num) .neq; reqG (!t1) ((nth v.1 1 .junk).isI .i64) <| req (imp (!t1) (!t1)) <| reqG (!t1) ((nth v.2.1 1 .junk).isI .i64) <| req (imp (!t1) (!t1)) <| req (imp (!t1) (!t1)) <| req (imp (!t1) (!t1)) <| let t2 : Bool := COp.run ((nth v.1 1 .junk).num) ((nth v.2.1 1 .junk).num) .neq; req (imp (!t1) (!t1)) <| reqG (!(t1 || t2)) ((nth v.1 2 .junk).isI .i64) <| req (imp (!(t1 || t2)) (!(t1 || t2))) <| reqG (!(t1 || t2)) ((nth v.2.1 2 .junk).isI .i64) <| req (imp (!(t1 || t2)) (!(t1 || t2))) <| req (imp (!(t1 || t2)) (!(t1 || t2))) <| req (imp (!(t1 || t2)) (!(t1 || t2))) <| let t3 : Bool := COp.run ((nth v.1 2 .junk).num) ((nth v.2.1 2 .junk).num) .neq; req (imp (!(t1 || t2)) (!(t1 || t2))) <| reqG (!((t1 || t2) || t3)) ((nth v.1 3 .junk).isSl 6) <| req (imp (!((t1 || t2) || t3)) (!((t1 || t2) || t3))) <| req (imp (!((t1 || t2) || t3)) (!((t1 || t2) || t3))) <| let t4 : Int := (((nth v.1 3 .junk).els).length : Int); reqG (!((t1 || t2) || t3)) ((nth v.2.1 3 .junk).isSl 6) <| req (imp (!((t1 || t2) || t3)) (!((t1 || t2) || t3))) <| req (imp (!((t1 || t2) || t3)) (!((t1 || t2) || t3))) <| let t5 : Int := (((nth v.2.1 3 .junk).els).length : Int); req (imp (!((t1 || t2) || t3)) (!((t1 || t2) || t3))) <| req (imp (!((t1 || t2) || t3)) (!((t1 || t2) || t3))) <| req (imp (!((t1 || t2) || t3)) (!((t1 || t2) || t3))) <| let t6 : Bool := (((t1 || t2) || t3) || (COp.run t4 t5 .neq)); req (imp (!t6) (!t6)) <| req (imp (!t6) (!t6)) <| let r7 := F_folkmootref6_SameSig N (sub v.1 4 21, sub v.2.1 4 21, ()) H; req (imp (!t6) (!t6)) <| req (imp (!t6) (!t6)) <| req (imp (!t6) r7.pre) <| req (imp (!t6) (!t6)) <| req (imp (!t6) (!t6)) <| (match (t6 || (!r7.out.1)) with | true => (ok (false, ()) H) | false => (let r11 := iter (α := Unit × Unit × Int × List AV × List AV × Unit) (β := Sum (List AV × List AV × Unit) (Bool × List AV × List AV × Unit)) (Sum.inl (Tup.d [.ag, .ag])) (fun R9 v8 H10 => reqB ((nth v8.2.2.2.1 3 .junk).isSl 6) (Sum.inl (Tup.d [.ag, .ag])) <| let t12 : List (List AV) := (nth v8.2.2.2.1 3 .junk).els; let t13 : Bool := COp.run v8.2.2.1 (t12.length : Int) .lss; (match t13 with | true => (reqB ((nth v8.2.2.2.1 3 .junk).isSl 6) (Sum.inl (Tup.d [.ag, .ag])) <| let t14 : List (List AV) := (nth v8.2.2.2.1 3 .junk).els; reqB (inb v8.2.2.1 t14.length) (Sum.inl (Tup.d [.ag, .ag])) <| let t15 : List AV := nth t14 v8.2.2.1.toNat []; reqB ((nth v8.2.2.2.2.1 3 .junk).isSl 6) (Sum.inl (Tup.d [.ag, .ag])) <| let t16 : List (List AV) := (nth v8.2.2.2.2.1 3 .junk).els; reqB (inb v8.2.2.1 t16.length) (Sum.inl (Tup.d [.ag, .ag])) <| let t17 : List AV := nth t16 v8.2.2.1.toNat []; let r18 := F_folkmootref15_SameCert N (t15, t17, ()) H10; req (r18.pre) <| (match !r18.out.1 with | true => (ok (Sum.inr (false, v8.2.2.2.1, v8.2.2.2.2.1, ())) H10) | false => (let t19 : Int := AOp.run .i64 v8.2.2.1 1 .add; R9 ((), (), t19, v8.2.2.2.1, v8.2.2.2.2.1, ()) H10))) | false => (ok (Sum.inl (v8.2.2.2.1, v8.2.2.2.2.1, ())) H10))) N ((), (), 0, v.1, v.2.1, ()) H; req r11.pre <| sumElim r11.out (fun w20 => ok (true, ()) r11.H) (fun w21 => ok (w21.1, ()) r11.H)))
noncomputable def S_folkmootref15_SameReport (N : Nat) : Sem := ⟨[.ag, .ag], [.b], .glob, true, F_folkmootref15_SameReport N⟩
theorem den_folkmootref15_SameReport (N : Nat) (v : List AV × List AV × Unit) (H : Heap) : fd_folkmootref15_SameReport.sem N (G_folkmootref15_SameReport N) v H = F_folkmootref15_SameReport N v H := by kernel_rfl

/-! folkmoot/folkmootref21.SameVote -/
def c_folkmootref21_SameVote : C' :=
  .seq (.ops false [
    ⟨some 2, .lbox 0 24 (.t 0) false, none⟩,
    ⟨some 3, .lbox 1 24 (.t 1) false, none⟩,
    ⟨some 4, .mov (.c (.b false)), none⟩])
  (.seq (.ops false [
    ⟨some 5, .fa (.t 2) 0, none⟩,
    ⟨some 6, .lload 0 (.t 5) (.one (.i .i64)), none⟩,
    ⟨some 7, .fa (.t 3) 0, none⟩,
    ⟨some 8, .lload 1 (.t 7) (.one (.i .i64)), none⟩,
    ⟨some 9, .cmp .eql .i64 (.t 6) (.t 8), none⟩,
    ⟨some 10, .mov (.t 9), none⟩,
    ⟨some 11, .fa (.t 2) 1, some (10, true, false)⟩,
    ⟨some 12, .lload 0 (.t 11) (.one (.i .u64)), some (10, true, false)⟩,
    ⟨some 13, .fa (.t 3) 1, some (10, true, false)⟩,
    ⟨some 14, .lload 1 (.t 13) (.one (.i .u64)), some (10, true, false)⟩,
    ⟨some 15, .cmp .eql .u64 (.t 12) (.t 14), some (10, true, false)⟩,
    ⟨some 16, .pick (.t 10) (.t 15) (.c (.b false)), none⟩,
    ⟨some 17, .mov (.t 16), none⟩,
    ⟨some 18, .fa (.t 2) 2, some (17, true, false)⟩,
    ⟨some 19, .lload 0 (.t 18) (.one (.i .i64)), some (17, true, false)⟩,
    ⟨some 20, .fa (.t 3) 2, some (17, true, false)⟩,
    ⟨some 21, .lload 1 (.t 20) (.one (.i .i64)), some (17, true, false)⟩,
    ⟨some 22, .cmp .eql .i64 (.t 19) (.t 21), some (17, true, false)⟩,
    ⟨some 23, .pick (.t 17) (.t 22) (.c (.b false)), none⟩,
    ⟨some 24, .mov (.t 23), none⟩,
    ⟨some 25, .fa (.t 2) 3, some (24, true, false)⟩,
    ⟨some 26, .lload 0 (.t 25) (.agg 21), some (24, true, false)⟩,
    ⟨some 27, .fa (.t 3) 3, some (24, true, false)⟩,
    ⟨some 28, .lload 1 (.t 27) (.agg 21), some (24, true, false)⟩,
    ⟨some 29, .call true false 40 [(.t 26), (.t 28)], some (24, true, false)⟩,
    ⟨some 30, .pick (.t 24) (.t 29) (.c (.b false)), none⟩,
    ⟨some 4, .mov (.t 30), none⟩])
  (.ret))
def fd_folkmootref21_SameVote : FD := ⟨31, 2, [.ag, .ag], [.tmp 4 .glob .b], c_folkmootref21_SameVote⟩
noncomputable def G_folkmootref21_SameVote (N : Nat) : Env := [(40, S_folkmootref6_SameSig N)]
noncomputable def F_folkmootref21_SameVote (N : Nat) (v : List AV × List AV × Unit) (H : Heap) : Res (Bool × Unit) :=
  reqB (v.1.length == 24) (Tup.d [.b]) <| reqB (v.2.1.length == 24) (Tup.d [.b]) <| reqB ((nth v.1 0 .junk).isI .i64) (Tup.d [.b]) <| reqB ((nth v.2.1 0 .junk).isI .i64) (Tup.d [.b]) <| let t1 : Bool := COp.run ((nth v.1 0 .junk).num) ((nth v.2.1 0 .junk).num) .eql; reqG (t1) ((nth v.1 1 .junk).isI .u64) <| req (imp t1 t1) <| reqG (t1) ((nth v.2.1 1 .junk).isI .u64) <| req (imp t1 t1) <| req (imp t1 t1) <| req (imp t1 t1) <| let t2 : Bool := COp.run ((nth v.1 1 .junk).num) ((nth v.2.1 1 .junk).num) .eql; req (imp t1 t1) <| reqG ((t1 && t2)) ((nth v.1 2 .junk).isI .i64) <| req (imp (t1 && t2) (t1 && t2)) <| reqG ((t1 && t2)) ((nth v.2.1 2 .junk).isI .i64) <| req (imp (t1 && t2) (t1 && t2)) <| req (imp (t1 && t2) (t1 && t2)) <| req (imp (t1 && t2) (t1 && t2)) <| let t3 : Bool := COp.run ((nth v.1 2 .junk).num) ((nth v.2.1 2 .junk).num) .eql; req (imp (t1 && t2) (t1 && t2)) <| req (imp ((t1 && t2) && t3) ((t1 && t2) && t3)) <| req (imp ((t1 && t2) && t3) ((t1 && t2) && t3)) <| let r4 := F_folkmootref6_SameSig N (sub v.1 3 21, sub v.2.1 3 21, ()) H; req (imp ((t1 && t2) && t3) ((t1 && t2) && t3)) <| req (imp ((t1 && t2) && t3) ((t1 && t2) && t3)) <| req (imp ((t1 && t2) && t3) r4.pre) <| req (imp ((t1 && t2) && t3) ((t1 && t2) && t3)) <| let t5 : Bool := (((t1 && t2) && t3) && r4.out.1); ok (t5, ()) H
noncomputable def S_folkmootref21_SameVote (N : Nat) : Sem := ⟨[.ag, .ag], [.b], .glob, true, F_folkmootref21_SameVote N⟩
theorem den_folkmootref21_SameVote (N : Nat) (v : List AV × List AV × Unit) (H : Heap) : fd_folkmootref21_SameVote.sem N (G_folkmootref21_SameVote N) v H = F_folkmootref21_SameVote N v H := by kernel_rfl

/-! folkmoot/folkmootref21.SameQC -/
def c_folkmootref21_SameQC : C' :=
  .seq (.ops false [
    ⟨some 2, .lbox 0 3 (.t 0) false, none⟩,
    ⟨some 3, .lbox 1 3 (.t 1) false, none⟩,
    ⟨some 4, .mov (.c (.b false)), none⟩])
  (.seq (.seq (.ops false [
    ⟨some 6, .fa (.t 2) 0, none⟩,
    ⟨some 7, .lload 0 (.t 6) (.one (.i .i64)), none⟩,
    ⟨some 8, .fa (.t 3) 0, none⟩,
    ⟨some 9, .lload 1 (.t 8) (.one (.i .i64)), none⟩,
    ⟨some 10, .cmp .neq .i64 (.t 7) (.t 9), none⟩,
    ⟨some 11, .mov (.t 10), none⟩,
    ⟨some 12, .fa (.t 2) 1, some (11, false, false)⟩,
    ⟨some 13, .lload 0 (.t 12) (.one (.i .u64)), some (11, false, false)⟩,
    ⟨some 14, .fa (.t 3) 1, some (11, false, false)⟩,
    ⟨some 15, .lload 1 (.t 14) (.one (.i .u64)), some (11, false, false)⟩,
    ⟨some 16, .cmp .neq .u64 (.t 13) (.t 15), some (11, false, false)⟩,
    ⟨some 17, .pick (.t 11) (.c (.b true)) (.t 16), none⟩,
    ⟨some 18, .mov (.t 17), none⟩,
    ⟨some 19, .fa (.t 2) 2, some (18, false, false)⟩,
    ⟨some 20, .lload 0 (.t 19) (.one (.sl 24)), some (18, false, false)⟩,
    ⟨some 21, .lenL (.t 20) 24, some (18, false, false)⟩,
    ⟨some 22, .fa (.t 3) 2, some (18, false, false)⟩,
    ⟨some 23, .lload 1 (.t 22) (.one (.sl 24)), some (18, false, false)⟩,
    ⟨some 24, .lenL (.t 23) 24, some (18, false, false)⟩,
    ⟨some 25, .cmp .neq .i64 (.t 21) (.t 24), some (18, false, false)⟩,
    ⟨some 26, .pick (.t 18) (.c (.b true)) (.t 25), none⟩])
  (.cond (.t 26) (.seq (.ops false [
    ⟨some 4, .mov (.c (.b false)), none⟩])
  (.ret)) (.skip)))
  (.seq (.seq (.ops false [
    ⟨some 5, .mov (.c (.i .i64 0)), none⟩])
  (.loopR 0 (.seq (.seq (.ops false [
    ⟨some 27, .mov (.t 5), none⟩,
    ⟨some 28, .fa (.t 2) 2, none⟩,
    ⟨some 29, .lload 0 (.t 28) (.one (.sl 24)), none⟩,
    ⟨some 30, .lenL (.t 29) 24, none⟩,
    ⟨some 31, .cmp .lss .i64 (.t 27) (.t 30), none⟩])
  (.cond (.t 31) (.skip) (.exit 0)))
  (.seq (.block 1 (.seq (.ops true [
    ⟨some 34, .fa (.t 2) 2, none⟩,
    ⟨some 35, .lload 0 (.t 34) (.one (.sl 24)), none⟩,
    ⟨some 36, .mov (.t 5), none⟩,
    ⟨some 37, .ixa (.t 35) (.t 36) .i64 24, none⟩,
    ⟨some 38, .iload (.t 37) (.agg 24), none⟩,
    ⟨some 39, .fa (.t 3) 2, none⟩,
    ⟨some 40, .lload 1 (.t 39) (.one (.sl 24)), none⟩,
    ⟨some 41, .mov (.t 5), none⟩,
    ⟨some 42, .ixa (.t 40) (.t 41) .i64 24, none⟩,
    ⟨some 43, .iload (.t 42) (.agg 24), none⟩,
    ⟨some 44, .call true false 42 [(.t 38), (.t 43)], none⟩,
    ⟨some 45, .not (.t 44), none⟩])
  (.cond (.t 45) (.seq (.ops false [
    ⟨some 4, .mov (.c (.b false)), none⟩])
  (.ret)) (.skip))))
  (.ops false [
    ⟨some 32, .mov (.t 5), none⟩,
    ⟨some 33, .arith .add .i64 (.t 32) (.c (.i .i64 1)), none⟩,
    ⟨some 5, .mov (.t 33), none⟩]))) [⟨2, .loc, (.lpc 0)⟩, ⟨3, .loc, (.lpc 1)⟩, ⟨5, .glob, (.i .i64)⟩] [⟨0, 3, []⟩, ⟨1, 3, []⟩] [] [⟨4, .glob, .b⟩]))
  (.seq (.ops false [
    ⟨some 4, .mov (.c (.b true)), none⟩])
  (.ret))))
def fd_folkmootref21_SameQC : FD := ⟨46, 2, [.ag, .ag], [.tmp 4 .glob .b], c_folkmootref21_SameQC⟩
noncomputable def G_folkmootref21_SameQC (N : Nat) : Env := [(42, S_folkmootref21_SameVote N)]
noncomputable def F_folkmootref21_SameQC (N : Nat) (v : List AV × List AV × Unit) (H : Heap) : Res (Bool × Unit) :=
  reqB (v.1.length == 3) (Tup.d [.b]) <| reqB (v.2.1.length == 3) (Tup.d [.b]) <| reqB ((nth v.1 0 .junk).isI .i64) (Tup.d [.b]) <| reqB ((nth v.2.1 0 .junk).isI .i64) (Tup.d [.b]) <| let t1 : Bool := COp.run ((nth v.1 0 .junk).num) ((nth v.2.1 0 .junk).num) .neq; reqG (!t1) ((nth v.1 1 .junk).isI .u64) <| req (imp (!t1) (!t1)) <| reqG (!t1) ((nth v.2.1 1 .junk).isI .u64) <| req (imp (!t1) (!t1)) <| req (imp (!t1) (!t1)) <| req (imp (!t1) (!t1)) <| let t2 : Bool := COp.run ((nth v.1 1 .junk).num) ((nth v.2.1 1 .junk).num) .neq; req (imp (!t1) (!t1)) <| reqG (!(t1 || t2)) ((nth v.1 2 .junk).isSl 24) <| req (imp (!(t1 || t2)) (!(t1 || t2))) <| req (imp (!(t1 || t2)) (!(t1 || t2))) <| let t3 : Int := (((nth v.1 2 .junk).els).length : Int); reqG (!(t1 || t2)) ((nth v.2.1 2 .junk).isSl 24) <| req (imp (!(t1 || t2)) (!(t1 || t2))) <| req (imp (!(t1 || t2)) (!(t1 || t2))) <| let t4 : Int := (((nth v.2.1 2 .junk).els).length : Int); req (imp (!(t1 || t2)) (!(t1 || t2))) <| req (imp (!(t1 || t2)) (!(t1 || t2))) <| req (imp (!(t1 || t2)) (!(t1 || t2))) <| let t5 : Bool := ((t1 || t2) || (COp.run t3 t4 .neq)); (match t5 with | true => (ok (false, ()) H) | false => (let r9 := iter (α := Unit × Unit × Int × List AV × List AV × Unit) (β := Sum (List AV × List AV × Unit) (Bool × List AV × List AV × Unit)) (Sum.inl (Tup.d [.ag, .ag])) (fun R7 v6 H8 => reqB ((nth v6.2.2.2.1 2 .junk).isSl 24) (Sum.inl (Tup.d [.ag, .ag])) <| let t10 : List (List AV) := (nth v6.2.2.2.1 2 .junk).els; let t11 : Bool := COp.run v6.2.2.1 (t10.length : Int) .lss; (match t11 with | true => (reqB ((nth v6.2.2.2.1 2 .junk).isSl 24) (Sum.inl (Tup.d [.ag, .ag])) <| let t12 : List (List AV) := (nth v6.2.2.2.1 2 .junk).els; reqB (inb v6.2.2.1 t12.length) (Sum.inl (Tup.d [.ag, .ag])) <| let t13 : List AV := nth t12 v6.2.2.1.toNat []; reqB ((nth v6.2.2.2.2.1 2 .junk).isSl 24) (Sum.inl (Tup.d [.ag, .ag])) <| let t14 : List (List AV) := (nth v6.2.2.2.2.1 2 .junk).els; reqB (inb v6.2.2.1 t14.length) (Sum.inl (Tup.d [.ag, .ag])) <| let t15 : List AV := nth t14 v6.2.2.1.toNat []; let r16 := F_folkmootref21_SameVote N (t13, t15, ()) H8; req (r16.pre) <| (match !r16.out.1 with | true => (ok (Sum.inr (false, v6.2.2.2.1, v6.2.2.2.2.1, ())) H8) | false => (let t17 : Int := AOp.run .i64 v6.2.2.1 1 .add; R7 ((), (), t17, v6.2.2.2.1, v6.2.2.2.2.1, ()) H8))) | false => (ok (Sum.inl (v6.2.2.2.1, v6.2.2.2.2.1, ())) H8))) N ((), (), 0, v.1, v.2.1, ()) H; req r9.pre <| sumElim r9.out (fun w18 => ok (true, ()) r9.H) (fun w19 => ok (w19.1, ()) r9.H)))
noncomputable def S_folkmootref21_SameQC (N : Nat) : Sem := ⟨[.ag, .ag], [.b], .glob, true, F_folkmootref21_SameQC N⟩
theorem den_folkmootref21_SameQC (N : Nat) (v : List AV × List AV × Unit) (H : Heap) : fd_folkmootref21_SameQC.sem N (G_folkmootref21_SameQC N) v H = F_folkmootref21_SameQC N v H := by kernel_rfl

/-! folkmoot/folkmootref21.Same -/
def c_folkmootref21_Same : C' :=
  .seq (.ops false [
    ⟨some 2, .lbox 0 8 (.t 0) false, none⟩,
    ⟨some 3, .lbox 1 8 (.t 1) false, none⟩,
    ⟨some 4, .mov (.c (.b false)), none⟩])
  (.seq (.seq (.ops false [
    ⟨some 6, .fa (.t 2) 0, none⟩,
    ⟨some 7, .lload 0 (.t 6) (.one (.i .i64)), none⟩,
    ⟨some 8, .fa (.t 3) 0, none⟩,
    ⟨some 9, .lload 1 (.t 8) (.one (.i .i64)), none⟩,
    ⟨some 10, .cmp .neq .i64 (.t 7) (.t 9), none⟩,
    ⟨some 11, .mov (.t 10), none⟩,
    ⟨some 12, .fa (.t 2) 1, some (11, false, false)⟩,
    ⟨some 13, .lload 0 (.t 12) (.one (.i .u64)), some (11, false, false)⟩,
    ⟨some 14, .fa (.t 3) 1, some (11, false, false)⟩,
    ⟨some 15, .lload 1 (.t 14) (.one (.i .u64)), some (11, false, false)⟩,
    ⟨some 16, .cmp .neq .u64 (.t 13) (.t 15), some (11, false, false)⟩,
    ⟨some 17, .pick (.t 11) (.c (.b true)) (.t 16), none⟩,
    ⟨some 18, .mov (.t 17), none⟩,
    ⟨some 19, .fa (.t 2) 2, some (18, false, false)⟩,
    ⟨some 20, .lload 0 (.t 19) (.agg 3), some (18, false, false)⟩,
    ⟨some 21, .fa (.t 3) 2, some (18, false, false)⟩,
    ⟨some 22, .lload 1 (.t 21) (.agg 3), some (18, false, false)⟩,
    ⟨some 23, .call true false 45 [(.t 20), (.t 22)], some (18, false, false)⟩,
    ⟨some 24, .not (.t 23), some (18, false, false)⟩,
    ⟨some 25, .pick (.t 18) (.c (.b true)) (.t 24), none⟩,
    ⟨some 26, .mov (.t 25), none⟩,
    ⟨some 27, .fa (.t 2) 5, some (26, false, false)⟩,
    ⟨some 28, .lload 0 (.t 27) (.one (.i .i64)), some (26, false, false)⟩,
    ⟨some 29, .fa (.t 3) 5, some (26, false, false)⟩,
    ⟨some 30, .lload 1 (.t 29) (.one (.i .i64)), some (26, false, false)⟩,
    ⟨some 31, .cmp .neq .i64 (.t 28) (.t 30), some (26, false, false)⟩,
    ⟨some 32, .pick (.t 26) (.c (.b true)) (.t 31), none⟩,
    ⟨some 33, .mov (.t 32), none⟩,
    ⟨some 34, .fa (.t 2) 6, some (33, false, false)⟩,
    ⟨some 35, .lload 0 (.t 34) (.one (.i .i64)), some (33, false, false)⟩,
    ⟨some 36, .fa (.t 3) 6, some (33, false, false)⟩,
    ⟨some 37, .lload 1 (.t 36) (.one (.i .i64)), some (33, false, false)⟩,
    ⟨some 38, .cmp .neq .i64 (.t 35) (.t 37), some (33, false, false)⟩,
    ⟨some 39, .pick (.t 33) (.c (.b true)) (.t 38), none⟩,
    ⟨some 40, .mov (.t 39), none⟩,
    ⟨some 41, .fa (.t 2) 7, some (40, false, false)⟩,
    ⟨some 42, .lload 0 (.t 41) (.one (.sl 25)), some (40, false, false)⟩,
    ⟨some 43, .lenL (.t 42) 25, some (40, false, false)⟩,
    ⟨some 44, .fa (.t 3) 7, some (40, false, false)⟩,
    ⟨some 45, .lload 1 (.t 44) (.one (.sl 25)), some (40, false, false)⟩,
    ⟨some 46, .lenL (.t 45) 25, some (40, false, false)⟩,
    ⟨some 47, .cmp .neq .i64 (.t 43) (.t 46), some (40, false, false)⟩,
    ⟨some 48, .pick (.t 40) (.c (.b true)) (.t 47), none⟩])
  (.cond (.t 48) (.seq (.ops false [
    ⟨some 4, .mov (.c (.b false)), none⟩])
  (.ret)) (.skip)))
  (.seq (.seq (.ops false [
    ⟨some 5, .mov (.c (.i .i64 0)), none⟩])
  (.loopR 0 (.seq (.seq (.ops false [
    ⟨some 49, .mov (.t 5), none⟩,
    ⟨some 50, .fa (.t 2) 7, none⟩,
    ⟨some 51, .lload 0 (.t 50) (.one (.sl 25)), none⟩,
    ⟨some 52, .lenL (.t 51) 25, none⟩,
    ⟨some 53, .cmp .lss .i64 (.t 49) (.t 52), none⟩])
  (.cond (.t 53) (.skip) (.exit 0)))
  (.seq (.block 1 (.seq (.ops true [
    ⟨some 56, .fa (.t 2) 7, none⟩,
    ⟨some 57, .lload 0 (.t 56) (.one (.sl 25)), none⟩,
    ⟨some 58, .mov (.t 5), none⟩,
    ⟨some 59, .ixa (.t 57) (.t 58) .i64 25, none⟩,
    ⟨some 60, .iload (.t 59) (.agg 25), none⟩,
    ⟨some 61, .fa (.t 3) 7, none⟩,
    ⟨some 62, .lload 1 (.t 61) (.one (.sl 25)), none⟩,
    ⟨some 63, .mov (.t 5), none⟩,
    ⟨some 64, .ixa (.t 62) (.t 63) .i64 25, none⟩,
    ⟨some 65, .iload (.t 64) (.agg 25), none⟩,
    ⟨some 66, .call true false 41 [(.t 60), (.t 65)], none⟩,
    ⟨some 67, .not (.t 66), none⟩])
  (.cond (.t 67) (.seq (.ops false [
    ⟨some 4, .mov (.c (.b false)), none⟩])
  (.ret)) (.skip))))
  (.ops false [
    ⟨some 54, .mov (.t 5), none⟩,
    ⟨some 55, .arith .add .i64 (.t 54) (.c (.i .i64 1)), none⟩,
    ⟨some 5, .mov (.t 55), none⟩]))) [⟨2, .loc, (.lpc 0)⟩, ⟨3, .loc, (.lpc 1)⟩, ⟨5, .glob, (.i .i64)⟩] [⟨0, 8, []⟩, ⟨1, 8, []⟩] [] [⟨4, .glob, .b⟩]))
  (.seq (.ops false [
    ⟨some 4, .mov (.c (.b true)), none⟩])
  (.ret))))
def fd_folkmootref21_Same : FD := ⟨68, 2, [.ag, .ag], [.tmp 4 .glob .b], c_folkmootref21_Same⟩
noncomputable def G_folkmootref21_Same (N : Nat) : Env := [(41, S_folkmootref15_SameReport N), (45, S_folkmootref21_SameQC N)]
noncomputable def F_folkmootref21_Same (N : Nat) (v : List AV × List AV × Unit) (H : Heap) : Res (Bool × Unit) :=
  reqB (v.1.length == 8) (Tup.d [.b]) <| reqB (v.2.1.length == 8) (Tup.d [.b]) <| reqB ((nth v.1 0 .junk).isI .i64) (Tup.d [.b]) <| reqB ((nth v.2.1 0 .junk).isI .i64) (Tup.d [.b]) <| let t1 : Bool := COp.run ((nth v.1 0 .junk).num) ((nth v.2.1 0 .junk).num) .neq; reqG (!t1) ((nth v.1 1 .junk).isI .u64) <| req (imp (!t1) (!t1)) <| reqG (!t1) ((nth v.2.1 1 .junk).isI .u64) <| req (imp (!t1) (!t1)) <| req (imp (!t1) (!t1)) <| req (imp (!t1) (!t1)) <| let t2 : Bool := COp.run ((nth v.1 1 .junk).num) ((nth v.2.1 1 .junk).num) .neq; req (imp (!t1) (!t1)) <| req (imp (!(t1 || t2)) (!(t1 || t2))) <| req (imp (!(t1 || t2)) (!(t1 || t2))) <| let r3 := F_folkmootref21_SameQC N (sub v.1 2 3, sub v.2.1 2 3, ()) H; req (imp (!(t1 || t2)) (!(t1 || t2))) <| req (imp (!(t1 || t2)) (!(t1 || t2))) <| req (imp (!(t1 || t2)) r3.pre) <| req (imp (!(t1 || t2)) (!(t1 || t2))) <| req (imp (!(t1 || t2)) (!(t1 || t2))) <| let t4 : Bool := ((t1 || t2) || (!r3.out.1)); reqG (!t4) ((nth v.1 5 .junk).isI .i64) <| req (imp (!t4) (!t4)) <| reqG (!t4) ((nth v.2.1 5 .junk).isI .i64) <| req (imp (!t4) (!t4)) <| req (imp (!t4) (!t4)) <| req (imp (!t4) (!t4)) <| let t5 : Bool := COp.run ((nth v.1 5 .junk).num) ((nth v.2.1 5 .junk).num) .neq; req (imp (!t4) (!t4)) <| reqG (!(t4 || t5)) ((nth v.1 6 .junk).isI .i64) <| req (imp (!(t4 || t5)) (!(t4 || t5))) <| reqG (!(t4 || t5)) ((nth v.2.1 6 .junk).isI .i64) <| req (imp (!(t4 || t5)) (!(t4 || t5))) <| req (imp (!(t4 || t5)) (!(t4 || t5))) <| req (imp (!(t4 || t5)) (!(t4 || t5))) <| let t6 : Bool := COp.run ((nth v.1 6 .junk).num) ((nth v.2.1 6 .junk).num) .neq; req (imp (!(t4 || t5)) (!(t4 || t5))) <| reqG (!((t4 || t5) || t6)) ((nth v.1 7 .junk).isSl 25) <| req (imp (!((t4 || t5) || t6)) (!((t4 || t5) || t6))) <| req (imp (!((t4 || t5) || t6)) (!((t4 || t5) || t6))) <| let t7 : Int := (((nth v.1 7 .junk).els).length : Int); reqG (!((t4 || t5) || t6)) ((nth v.2.1 7 .junk).isSl 25) <| req (imp (!((t4 || t5) || t6)) (!((t4 || t5) || t6))) <| req (imp (!((t4 || t5) || t6)) (!((t4 || t5) || t6))) <| let t8 : Int := (((nth v.2.1 7 .junk).els).length : Int); req (imp (!((t4 || t5) || t6)) (!((t4 || t5) || t6))) <| req (imp (!((t4 || t5) || t6)) (!((t4 || t5) || t6))) <| req (imp (!((t4 || t5) || t6)) (!((t4 || t5) || t6))) <| let t9 : Bool := (((t4 || t5) || t6) || (COp.run t7 t8 .neq)); (match t9 with | true => (ok (false, ()) H) | false => (let r13 := iter (α := Unit × Unit × Int × List AV × List AV × Unit) (β := Sum (List AV × List AV × Unit) (Bool × List AV × List AV × Unit)) (Sum.inl (Tup.d [.ag, .ag])) (fun R11 v10 H12 => reqB ((nth v10.2.2.2.1 7 .junk).isSl 25) (Sum.inl (Tup.d [.ag, .ag])) <| let t14 : List (List AV) := (nth v10.2.2.2.1 7 .junk).els; let t15 : Bool := COp.run v10.2.2.1 (t14.length : Int) .lss; (match t15 with | true => (reqB ((nth v10.2.2.2.1 7 .junk).isSl 25) (Sum.inl (Tup.d [.ag, .ag])) <| let t16 : List (List AV) := (nth v10.2.2.2.1 7 .junk).els; reqB (inb v10.2.2.1 t16.length) (Sum.inl (Tup.d [.ag, .ag])) <| let t17 : List AV := nth t16 v10.2.2.1.toNat []; reqB ((nth v10.2.2.2.2.1 7 .junk).isSl 25) (Sum.inl (Tup.d [.ag, .ag])) <| let t18 : List (List AV) := (nth v10.2.2.2.2.1 7 .junk).els; reqB (inb v10.2.2.1 t18.length) (Sum.inl (Tup.d [.ag, .ag])) <| let t19 : List AV := nth t18 v10.2.2.1.toNat []; let r20 := F_folkmootref15_SameReport N (t17, t19, ()) H12; req (r20.pre) <| (match !r20.out.1 with | true => (ok (Sum.inr (false, v10.2.2.2.1, v10.2.2.2.2.1, ())) H12) | false => (let t21 : Int := AOp.run .i64 v10.2.2.1 1 .add; R11 ((), (), t21, v10.2.2.2.1, v10.2.2.2.2.1, ()) H12))) | false => (ok (Sum.inl (v10.2.2.2.1, v10.2.2.2.2.1, ())) H12))) N ((), (), 0, v.1, v.2.1, ()) H; req r13.pre <| sumElim r13.out (fun w22 => ok (true, ()) r13.H) (fun w23 => ok (w23.1, ()) r13.H)))
noncomputable def S_folkmootref21_Same (N : Nat) : Sem := ⟨[.ag, .ag], [.b], .glob, true, F_folkmootref21_Same N⟩
theorem den_folkmootref21_Same (N : Nat) (v : List AV × List AV × Unit) (H : Heap) : fd_folkmootref21_Same.sem N (G_folkmootref21_Same N) v H = F_folkmootref21_Same N v H := by kernel_rfl

/-! folkmoot/folkmootref21.SameView -/
def c_folkmootref21_SameView : C' :=
  .seq (.ops false [
    ⟨some 2, .lbox 0 26 (.t 0) false, none⟩,
    ⟨some 3, .lbox 1 26 (.t 1) false, none⟩,
    ⟨some 4, .mov (.c (.b false)), none⟩])
  (.seq (.ops false [
    ⟨some 5, .fa (.t 2) 0, none⟩,
    ⟨some 6, .lload 0 (.t 5) (.one (.i .i64)), none⟩,
    ⟨some 7, .fa (.t 3) 0, none⟩,
    ⟨some 8, .lload 1 (.t 7) (.one (.i .i64)), none⟩,
    ⟨some 9, .cmp .eql .i64 (.t 6) (.t 8), none⟩,
    ⟨some 10, .mov (.t 9), none⟩,
    ⟨some 11, .fa (.t 2) 1, some (10, true, false)⟩,
    ⟨some 12, .lload 0 (.t 11) (.one (.i .i64)), some (10, true, false)⟩,
    ⟨some 13, .fa (.t 3) 1, some (10, true, false)⟩,
    ⟨some 14, .lload 1 (.t 13) (.one (.i .i64)), some (10, true, false)⟩,
    ⟨some 15, .cmp .eql .i64 (.t 12) (.t 14), some (10, true, false)⟩,
    ⟨some 16, .pick (.t 10) (.t 15) (.c (.b false)), none⟩,
    ⟨some 17, .mov (.t 16), none⟩,
    ⟨some 18, .fa (.t 2) 2, some (17, true, false)⟩,
    ⟨some 19, .lload 0 (.t 18) (.agg 3), some (17, true, false)⟩,
    ⟨some 20, .fa (.t 3) 2, some (17, true, false)⟩,
    ⟨some 21, .lload 1 (.t 20) (.agg 3), some (17, true, false)⟩,
    ⟨some 22, .call true false 45 [(.t 19), (.t 21)], some (17, true, false)⟩,
    ⟨some 23, .pick (.t 17) (.t 22) (.c (.b false)), none⟩,
    ⟨some 24, .mov (.t 23), none⟩,
    ⟨some 25, .fa (.t 2) 5, some (24, true, false)⟩,
    ⟨some 26, .lload 0 (.t 25) (.agg 21), some (24, true, false)⟩,
    ⟨some 27, .fa (.t 3) 5, some (24, true, false)⟩,
    ⟨some 28, .lload 1 (.t 27) (.agg 21), some (24, true, false)⟩,
    ⟨some 29, .call true false 40 [(.t 26), (.t 28)], some (24, true, false)⟩,
    ⟨some 30, .pick (.t 24) (.t 29) (.c (.b false)), none⟩,
    ⟨some 4, .mov (.t 30), none⟩])
  (.ret))
def fd_folkmootref21_SameView : FD := ⟨31, 2, [.ag, .ag], [.tmp 4 .glob .b], c_folkmootref21_SameView⟩
noncomputable def G_folkmootref21_SameView (N : Nat) : Env := [(40, S_folkmootref6_SameSig N), (45, S_folkmootref21_SameQC N)]
noncomputable def F_folkmootref21_SameView (N : Nat) (v : List AV × List AV × Unit) (H : Heap) : Res (Bool × Unit) :=
  reqB (v.1.length == 26) (Tup.d [.b]) <| reqB (v.2.1.length == 26) (Tup.d [.b]) <| reqB ((nth v.1 0 .junk).isI .i64) (Tup.d [.b]) <| reqB ((nth v.2.1 0 .junk).isI .i64) (Tup.d [.b]) <| let t1 : Bool := COp.run ((nth v.1 0 .junk).num) ((nth v.2.1 0 .junk).num) .eql; reqG (t1) ((nth v.1 1 .junk).isI .i64) <| req (imp t1 t1) <| reqG (t1) ((nth v.2.1 1 .junk).isI .i64) <| req (imp t1 t1) <| req (imp t1 t1) <| req (imp t1 t1) <| let t2 : Bool := COp.run ((nth v.1 1 .junk).num) ((nth v.2.1 1 .junk).num) .eql; req (imp t1 t1) <| req (imp (t1 && t2) (t1 && t2)) <| req (imp (t1 && t2) (t1 && t2)) <| let r3 := F_folkmootref21_SameQC N (sub v.1 2 3, sub v.2.1 2 3, ()) H; req (imp (t1 && t2) (t1 && t2)) <| req (imp (t1 && t2) (t1 && t2)) <| req (imp (t1 && t2) r3.pre) <| req (imp (t1 && t2) (t1 && t2)) <| let t4 : Bool := ((t1 && t2) && r3.out.1); req (imp t4 t4) <| req (imp t4 t4) <| let r5 := F_folkmootref6_SameSig N (sub v.1 5 21, sub v.2.1 5 21, ()) H; req (imp t4 t4) <| req (imp t4 t4) <| req (imp t4 r5.pre) <| req (imp t4 t4) <| ok ((t4 && r5.out.1), ()) H
noncomputable def S_folkmootref21_SameView (N : Nat) : Sem := ⟨[.ag, .ag], [.b], .glob, true, F_folkmootref21_SameView N⟩
theorem den_folkmootref21_SameView (N : Nat) (v : List AV × List AV × Unit) (H : Heap) : fd_folkmootref21_SameView.sem N (G_folkmootref21_SameView N) v H = F_folkmootref21_SameView N v H := by kernel_rfl

end Go.Proofs.DenT
end
