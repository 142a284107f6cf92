/- The law MsgAny returns true for every two messages and every two numbers; no condition. -/
import Derived.Test.YtlllkgpicbddfaaDen6
import Derived.Test.YtlllkgpicbddfaaRows
import Derived.ProofKit
import Derived.ChangeCalls
set_option linter.all false
set_option linter.unusedSimpArgs false
set_option linter.unusedVariables false
section
namespace Go.Proofs.Ytlllkgpicbddfaa
open Go Go.ChangeShapes Go.WideShapes Go.ChangeAt Go.RowKit Go.Proofs.DenT
theorem Try.own : ownKnob Try.prog.godebug = none := by kernel_rfl
theorem Try.laidOut : laidOutB Try.prog = true := by kernel_rfl
theorem pss_MsgAny : psAll Try.prog 12 Try.f3.params.toList = some [.agg csMsg, .agg csMsg, .one (.i .i64), .one (.i .i64)] := by kernel_rfl
theorem ptypes : Try.f3.params.toList.all (fun t => Try.prog.readableRec t && decide (t < Try.prog.types.size)) = true := by kernel_rfl
theorem fit_law (xs : List AV) (h : PFitsL [.agg csMsg, .agg csMsg, .one (.i .i64), .one (.i .i64)] xs) :
    ∃ N, (∀ b, b ∈ (S_folkmootlaw22_MsgAny N).fit xs → b = true) ∧ ((S_folkmootlaw22_MsgAny N).run xs []).pre = true ∧ ((S_folkmootlaw22_MsgAny N).run xs []).out = [.b true] := by
  match xs, h with
  | [x, y, z, u], ⟨⟨a, hx, ha⟩, ⟨b, hy, hb⟩, hz, hu, _⟩ =>
    subst hx
    subst hy
    cases hz with | i _ m hm =>
    cases hu with | i _ f hf =>
    have e := law_MsgAny (H := []) ha.ty hb.ty hm hf
    have e1 : (S_folkmootlaw22_MsgAny 1000000).run [.ag a, .ag b, .i .i64 m, .i .i64 f] [] = ⟨(F_folkmootlaw22_MsgAny 1000000 (a, b, m, f, ()) []).pre, [.b (F_folkmootlaw22_MsgAny 1000000 (a, b, m, f, ()) []).out.1], (F_folkmootlaw22_MsgAny 1000000 (a, b, m, f, ()) []).H⟩ := rfl
    refine ⟨1000000, fun q hq => ?_, ?_, ?_⟩
    · have : (S_folkmootlaw22_MsgAny 1000000).fit [.ag a, .ag b, .i .i64 m, .i .i64 f] = [true, true, true, true, true] := rfl
      rw [this] at hq
      simpa using hq
    · rw [e1, e]; rfl
    · rw [e1, e]; rfl
  | [], h => exact h.elim
  | [x], h => exact h.2.elim
  | [x, y], h => exact h.2.2.elim
  | [x, y, z], h => exact h.2.2.2.elim
  | x :: y :: z :: u :: v :: l, h => exact h.2.2.2.2.elim
set_option maxRecDepth 100000 in
theorem msgAny_lifted (os : Os) (started : os.Started) (H : Type) (enc : TypeId × Value → H) :
    ReturnsInHanded {} Try.checked os 3 .any (Rows.msgAnySpec.pre6 enc Try.prog Try.f3 Rows.msgAnyRow.domain false) (Rows.msgAnySpec.post enc Try.prog Try.f3 false true false false) := by
  refine returnsInHanded_of_change (C := Try.checked) Try.own started (by kernel_rfl) Try.func3
    (ChangeSpec.witness6 (enc := enc) (C := Try.checked) false ⟨#[], #[.agg #[.int .i64 0, .int .i64 0, .int .i64 0, .int .i64 0, .int .i64 0, .int .i64 0, .int .i64 0, .int .i64 0, .int .u64 0, .int .i64 0, .int .i64 0, .int .i64 0, .int .i64 0, .int .u64 0, .int .u64 0, .int .u64 0, .int .u64 0, .int .u64 0, .int .u64 0, .int .u64 0, .int .u64 0, .int .u64 0, .int .u64 0, .int .u64 0, .int .u64 0, .int .u64 0, .int .u64 0, .int .u64 0, .int .u64 0, .int .u64 0, .int .u64 0, .slice none 0 0, .int .i64 0, .int .i64 0, .int .i64 0, .int .i64 0, .int .i64 0, .slice none 0 0, .int .u64 0, .int .i64 0, .int .i64 0, .int .i64 0, .int .u64 0, .int .u64 0, .int .u64 0, .int .u64 0, .int .u64 0, .int .u64 0, .int .u64 0, .int .u64 0, .int .u64 0, .int .u64 0, .int .u64 0, .int .u64 0, .int .u64 0, .int .u64 0, .int .u64 0, .int .u64 0, .int .u64 0, .int .u64 0, .slice none 0 0, .int .i64 0, .int .i64 0, .int .i64 0, .int .i64 0, .int .i64 0, .slice none 0 0, .int .i64 0, .int .i64 0, .int .u64 0, .int .u64 0, .int .u64 0, .int .u64 0, .int .u64 0, .int .u64 0, .int .u64 0, .int .u64 0, .int .u64 0, .int .u64 0, .int .u64 0, .int .u64 0, .int .u64 0, .int .u64 0, .int .u64 0, .int .u64 0, .int .u64 0, .int .u64 0, .slice none 0 0, .int .i64 0, .int .u64 0, .int .i64 0, .int .u64 0, .slice none 0 0, .int .i64 0, .int .i64 0, .slice none 0 0, .int .i64 0, .int .u64 0, .int .i64 0, .int .i64 0, .int .i64 0, .int .u64 0, .int .u64 0, .int .u64 0, .int .u64 0, .int .u64 0, .int .u64 0, .int .u64 0, .int .u64 0, .int .u64 0, .int .u64 0, .int .u64 0, .int .u64 0, .int .u64 0, .int .u64 0, .int .u64 0, .int .u64 0, .int .u64 0, .int .u64 0, .slice none 0 0, .int .i64 0, .int .i64 0, .int .i64 0, .int .u64 0, .slice none 0 0, .int .i64 0, .int .i64 0, .int .u64 0, .int .u64 0, .int .u64 0, .int .u64 0, .int .u64 0, .int .u64 0, .int .u64 0, .int .u64 0, .int .u64 0, .int .u64 0, .int .u64 0, .int .u64 0, .int .u64 0, .int .u64 0, .int .u64 0, .int .u64 0, .int .u64 0, .int .u64 0, .slice none 0 0, .slice none 0 0], .agg #[.int .i64 0, .int .i64 0, .int .i64 0, .int .i64 0, .int .i64 0, .int .i64 0, .int .i64 0, .int .i64 0, .int .u64 0, .int .i64 0, .int .i64 0, .int .i64 0, .int .i64 0, .int .u64 0, .int .u64 0, .int .u64 0, .int .u64 0, .int .u64 0, .int .u64 0, .int .u64 0, .int .u64 0, .int .u64 0, .int .u64 0, .int .u64 0, .int .u64 0, .int .u64 0, .int .u64 0, .int .u64 0, .int .u64 0, .int .u64 0, .int .u64 0, .slice none 0 0, .int .i64 0, .int .i64 0, .int .i64 0, .int .i64 0, .int .i64 0, .slice none 0 0, .int .u64 0, .int .i64 0, .int .i64 0, .int .i64 0, .int .u64 0, .int .u64 0, .int .u64 0, .int .u64 0, .int .u64 0, .int .u64 0, .int .u64 0, .int .u64 0, .int .u64 0, .int .u64 0, .int .u64 0, .int .u64 0, .int .u64 0, .int .u64 0, .int .u64 0, .int .u64 0, .int .u64 0, .int .u64 0, .slice none 0 0, .int .i64 0, .int .i64 0, .int .i64 0, .int .i64 0, .int .i64 0, .slice none 0 0, .int .i64 0, .int .i64 0, .int .u64 0, .int .u64 0, .int .u64 0, .int .u64 0, .int .u64 0, .int .u64 0, .int .u64 0, .int .u64 0, .int .u64 0, .int .u64 0, .int .u64 0, .int .u64 0, .int .u64 0, .int .u64 0, .int .u64 0, .int .u64 0, .int .u64 0, .int .u64 0, .slice none 0 0, .int .i64 0, .int .u64 0, .int .i64 0, .int .u64 0, .slice none 0 0, .int .i64 0, .int .i64 0, .slice none 0 0, .int .i64 0, .int .u64 0, .int .i64 0, .int .i64 0, .int .i64 0, .int .u64 0, .int .u64 0, .int .u64 0, .int .u64 0, .int .u64 0, .int .u64 0, .int .u64 0, .int .u64 0, .int .u64 0, .int .u64 0, .int .u64 0, .int .u64 0, .int .u64 0, .int .u64 0, .int .u64 0, .int .u64 0, .int .u64 0, .int .u64 0, .slice none 0 0, .int .i64 0, .int .i64 0, .int .i64 0, .int .u64 0, .slice none 0 0, .int .i64 0, .int .i64 0, .int .u64 0, .int .u64 0, .int .u64 0, .int .u64 0, .int .u64 0, .int .u64 0, .int .u64 0, .int .u64 0, .int .u64 0, .int .u64 0, .int .u64 0, .int .u64 0, .int .u64 0, .int .u64 0, .int .u64 0, .int .u64 0, .int .u64 0, .int .u64 0, .slice none 0 0, .slice none 0 0], .int .i64 0, .int .i64 0], []⟩ 12 (by kernel_rfl) (by kernel_rfl) (by kernel_rfl) (by kernel_rfl)) ?_
  intro W base args ds gs before hval0 hW hcnd _
  have hval : ∀ (j : Nat) t v, Try.f3.params.toList[j]? = some t → args[j]? = some v → Value.okWide Try.prog W .any base t v := fun j t v ht hv => hval0 j t v (by simpa using ht) hv
  have hW' : DataW.Whole enc Try.prog Try.f3.params.toList Rows.msgAnySpec.vars false W args.toList ds gs before := hW
  obtain ⟨p, q, hA, hV, rfl, hfz, hnd⟩ := hW
  obtain ⟨rfl, rfl⟩ := trodVars_none hV
  have hA' : DataW.TrodAll enc Try.prog W 0 (fun _ => true) true Try.f3.params.toList args.toList ds p := hA
  have hl : ds.length = 4 := by
    have := (trodAll_length hA').2
    rw [this, Try.params3]; rfl
  refine (law_calls (base := base) (fun N => ok_folkmootlaw22_MsgAny N) trivial pss_MsgAny hval hA' fit_law).mono fun e W' ⟨he, hb⟩ => ⟨_, he, ?_⟩
  match ds, hl with
  | [d1, d2, d3, d4], _ =>
    refine law_post (tb := 4) Try.laidOut (by kernel_rfl) (by kernel_rfl) (fun t ht => ?_) rfl rfl rfl rfl hW' hb
    have := List.all_eq_true.1 ptypes t ht
    simp only [Bool.and_eq_true, decide_eq_true_eq] at this
    exact this
theorem msgAny_holds : Rows.MsgAnySaid :=
  OpenClaim.holds_of_wide 3 Try.f3 rfl rfl rfl rfl rfl rfl rfl ⟨rfl, rfl, rfl, rfl, rfl⟩ rfl rfl rfl rfl rfl (by kernel_rfl) Try.func3 (by kernel_rfl)
    (of_decide_eq_true (by kernel_rfl)) (by unfold Func.isWrapper; first | (rw [if_pos (by decide +kernel)]; kernel_rfl) | (rw [if_neg (by decide +kernel)]; exact ⟨rfl, rfl⟩))
    (fun os started H enc _ => msgAny_lifted os started H enc)
#print axioms msgAny_holds
end Go.Proofs.Ytlllkgpicbddfaa
end
