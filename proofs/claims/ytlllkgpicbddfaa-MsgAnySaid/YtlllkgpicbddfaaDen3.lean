/- A part of the proof of this claim (part 3): own work: a lifting of compiled code into pure functions, and laws on them. -/
import Derived.Test.YtlllkgpicbddfaaDen2
import Derived.ChangeArms
import Derived.Carry
import Derived.ProofKit
set_option linter.all false
set_option linter.unusedSimpArgs false
set_option linter.unusedVariables false
section
namespace Go.Proofs.DenT
set_option linter.unusedVariables false
set_option linter.unusedSimpArgs false
open Go
section
variable {Pg : Program} {fr : Fr} {pu : Bool} {g : Gh} {s : St} {a : Act} {w : World} {Γ : Env} {N nt nl : Nat} {H0 : Heap}
/-- The relation, with what stays. -/
structure RelM (fr : Fr) (pu : Bool) (nt nl : Nat) (H0 : Heap) (g : Gh) (s : St) (a : Act) (w : World) : Prop where
  R : Rel fr pu g s a w
  nt : s.env.length = nt
  nl : s.loc.length = nl
  H : pu = true → s.H = H0
inductive ExR : Exit → Ex → Prop
  | normal : ExR .normal .normal
  | exit (i : Nat) : ExR (.exit i) (.exit i)
  | ret : ExR .ret .ret
/-- What is met behind code whose meaning is r. -/
def PostD {α : Type} (fr : Fr) (pu : Bool) (nt nl : Nat) (H0 : Heap) (K : Ex → St → Res α) (r : Res α) (e : Exit) (a : Act) (w : World) : Prop :=
  ∃ e' s' g', ExR e e' ∧ RelM fr pu nt nl H0 g' s' a w ∧ K e' s' = r
theorem mkSt_len {ins : List IR} {objs : List InO} {v : Tup (LTs ins objs)} {H : Heap} : (mkSt nt nl ins objs v H).env.length = nt ∧ (mkSt nt nl ins objs v H).loc.length = nl ∧ (mkSt nt nl ins objs v H).H = H :=
  ⟨(mkEnv_spec nt ins _).1, (mkLoc_spec nl objs _).1, rfl⟩
theorem RelM.pack {α : Type} {d : α} {ins : List IR} {objs : List InO} {K : Tup (LTs ins objs) → Res α} (R : RelM fr pu nt nl H0 g s a w) (hok : ins.all (okIR objs) = true) (h : (DenT.pack d s ins objs K).pre = true) :
    RelM fr pu nt nl H0 g (mkSt nt nl ins objs (Tup.prj _ (packX s ins objs)) s.H) a w ∧ DenT.pack d s ins objs K = K (Tup.prj _ (packX s ins objs)) := by
  obtain ⟨h1, h2, h3⟩ := pack_pre h
  exact ⟨⟨pack_rel R.R R.nt R.nl h1 h2 hok, mkSt_len.1, mkSt_len.2.1, R.H⟩, h3⟩
theorem iter_zero {α β : Type} {d : β} {f : (α → Heap → Res β) → α → Heap → Res β} {v : α} {H : Heap} : iter d f 0 v H = fail d := rfl
theorem iter_succ {α β : Type} {d : β} {f : (α → Heap → Res β) → α → Heap → Res β} {n : Nat} {v : α} {H : Heap} : iter d f (n + 1) v H = f (iter d f n) v H := rfl
theorem exists_least {P : Nat → Prop} : ∀ (n : Nat), P n → ∃ m, P m ∧ ∀ k, P k → m ≤ k := by
  intro n
  induction n using Nat.strongRecOn with
  | _ n ih =>
    intro h
    by_cases hx : ∃ k, k < n ∧ P k
    · obtain ⟨k, h1, h2⟩ := hx; exact ih k h1 h2
    · exact ⟨n, h, fun k hk => Nat.le_of_not_lt (fun q => hx ⟨k, q, hk⟩)⟩
open Classical in
/-- The least of those that hold. -/
noncomputable def least (P : Nat → Prop) : Nat := if h : ∃ m, P m ∧ ∀ k, P k → m ≤ k then Classical.choose h else 0
theorem least_spec {P : Nat → Prop} {n : Nat} (h : P n) : P (least P) ∧ least P ≤ n := by
  have hx := exists_least n h
  unfold least
  rw [dif_pos hx]
  exact ⟨(Classical.choose_spec hx).1, (Classical.choose_spec hx).2 n h⟩
theorem den_sound (hm : Pg.follows .mixedOrders = true) (hE : EnvOK Pg Γ) : ∀ (c' : C') (c : Code), chkC Pg pu c' c = true → ∀ (α : Type) (d : α) (s : St) (K : Ex → St → Res α) (g : Gh) (a : Act) (w : World), RelM fr pu nt nl H0 g s a w →
    (den N nt nl Γ c' α d s K).pre = true → c.wp Pg (PostD fr pu nt nl H0 K (den N nt nl Γ c' α d s K)) a w := by
  intro c'
  induction c' with
  | skip =>
    intro c hc α d s K g a w R hp
    cases c <;> simp [chkC] at hc
    exact wp_skip ⟨.normal, s, g, .normal, R, rfl⟩
  | ops dr l =>
    intro c hc α d s K g a w R hp
    cases c <;> simp only [chkC] at hc <;> try (simp at hc; done)
    rename_i id ops draw
    simp only [Bool.and_eq_true] at hc
    obtain ⟨h1, h2⟩ := hc
    have h1 := eqB_spec h1
    subst h1
    have e : den N nt nl Γ (.ops dr l) α d s K = steps Γ d l s (fun s' => K .normal s') := rfl
    rw [e] at hp ⊢
    obtain ⟨hT, eq⟩ := steps_pre hp
    rw [eq]
    refine chkRegion_wp hm hE h2 R.R hT (fun g' a' w' R' => ⟨.normal, _, g', .normal, ⟨R', ?_, (runs_loc hT).trans R.nl, fun hpu => ?_⟩, rfl⟩)
    · simp only [chkRegion, Bool.and_eq_true] at h2
      exact (runs_env (pu := pu) hT (fun hpu => chkOs_pu h2.1 hpu)).1.trans R.nt
    · simp only [chkRegion, Bool.and_eq_true] at h2
      exact ((runs_env (pu := pu) hT (fun hpu => chkOs_pu h2.1 hpu)).2 hpu).trans (R.H hpu)
  | seq x y ihx ihy =>
    intro c hc α d s K g a w R hp
    cases c <;> simp only [chkC] at hc <;> try (simp at hc; done)
    rename_i cx cy
    simp only [Bool.and_eq_true] at hc
    refine wp_seq (wp_mono (ihx cx hc.1 α d s _ g a w R hp) ?_)
    rintro e a' w' ⟨e', s', g', he, R', hK⟩
    cases he with
    | normal =>
      have hp' : (den N nt nl Γ y α d s' K).pre = true := by
        have : den N nt nl Γ y α d s' K = den N nt nl Γ (.seq x y) α d s K := hK
        rw [this]; exact hp
      have := ihy cy hc.2 α d s' K g' a' w' R' hp'
      have e2 : den N nt nl Γ y α d s' K = den N nt nl Γ (.seq x y) α d s K := hK
      rw [e2] at this
      exact this
    | exit i => exact ⟨.exit i, s', g', .exit i, R', hK⟩
    | ret => exact ⟨.ret, s', g', .ret, R', hK⟩
  | cond u x y ihx ihy =>
    intro c hc α d s K g a w R hp
    cases c <;> simp only [chkC] at hc <;> try (simp at hc; done)
    rename_i cu cx cy
    simp only [Bool.and_eq_true] at hc
    obtain ⟨⟨h1, h2⟩, h3⟩ := hc
    have e : den N nt nl Γ (.cond u x y) α d s K = reqB (s.get u).x.isB d (reqO (s.get u).ok (match (s.get u).x.bool with | true => den N nt nl Γ x α d s K | false => den N nt nl Γ y α d s K)) := rfl
    rw [e] at hp ⊢
    obtain ⟨p1, q1⟩ := reqB_pre hp
    rw [q1] at hp ⊢
    obtain ⟨p2, q2⟩ := reqO_pre hp
    rw [q2] at hp ⊢
    have hv := (src_ok R.R h1 p2).bool p1
    refine wp_cond (t := (s.get u).x.bool) hv ?_
    cases hb : (s.get u).x.bool with
    | true =>
      rw [hb] at hp
      exact ihx cx h2 α d s K g a w R hp
    | false =>
      rw [hb] at hp
      exact ihy cy h3 α d s K g a w R hp
  | block id x ih =>
    intro c hc α d s K g a w R hp
    cases c <;> simp only [chkC] at hc <;> try (simp at hc; done)
    rename_i id' cx
    simp only [Bool.and_eq_true, beq_iff_eq] at hc
    obtain ⟨rfl, h2⟩ := hc
    refine wp_block (wp_mono (ih cx h2 α d s _ g a w R hp) ?_)
    rintro e a' w' ⟨e', s', g', he, R', hK⟩
    cases he with
    | normal => exact ⟨.normal, s', g', .normal, R', hK⟩
    | ret => exact ⟨.ret, s', g', .ret, R', hK⟩
    | exit i =>
      show if i = id then _ else _
      by_cases hi : i = id
      · subst hi
        rw [if_pos rfl]
        simp only [beq_self_eq_true] at hK
        exact ⟨.normal, s', g', .normal, R', hK⟩
      · rw [if_neg hi]
        have : (i == id) = false := by simpa using hi
        simp only [this] at hK
        exact ⟨.exit i, s', g', .exit i, R', hK⟩
  | exit id =>
    intro c hc α d s K g a w R hp
    cases c <;> simp only [chkC] at hc <;> try (simp at hc; done)
    rename_i id'
    simp only [beq_iff_eq] at hc
    subst hc
    exact wp_exit ⟨.exit id, s, g, .exit id, R, rfl⟩
  | ret =>
    intro c hc α d s K g a w R hp
    cases c <;> simp [chkC] at hc
    exact wp_ret ⟨.ret, s, g, .ret, R, rfl⟩
  | loop id x ins objs outs ih =>
    intro c hc α d s K g a w R hp
    simp only [chkC] at hc
    split at hc <;> try (simp at hc; done)
    rename_i id' cx
    simp only [Bool.and_eq_true, beq_iff_eq] at hc
    obtain ⟨⟨⟨rfl, h2⟩, h3⟩, h4⟩ := hc
    let F : (Tup (LTs ins objs) → Heap → Res (Tup (LTs outs objs))) → Tup (LTs ins objs) → Heap → Res (Tup (LTs outs objs)) := fun R v H => den N nt nl Γ x _ (Tup.d (LTs outs objs)) (mkSt nt nl ins objs v H) fun e s' =>
        match e with
        | .normal => DenT.pack (Tup.d _) s' ins objs fun v => R v s'.H
        | .exit i => (match i == id with | true => DenT.pack (Tup.d _) s' outs objs fun v => ok v s'.H | false => fail (Tup.d _))
        | .ret => fail (Tup.d _)
    have e : den N nt nl Γ (.loop id x ins objs outs) α d s K = DenT.pack d s ins objs (fun v0 => req (iter (Tup.d (LTs outs objs)) F N v0 s.H).pre (K .normal (mkSt nt nl outs objs (iter (Tup.d (LTs outs objs)) F N v0 s.H).out (iter (Tup.d (LTs outs objs)) F N v0 s.H).H))) := rfl
    rw [e] at hp ⊢
    obtain ⟨R1, e1⟩ := R.pack h3 hp
    rw [e1] at hp ⊢
    obtain ⟨p1, q1⟩ := req_pre hp
    rw [q1] at hp ⊢
    generalize hr0 : iter (Tup.d (LTs outs objs)) F N (Tup.prj _ (packX s ins objs)) s.H = r0 at *
    let Pn : Act → World → Nat → Prop := fun a w n => ∃ v H g, RelM fr pu nt nl H0 g (mkSt nt nl ins objs v H) a w ∧ iter (Tup.d (LTs outs objs)) F n v H = r0
    refine wp_block (wp_loop (fun a w => ∃ n, Pn a w n) (fun a w => least (Pn a w)) ⟨N, _, _, g, R1, hr0⟩ ?_)
    rintro a w ⟨n, hn⟩
    obtain ⟨hl, hle⟩ := least_spec hn
    generalize least (Pn a w) = m at *
    obtain ⟨v, H, g1, R2, hit⟩ := hl
    cases m with
    | zero => rw [iter_zero] at hit; rw [← hit] at p1; simp [fail] at p1
    | succ m =>
      rw [iter_succ] at hit
      have hp2 : (F (iter (Tup.d (LTs outs objs)) F m) v H).pre = true := by rw [hit]; exact p1
      have := ih cx h2 _ _ _ _ g1 a w R2 hp2
      refine wp_mono this ?_
      rintro e a' w' ⟨e', s', g', he, R', hK⟩
      have hK' : _ = r0 := hK.trans hit
      cases he with
      | normal =>
        have hpk : (DenT.pack (Tup.d (LTs outs objs)) s' ins objs fun v => iter (Tup.d (LTs outs objs)) F m v s'.H).pre = true := by
          have : (DenT.pack (Tup.d (LTs outs objs)) s' ins objs fun v => iter (Tup.d (LTs outs objs)) F m v s'.H) = r0 := hK'
          rw [this]; exact p1
        obtain ⟨R3, e3⟩ := R'.pack h3 hpk
        have hPm : Pn a' w' m := ⟨_, _, g', R3, e3.symm.trans hK'⟩
        exact ⟨⟨m, hPm⟩, Nat.lt_of_le_of_lt (least_spec hPm).2 (Nat.lt_succ_self m)⟩
      | exit i =>
        by_cases hi : i = id
        · subst hi
          show if i = i then _ else _
          rw [if_pos rfl]
          simp only [beq_self_eq_true] at hK'
          have hpk : (DenT.pack (Tup.d (LTs outs objs)) s' outs objs fun v => ok v s'.H).pre = true := by rw [hK']; exact p1
          obtain ⟨R3, e3⟩ := R'.pack h4 hpk
          refine ⟨.normal, _, g', .normal, R3, ?_⟩
          rw [e3] at hK'
          rw [← hK']
          rfl
        · have hi' : (i == id) = false := by simpa using hi
          simp only [hi'] at hK'
          rw [← hK'] at p1; simp [fail] at p1
      | ret => rw [← hK'] at p1; simp [fail] at p1
  | loopR id x ins objs outs rets ih =>
    intro c hc α d s K g a w R hp
    simp only [chkC] at hc
    split at hc <;> try (simp at hc; done)
    rename_i id' cx
    simp only [Bool.and_eq_true, beq_iff_eq] at hc
    obtain ⟨⟨⟨⟨rfl, h2⟩, h3⟩, h4⟩, h5⟩ := hc
    let D : Sum (Tup (LTs outs objs)) (Tup (LTs rets objs)) := .inl (Tup.d (LTs outs objs))
    let F : (Tup (LTs ins objs) → Heap → Res (Sum (Tup (LTs outs objs)) (Tup (LTs rets objs)))) → Tup (LTs ins objs) → Heap → Res (Sum (Tup (LTs outs objs)) (Tup (LTs rets objs))) := fun R v H => den N nt nl Γ x _ D (mkSt nt nl ins objs v H) fun e s' =>
        match e with
        | .normal => DenT.pack D s' ins objs fun v => R v s'.H
        | .exit i => (match i == id with | true => DenT.pack D s' outs objs fun v => ok (.inl v) s'.H | false => fail D)
        | .ret => DenT.pack D s' rets objs fun v => ok (.inr v) s'.H
    have e : den N nt nl Γ (.loopR id x ins objs outs rets) α d s K = DenT.pack d s ins objs (fun v0 => req (iter D F N v0 s.H).pre (sumElim (iter D F N v0 s.H).out (fun v => K .normal (mkSt nt nl outs objs v (iter D F N v0 s.H).H)) (fun v => K .ret (mkSt nt nl rets objs v (iter D F N v0 s.H).H)))) := rfl
    rw [e] at hp ⊢
    obtain ⟨R1, e1⟩ := R.pack h3 hp
    rw [e1] at hp ⊢
    obtain ⟨p1, q1⟩ := req_pre hp
    rw [q1] at hp ⊢
    generalize hr0 : iter D F N (Tup.prj _ (packX s ins objs)) s.H = r0 at *
    let Pn : Act → World → Nat → Prop := fun a w n => ∃ v H g, RelM fr pu nt nl H0 g (mkSt nt nl ins objs v H) a w ∧ iter D F n v H = r0
    refine wp_block (wp_loop (fun a w => ∃ n, Pn a w n) (fun a w => least (Pn a w)) ⟨N, _, _, g, R1, hr0⟩ ?_)
    rintro a w ⟨n, hn⟩
    obtain ⟨hl, hle⟩ := least_spec hn
    generalize least (Pn a w) = m at *
    obtain ⟨v, H, g1, R2, hit⟩ := hl
    cases m with
    | zero => rw [iter_zero] at hit; rw [← hit] at p1; simp [fail] at p1
    | succ m =>
      rw [iter_succ] at hit
      have hp2 : (F (iter D F m) v H).pre = true := by rw [hit]; exact p1
      have := ih cx h2 _ _ _ _ g1 a w R2 hp2
      refine wp_mono this ?_
      rintro e a' w' ⟨e', s', g', he, R', hK⟩
      have hK' : _ = r0 := hK.trans hit
      cases he with
      | normal =>
        have hpk : (DenT.pack D s' ins objs fun v => iter D F m v s'.H).pre = true := by
          have : (DenT.pack D s' ins objs fun v => iter D F m v s'.H) = r0 := hK'
          rw [this]; exact p1
        obtain ⟨R3, e3⟩ := R'.pack h3 hpk
        have hPm : Pn a' w' m := ⟨_, _, g', R3, e3.symm.trans hK'⟩
        exact ⟨⟨m, hPm⟩, Nat.lt_of_le_of_lt (least_spec hPm).2 (Nat.lt_succ_self m)⟩
      | exit i =>
        by_cases hi : i = id
        · subst hi
          show if i = i then _ else _
          rw [if_pos rfl]
          simp only [beq_self_eq_true] at hK'
          have hpk : (DenT.pack D s' outs objs fun v => ok (.inl v) s'.H).pre = true := by rw [hK']; exact p1
          obtain ⟨R3, e3⟩ := R'.pack h4 hpk
          refine ⟨.normal, _, g', .normal, R3, ?_⟩
          rw [e3] at hK'
          rw [← hK']
          rfl
        · have hi' : (i == id) = false := by simpa using hi
          simp only [hi'] at hK'
          rw [← hK'] at p1; simp [fail] at p1
      | ret =>
        have hpk : (DenT.pack D s' rets objs fun v => ok (.inr v) s'.H).pre = true := by
          have : (DenT.pack D s' rets objs fun v => ok (.inr v) s'.H) = r0 := hK'
          rw [this]; exact p1
        obtain ⟨R3, e3⟩ := R'.pack h5 hpk
        refine ⟨.ret, _, g', .ret, R3, ?_⟩
        have hK2 := e3.symm.trans hK'
        rw [← hK2]
        rfl
end
end Go.Proofs.DenT
end
section
/-! Code that leaves the heap as it is. -/
namespace Go.Proofs.DenT
set_option linter.unusedVariables false
set_option linter.unusedSimpArgs false
open Go
def puC : C' → Bool
  | .skip => true
  | .ops _ l => l.all (fun o => !o.op.wrH)
  | .seq a b => puC a && puC b
  | .cond _ a b => puC a && puC b
  | .block _ a => puC a
  | .exit _ => true
  | .ret => true
  | .loop _ a _ _ _ => puC a
  | .loopR _ a _ _ _ _ => puC a
section
variable {Γ : Env} {N nt nl : Nat}
theorem runs_pure : ∀ {l : List O'} {s : St}, Tss Γ l s → l.all (fun o => !o.op.wrH) = true → (runs Γ l s).H = s.H
  | [], s, _, _ => rfl
  | o :: l, s, hT, h => by
    simp only [List.all_cons, Bool.and_eq_true, Bool.not_eq_true'] at h
    refine (runs_pure hT.2 h.2).trans ?_
    rw [nx_eff hT.1]
    have := (eff_loc (Γ := Γ) (o := o) (s := s)).2.2 h.1
    simp only [Eff.app, this]
theorem den_pure : ∀ (c' : C'), puC c' = true → ∀ (α : Type) (d : α) (s : St) (K : Ex → St → Res α), (den N nt nl Γ c' α d s K).pre = true → ∃ e' s', s'.H = s.H ∧ K e' s' = den N nt nl Γ c' α d s K := by
  intro c'
  induction c' with
  | skip => intro _ α d s K hp; exact ⟨.normal, s, rfl, rfl⟩
  | ops dr l =>
    intro hc α d s K hp
    have e : den N nt nl Γ (.ops dr l) α d s K = steps Γ d l s (fun s' => K .normal s') := rfl
    rw [e] at hp ⊢
    obtain ⟨hT, eq⟩ := steps_pre hp
    exact ⟨.normal, _, runs_pure hT hc, eq.symm⟩
  | seq x y ihx ihy =>
    intro hc α d s K hp
    simp only [puC, Bool.and_eq_true] at hc
    obtain ⟨e', s', h1, h2⟩ := ihx hc.1 α d s _ hp
    have h2' : _ = den N nt nl Γ (.seq x y) α d s K := h2
    cases e' with
    | normal =>
      have h3 : den N nt nl Γ y α d s' K = den N nt nl Γ (.seq x y) α d s K := h2'
      obtain ⟨e'', s'', h4, h5⟩ := ihy hc.2 α d s' K (by rw [h3]; exact hp)
      exact ⟨e'', s'', h4.trans h1, h5.trans h3⟩
    | exit i => exact ⟨.exit i, s', h1, h2'⟩
    | ret => exact ⟨.ret, s', h1, h2'⟩
  | cond u x y ihx ihy =>
    intro hc α d s K hp
    simp only [puC, Bool.and_eq_true] at hc
    have e : den N nt nl Γ (.cond u x y) α d s K = reqB (s.get u).x.isB d (reqO (s.get u).ok (match (s.get u).x.bool with | true => den N nt nl Γ x α d s K | false => den N nt nl Γ y α d s K)) := rfl
    rw [e] at hp ⊢
    obtain ⟨p1, q1⟩ := reqB_pre hp
    rw [q1] at hp ⊢
    obtain ⟨p2, q2⟩ := reqO_pre hp
    rw [q2] at hp ⊢
    cases hb : (s.get u).x.bool with
    | true => rw [hb] at hp; exact ihx hc.1 α d s K hp
    | false => rw [hb] at hp; exact ihy hc.2 α d s K hp
  | block id x ih =>
    intro hc α d s K hp
    obtain ⟨e', s', h1, h2⟩ := ih hc α d s _ hp
    have h2' : _ = den N nt nl Γ (.block id x) α d s K := h2
    cases e' with
    | normal => exact ⟨.normal, s', h1, h2'⟩
    | ret => exact ⟨.ret, s', h1, h2'⟩
    | exit i =>
      cases hi : (i == id) with
      | true => simp only [hi] at h2'; exact ⟨.normal, s', h1, h2'⟩
      | false => simp only [hi] at h2'; exact ⟨.exit i, s', h1, h2'⟩
  | exit id => intro _ α d s K hp; exact ⟨.exit id, s, rfl, rfl⟩
  | ret => intro _ α d s K hp; exact ⟨.ret, s, rfl, rfl⟩
  | loop id x ins objs outs ih =>
    intro hc α d s K hp
    let F : (Tup (LTs ins objs) → Heap → Res (Tup (LTs outs objs))) → Tup (LTs ins objs) → Heap → Res (Tup (LTs outs objs)) := fun R v H => den N nt nl Γ x _ (Tup.d (LTs outs objs)) (mkSt nt nl ins objs v H) fun e s' =>
        match e with
        | .normal => DenT.pack (Tup.d _) s' ins objs fun v => R v s'.H
        | .exit i => (match i == id with | true => DenT.pack (Tup.d _) s' outs objs fun v => ok v s'.H | false => fail (Tup.d _))
        | .ret => fail (Tup.d _)
    have e : den N nt nl Γ (.loop id x ins objs outs) α d s K = DenT.pack d s ins objs (fun v0 => req (iter (Tup.d (LTs outs objs)) F N v0 s.H).pre (K .normal (mkSt nt nl outs objs (iter (Tup.d (LTs outs objs)) F N v0 s.H).out (iter (Tup.d (LTs outs objs)) F N v0 s.H).H))) := rfl
    rw [e] at hp ⊢
    obtain ⟨_, _, e1⟩ := pack_pre hp
    rw [e1] at hp ⊢
    obtain ⟨p1, q1⟩ := req_pre hp
    rw [q1] at hp ⊢
    have key : ∀ n v H, (iter (Tup.d (LTs outs objs)) F n v H).pre = true → (iter (Tup.d (LTs outs objs)) F n v H).H = H := by
      intro n
      induction n with
      | zero => intro v H h; simp [iter_zero, fail] at h
      | succ n ihn =>
        intro v H h
        rw [iter_succ] at h ⊢
        obtain ⟨e', s', h1, h2⟩ := ih hc _ _ _ _ h
        have h2' : _ = F (iter (Tup.d (LTs outs objs)) F n) v H := h2
        rw [mkSt_len.2.2] at h1
        rw [← h2'] at h ⊢
        cases e' with
        | normal =>
          obtain ⟨_, _, e3⟩ := pack_pre h
          simp only [e3] at h ⊢
          rw [← h1]
          exact ihn _ _ h
        | exit i =>
          cases hi : (i == id) with
          | true =>
            simp only [hi] at h ⊢
            obtain ⟨_, _, e3⟩ := pack_pre h
            rw [e3]; exact h1
          | false => simp only [hi] at h; simp [fail] at h
        | ret => simp [fail] at h
    exact ⟨.normal, _, key _ _ _ p1, rfl⟩
  | loopR id x ins objs outs rets ih =>
    intro hc α d s K hp
    let D : Sum (Tup (LTs outs objs)) (Tup (LTs rets objs)) := .inl (Tup.d (LTs outs objs))
    let F : (Tup (LTs ins objs) → Heap → Res (Sum (Tup (LTs outs objs)) (Tup (LTs rets objs)))) → Tup (LTs ins objs) → Heap → Res (Sum (Tup (LTs outs objs)) (Tup (LTs rets objs))) := fun R v H => den N nt nl Γ x _ D (mkSt nt nl ins objs v H) fun e s' =>
        match e with
        | .normal => DenT.pack D s' ins objs fun v => R v s'.H
        | .exit i => (match i == id with | true => DenT.pack D s' outs objs fun v => ok (.inl v) s'.H | false => fail D)
        | .ret => DenT.pack D s' rets objs fun v => ok (.inr v) s'.H
    have e : den N nt nl Γ (.loopR id x ins objs outs rets) α d s K = DenT.pack d s ins objs (fun v0 => req (iter D F N v0 s.H).pre (sumElim (iter D F N v0 s.H).out (fun v => K .normal (mkSt nt nl outs objs v (iter D F N v0 s.H).H)) (fun v => K .ret (mkSt nt nl rets objs v (iter D F N v0 s.H).H)))) := rfl
    rw [e] at hp ⊢
    obtain ⟨_, _, e1⟩ := pack_pre hp
    rw [e1] at hp ⊢
    obtain ⟨p1, q1⟩ := req_pre hp
    rw [q1] at hp ⊢
    have key : ∀ n v H, (iter D F n v H).pre = true → (iter D F n v H).H = H := by
      intro n
      induction n with
      | zero => intro v H h; simp [iter_zero, fail] at h
      | succ n ihn =>
        intro v H h
        rw [iter_succ] at h ⊢
        obtain ⟨e', s', h1, h2⟩ := ih hc _ _ _ _ h
        have h2' : _ = F (iter D F n) v H := h2
        rw [mkSt_len.2.2] at h1
        rw [← h2'] at h ⊢
        cases e' with
        | normal =>
          obtain ⟨_, _, e3⟩ := pack_pre h
          simp only [e3] at h ⊢
          rw [← h1]
          exact ihn _ _ h
        | exit i =>
          cases hi : (i == id) with
          | true =>
            simp only [hi] at h ⊢
            obtain ⟨_, _, e3⟩ := pack_pre h
            rw [e3]; exact h1
          | false => simp only [hi] at h; simp [fail] at h
        | ret =>
          obtain ⟨_, _, e3⟩ := pack_pre h
          simp only [e3]; exact h1
    have hH := key _ _ _ p1
    generalize iter D F N (Tup.prj (LTs ins objs) (packX s ins objs)) s.H = r0 at *
    cases hr : r0.out with
    | inl v => exact ⟨.normal, mkSt nt nl outs objs v r0.H, hH, rfl⟩
    | inr v => exact ⟨.ret, mkSt nt nl rets objs v r0.H, hH, rfl⟩
end
end Go.Proofs.DenT
end
section
/-! Functions: results, contracts. -/
namespace Go.Proofs.DenT
set_option linter.unusedVariables false
set_option linter.unusedSimpArgs false
open Go
/-! ### The checks -/
def okRes (Pg : Program) : List ResultVar → List RVar → Bool
  | [], [] => true
  | .tmp t :: rs, .tmp t' _ _ :: vs => t == t' && okRes Pg rs vs
  | .tmp t :: rs, .prom t' :: vs => t == t' && okRes Pg rs vs
  | .cell t ty :: rs, .cell t' h _ :: vs => t == t' && okL Pg ty h && okRes Pg rs vs
  | _, _ => false
def isProm : RVar → Bool | .prom _ => true | _ => false
/-- The kinds of what is handed back: one owned row alone, or none owned; at most one object. -/
def okRk (pu : Bool) (rk : Kd) (res : List RVar) : Bool :=
  (match rk with
   | .own => (match res with | [.tmp _ .own _] => true | _ => false)
   | .glob => res.all (fun r => match r with | .tmp _ .glob _ => true | .tmp _ _ _ => false | _ => true)
   | _ => false) &&
  (match pu with | true => !res.any isProm | false => true) && decide ((res.filter isProm).length ≤ 1)
def chkF (Pg : Program) (fn : Func) (c : Code) (fd : FD) (pu : Bool) (rk : Kd) : Bool :=
  fn.ntmps == fd.nt && decide (fd.ins.length ≤ fd.nt) && okRes Pg fn.results.toList fd.res && okRk pu rk fd.res && chkC Pg pu fd.body c && (match pu with | true => puC fd.body | false => true)

/-! ### What is handed back -/
noncomputable def resX (s : St) (L : Nat) : RVar → AV
  | .tmp t _ _ => (nth s.env t Reg.junk).x
  | .cell t h _ => h.read (lob s.loc (nth s.env t Reg.junk).x).n (lob s.loc (nth s.env t Reg.junk).x).cs (nth s.env t Reg.junk).x.hpO
  | .prom t => match (nth s.env t Reg.junk).k with | .loc => .hp L (nth s.env t Reg.junk).x.hpO | _ => (nth s.env t Reg.junk).x
noncomputable def resO (s : St) : RVar → List HO
  | .prom t => match (nth s.env t Reg.junk).k with | .loc => [.cells (lob s.loc (nth s.env t Reg.junk).x).n (lob s.loc (nth s.env t Reg.junk).x).cs (lob s.loc (nth s.env t Reg.junk).x).own] | _ => []
  | _ => []
noncomputable def resXs (s : St) : Nat → List RVar → List AV
  | _, [] => []
  | L, r :: rs => resX s L r :: resXs s (L + (resO s r).length) rs
noncomputable def resOs (s : St) (rs : List RVar) : List HO := rs.flatMap (resO s)
def resT (s : St) : RVar → Prop
  | .tmp t k h => (nth s.env t Reg.junk).k.fits k = true ∧ h.is (nth s.env t Reg.junk).x = true ∧ (nth s.env t Reg.junk).ok.sat
  | .cell t h sh => (nth s.env t Reg.junk).k.isLoc = true ∧ (nth s.env t Reg.junk).x.isLp = true ∧ (lob s.loc (nth s.env t Reg.junk).x).live = true ∧ h.can (lob s.loc (nth s.env t Reg.junk).x).n (lob s.loc (nth s.env t Reg.junk).x).cs (nth s.env t Reg.junk).x.hpO = true ∧ sh.is (h.read (lob s.loc (nth s.env t Reg.junk).x).n (lob s.loc (nth s.env t Reg.junk).x).cs (nth s.env t Reg.junk).x.hpO) = true ∧ (nth s.env t Reg.junk).ok.sat
  | .prom t => (nth s.env t Reg.junk).ok.sat ∧ match (nth s.env t Reg.junk).k with
    | .loc => (nth s.env t Reg.junk).x.isLp = true ∧ (lob s.loc (nth s.env t Reg.junk).x).live = true ∧ (lob s.loc (nth s.env t Reg.junk).x).frz = false
    | k => k.isG = true
theorem retK_pre {s : St} {β : Type} {d : β} : ∀ {res : List RVar} {H : Heap} {K : List AV → Heap → Res β}, (retK s res d H K).pre = true → (∀ r, r ∈ res → resT s r) ∧ retK s res d H K = K (resXs s H.length res) (H ++ resOs s res)
  | [], H, K, h => ⟨fun r h => by simp at h, by simp [resOs, resXs]; rfl⟩
  | .tmp t k sh :: res, H, K, h => by
    have e : retK s (.tmp t k sh :: res) d H K = reqBs [(nth s.env t Reg.junk).k.fits k, sh.is (nth s.env t Reg.junk).x] d (reqO (nth s.env t Reg.junk).ok (retK s res d H fun l H => K ((nth s.env t Reg.junk).x :: l) H)) := rfl
    rw [e] at h ⊢
    obtain ⟨h1, e1⟩ := reqBs_pre h
    rw [e1] at h ⊢
    obtain ⟨h2, e2⟩ := reqO_pre h
    rw [e2] at h ⊢
    obtain ⟨h3, e3⟩ := retK_pre h
    refine ⟨fun r hr => ?_, e3⟩
    rcases List.mem_cons.1 hr with q | q
    · rw [q]; exact ⟨h1 _ (by simp), h1 _ (by simp), h2⟩
    · exact h3 r q
  | .cell t lh sh :: res, H, K, h => by
    have e : retK s (.cell t lh sh :: res) d H K = reqBs [(nth s.env t Reg.junk).k.isLoc, (nth s.env t Reg.junk).x.isLp, (lob s.loc (nth s.env t Reg.junk).x).live, lh.can (lob s.loc (nth s.env t Reg.junk).x).n (lob s.loc (nth s.env t Reg.junk).x).cs (nth s.env t Reg.junk).x.hpO, sh.is (lh.read (lob s.loc (nth s.env t Reg.junk).x).n (lob s.loc (nth s.env t Reg.junk).x).cs (nth s.env t Reg.junk).x.hpO)] d
        (reqO (nth s.env t Reg.junk).ok (retK s res d H fun l H => K (lh.read (lob s.loc (nth s.env t Reg.junk).x).n (lob s.loc (nth s.env t Reg.junk).x).cs (nth s.env t Reg.junk).x.hpO :: l) H)) := rfl
    rw [e] at h ⊢
    obtain ⟨h1, e1⟩ := reqBs_pre h
    rw [e1] at h ⊢
    obtain ⟨h2, e2⟩ := reqO_pre h
    rw [e2] at h ⊢
    obtain ⟨h3, e3⟩ := retK_pre h
    refine ⟨fun r hr => ?_, e3⟩
    rcases List.mem_cons.1 hr with q | q
    · rw [q]; exact ⟨h1 _ (by simp), h1 _ (by simp), h1 _ (by simp), h1 _ (by simp), h1 _ (by simp), h2⟩
    · exact h3 r q
  | .prom t :: res, H, K, h => by
    cases hk : (nth s.env t Reg.junk).k with
    | loc =>
      have e : retK s (.prom t :: res) d H K = reqBs [(nth s.env t Reg.junk).x.isLp, (lob s.loc (nth s.env t Reg.junk).x).live, !(lob s.loc (nth s.env t Reg.junk).x).frz] d
        (reqO (nth s.env t Reg.junk).ok (retK s res d (H ++ [.cells (lob s.loc (nth s.env t Reg.junk).x).n (lob s.loc (nth s.env t Reg.junk).x).cs (lob s.loc (nth s.env t Reg.junk).x).own]) fun l H' => K (.hp H.length (nth s.env t Reg.junk).x.hpO :: l) H')) := by
        show (match (nth s.env t Reg.junk).k with | .loc => _ | _ => _) = _
        rw [hk]
        rfl
      rw [e] at h ⊢
      obtain ⟨h1, e1⟩ := reqBs_pre h
      rw [e1] at h ⊢
      obtain ⟨h2, e2⟩ := reqO_pre h
      rw [e2] at h ⊢
      obtain ⟨h3, e3⟩ := retK_pre h
      refine ⟨fun r hr => ?_, ?_⟩
      · rcases List.mem_cons.1 hr with q | q
        · rw [q]
          refine ⟨h2, ?_⟩
          rw [hk]
          have := h1 (!(lob s.loc (nth s.env t Reg.junk).x).frz) (by simp)
          exact ⟨h1 _ (by simp), h1 _ (by simp), by simpa using this⟩
        · exact h3 r q
      · rw [e3]
        simp only [resXs, resX, resOs, List.flatMap_cons, resO, hk, List.length_append, List.length_cons, List.length_nil, List.append_assoc]
    | glob => 
      have e : retK s (.prom t :: res) d H K = reqBs [(nth s.env t Reg.junk).k.isG] d (reqO (nth s.env t Reg.junk).ok (retK s res d H fun l H => K ((nth s.env t Reg.junk).x :: l) H)) := by
        show (match (nth s.env t Reg.junk).k with | .loc => _ | _ => _) = _
        rw [hk]
        rfl
      rw [e] at h ⊢
      obtain ⟨h1, e1⟩ := reqBs_pre h
      rw [e1] at h ⊢
      obtain ⟨h2, e2⟩ := reqO_pre h
      rw [e2] at h ⊢
      obtain ⟨h3, e3⟩ := retK_pre h
      refine ⟨fun r hr => ?_, ?_⟩
      · rcases List.mem_cons.1 hr with q | q
        · rw [q]; refine ⟨h2, ?_⟩; rw [hk]; rfl
        · exact h3 r q
      · rw [e3]
        simp only [resXs, resX, resOs, List.flatMap_cons, resO, hk, List.length_nil, Nat.add_zero, List.nil_append]
    | own => 
      have e : retK s (.prom t :: res) d H K = reqBs [(nth s.env t Reg.junk).k.isG] d (reqO (nth s.env t Reg.junk).ok (retK s res d H fun l H => K ((nth s.env t Reg.junk).x :: l) H)) := by
        show (match (nth s.env t Reg.junk).k with | .loc => _ | _ => _) = _
        rw [hk]
        rfl
      rw [e] at h ⊢
      obtain ⟨h1, e1⟩ := reqBs_pre h
      rw [e1] at h ⊢
      obtain ⟨h2, e2⟩ := reqO_pre h
      rw [e2] at h ⊢
      obtain ⟨h3, e3⟩ := retK_pre h
      refine ⟨fun r hr => ?_, ?_⟩
      · rcases List.mem_cons.1 hr with q | q
        · rw [q]; refine ⟨h2, ?_⟩; rw [hk]; rfl
        · exact h3 r q
      · rw [e3]
        simp only [resXs, resX, resOs, List.flatMap_cons, resO, hk, List.length_nil, Nat.add_zero, List.nil_append]
    | nils l =>
      have e : retK s (.prom t :: res) d H K = reqBs [(nth s.env t Reg.junk).k.isG] d (reqO (nth s.env t Reg.junk).ok (retK s res d H fun l H => K ((nth s.env t Reg.junk).x :: l) H)) := by
        show (match (nth s.env t Reg.junk).k with | .loc => _ | _ => _) = _
        rw [hk]
        rfl
      rw [e] at h ⊢
      obtain ⟨h1, e1⟩ := reqBs_pre h
      rw [e1] at h ⊢
      obtain ⟨h2, e2⟩ := reqO_pre h
      rw [e2] at h ⊢
      obtain ⟨h3, e3⟩ := retK_pre h
      refine ⟨fun r hr => ?_, ?_⟩
      · rcases List.mem_cons.1 hr with q | q
        · rw [q]; refine ⟨h2, ?_⟩; rw [hk]; rfl
        · exact h3 r q
      · rw [e3]
        simp only [resXs, resX, resOs, List.flatMap_cons, resO, hk, List.length_nil, Nat.add_zero, List.nil_append]
end Go.Proofs.DenT
end
section
namespace Go.Proofs.DenT
set_option linter.unusedVariables false
set_option linter.unusedSimpArgs false
open Go
section
variable {Pg : Program} {fr : Fr} {pu : Bool} {g : Gh} {s : St} {a : Act} {w : World} {Γ : Env}
theorem run_mapL {α β : Type} {f : α → Go.Sem β} : ∀ {l : List α} {vs : List β}, l.length = vs.length → (∀ (i : Nat) x v, l[i]? = some x → vs[i]? = some v → (f x).run Pg w = .ok v w) → (l.mapM f).run Pg w = .ok vs w
  | [], [], _, _ => by simp
  | [], _ :: _, h, _ => by simp at h
  | _ :: _, [], h, _ => by simp at h
  | x :: l, v :: vs, hl, h => by
    have h1 := h 0 x v rfl rfl
    have h2 := run_mapL (l := l) (vs := vs) (by simpa using hl) (fun i x v hx hv => h (i + 1) x v (by simpa using hx) (by simpa using hv))
    simp [List.mapM_cons, h1, h2]
theorem run_mapA {α β : Type} {f : α → Go.Sem β} {l : Array α} {vs : List β} (hl : l.size = vs.length) (h : ∀ (i : Nat) x v, l.toList[i]? = some x → vs[i]? = some v → (f x).run Pg w = .ok v w) : (l.mapM f).run Pg w = .ok vs.toArray w := by
  rw [Array.mapM_eq_mapM_toList]
  have := run_mapL (Pg := Pg) (w := w) (f := f) (l := l.toList) (vs := vs) (by simpa using hl) h
  simp [this]

/-! ### The object handed back -/
noncomputable def promJ (s : St) : List RVar → Option Nat
  | [] => none
  | .prom t :: rs => (match (nth s.env t Reg.junk).k with | .loc => some (nth s.env t Reg.junk).x.lpJ | _ => promJ s rs)
  | .tmp _ _ _ :: rs => promJ s rs
  | .cell _ _ _ :: rs => promJ s rs
noncomputable def objOf (s : St) : Option Nat → List HO
  | none => []
  | some j => [.cells (nth s.loc j LO.dead).n (nth s.loc j LO.dead).cs (nth s.loc j LO.dead).own]
theorem no_prom {s : St} {L L' : Nat} : ∀ {res : List RVar}, (res.filter isProm).length = 0 → promJ s res = none ∧ resOs s res = [] ∧ resXs s L res = res.map (resX s L') ∧ ∀ r, r ∈ res → isProm r = false
  | [], _ => ⟨rfl, rfl, rfl, fun r h => by simp at h⟩
  | .prom t :: rs, h => by simp [isProm] at h
  | .tmp t k sh :: rs, h => by
    obtain ⟨h1, h2, h3, h4⟩ := no_prom (s := s) (L := L) (L' := L') (res := rs) (by simpa [isProm] using h)
    refine ⟨h1, by simpa [resOs, resO] using h2, ?_, fun r hr => ?_⟩
    · simp only [resXs, resO, List.length_nil, Nat.add_zero, List.map_cons, h3]; rfl
    · rcases List.mem_cons.1 hr with q | q
      · rw [q]; rfl
      · exact h4 r q
  | .cell t lh sh :: rs, h => by
    obtain ⟨h1, h2, h3, h4⟩ := no_prom (s := s) (L := L) (L' := L') (res := rs) (by simpa [isProm] using h)
    refine ⟨h1, by simpa [resOs, resO] using h2, ?_, fun r hr => ?_⟩
    · simp only [resXs, resO, List.length_nil, Nat.add_zero, List.map_cons, h3]; rfl
    · rcases List.mem_cons.1 hr with q | q
      · rw [q]; rfl
      · exact h4 r q
theorem one_prom {s : St} {L : Nat} : ∀ {res : List RVar}, (res.filter isProm).length ≤ 1 → resOs s res = objOf s (promJ s res) ∧ resXs s L res = res.map (resX s L) ∧
    (∀ t, .prom t ∈ res → (nth s.env t Reg.junk).k = .loc → promJ s res = some (nth s.env t Reg.junk).x.lpJ) ∧ ∀ j, promJ s res = some j → ∃ t, .prom t ∈ res ∧ (nth s.env t Reg.junk).k = .loc ∧ (nth s.env t Reg.junk).x.lpJ = j
  | [], _ => ⟨rfl, rfl, fun t h => by simp at h, fun j h => by simp [promJ] at h⟩
  | .tmp t k sh :: rs, h => by
    obtain ⟨h1, h2, h3, h4⟩ := one_prom (s := s) (L := L) (res := rs) (by simpa [isProm] using h)
    refine ⟨by simpa [resOs, resO, promJ] using h1, ?_, fun t' ht => h3 t' (by simpa using ht), fun j hj => ?_⟩
    · simp only [resXs, resO, List.length_nil, Nat.add_zero, List.map_cons, h2]
    · obtain ⟨t', q1, q2⟩ := h4 j hj; exact ⟨t', List.mem_cons_of_mem _ q1, q2⟩
  | .cell t lh sh :: rs, h => by
    obtain ⟨h1, h2, h3, h4⟩ := one_prom (s := s) (L := L) (res := rs) (by simpa [isProm] using h)
    refine ⟨by simpa [resOs, resO, promJ] using h1, ?_, fun t' ht => h3 t' (by simpa using ht), fun j hj => ?_⟩
    · simp only [resXs, resO, List.length_nil, Nat.add_zero, List.map_cons, h2]
    · obtain ⟨t', q1, q2⟩ := h4 j hj; exact ⟨t', List.mem_cons_of_mem _ q1, q2⟩
  | .prom t :: rs, h => by
    have h0 : (rs.filter isProm).length = 0 := by
      have e : (RVar.prom t :: rs).filter isProm = .prom t :: rs.filter isProm := rfl
      rw [e, List.length_cons] at h
      omega
    cases hk : (nth s.env t Reg.junk).k with
    | loc =>
      obtain ⟨n1, n2, n3, n4⟩ := no_prom (s := s) (L := L + 1) (L' := L) h0
      refine ⟨?_, ?_, fun t' ht hk' => ?_, fun j hj => ?_⟩
      · simp only [resOs] at n2
        simp only [resOs, List.flatMap_cons, resO, hk, promJ, objOf, n2, List.append_nil, lob]
      · simp only [resXs, resO, hk, List.length_cons, List.length_nil, List.map_cons]
        rw [show L + (0 + 1) = L + 1 from by omega, n3]
      · simp only [promJ, hk]
        rcases List.mem_cons.1 ht with q | q
        · cases q; rfl
        · have := n4 _ q; simp [isProm] at this
      · simp only [promJ, hk, Option.some.injEq] at hj
        exact ⟨t, List.mem_cons_self, hk, hj⟩
    | glob =>
      obtain ⟨n1, n2, n3, n4⟩ := no_prom (s := s) (L := L) (L' := L) h0
      refine ⟨?_, ?_, fun t' ht hk' => ?_, fun j hj => ?_⟩
      · simp only [resOs] at n2
        simp only [resOs, List.flatMap_cons, resO, hk, promJ, n1, objOf, n2, List.append_nil]
      · simp only [resXs, resO, hk, List.length_nil, Nat.add_zero, List.map_cons, n3]
      · rcases List.mem_cons.1 ht with q | q
        · cases q; rw [hk] at hk'; simp at hk'
        · have := n4 _ q; simp [isProm] at this
      · simp only [promJ, hk, n1] at hj; simp at hj
    | own =>
      obtain ⟨n1, n2, n3, n4⟩ := no_prom (s := s) (L := L) (L' := L) h0
      refine ⟨?_, ?_, fun t' ht hk' => ?_, fun j hj => ?_⟩
      · simp only [resOs] at n2
        simp only [resOs, List.flatMap_cons, resO, hk, promJ, n1, objOf, n2, List.append_nil]
      · simp only [resXs, resO, hk, List.length_nil, Nat.add_zero, List.map_cons, n3]
      · rcases List.mem_cons.1 ht with q | q
        · cases q; rw [hk] at hk'; simp at hk'
        · have := n4 _ q; simp [isProm] at this
      · simp only [promJ, hk, n1] at hj; simp at hj
    | nils l =>
      obtain ⟨n1, n2, n3, n4⟩ := no_prom (s := s) (L := L) (L' := L) h0
      refine ⟨?_, ?_, fun t' ht hk' => ?_, fun j hj => ?_⟩
      · simp only [resOs] at n2
        simp only [resOs, List.flatMap_cons, resO, hk, promJ, n1, objOf, n2, List.append_nil]
      · simp only [resXs, resO, hk, List.length_nil, Nat.add_zero, List.map_cons, n3]
      · rcases List.mem_cons.1 ht with q | q
        · cases q; rw [hk] at hk'; simp at hk'
        · have := n4 _ q; simp [isProm] at this
      · simp only [promJ, hk, n1] at hj; simp at hj
/-! ### The ghosts that are handed back -/
def Gh.fin (g : Gh) (pu : Bool) (own : Option Nat) (L : Nat) (pj : Option Nat) : Gh :=
  { g with
    γ := fun l => match pj with | some j => if l = L then some (g.lam j) else g.γ l | none => g.γ l
    ρ := fun c => match c with
      | .X => (match own with | some t => g.ρ (.R t) | none => none)
      | .G l => (match pu with | true => none | false => match pj with | some j => if l = L then g.ρ (.L j) else g.ρ (.G l) | none => g.ρ (.G l))
      | .GC l o => (match pu with | true => none | false => match pj with | some j => if l = L then g.ρ (.LC j o) else g.ρ (.GC l o) | none => g.ρ (.GC l o))
      | _ => none }
/-- Where a token comes from. -/
inductive Src' (own : Option Nat) (L : Nat) (pj : Option Nat) : Lc → Lc → Prop
  | x (t : Nat) : own = some t → Src' own L pj .X (.R t)
  | gp (j : Nat) : pj = some j → Src' own L pj (.G L) (.L j)
  | gcp (j o : Nat) : pj = some j → Src' own L pj (.GC L o) (.LC j o)
  | g (l : Nat) : Src' own L pj (.G l) (.G l)
  | gc (l o : Nat) : Src' own L pj (.GC l o) (.GC l o)
theorem fin_src {own : Option Nat} {L : Nat} {pj : Option Nat} {c : Lc} {p : Nat × Nat} (h : (g.fin pu own L pj).ρ c = some p) : ∃ d, g.ρ d = some p ∧ Src' own L pj c d ∧ (c = .X ∨ (pu = false ∧ c.hp = true)) ∧ (c = .G L → pj = none ∨ ∃ j, d = .L j) ∧ (∀ o, c = .GC L o → pj = none ∨ ∃ j, d = .LC j o) := by
  cases c with
  | X =>
    simp only [Gh.fin] at h
    cases own with
    | none => simp at h
    | some t => exact ⟨_, h, .x t rfl, .inl rfl, fun q => by simp at q, fun o q => by simp at q⟩
  | G l =>
    simp only [Gh.fin] at h
    cases pu with
    | true => simp at h
    | false =>
      simp only at h
      cases pj with
      | none => exact ⟨_, h, .g l, .inr ⟨rfl, rfl⟩, fun _ => .inl rfl, fun o q => by simp at q⟩
      | some j =>
        simp only at h
        by_cases hl : l = L
        · subst hl; rw [if_pos rfl] at h; exact ⟨_, h, .gp j rfl, .inr ⟨rfl, rfl⟩, fun _ => .inr ⟨j, rfl⟩, fun o q => by simp at q⟩
        · rw [if_neg hl] at h; exact ⟨_, h, .g l, .inr ⟨rfl, rfl⟩, fun q => by simp at q; exact absurd q hl, fun o q => by simp at q⟩
  | GC l o =>
    simp only [Gh.fin] at h
    cases pu with
    | true => simp at h
    | false =>
      simp only at h
      cases pj with
      | none => exact ⟨_, h, .gc l o, .inr ⟨rfl, rfl⟩, fun _ => .inl rfl, fun o' q => .inl rfl⟩
      | some j =>
        simp only at h
        by_cases hl : l = L
        · subst hl; rw [if_pos rfl] at h; exact ⟨_, h, .gcp j o rfl, .inr ⟨rfl, rfl⟩, fun q => by simp at q, fun o' q => by simp at q; subst q; exact .inr ⟨j, rfl⟩⟩
        · rw [if_neg hl] at h; exact ⟨_, h, .gc l o, .inr ⟨rfl, rfl⟩, fun q => by simp at q, fun o' q => by simp at q; exact absurd q.1 hl⟩
  | R t => simp [Gh.fin] at h
  | L j => simp [Gh.fin] at h
  | LC j o => simp [Gh.fin] at h
theorem src_inj {own : Option Nat} {L : Nat} {pj : Option Nat} {c c' d : Lc} (h : Src' own L pj c d) (h' : Src' own L pj c' d) : c = c' := by
  cases h <;> cases h' <;> rfl
theorem fin_inv {fr : Fr} {own : Option Nat} {L : Nat} {pj : Option Nat} (I : Inv fr g w) (hL : g.γ L = none) (hj : ∀ j, pj = some j → g.ρ (.L j) = some (g.lam j, 0)) : Inv fr (g.fin pu own L pj) w ∧ Gle g (g.fin pu own L pj) := by
  have hγ : ∀ l b, g.γ l = some b → (g.fin pu own L pj).γ l = some b := by
    intro l b h
    simp only [Gh.fin]
    cases pj with
    | none => exact h
    | some j =>
      simp only
      by_cases hl : l = L
      · subst hl; rw [hL] at h; simp at h
      · rw [if_neg hl]; exact h
  refine ⟨{ I with inj := ?_, disj := ?_, tok := ?_, gtok := ?_, mold := ?_, γle := fun l b h => hγ _ _ (I.γle _ _ h) }, ⟨fun _ _ _ h => h, hγ, fun _ _ h => h⟩⟩
  · intro c c' b n n' h h'
    obtain ⟨d, h1, h2, _⟩ := fin_src h
    obtain ⟨d', h3, h4, _⟩ := fin_src h'
    have := I.inj _ _ _ _ _ h1 h3
    subst this
    exact src_inj h2 h4
  · intro c b n o h h'
    obtain ⟨d, h1, _⟩ := fin_src h
    exact I.disj _ _ _ _ h1 h'
  · intro c b n h
    obtain ⟨d, h1, _⟩ := fin_src h
    exact I.tok _ _ _ h1
  · intro l b h
    simp only [Gh.fin] at h
    cases pj with
    | none => exact I.gtok _ _ h
    | some j =>
      simp only at h
      by_cases hl : l = L
      · rw [if_pos hl] at h; simp at h; subst h; exact I.tok _ _ _ (hj j rfl)
      · rw [if_neg hl] at h; exact I.gtok _ _ h
  · intro c b n o h h' h''
    obtain ⟨d, h1, _⟩ := fin_src h
    exact I.mold _ _ _ _ h1 h' h''
end
end Go.Proofs.DenT
end
section
namespace Go.Proofs.DenT
set_option linter.unusedVariables false
set_option linter.unusedSimpArgs false
open Go
section
variable {Pg : Program} {fr : Fr} {pu : Bool} {g : Gh} {s : St} {a : Act} {w : World} {Γ : Env}
theorem tup_roundN : ∀ (hs : List Sh) (xs : List AV), xs.length = hs.length → (∀ (i : Nat) h x, hs[i]? = some h → xs[i]? = some x → h.nf x = x) → Tup.inj hs (Tup.prj hs xs) = xs
  | [], [], _, _ => rfl
  | [], _ :: _, h, _ => by simp at h
  | _ :: _, [], h, _ => by simp at h
  | h :: hs, x :: xs, hl, hb => by
    have h1 : h.nf x = x := hb 0 h x rfl rfl
    have h2 := tup_roundN hs xs (by simpa using hl) (fun i h x q1 q2 => hb (i + 1) h x (by simpa using q1) (by simpa using q2))
    show h.inj (h.prj (nth (x :: xs) 0 .junk)) :: Tup.inj hs (Tup.prj hs (x :: xs).tail) = _
    rw [nth_0, List.tail_cons, h2]
    simp only [Sh.nf] at h1
    rw [h1]
def ResR (Pg : Program) (r : ResultVar) : RVar → Prop
  | .tmp t _ _ => r = .tmp t
  | .prom t => r = .tmp t
  | .cell t h _ => ∃ ty, r = .cell t ty ∧ okL Pg ty h = true
def NoLoc : RVar → Prop | .tmp _ k _ => k ≠ .loc | _ => True
theorem okRes_spec : ∀ {rs : List ResultVar} {vs : List RVar}, okRes Pg rs vs = true → rs.length = vs.length ∧ ∀ (i : Nat) r v, rs[i]? = some r → vs[i]? = some v →
    ResR Pg r v
  | [], [], _ => ⟨rfl, fun i r v h => by simp at h⟩
  | [], _ :: _, h => by simp [okRes] at h
  | r :: rs, [], h => by cases r <;> simp [okRes] at h
  | r :: rs, v :: vs, h => by
    have key : okRes Pg rs vs = true ∧ ResR Pg r v := by
      cases r <;> cases v <;> simp [okRes] at h
      · exact ⟨h.2, congrArg ResultVar.tmp h.1⟩
      · exact ⟨h.2, congrArg ResultVar.tmp h.1⟩
      · exact ⟨h.2, _, by rw [h.1.1], h.1.2⟩
    obtain ⟨h1, h2⟩ := okRes_spec key.1
    refine ⟨by simp [h1], fun i r' v' hr hv => ?_⟩
    cases i with
    | zero => simp at hr hv; subst hr; subst hv; exact key.2
    | succ i => exact h2 i r' v' (by simpa using hr) (by simpa using hv)
/-- A result, fetched. -/
theorem res_run {own : Option Nat} {L : Nat} {pj : Option Nat} (R : Rel fr pu g s a w) {r : ResultVar} {v : RVar} (hr : ResR Pg r v)
    (hT : resT s v) (hk : NoLoc v) (hle : Gle g (g.fin pu own L pj)) (hp : ∀ t, v = .prom t → (nth s.env t Reg.junk).k = .loc → pj = some (nth s.env t Reg.junk).x.lpJ) :
    ∃ u, ((match r with | .tmp t => pure (a.tmps.getD t undef) | .cell a' t => do loadVar t (← asAddr (a.tmps.getD a' undef))) : Go.Sem Value).run Pg w = .ok u w ∧ RV (g.fin pu own L pj).Φ (g.fin pu own L pj).γ u (resX s L v) := by
  cases v with
  | tmp t k h =>
    simp only [ResR, NoLoc] at hr hk; subst hr
    obtain ⟨t1, t2, t3⟩ := hT
    have h1 := src_ok R (x := .tmp t) (y := .t t) (by simp [okSrc]) t3
    simp only [envGet, srcLc, Act.eval] at h1
    refine ⟨_, by simp, RV.le hle (h1.rvG ?_)⟩
    rcases fits_spec t1 with ⟨_, q⟩ | ⟨_, q⟩ | ⟨q, _⟩
    · exact q
    · exact absurd q hk
    · rw [q]; rfl
  | prom t =>
    simp only [ResR] at hr; subst hr
    obtain ⟨t1, t2⟩ := hT
    have h1 := src_ok R (x := .tmp t) (y := .t t) (by simp [okSrc]) t1
    simp only [envGet, srcLc, Act.eval] at h1
    refine ⟨a.tmps.getD t undef, by simp, ?_⟩
    cases hkk : (nth s.env t Reg.junk).k with
    | loc =>
      rw [hkk] at t2 h1
      obtain ⟨q1, q2⟩ := KR.lpJ_at (s := s) (k := .loc) h1 t2.1
      have hpj := hp t rfl hkk
      simp only [resX, hkk]
      have e : (a.tmps.getD t undef) = .pointer (some ⟨g.lam (nth s.env t Reg.junk).x.lpJ, (nth s.env t Reg.junk).x.hpO, none⟩) := q1
      rw [e]
      refine RV.hp _ _ _ ?_
      simp only [Gh.fin, hpj, if_true]
    | glob => simp only [resX, hkk]; exact RV.le hle (h1.rvG (by rw [hkk]; rfl))
    | own => simp only [resX, hkk]; exact RV.le hle (h1.rvG (by rw [hkk]; rfl))
    | nils l => simp only [resX, hkk]; exact RV.le hle (h1.rvG (by rw [hkk]; rfl))
  | cell t h sh =>
    obtain ⟨ty, rfl, hty⟩ := hr
    obtain ⟨t1, t2, t3, t4, t5, t6⟩ := hT
    have h1 := src_ok R (x := .tmp t) (y := .t t) (by simp [okSrc]) t6
    simp only [envGet, srcLc] at h1
    obtain ⟨q1, q2⟩ := h1.lpAt R t2 t3
    obtain ⟨u, u1, u2⟩ := loadVar_ok (Pg := Pg) q2 hty t4
    refine ⟨u, ?_, RV.le hle u2⟩
    have e : a.tmps.getD t undef = .pointer (some ⟨g.lam (nth s.env t Reg.junk).x.lpJ, (nth s.env t Reg.junk).x.hpO, none⟩) := q1
    rw [Nat.zero_add] at u1
    simp [e, asAddr, u1]
theorem resX_nf {L : Nat} {v : RVar} (hT : resT s v) : v.sh.nf (resX s L v) = resX s L v := by
  cases v with
  | tmp t k h => exact nf_spec hT.2.1
  | cell t h sh => exact nf_spec hT.2.2.2.2.1
  | prom t => rfl
end
theorem fd_ok {Pg : Program} {Γ : Env} {f N : Nat} {fn : Func} {c : Code} {fd : FD} {pu : Bool} {rk : Kd} {F : Tup fd.ins → Heap → Res (Tup fd.outs)} (hm : Pg.follows .mixedOrders = true) (hE : EnvOK Pg Γ) (hf : Pg.funcs[f]? = some fn) (hb : fn.body = some c) (hn : fn.name ≠ "runtime.NumGoroutine")
    (hc : chkF Pg fn c fd pu rk = true) (hF : ∀ v H, fd.sem N Γ v H = F v H) : CallOK Pg f ⟨fd.ins, fd.outs, rk, pu, F⟩ := by
  have hF' : F = fd.sem N Γ := by funext v H; exact (hF v H).symm
  subst hF'
  simp only [chkF, Bool.and_eq_true, beq_iff_eq, decide_eq_true_eq] at hc
  obtain ⟨⟨⟨⟨⟨c1, c2⟩, c3⟩, c4⟩, c5⟩, c6⟩ := hc
  simp only [okRk, Bool.and_eq_true, decide_eq_true_eq] at c4
  obtain ⟨⟨k1, k2⟩, k3⟩ := c4
  have semE : ∀ (v : Tup fd.ins) (H : Heap), fd.sem N Γ v H = den N fd.nt fd.nl Γ fd.body _ (Tup.d fd.outs) ⟨(Tup.inj fd.ins v).map (fun x => ⟨x, .glob, .yes⟩) ++ List.replicate (fd.nt - fd.ins.length) Reg.junk, List.replicate fd.nl LO.dead, H⟩
      (fun e s => match e with | .exit _ => fail (Tup.d fd.outs) | _ => retK s fd.res (Tup.d fd.outs) s.H fun xs H => ok (Tup.prj fd.outs xs) H) := fun _ _ => rfl
  refine ⟨fun hpu xs H _ hp => ?_, ⟨fn, c, hf, hb, hn⟩, ?_⟩
  · -- nothing turns
    have hpu' : pu = true := hpu
    subst hpu'
    have hp' : (fd.sem N Γ (Tup.prj fd.ins xs) H).pre = true := hp
    show (fd.sem N Γ (Tup.prj fd.ins xs) H).H = H
    rw [semE] at hp' ⊢
    obtain ⟨e', s', h1, h2⟩ := den_pure fd.body (by simpa using c6) _ _ _ _ hp'
    rw [← h2] at hp' ⊢
    have hno : resOs s' fd.res = [] := by
      have : (fd.res.filter isProm).length = 0 := by
        simp only [Bool.not_eq_true'] at k2
        rw [List.length_eq_zero_iff, List.filter_eq_nil_iff]
        intro r hr
        have := List.any_eq_false.1 k2 r hr
        simpa using this
      exact (no_prom (s := s') (L := 0) (L' := 0) this).2.1
    have fin : (retK s' fd.res (Tup.d fd.outs) s'.H fun xs H => ok (Tup.prj fd.outs xs) H).pre = true → (retK s' fd.res (Tup.d fd.outs) s'.H fun xs H => ok (Tup.prj fd.outs xs) H).H = H := by
      intro h
      obtain ⟨_, e⟩ := retK_pre h
      rw [e]
      show s'.H ++ resOs s' fd.res = H
      rw [hno, List.append_nil]; exact h1
    cases e' with
    | normal => exact fin hp'
    | ret => exact fin hp'
    | exit i => simp [fail] at hp'
  · intro g w H args xs I ht hh hγ hal hrv hfit hp
    have hfit' : ∀ b, b ∈ Tup.is fd.ins xs → b = true := fun b hb' => hfit b (List.mem_cons_of_mem _ hb')
    have hlen : fd.ins.length = xs.length := by
      have := hfit (fd.ins.length == xs.length) (List.mem_cons_self)
      simpa using this
    have hround := tup_round fd.ins xs hfit' hlen.symm
    have hp' : (fd.sem N Γ (Tup.prj fd.ins xs) H).pre = true := hp
    rw [semE, hround] at hp'
    have hsize : args.size ≤ fn.ntmps := by rw [c1]; omega
    have R0 : RelM (FrAt g w) pu fd.nt fd.nl H g ⟨xs.map (fun x => ⟨x, .glob, .yes⟩) ++ List.replicate (fd.nt - fd.ins.length) Reg.junk, List.replicate fd.nl LO.dead, H⟩ ⟨args ++ Array.replicate (fn.ntmps - args.size) undef, []⟩ w := by
      refine ⟨⟨I, rfl, by simp; omega, fun t htt => ?_, fun j => ?_, hh, hγ, fun hpu l => ?_, fun hpu => ⟨fun b o => ?_, fun l b hb' => I.gtok _ _ hb', rfl⟩⟩, by simp; omega, by simp, fun _ => rfl⟩
      · simp only [List.length_append, List.length_map, List.length_replicate] at htt
        by_cases hlt : t < xs.length
        · have e1 : (xs.map (fun x => (⟨x, .glob, .yes⟩ : Reg)) ++ List.replicate (fd.nt - fd.ins.length) Reg.junk).getD t Reg.junk = ⟨xs.getD t .junk, .glob, .yes⟩ := by
            rw [List.getD_eq_getElem?_getD, List.getElem?_append_left (by simpa using hlt), List.getElem?_map, List.getElem?_eq_getElem hlt]
            simp [List.getD_eq_getElem?_getD, hlt]
          have e2 : (args ++ Array.replicate (fn.ntmps - args.size) undef).getD t undef = args.getD t undef := by
            rw [Array.getD_eq_getD_getElem?, Array.getD_eq_getD_getElem?, Array.getElem?_append_left (by omega)]
          rw [e1, e2]
          exact hrv t hlt
        · have e1 : (xs.map (fun x => (⟨x, .glob, .yes⟩ : Reg)) ++ List.replicate (fd.nt - fd.ins.length) Reg.junk).getD t Reg.junk = Reg.junk := by
            rw [List.getD_eq_getElem?_getD, List.getElem?_append_right (by simp; omega), List.getElem?_replicate]
            split <;> rfl
          rw [e1]; trivial
      · intro q
        rw [List.getD_eq_getElem?_getD, List.getElem?_replicate] at q
        split at q <;> simp [LO.dead] at q
      · refine ⟨?_, fun o => ?_⟩
        · cases hq : g.ρ (.G l) with
          | none => rfl
          | some p => have := (ht _ _ hq).1; simp only at this; rw [hpu] at this; simp at this
        · cases hq : g.ρ (.GC l o) with
          | none => rfl
          | some p => have := (ht _ _ hq).1; simp only at this; rw [hpu] at this; simp at this
      · rintro ⟨c', k, q1, _⟩
        have := (ht _ _ q1).1; simp only at this; rw [hpu] at this; simp at this
    refine calls_of_wp hf hb (wp_mono (den_sound (nl := fd.nl) hm hE fd.body c c5 _ _ _ _ g _ w R0 hp') ?_)
    rintro e a' w' ⟨e', s', g', he, R', hK⟩
    have main : (retK s' fd.res (Tup.d fd.outs) s'.H fun xs H => ok (Tup.prj fd.outs xs) H) = fd.sem N Γ (Tup.prj fd.ins xs) H →
        a'.defers = [] ∧ ∃ v, (results fn a'.tmps).run Pg w' = .ok v w' ∧ ∃ v0 g'', Ending.returned v = .returned v0 ∧ Back ⟨fd.ins, fd.outs, rk, pu, fd.sem N Γ⟩ xs H g w v0 g'' w' := by
      intro hKr
      have hpr : (retK s' fd.res (Tup.d fd.outs) s'.H fun xs H => ok (Tup.prj fd.outs xs) H).pre = true := by rw [hKr]; exact hp
      obtain ⟨hT, eR⟩ := retK_pre hpr
      obtain ⟨o1, o2, o3, o4⟩ := one_prom (s := s') (L := s'.H.length) k3
      obtain ⟨r1, r2⟩ := okRes_spec c3
      rw [o1, o2] at eR
      -- what is handed back
      have hpj : ∀ j, promJ s' fd.res = some j → pu = false ∧ (nth s'.loc j LO.dead).live = true ∧ (nth s'.loc j LO.dead).frz = false := by
        intro j hj
        obtain ⟨t, q1, q2, q3⟩ := o4 j hj
        have := hT _ q1
        obtain ⟨_, t2⟩ := this
        rw [q2] at t2
        simp only [lob] at t2
        rw [q3] at t2
        refine ⟨?_, t2.2⟩
        cases hpu : pu with
        | false => rfl
        | true =>
          rw [hpu] at k2
          simp only [Bool.not_eq_true'] at k2
          have := List.any_eq_false.1 k2 _ q1
          simp [isProm] at this
      have hpjt : ∀ j, promJ s' fd.res = some j → g'.ρ (.L j) = some (g'.lam j, 0) ∧ g'.S (g'.lam j) = some (nth s'.loc j LO.dead).n := by
        intro j hj
        obtain ⟨_, h2, h3⟩ := hpj j hj
        rw [nth_eq] at h2 h3 ⊢
        exact (R'.R.locs j h2).2.2.1 h3
      let own : Option Nat := match rk with | .own => (match fd.res with | .tmp t _ _ :: _ => some t | _ => none) | _ => none
      obtain ⟨I', hle⟩ := fin_inv (pu := pu) (own := own) (L := s'.H.length) (pj := promJ s' fd.res) R'.R.inv (R'.R.γdom _ (Nat.le_refl _)) (fun j hj => (hpjt j hj).1)
      have hnl : ∀ v, v ∈ fd.res → NoLoc v := by
        intro v hv
        cases rk with
        | own =>
          simp only at k1
          split at k1 <;> try (simp at k1; done)
          rename_i hre
          rw [hre] at hv
          simp at hv; subst hv; simp [NoLoc]
        | glob =>
          simp only at k1
          have := List.all_eq_true.1 k1 v hv
          cases v with
          | tmp t k h => cases k <;> simp at this <;> simp [NoLoc]
          | _ => trivial
        | loc => simp at k1
        | nils l => simp at k1
      have hvals : ∀ i : Nat, ∃ u, ∀ r v, fn.results.toList[i]? = some r → fd.res[i]? = some v → ((match r with | .tmp t => pure (a'.tmps.getD t undef) | .cell a'' t => do loadVar t (← asAddr (a'.tmps.getD a'' undef))) : Go.Sem Value).run Pg w' = .ok u w' ∧ RV (g'.fin pu own s'.H.length (promJ s' fd.res)).Φ (g'.fin pu own s'.H.length (promJ s' fd.res)).γ u (resX s' s'.H.length v) := by
        intro i
        cases hv : fd.res[i]? with
        | none => exact ⟨undef, fun r v _ h => by simp at h⟩
        | some v =>
          have hlt : i < fn.results.toList.length := by rw [r1]; exact (List.getElem?_eq_some_iff.1 hv).1
          have hr := List.getElem?_eq_getElem hlt
          have hmem := List.mem_of_getElem? hv
          obtain ⟨u, u1, u2⟩ := res_run (Pg := Pg) (own := own) (L := s'.H.length) (pj := promJ s' fd.res) R'.R (r2 i _ _ hr hv) (hT v hmem) (hnl v hmem) hle (fun t ht hk => by subst ht; exact o3 t hmem hk)
          refine ⟨u, fun r v' h h' => ?_⟩
          rw [hr] at h; simp at h; subst h
          simp at h'; subst h'
          exact ⟨u1, u2⟩
      obtain ⟨V, hV⟩ := Classical.axiomOfChoice hvals
      have hgetV : ∀ i, i < fd.res.length → ((List.range fd.res.length).map V)[i]? = some (V i) := fun i hi => by simp [hi]
      have hvs : (fn.results.mapM fun | .tmp t => pure (a'.tmps.getD t undef) | .cell a'' t => do loadVar t (← asAddr (a'.tmps.getD a'' undef)) : Go.Sem (Array Value)).run Pg w' = .ok ((List.range fd.res.length).map V).toArray w' := by
        refine run_mapA (by simpa using r1) (fun i r v hr hv => ?_)
        have hlt : i < fd.res.length := by rw [← r1]; exact (List.getElem?_eq_some_iff.1 hr).1
        rw [hgetV i hlt] at hv; simp at hv; subst hv
        exact (hV i r _ hr (List.getElem?_eq_getElem hlt)).1
      have hout : ((⟨fd.ins, fd.outs, rk, pu, fd.sem N Γ⟩ : Sem).run xs H).out = fd.res.map (resX s' s'.H.length) := by
        show Tup.inj fd.outs (fd.sem N Γ (Tup.prj fd.ins xs) H).out = _
        rw [← hKr, eR]
        refine tup_roundN fd.outs _ (by simp [FD.outs]) (fun i h x h1 h2 => ?_)
        simp only [FD.outs, List.getElem?_map] at h1 h2
        cases hv : fd.res[i]? with
        | none => rw [hv] at h1; simp at h1
        | some v =>
          rw [hv] at h1 h2
          simp at h1 h2
          subst h1; subst h2
          exact resX_nf (hT v (List.mem_of_getElem? hv))
      have hHH : ((⟨fd.ins, fd.outs, rk, pu, fd.sem N Γ⟩ : Sem).run xs H).H = s'.H ++ objOf s' (promJ s' fd.res) := by
        show (fd.sem N Γ (Tup.prj fd.ins xs) H).H = _
        rw [← hKr, eR]
        rfl
      refine ⟨R'.R.defs, (if h : ((List.range fd.res.length).map V).toArray.size = 1 then ((List.range fd.res.length).map V).toArray[0] else .tuple ((List.range fd.res.length).map V).toArray), ?_, _, g'.fin pu own s'.H.length (promJ s' fd.res), rfl, ?_⟩
      · unfold results
        rw [Go.Sem.run_bind]
        exact congrArg (fun r : Result (Array Value) => r.andThen (fun (a : Array Value) w' => Go.Sem.run Pg (pure (if h : a.size = 1 then a[0] else Value.tuple a)) w')) hvs
      · refine ⟨I', ?_, fun hpu => ?_, fun hpu => ?_, fun c p h => ?_⟩
        · -- the value
          rw [hout]
          have hrk : rk = .own ∨ rk = .glob := by
            cases rk <;> simp at k1 <;> simp
          rcases hrk with hrk | hrk
          · subst hrk
            simp only at k1
            split at k1 <;> try (simp at k1; done)
            rename_i t sh hre
            have hmem : RVar.tmp t .own sh ∈ fd.res := by rw [hre]; simp
            have hTt := hT _ hmem
            have hown : own = some t := by simp only [own, hre]
            obtain ⟨t1, t2, t3⟩ := hTt
            have hkk : (nth s'.env t Reg.junk).k.isOwn = true := by
              rcases fits_spec t1 with ⟨q, _⟩ | ⟨_, q⟩ | ⟨q, _⟩
              · simp at q
              · simp at q
              · rw [q]; rfl
            have ho := R'.R.own hkk t3
            have hr0 : fn.results.toList[0]? = some (.tmp t) := by
              have hlt : 0 < fn.results.toList.length := by rw [r1, hre]; simp
              have := r2 0 _ (.tmp t .own sh) (List.getElem?_eq_getElem hlt) (by rw [hre]; rfl)
              simp only [ResR] at this
              rw [List.getElem?_eq_getElem hlt, this]
            have hV0 := (hV 0 _ _ hr0 (by rw [hre]; rfl)).1
            simp at hV0
            have e1 : fd.res.length = 1 := by rw [hre]; rfl
            have e2 : oneOr (fd.res.map (resX s' s'.H.length)) = (nth s'.env t Reg.junk).x := by rw [hre]; rfl
            rw [e2]
            have e3 : (if h : ((List.range fd.res.length).map V).toArray.size = 1 then ((List.range fd.res.length).map V).toArray[0] else .tuple ((List.range fd.res.length).map V).toArray) = a'.eval (.tmp t) := by
              rw [dif_pos (by simp [e1])]
              simp [Act.eval, ← hV0]
            rw [e3]
            refine OwnR.le hle (fun p hp => ?_) ho
            simp only [Gh.fin, hown]; exact hp
          · subst hrk
            show RV _ _ _ _
            have hri : ∀ i, i < fd.res.length → RV (g'.fin pu own s'.H.length (promJ s' fd.res)).Φ (g'.fin pu own s'.H.length (promJ s' fd.res)).γ (V i) (resX s' s'.H.length (fd.res.getD i (.prom 0))) := by
              intro i hi
              have hlt : i < fn.results.toList.length := by rw [r1]; exact hi
              have := (hV i _ _ (List.getElem?_eq_getElem hlt) (List.getElem?_eq_getElem hi)).2
              simpa [List.getD_eq_getElem?_getD, hi] using this
            by_cases h1 : fd.res.length = 1
            · rw [dif_pos (by simp [h1])]
              have h0 := hri 0 (by omega)
              obtain ⟨v, hre⟩ : ∃ v, fd.res = [v] := List.length_eq_one_iff.1 h1
              have e1 : oneOr (fd.res.map (resX s' s'.H.length)) = resX s' s'.H.length v := by rw [hre]; rfl
              have e2 : fd.res.getD 0 (.prom 0) = v := by rw [hre]; rfl
              rw [e1]
              rw [e2] at h0
              simpa using h0
            · rw [dif_neg (by simp [h1])]
              have e : oneOr (fd.res.map (resX s' s'.H.length)) = .tp (fd.res.map (resX s' s'.H.length)) := by
                generalize fd.res = l at h1
                match l, h1 with
                | [], _ => rfl
                | [v], h => exact absurd rfl h
                | v :: v' :: l, _ => rfl
              rw [e]
              refine .tp _ _ (by simp) (fun i hi => ?_)
              simp only [List.length_map] at hi
              have := hri i hi
              have e1 : ((List.range fd.res.length).map V).toArray.getD i undef = V i := by rw [← arr_getD]; simp [List.getD_eq_getElem?_getD, hi]
              have e2 : (fd.res.map (resX s' s'.H.length)).getD i .junk = resX s' s'.H.length (fd.res.getD i (.prom 0)) := by simp [List.getD_eq_getElem?_getD, hi]
              rw [e1, e2]; exact this
        · -- the heap
          have hpu' : pu = false := hpu
          subst hpu'
          rw [hHH]
          refine ⟨fun l hl => ?_, fun l hl => ?_⟩
          · by_cases hlt : l < s'.H.length
            · have e : (s'.H ++ objOf s' (promJ s' fd.res)).getD l .dead = s'.H.getD l .dead := by
                rw [List.getD_eq_getElem?_getD, List.getD_eq_getElem?_getD, List.getElem?_append_left hlt]
              rw [e]
              refine GOR.le hle (fun p hp => ?_) (fun _ o _ p hp => ?_) (R'.R.heap l hlt)
              · simp only [Gh.fin]
                cases promJ s' fd.res with
                | none => exact hp
                | some j => simp only; rw [if_neg (by omega)]; exact hp
              · simp only [Gh.fin]
                cases promJ s' fd.res with
                | none => exact hp
                | some j => simp only; rw [if_neg (by omega)]; exact hp
            · cases hpjj : promJ s' fd.res with
              | none => rw [hpjj] at hl; simp [objOf] at hl; exact absurd hl hlt
              | some j =>
                rw [hpjj] at hl
                simp [objOf] at hl
                have hll : l = s'.H.length := by omega
                subst hll
                have e : (s'.H ++ objOf s' (some j)).getD s'.H.length .dead = .cells (nth s'.loc j LO.dead).n (nth s'.loc j LO.dead).cs (nth s'.loc j LO.dead).own := by
                  simp [objOf, List.getD_eq_getElem?_getD]
                rw [e]
                obtain ⟨_, h2, h3⟩ := hpj j hpjj
                obtain ⟨q1, q2⟩ := hpjt j hpjj
                rw [nth_eq] at h2 h3 q2 ⊢
                obtain ⟨l1, l2, _, _⟩ := R'.R.locs j h2
                rw [hpjj] at hle
                refine ⟨g'.lam j, by simp [Gh.fin], l1, fun _ => ⟨by simp only [Gh.fin, if_true]; exact q1, q2⟩, fun i hi => ?_⟩
                obtain ⟨u, u1, u2⟩ := l2 i hi
                refine ⟨u, u1, u2.1, u2.2.1.le hle, fun ho => ?_⟩
                refine (u2.2.2 (by rw [h3]; simpa using ho)).le hle (fun p hp => ?_)
                simp only [Gh.fin, if_true]; exact hp
          · cases hpjj : promJ s' fd.res with
            | none =>
              rw [hpjj] at hl
              simp [objOf] at hl
              exact R'.R.γdom l hl
            | some j =>
              rw [hpjj] at hl
              simp [objOf] at hl
              simp only [Gh.fin]
              rw [if_neg (by omega)]
              exact R'.R.γdom l (by omega)
        · -- where nothing turns
          have hpu' : pu = true := hpu
          have hnone : promJ s' fd.res = none := by
            cases hq : promJ s' fd.res with
            | none => rfl
            | some j => have := (hpj j hq).1; rw [hpu'] at this; simp at this
          simp only [Gh.fin, hnone]
          exact (R'.R.pud hpu').2.2
        · obtain ⟨d, _, _, h3, _⟩ := fin_src h
          exact h3
    cases he with
    | normal =>
      obtain ⟨h1, v, h2, v0, g'', h3, h4⟩ := main (by rw [semE, hround]; exact hK)
      exact ⟨h1, v, h2, v0, g'', h3, h4⟩
    | ret =>
      obtain ⟨h1, v, h2, v0, g'', h3, h4⟩ := main (by rw [semE, hround]; exact hK)
      exact ⟨h1, v, h2, v0, g'', h3, h4⟩
    | exit i =>
      exfalso
      simp only at hK
      rw [← hK] at hp'
      simp [fail] at hp'
end Go.Proofs.DenT
end
section
/-! Arguments that read as data are abstract values. -/
namespace Go.Proofs.DenT
set_option linter.unusedVariables false
set_option linter.unusedSimpArgs false
open Go
/-- What a cell may hold. -/
inductive CS where | i (k : IntKind) | b | s | sl (l : List CS)
inductive Fits : CS → AV → Prop
  | i (k : IntKind) (n : Int) (h : (Lit.int k n).wf = true) : Fits (.i k) (.i k n)
  | b (v : Bool) : Fits .b (.b v)
  | s (v : ByteArray) (h : v.size ≤ maxLen) : Fits .s (.s v)
  | sl (cs : List CS) (es : List (List AV)) (hlen : es.length ≤ maxLen) (hrow : ∀ i, i < es.length → (es.getD i []).length = cs.length)
      (h : ∀ i j, i < es.length → j < cs.length → Fits (cs.getD j .b) ((es.getD i []).getD j .junk)) : Fits (.sl cs) (.sl cs.length es)
structure FitsL (cs : List CS) (xs : List AV) : Prop where
  len : xs.length = cs.length
  at_ : ∀ i, i < cs.length → Fits (cs.getD i .b) (xs.getD i .junk)
/-- The cells of a type, by its text. -/
def cellsOfT (Pg : Program) : Nat → TypeId → Option (List CS)
  | 0, _ => none
  | d + 1, t => match Pg.underlying t with
    | some .bool => some [.b]
    | some (.int k) => some [.i k]
    | some .string => some [.s]
    | some (.slice e) => (match cellsOfT Pg d e with | some l => (match l.length == Pg.cellsOf e && decide (0 < l.length) with | true => some [.sl l] | false => none) | none => none)
    | some (.struct fs) => (match fieldsT (cellsOfT Pg d) Pg 0 fs.toList with | some l => (match l.length == Pg.cellsOf t with | true => some l | false => none) | none => none)
    | some (.array n e) => (match cellsOfT Pg d e with | some l => (match l.length == Pg.cellsOf e && n * l.length == Pg.cellsOf t with | true => some (List.replicate n l).flatten | false => none) | none => none)
    | _ => none
where fieldsT (f : TypeId → Option (List CS)) (Pg : Program) : Nat → List Field → Option (List CS)
  | _, [] => some []
  | o, x :: fs => match x.offset == o, f x.type with
    | true, some l => (match l.length == Pg.cellsOf x.type with | true => (match fieldsT f Pg (o + l.length) fs with | some r => some (l ++ r) | none => none) | false => none)
    | _, _ => none
end Go.Proofs.DenT
end
section
namespace Go.Proofs.DenT
set_option linter.unusedVariables false
set_option linter.unusedSimpArgs false
open Go
section
variable {H : Type} {enc : TypeId × Value → H} {P : Program} {w : World} {base : Nat} {held : Bool} {γ : Nat → Option Nat}
/-- All cells as they are. -/
def atCells (w : World) : Nat → Nat → Option Value := fun b o => w.cell? ⟨b, o, none⟩
/-- Cells, their forms, what they come to. -/
structure Reads (w : World) (γ : Nat → Option Nat) (csh : List CS) (cs : List Value) (xs : List AV) : Prop where
  len : cs.length = csh.length
  fits : FitsL csh xs
  rv : ∀ i, i < cs.length → RV (atCells w) γ (cs.getD i undef) (xs.getD i .junk) ∧ (xs.getD i .junk).atom = true
theorem Fits.atom {c : CS} {x : AV} (h : Fits c x) : x.atom = true := by cases h <;> rfl
theorem Reads.one {c : CS} {v : Value} {x : AV} (h : Fits c x) (hr : RV (atCells w) γ v x) : Reads w γ [c] [v] [x] := by
  refine ⟨rfl, ⟨rfl, fun i hi => ?_⟩, fun i hi => ?_⟩
  · have : i = 0 := by simpa using hi
    subst this; exact h
  · have : i = 0 := by simpa using hi
    subst this; exact ⟨hr, h.atom⟩
theorem Reads.nil : Reads w γ [] [] [] := ⟨rfl, ⟨rfl, fun i hi => by simp at hi⟩, fun i hi => by simp at hi⟩
theorem getD_app' {α : Type} (l m : List α) (i : Nat) (d : α) : (l ++ m).getD i d = if i < l.length then l.getD i d else m.getD (i - l.length) d := by
  simp only [List.getD_eq_getElem?_getD]
  split
  · rename_i h; rw [List.getElem?_append_left h]
  · rename_i h; rw [List.getElem?_append_right (by omega)]
theorem Reads.append {c1 c2 : List CS} {v1 v2 : List Value} {x1 x2 : List AV} (h1 : Reads w γ c1 v1 x1) (h2 : Reads w γ c2 v2 x2) : Reads w γ (c1 ++ c2) (v1 ++ v2) (x1 ++ x2) := by
  have l1 := h1.len
  have l2 := h2.len
  have m1 := h1.fits.len
  have m2 := h2.fits.len
  refine ⟨by simp; omega, ⟨by simp; omega, fun i hi => ?_⟩, fun i hi => ?_⟩
  · simp at hi
    rw [getD_app', getD_app', m1]
    split
    · exact h1.fits.at_ i (by omega)
    · exact h2.fits.at_ _ (by omega)
  · simp at hi
    rw [getD_app', getD_app', m1, l1]
    split
    · exact h1.rv i (by omega)
    · exact h2.rv _ (by omega)
theorem trod_array {t e : TypeId} {n fuel : Nat} {spare : Nat → Bool} {cs : List Value} {x : DataW H × List MemPlace} (ht : P.underlying t = some (.array n e)) (h : DataW.trod enc P w base spare held fuel t cs = some x) :
    ∃ (xs : List (DataW H × List MemPlace)) (m : Nat), fuel = m + 1 ∧ cs.length = P.cellsOf t ∧ xs.length = n ∧
      ∀ (i : Nat), i < n → DataW.trod enc P w base spare held m e ((cs.drop (i * P.cellsOf e)).take (P.cellsOf e)) = xs[i]? := by
  cases fuel with
  | zero => simp [DataW.trod] at h
  | succ m =>
    unfold DataW.trod at h
    rw [ht] at h
    split at h <;> simp_all
    obtain ⟨hl, xs, hp, hd⟩ := h
    exact ⟨xs, by simpa using mapM_some_length hp, fun i hi => mapM_some_get hp i i (by simp [hi])⟩
theorem cells?_get {a : Addr} {n : Nat} {cs : List Value} (h : w.cells? base a n = some cs) : cs.length = n ∧ ∀ j, j < n → w.cell? (a.add j) = cs[j]? := by
  unfold World.cells? at h
  split at h <;> try (simp at h; done)
  refine ⟨by simpa using mapM_some_length h, fun j hj => ?_⟩
  exact mapM_some_get h j j (by simp [hj])
/-- A reading, as abstract values. -/
theorem reads_of (D : Nat) : ∀ (t : TypeId) (csh : List CS), cellsOfT P D t = some csh → ∀ (fuel : Nat) (cs : List Value) (x : DataW H × List MemPlace), DataW.trod enc P w base (fun _ => true) held fuel t cs = some x → ∃ xs, Reads w γ csh cs xs := by
  induction D with
  | zero => intro t csh h; simp [cellsOfT] at h
  | succ D ih =>
    intro t csh hc fuel cs x hx
    simp only [cellsOfT] at hc
    split at hc
    · rename_i hu
      simp at hc; subst hc
      obtain ⟨b, rfl, _⟩ := DataW.trod_bool hu hx
      exact ⟨_, Reads.one (.b b) (.b b)⟩
    · rename_i k hu
      simp at hc; subst hc
      obtain ⟨n, rfl, _, hw⟩ := DataW.trod_int hu hx
      exact ⟨_, Reads.one (.i k n hw) (.i k n)⟩
    · rename_i hu
      simp at hc; subst hc
      obtain ⟨s, rfl, _, hs⟩ := DataW.trod_string hu hx
      exact ⟨_, Reads.one (.s s hs) (.s s)⟩
    · -- slices
      rename_i e hu
      split at hc <;> try (simp at hc; done)
      rename_i l hl
      split at hc <;> try (simp at hc; done)
      rename_i hlen
      simp at hc; subst hc
      simp only [Bool.and_eq_true, beq_iff_eq, decide_eq_true_eq] at hlen
      obtain ⟨hlen, hpos⟩ := hlen
      rcases DataW.trod_slice hu hx with ⟨rfl, _⟩ | ⟨a, len, cap, elems, rest, n, rfl, rfl, _, _, hle, hcap, hel, hget, hsp, _⟩
      · exact ⟨_, Reads.one (.sl l [] (Nat.zero_le _) (fun i hi => by simp at hi) (fun i j hi => by simp at hi)) (.nsl _ _)⟩
      · obtain ⟨hrl, hrest⟩ := hsp rfl
        -- one element
        have hone : ∀ i, i < cap → ∃ ci y, w.cells? base (a.add (i * P.cellsOf e)) (P.cellsOf e) = some ci ∧ DataW.trod enc P w base (fun _ => true) held n e ci = some y := by
          intro i hi
          by_cases hil : i < len
          · have h1 := hget i hil
            rw [List.getElem?_eq_getElem (by omega)] at h1
            simp only [Option.bind_eq_some_iff] at h1
            obtain ⟨ci, q1, q2⟩ := h1
            exact ⟨ci, _, q1, q2⟩
          · have h1 := hrest (i - len) (by omega)
            rw [List.getElem?_eq_getElem (by omega), show len + (i - len) = i from by omega] at h1
            simp only [Option.bind_eq_some_iff] at h1
            obtain ⟨ci, q1, q2⟩ := h1
            exact ⟨ci, _, q1, q2⟩
        rcases Nat.eq_zero_or_pos cap with h0 | h0
        · subst h0
          have : len = 0 := by omega
          subst this
          exact ⟨_, Reads.one (.sl l [] (Nat.zero_le _) (fun i hi => by simp at hi) (fun i j hi => by simp at hi)) (.nsl _ _)⟩
        · have hspot : a.spot = none := by
            obtain ⟨ci, y, q1, q2⟩ := hone 0 h0
            obtain ⟨q3, q4⟩ := cells?_get q1
            have := q4 0 (by omega)
            rw [Nat.zero_mul, List.getElem?_eq_getElem (by omega)] at this
            have h3 := World.cell?_spot this
            simpa [Addr.add] using h3
          obtain ⟨bl, off, spot⟩ := a
          simp only at hspot
          subst hspot
          have hex : ∀ i : Nat, ∃ xi : List AV, i < len → ∃ ci, w.cells? base ((⟨bl, off, none⟩ : Addr).add (i * P.cellsOf e)) (P.cellsOf e) = some ci ∧ Reads w γ l ci xi := by
            intro i
            by_cases hi : i < len
            · obtain ⟨ci, y, q1, q2⟩ := hone i (by omega)
              obtain ⟨xi, hxi⟩ := ih e l hl n ci y q2
              exact ⟨xi, fun _ => ⟨ci, q1, hxi⟩⟩
            · exact ⟨[], fun q => absurd q hi⟩
          obtain ⟨X, hX⟩ := Classical.axiomOfChoice hex
          have gX : ∀ i, i < len → ((List.range len).map X).getD i [] = X i := fun i hi => by simp [List.getD_eq_getElem?_getD, hi]
          have hrow : ∀ i, i < len → (((List.range len).map X).getD i []).length = l.length := fun i hi => by
            rw [gX i hi]; obtain ⟨ci, _, q⟩ := hX i hi; exact q.fits.len
          have hcell : ∀ i j, i < len → j < l.length → ∃ v, w.cell? ⟨bl, off + i * l.length + j, none⟩ = some v ∧ RV (atCells w) γ v ((X i).getD j .junk) ∧ ((X i).getD j .junk).atom = true := by
            intro i j hi hj
            obtain ⟨ci, q1, q2⟩ := hX i hi
            obtain ⟨q3, q4⟩ := cells?_get q1
            have h1 := q4 j (by omega)
            rw [addr_add, addr_add, List.getElem?_eq_getElem (by omega), ← hlen] at h1
            have h2 := q2.rv j (by omega)
            rw [List.getD_eq_getElem?_getD, List.getElem?_eq_getElem (by omega)] at h2
            exact ⟨_, h1, h2⟩
          refine ⟨[.sl l.length ((List.range len).map X)], Reads.one (.sl l _ (by simp; omega) (fun i hi => by rw [hrow i (by simpa using hi)]) (fun i j hi hj => ?_)) ?_⟩
          · have hi' : i < len := by simpa using hi
            rw [gX i hi']
            obtain ⟨ci, q1, q2⟩ := hX i hi'
            exact q2.fits.at_ j hj
          · refine .sl bl off len cap l.length _ (fun i j => (w.cell? ⟨bl, off + i * l.length + j, none⟩).getD undef) (by simp) hle hrow (fun i j hi hj => ?_) (fun i j hi hj => ?_) (fun i j hi hj => ?_)
            · obtain ⟨v, q1, _⟩ := hcell i j hi hj
              show w.cell? _ = _
              rw [q1]; rfl
            · obtain ⟨v, q1, q2, q3⟩ := hcell i j hi hj
              rw [gX i hi, q1]; exact q2
            · obtain ⟨v, q1, q2, q3⟩ := hcell i j hi hj
              rw [gX i hi]; exact q3
    · -- structs
      rename_i fs hu
      split at hc <;> try (simp at hc; done)
      rename_i l hl
      split at hc <;> try (simp at hc; done)
      rename_i hlen
      simp at hc; subst hc
      simp only [beq_iff_eq] at hlen
      obtain ⟨xs, n, rfl, _, hcl, hxl, hget⟩ := DataW.trod_struct hu hx
      have key : ∀ (L : List Field) (o : Nat) (r : List CS), cellsOfT.fieldsT (cellsOfT P D) P o L = some r → (∀ f, f ∈ L → ∃ y, DataW.trod enc P w base (fun _ => true) held n f.type ((cs.drop f.offset).take (P.cellsOf f.type)) = some y) → o + r.length ≤ cs.length →
          ∃ ys, Reads w γ r ((cs.drop o).take r.length) ys := by
        intro L
        induction L with
        | nil => intro o r h _ _; simp [cellsOfT.fieldsT] at h; subst h; exact ⟨[], by simpa using Reads.nil⟩
        | cons f L ihL =>
          intro o r h hall hfit
          simp only [cellsOfT.fieldsT] at h
          split at h <;> try (simp at h; done)
          rename_i lf ho hlf
          split at h <;> try (simp at h; done)
          rename_i hlfl
          split at h <;> try (simp at h; done)
          rename_i r' hr'
          simp at h; subst h
          simp only [beq_iff_eq] at ho hlfl
          obtain ⟨y, hy⟩ := hall f List.mem_cons_self
          simp only [List.length_append] at hfit
          obtain ⟨x1, h1⟩ := ih f.type lf hlf n _ y hy
          obtain ⟨x2, h2⟩ := ihL (o + lf.length) r' hr' (fun f' hf' => hall f' (List.mem_cons_of_mem _ hf')) (by omega)
          refine ⟨x1 ++ x2, ?_⟩
          have e : (cs.drop o).take (lf ++ r').length = (cs.drop f.offset).take (P.cellsOf f.type) ++ (cs.drop (o + lf.length)).take r'.length := by
            rw [ho, ← hlfl, List.length_append, List.take_add, List.drop_drop]
          rw [e]
          exact h1.append h2
      obtain ⟨ys, hys⟩ := key fs.toList 0 l hl (fun f hf => by
        obtain ⟨i, hi⟩ := List.getElem?_of_mem hf
        have h1 := hget i f (by simpa using hi)
        have hlt : i < fs.size := by simpa using (List.getElem?_eq_some_iff.1 hi).1
        rw [List.getElem?_eq_getElem (by omega)] at h1
        exact ⟨_, h1⟩) (by omega)
      refine ⟨ys, ?_⟩
      rw [List.drop_zero, List.take_of_length_le (by omega)] at hys
      exact hys
    · -- arrays
      rename_i n e hu
      split at hc <;> try (simp at hc; done)
      rename_i l hl
      split at hc <;> try (simp at hc; done)
      rename_i hlen
      simp at hc; subst hc
      simp only [Bool.and_eq_true, beq_iff_eq] at hlen
      obtain ⟨hlen, hnl⟩ := hlen
      obtain ⟨xs, m, rfl, hcl, hxl, hget⟩ := trod_array hu hx
      have key : ∀ (k o : Nat), o + k = n → ∃ ys, Reads w γ (List.replicate k l).flatten ((cs.drop (o * l.length)).take (k * l.length)) ys := by
        intro k
        induction k with
        | zero => intro o _; exact ⟨[], by simpa using Reads.nil⟩
        | succ k ihk =>
          intro o ho
          have h1 := hget o (by omega)
          rw [List.getElem?_eq_getElem (by omega)] at h1
          obtain ⟨x1, q1⟩ := ih e l hl m _ _ h1
          obtain ⟨x2, q2⟩ := ihk (o + 1) (by omega)
          refine ⟨x1 ++ x2, ?_⟩
          have e1 : (cs.drop (o * l.length)).take ((k + 1) * l.length) = (cs.drop (o * P.cellsOf e)).take (P.cellsOf e) ++ (cs.drop ((o + 1) * l.length)).take (k * l.length) := by
            rw [← hlen, Nat.add_mul, Nat.one_mul, Nat.add_comm (k * l.length), List.take_add, List.drop_drop, Nat.add_mul, Nat.one_mul]
          rw [e1, List.replicate_succ, List.flatten_cons]
          exact q1.append q2
      obtain ⟨ys, hys⟩ := key n 0 (by omega)
      refine ⟨ys, ?_⟩
      rw [Nat.zero_mul, List.drop_zero, List.take_of_length_le (by omega)] at hys
      exact hys
    · simp at hc
end
end Go.Proofs.DenT
end
section
/-! From a law's meaning to its row. -/
namespace Go.Proofs.DenT
set_option linter.unusedVariables false
set_option linter.unusedSimpArgs false
open Go Go.RowKit Go.WideShapes Go.ChangeShapes
/-- A parameter's form. -/
inductive PS where | one (c : CS) | agg (l : List CS)
def PFits : PS → AV → Prop
  | .one c, x => Fits c x
  | .agg l, x => ∃ xs, x = .ag xs ∧ FitsL l xs
def psOf (Pg : Program) (D : Nat) (t : TypeId) : Option PS :=
  match Pg.underlying t, cellsOfT Pg D t with
  | some (.struct _), some l => some (.agg l)
  | some (.array _ _), some l => some (.agg l)
  | some _, some [c] => some (.one c)
  | _, _ => none
def psAll (Pg : Program) (D : Nat) : List TypeId → Option (List PS)
  | [] => some []
  | t :: ts => match psOf Pg D t, psAll Pg D ts with | some p, some ps => some (p :: ps) | _, _ => none
def PFitsL : List PS → List AV → Prop
  | [], [] => True
  | p :: ps, x :: xs => PFits p x ∧ PFitsL ps xs
  | _, _ => False
section
variable {H : Type} {enc : TypeId × Value → H} {P : Program} {w : World} {γ : Nat → Option Nat}
theorem agg_reads {t : TypeId} {D : Nat} {l : List CS} {v : Value} {d : DataW H} {ps : List MemPlace} (hc : cellsOfT P D t = some l) (h : DataW.Trod enc P w 0 (fun _ => true) true t v d ps) : ∃ xs, Reads w γ l v.cells.toList xs := by
  obtain ⟨fuel, hf⟩ := h
  exact reads_of D t l hc fuel _ _ hf
theorem arg_of {t : TypeId} {D base : Nat} {p : PS} {v : Value} {d : DataW H} {ps : List MemPlace} (hp : psOf P D t = some p) (hv : Value.okWide P w .any base t v) (h : DataW.Trod enc P w 0 (fun _ => true) true t v d ps) :
    ∃ x, RV (atCells w) γ v x ∧ PFits p x := by
  have agg : ∀ l, cellsOfT P D t = some l → (∃ cs, v = .agg cs) → ∃ x, RV (atCells w) γ v x ∧ PFits (.agg l) x := by
    rintro l hl ⟨cs, rfl⟩
    obtain ⟨xs, hx⟩ := agg_reads (γ := γ) hl h
    have hcl : (Value.agg cs).cells.toList = cs.toList := rfl
    rw [hcl] at hx
    have h1 := hx.len
    have h2 := hx.fits.len
    refine ⟨.ag xs, .ag cs xs (by simp at h1; omega) (fun i hi => ?_) (fun i hi => ?_), xs, rfl, hx.fits⟩
    · have := (hx.rv i (by omega)).1
      rwa [arr_getD] at this
    · exact (hx.rv i (by omega)).2
  unfold psOf at hp
  unfold Value.okWide at hv
  split at hp
  · rename_i fs l hu hl
    rw [hu] at hv
    simp at hp; subst hp
    obtain ⟨cs, hcs, _⟩ := hv
    exact agg l hl ⟨cs, hcs⟩
  · rename_i n e l hu hl
    rw [hu] at hv
    simp at hp; subst hp
    obtain ⟨cs, hcs, _⟩ := hv
    exact agg l hl ⟨cs, hcs⟩
  · rename_i ud c hns hna hu hl
    simp at hp; subst hp
    have hv' : Cell.okWide P w .any base t v := by
      rw [hu] at hv
      cases ud with
      | struct fs => exact absurd rfl (hns fs)
      | array n e => exact absurd rfl (hna n e)
      | _ => exact hv
    have hone : v.cells.toList = [v] := by
      cases v <;> first | rfl | skip
      rename_i cs
      unfold Cell.okWide at hv'
      rw [hu] at hv'
      cases ud <;> simp [Cell.ok, hu] at hv'
    obtain ⟨xs, hx⟩ := agg_reads (γ := γ) hl h
    rw [hone] at hx
    have h2 := hx.fits.len
    match xs, h2 with
    | [x], _ => exact ⟨x, (hx.rv 0 (by simp)).1, hx.fits.at_ 0 (by simp)⟩
  · simp at hp
theorem args_of {D base : Nat} : ∀ {ts : List TypeId} {pss : List PS} {vs : List Value} {ds : List (DataW H)} {ps : List MemPlace}, psAll P D ts = some pss → (∀ (j : Nat) t v, ts[j]? = some t → vs[j]? = some v → Value.okWide P w .any base t v) →
    DataW.TrodAll enc P w 0 (fun _ => true) true ts vs ds ps → ∃ xs, PFitsL pss xs ∧ xs.length = vs.length ∧ ∀ i, i < xs.length → RV (atCells w) γ (vs.getD i undef) (xs.getD i .junk)
  | [], pss, [], [], ps, hp, _, _ => by simp [psAll] at hp; subst hp; exact ⟨[], trivial, rfl, fun i hi => by simp at hi⟩
  | t :: ts, pss, v :: vs, d :: ds, ps, hp, hv, h => by
    simp only [psAll] at hp
    split at hp <;> try (simp at hp; done)
    rename_i p pss' h1 h2
    simp at hp; subst hp
    obtain ⟨q1, q2, h3, h4, _⟩ := h
    obtain ⟨x, x1, x2⟩ := arg_of (γ := γ) h1 (hv 0 t v rfl rfl) h3
    obtain ⟨xs, y1, y2, y3⟩ := args_of h2 (fun j t v ht hv' => hv (j + 1) t v (by simpa using ht) (by simpa using hv')) h4
    refine ⟨x :: xs, ⟨x2, y1⟩, by simp [y2], fun i hi => ?_⟩
    cases i with
    | zero => simpa using x1
    | succ i => simpa using y3 i (by simpa using hi)
  | [], _, _ :: _, _, _, _, _, h => by cases h
  | [], _, [], _ :: _, _, _, _, h => by cases h
  | _ :: _, _, [], _, _, _, _, h => by cases h
  | _ :: _, _, _ :: _, [], _, _, _, h => by cases h
/-- A law, called. -/
theorem law_calls {f : Nat} {S : Nat → Sem} {D base : Nat} {ts : List TypeId} {pss : List PS} {args : Array Value} {ds : List (DataW H)} {ps : List MemPlace} (hOK : ∀ N, CallOK P f (S N)) (hTab : TabQ (atCells w)) (hps : psAll P D ts = some pss)
    (hv : ∀ (j : Nat) t v, ts[j]? = some t → args[j]? = some v → Value.okWide P w .any base t v) (hT : DataW.TrodAll enc P w 0 (fun _ => true) true ts args.toList ds ps)
    (hL : ∀ xs, PFitsL pss xs → ∃ N, (∀ b, b ∈ (S N).fit xs → b = true) ∧ ((S N).run xs []).pre = true ∧ ((S N).run xs []).out = [.b true]) :
    Calls P f args w fun e w' => e = .returned (.bool true) ∧ Below w.heap.size w w' := by
  obtain ⟨xs, x1, x2, x3⟩ := args_of (γ := fun _ => none) hps (fun j t v ht hv' => hv j t v ht (by simpa using hv')) hT
  obtain ⟨N, n1, n2, n3⟩ := hL xs x1
  let g : Gh := ⟨atCells w, fun _ => none, fun _ => 0, fun _ => none, fun _ => none⟩
  have I : Inv (FrAt g w) g w :=
    { agree := fun b o v h => h
      inj := fun c c' b n n' h => by simp [g] at h
      disj := fun c b n o h => by simp [g] at h
      tok := fun c b n h => by simp [g] at h
      gtok := fun l b h => by simp [g] at h
      shp := fun b n h => by simp [g] at h
      os := rfl
      tape := rfl
      output := rfl
      size := Nat.le_refl _
      fcell := fun _ _ _ _ => rfl
      fblk := fun _ _ _ => rfl
      fshp := fun b c e f h => ⟨c, h, rfl⟩
      mold := fun c b n o h => by simp [g] at h
      tab := hTab
      Φle := fun _ _ _ h => h
      Φold := fun b o v h h0 _ => by rw [show (FrAt g w).g0 = g from rfl] at h0; rw [h] at h0; simp at h0
      γle := fun _ _ h => h
      Sle := fun _ _ h => h }
  refine ((hOK N).calls g w [] args xs I (fun c p h => by simp [g] at h) (fun l hl => by simp at hl) (fun l hl => rfl) (by rw [x2]; simp) (fun i hi => ?_) n1 n2).mono ?_
  · have := x3 i hi
    rwa [arr_getD] at this
  · rintro e w' ⟨v, g', rfl, B⟩
    have hr := B.res
    rw [n3] at hr
    have hrv : RV g'.Φ g'.γ v (.b true) := by
      have h1 : oneOr [AV.b true] = .b true := rfl
      rw [h1] at hr
      cases hk : (S N).rk <;> rw [hk] at hr
      · exact hr
      · exact hr.elim
      · exact hr.1
      · exact hr.1
    have hvb : v = .bool true := by cases hrv; rfl
    refine ⟨by rw [hvb], ?_⟩
    have J := B.inv
    exact ⟨J.os, J.tape, J.output, J.size, fun k hk => J.fblk k hk (fun o ⟨c, k', h, _⟩ => by simp [g] at h)⟩
/-! ### The row's last step -/
theorem args_stay {W' : World} (hl : laidOutB P = true) {sp : Nat → Bool} (hb : Below w.heap.size w W') : ∀ {ts : List TypeId} {vs : List Value} {ds : List (DataW H)} {ps : List MemPlace}, (∀ t, t ∈ ts → P.readableRec t = true ∧ t < P.types.size) →
    DataW.TrodAll enc P w 0 (fun _ => true) true ts vs ds ps → (∀ p, p ∈ ps → p.block < w.heap.size ∧ sp p.block = true) → DataW.TrodAll enc P W' 0 sp true ts vs ds ps
  | [], [], [], ps, _, h, _ => h
  | t :: ts, v :: vs, d :: ds, ps, ht, h, hp => by
    obtain ⟨p, q, h1, h2, rfl⟩ := h
    obtain ⟨t1, t2⟩ := ht t List.mem_cons_self
    refine ⟨p, q, WideElems.Trod_stays hl t1 t2 h1 (fun x hx => hb.same (hp x (List.mem_append_left _ hx)).1) (fun x hx => (hp x (List.mem_append_left _ hx)).2), ?_, rfl⟩
    exact args_stay hl hb (fun t' ht' => ht t' (List.mem_cons_of_mem _ ht')) h2 (fun x hx => hp x (List.mem_append_right _ hx))
  | [], _ :: _, _, _, _, h, _ => by cases h
  | [], [], _ :: _, _, _, h, _ => by cases h
  | _ :: _, [], _, _, _, h, _ => by cases h
  | _ :: _, _ :: _, [], _, _, h, _ => by cases h
theorem law_post {f : Func} {s : ChangeSpec} {apart fresh handsOn again : Bool} {W W' : World} {args : Array Value} {ds gs : List (DataW H)} {before : List MemPlace} {tb : TypeId} (hl : laidOutB P = true) (hr : f.resultTypes = #[tb]) (htb : P.underlying tb = some .bool)
    (hts : ∀ t, t ∈ f.params.toList → P.readableRec t = true ∧ t < P.types.size) (hvars : s.vars = []) (h1 : (s.fn H (ds ++ gs)).results = [.lit (.bool true)]) (h2 : (s.fn H (ds ++ gs)).args = ds) (h3 : (s.fn H (ds ++ gs)).vars = [])
    (hW : DataW.Whole enc P f.params.toList s.vars apart W args.toList ds gs before) (hb : Below W.heap.size W W') : s.post enc P f apart fresh handsOn again W args (.bool true) W' := by
  have hlt : ∀ p ∈ before, p.block < W.heap.size := fun p hp => hW.lt p hp
  have hW' := hW
  obtain ⟨p, q, hA, hV, rfl, hz, hn⟩ := hW
  rw [hvars] at hV
  obtain ⟨rfl, rfl⟩ := trodVars_none hV
  rw [List.append_nil] at *
  have hres : ∀ (b : Nat) (sp : Nat → Bool) (hd : Bool), DataW.TrodAll enc P W' b sp hd f.resultTypes.toList ((Value.bool true).resultList f.resultTypes.size) (s.fn H ds).results [] := by
    intro b sp hd
    rw [hr, h1]
    exact trodAll_mk1 ⟨1, by simp [DataW.trod, htb, Value.cells]⟩
  have hargs : ∀ sp : Nat → Bool, (∀ x ∈ p, sp x.block = true) → DataW.TrodAll enc P W' 0 sp true f.params.toList args.toList (s.fn H ds).args p := by
    intro sp hs
    rw [h2]
    exact args_stay hl hb hts hA (fun x hx => ⟨hlt x hx, hs x hx⟩)
  have hold : ∀ x ∈ p, (fun b => decide (b < W.heap.size)) x.block = true := fun x hx => by simpa using hlt x hx
  refine ⟨ds, [], p, [], p, [], hW', by rw [List.append_nil]; exact hres _ _ _, by rw [List.append_nil]; exact hargs _ hold, ?_, World.keptBut_mono (fun x hx => ⟨hx, ?_⟩) (hb.frame (· ∈ p)), fun _ => ?_⟩
  · rw [hvars, List.append_nil, h3]; rfl
  · exact Or.inr (Or.inl hx)
  · refine ⟨ok_one hr rfl (okWide_bool_mk htb _), _, [], ([] ++ p) ++ [], ⟨[] ++ p, [], trodAll_append (hargs _ (fun _ _ => rfl)) (hres _ _ _), by rw [hvars]; rfl, rfl, ?_, ?_⟩, ?_⟩
    · intro b off hp
      have hin : MemPlace.cell b off ∈ p := by simpa using hp
      rw [hb.frozen (hlt _ hin)]
      exact hz b off (by simpa using hin)
    · intro ha
      have := hn ha
      simpa using this
    · intro x hx _
      simpa using hx
end
end Go.Proofs.DenT
end
section
/-! For a seat's functions. -/
namespace Go.Proofs.DenT
set_option linter.unusedVariables false
open Go
def nameNot (s : String) : Bool := s != "runtime.NumGoroutine"
def chkFn (Pg : Program) (fn : Func) (fd : FD) (pu : Bool) (rk : Kd) : Bool :=
  match fn.body with
  | some c => nameNot fn.name && chkF Pg fn c fd pu rk
  | none => false
theorem fd_use {Pg : Program} {Γ : Env} {f N : Nat} {fn : Func} {fd : FD} {pu : Bool} {rk : Kd} {F : Tup fd.ins → Heap → Res (Tup fd.outs)} (hm : Pg.follows .mixedOrders = true) (hE : EnvOK Pg Γ) (hf : Pg.funcs[f]? = some fn)
    (hc : chkFn Pg fn fd pu rk = true) (hF : ∀ v H, fd.sem N Γ v H = F v H) : CallOK Pg f ⟨fd.ins, fd.outs, rk, pu, F⟩ := by
  unfold chkFn at hc
  split at hc
  · rename_i c hb
    simp only [Bool.and_eq_true] at hc
    refine fd_ok hm hE hf hb ?_ hc.2 hF
    have := hc.1
    simp only [nameNot, bne_iff_ne, ne_eq] at this
    exact this
  · simp at hc
theorem EnvOK.nil {Pg : Program} : EnvOK Pg [] := fun e h => by simp at h
theorem EnvOK.cons {Pg : Program} {f : Nat} {S : Sem} {Γ : Env} (h : CallOK Pg f S) (hE : EnvOK Pg Γ) : EnvOK Pg ((f, S) :: Γ) := by
  intro e he
  rcases List.mem_cons.1 he with q | q
  · rw [q]; exact h
  · exact hE e q
/-- A function that is never met. -/
theorem stub_ok {Pg : Program} {f : Nat} {fn : Func} {S : Sem} (hf : Pg.funcs[f]? = some fn) (hb : (match fn.body with | some _ => nameNot fn.name | none => false) = true) (hS : ∀ xs H, (S.run xs H).pre = false) : CallOK Pg f S := by
  refine ⟨fun _ xs H _ h => by rw [hS] at h; simp at h, ?_, fun g w H args xs _ _ _ _ _ _ _ h => by rw [hS] at h; simp at h⟩
  split at hb
  · rename_i c hc
    refine ⟨fn, c, hf, hc, ?_⟩
    simpa [nameNot] using hb
  · simp at hb
end Go.Proofs.DenT
end
section
/-! Plain laws over the lifted functions: typed values, loops, conditions. -/
namespace Go.Proofs.DenT
set_option linter.unusedVariables false
set_option linter.unusedSimpArgs false
open Go
open Classical in
noncomputable instance : DecidableEq AV := fun a b => propDecidable (a = b)
/-- As `Fits`, with a bound on every row's length. -/
inductive Ty (n : Nat) : CS → AV → Prop
  | i (k : IntKind) (m : Int) (h : (Lit.int k m).wf = true) : Ty n (.i k) (.i k m)
  | b (v : Bool) : Ty n .b (.b v)
  | s (v : ByteArray) (h : v.size ≤ n) : Ty n .s (.s v)
  | sl (cs : List CS) (es : List (List AV)) (hlen : es.length ≤ n) (hrow : ∀ i, i < es.length → (es.getD i []).length = cs.length)
      (h : ∀ i j, i < es.length → j < cs.length → Ty n (cs.getD j .b) ((es.getD i []).getD j .junk)) : Ty n (.sl cs) (.sl cs.length es)
structure TyL (n : Nat) (cs : List CS) (xs : List AV) : Prop where
  len : xs.length = cs.length
  at_ : ∀ i, i < cs.length → Ty n (cs.getD i .b) (xs.getD i .junk)
theorem Fits.ty {c : CS} {x : AV} (h : Fits c x) : Ty maxLen c x := by
  induction h with
  | i k n h => exact .i k n h
  | b v => exact .b v
  | s v h => exact .s v h
  | sl cs es h1 h2 _ ih => exact .sl cs es h1 h2 ih
theorem FitsL.ty {cs : List CS} {xs : List AV} (h : FitsL cs xs) : TyL maxLen cs xs := ⟨h.len, fun i hi => (h.at_ i hi).ty⟩
theorem nth_getD {α : Type} : ∀ (l : List α) (i : Nat) (d : α), nth l i d = l.getD i d
  | [], i, d => rfl
  | x :: l, 0, d => rfl
  | x :: l, i + 1, d => by show nth l i d = _; rw [nth_getD l i d]; simp
theorem TyL.nth {n : Nat} {cs : List CS} {xs : List AV} (h : TyL n cs xs) (i : Nat) (hi : i < cs.length) : Ty n (DenT.nth cs i .b) (DenT.nth xs i .junk) := by
  rw [nth_getD, nth_getD]; exact h.at_ i hi
theorem sub_len : ∀ (n o : Nat) (xs : List AV), (sub xs o n).length = n
  | 0, o, xs => rfl
  | n + 1, o, xs => by show (nth xs o .junk :: sub xs (o + 1) n).length = _; simp [sub_len n (o + 1) xs]
theorem nth_sub : ∀ (n o i : Nat) (xs : List AV), i < n → nth (sub xs o n) i .junk = nth xs (o + i) .junk
  | 0, o, i, xs, h => by omega
  | n + 1, o, 0, xs, h => rfl
  | n + 1, o, i + 1, xs, h => by
    show nth (sub xs (o + 1) n) i .junk = _
    rw [nth_sub n (o + 1) i xs (by omega)]; congr 1; omega
theorem sub_ext : ∀ (n o p : Nat) (xs ys : List AV), (∀ i, i < n → nth xs (o + i) .junk = nth ys (p + i) .junk) → sub xs o n = sub ys p n
  | 0, o, p, xs, ys, h => rfl
  | n + 1, o, p, xs, ys, h => by
    show nth xs o .junk :: sub xs (o + 1) n = nth ys p .junk :: sub ys (p + 1) n
    rw [sub_ext n (o + 1) (p + 1) xs ys (fun i hi => by have := h (i + 1) (by omega); rwa [show o + (i + 1) = o + 1 + i by omega, show p + (i + 1) = p + 1 + i by omega] at this)]
    have := h 0 (by omega)
    simp only [Nat.add_zero] at this
    rw [this]
theorem part_at {cs ds : List CS} {o m : Nat} (hd : (cs.drop o).take m = ds) (hm : ds.length = m) : (∀ i, i < m → DenT.nth ds i .b = DenT.nth cs (o + i) .b) ∧ o + m ≤ cs.length ∨ m = 0 := by
  by_cases h0 : m = 0
  · exact .inr h0
  refine .inl ⟨fun i hi => ?_, ?_⟩
  · rw [nth_getD, nth_getD, ← hd]
    simp [List.getD, hi]
  · have := congrArg List.length hd
    simp at this
    omega
theorem TyL.sub {n : Nat} {cs ds : List CS} {xs : List AV} (h : TyL n cs xs) (o m : Nat) (hd : (cs.drop o).take m = ds) (hm : ds.length = m) : TyL n ds (DenT.sub xs o m) := by
  refine ⟨by rw [sub_len, hm], fun i hi => ?_⟩
  have hi' : i < m := by omega
  rcases part_at hd hm with h' | h'
  · rw [← nth_getD, ← nth_getD, h'.1 i hi', nth_sub _ _ _ _ hi']
    exact h.nth _ (by omega)
  · omega
/-! What a typed cell is. -/
section
variable {n : Nat} {cs : List CS} {xs : List AV}
theorem TyL.isI (h : TyL n cs xs) (i : Nat) (k : IntKind) (hc : DenT.nth cs i .b = .i k) (hi : i < cs.length) : (DenT.nth xs i .junk).isI k = true := by
  have := h.nth i hi
  rw [hc] at this
  generalize DenT.nth xs i .junk = y at this
  cases this
  show (k == k) = true
  simp
theorem TyL.val (h : TyL n cs xs) (i : Nat) (k : IntKind) (hc : DenT.nth cs i .b = .i k) (hi : i < cs.length) : AV.i k (DenT.nth xs i .junk).num = DenT.nth xs i .junk := by
  have := h.nth i hi
  rw [hc] at this
  generalize DenT.nth xs i .junk = y at this
  cases this
  rfl
theorem TyL.wf (h : TyL n cs xs) (i : Nat) (k : IntKind) (hc : DenT.nth cs i .b = .i k) (hi : i < cs.length) : (Lit.int k (DenT.nth xs i .junk).num).wf = true := by
  have := h.nth i hi
  rw [hc] at this
  generalize DenT.nth xs i .junk = y at this
  cases this
  assumption
theorem TyL.isSl (h : TyL n cs xs) (i z : Nat) (ds : List CS) (hc : DenT.nth cs i .b = .sl ds) (hz : ds.length = z) (hi : i < cs.length) : (DenT.nth xs i .junk).isSl z = true := by
  have := h.nth i hi
  rw [hc] at this
  generalize DenT.nth xs i .junk = y at this
  cases this
  show (ds.length == z) = true
  simp [hz]
theorem TyL.slv (h : TyL n cs xs) (i z : Nat) (ds : List CS) (hc : DenT.nth cs i .b = .sl ds) (hz : ds.length = z) (hi : i < cs.length) : AV.sl z (DenT.nth xs i .junk).els = DenT.nth xs i .junk := by
  have := h.nth i hi
  rw [hc] at this
  generalize DenT.nth xs i .junk = y at this
  cases this
  rw [← hz]
  rfl
/-- Rows of a type. -/
def Rows (n : Nat) (ds : List CS) (es : List (List AV)) : Prop := es.length ≤ n ∧ ∀ i, i < es.length → TyL n ds (DenT.nth es i [])
theorem TyL.rows (h : TyL n cs xs) (i : Nat) (ds : List CS) (hc : DenT.nth cs i .b = .sl ds) (hi : i < cs.length) : Rows n ds (DenT.nth xs i .junk).els := by
  have := h.nth i hi
  rw [hc] at this
  generalize DenT.nth xs i .junk = y at this
  cases this with
  | sl _ es h1 h2 h3 =>
  refine ⟨h1, fun k hk => ?_⟩
  have hk' : k < es.length := hk
  refine ⟨?_, fun j hj => ?_⟩
  · rw [nth_getD]; exact h2 k hk'
  · rw [nth_getD]; exact h3 k j hk' hj
end
/-! ### Conditions -/
section
variable {α : Type}
@[simp] theorem req_true (r : Res α) : req true r = r := by cases r; rfl
@[simp] theorem reqB_true (d : α) (r : Res α) : reqB true d r = r := rfl
@[simp] theorem reqG_true (p : Bool) (r : Res α) : reqG p true r = r := rfl
@[simp] theorem imp_self (p : Bool) : imp p p = true := by cases p <;> rfl
@[simp] theorem imp_false (p : Bool) : imp false p = true := rfl
@[simp] theorem imp_t (p : Bool) : imp true p = p := rfl
@[simp] theorem ok_pre (a : α) (H : Heap) : (ok a H).pre = true := rfl
@[simp] theorem ok_out (a : α) (H : Heap) : (ok a H).out = a := rfl
@[simp] theorem ok_H (a : α) (H : Heap) : (ok a H).H = H := rfl
end
/-! ### Loops -/
theorem iter_ind {α β : Type} {d : β} {f : (α → Heap → Res β) → α → Heap → Res β} {H : Heap} (m : α → Nat) (I : α → Prop) (Q : Res β → Prop)
    (hf : ∀ R a, I a → (∀ a', I a' → m a' < m a → Q (R a' H)) → Q (f R a H)) : ∀ (N : Nat) a, I a → m a < N → Q (iter d f N a H)
  | 0, a, _, h => by omega
  | N + 1, a, hI, h => hf _ a hI (fun a' h' hm => iter_ind m I Q hf N a' h' (by omega))
/-- A loop by its counter: from k on. -/
theorem iter_up {α β : Type} {d : β} {f : (α → Heap → Res β) → α → Heap → Res β} {H : Heap} (st : Nat → α) (b : Nat) (Q : Nat → Res β → Prop) (hend : ∀ R, Q b (f R (st b) H))
    (hstep : ∀ R k, k < b → Q (k + 1) (R (st (k + 1)) H) → Q k (f R (st k) H)) (hstop : ∀ R k, k < b → Q k (f R (st k) H) ∨ True) (N : Nat) (hN : b < N) : Q 0 (iter d f N (st 0) H) := by
  have : ∀ j k N, b - k = j → k ≤ b → b - k < N → Q k (iter d f N (st k) H) := by
    intro j
    induction j with
    | zero =>
      intro k N h1 h2 h3
      obtain ⟨N, rfl⟩ : ∃ M, N = M + 1 := ⟨N - 1, by omega⟩
      have : k = b := by omega
      subst this
      exact hend _
    | succ j ih =>
      intro k N h1 h2 h3
      obtain ⟨N, rfl⟩ : ∃ M, N = M + 1 := ⟨N - 1, by omega⟩
      exact hstep _ k (by omega) (ih (k + 1) N (by omega) (by omega) (by omega))
  exact this b 0 N (by omega) (by omega) (by omega)
/-! ### Counters -/
theorem run_lss (a b : Nat) : COp.run (a : Int) (b : Int) .lss = decide (a < b) := by simp [COp.run]
theorem inb_true {k b : Nat} (h : k < b) : inb (k : Int) b = true := by simp [inb, h]
theorem wrap_i64 {m : Int} (h0 : -9223372036854775808 ≤ m) (h1 : m < 9223372036854775808) : IntKind.wrap .i64 m = m := by
  show (if (true && decide (m % 18446744073709551616 ≥ 9223372036854775808)) = true then m % 18446744073709551616 - 18446744073709551616 else m % 18446744073709551616) = m
  by_cases h : m % 18446744073709551616 ≥ 9223372036854775808
  · simp only [h, decide_true, Bool.and_self, if_true]; omega
  · simp only [h, decide_false, Bool.and_false, Bool.false_eq_true, if_false]; omega
theorem add_one {k : Nat} (h : k < 9223372036854775807) : AOp.run .i64 (k : Int) 1 .add = ((k + 1 : Nat) : Int) := by
  show IntKind.wrap .i64 ((k : Int) + 1) = _
  rw [wrap_i64 (by omega) (by omega)]; rfl
theorem all_iter {α β : Type} {d : β} {f : (α → Heap → Res β) → α → Heap → Res β} {H : Heap} (st : Nat → α) (b : Nat) (P : Nat → Prop) (c : Prop) (x y : Res β) (hc : (∀ k, k < b → P k) ↔ c) (hend : ∀ R, f R (st b) H = x)
    (hstep : ∀ R k, k < b → (P k → f R (st k) H = R (st (k + 1)) H) ∧ (¬ P k → f R (st k) H = y)) (N : Nat) (hN : b < N) : (c → iter d f N (st 0) H = x) ∧ (¬ c → iter d f N (st 0) H = y) := by
  have : ∀ j k N, b - k = j → k ≤ b → b - k < N → ((∀ i, k ≤ i → i < b → P i) → iter d f N (st k) H = x) ∧ (¬ (∀ i, k ≤ i → i < b → P i) → iter d f N (st k) H = y) := by
    intro j
    induction j with
    | zero =>
      intro k N h1 h2 h3
      obtain ⟨N, rfl⟩ : ∃ M, N = M + 1 := ⟨N - 1, by omega⟩
      have : k = b := by omega
      subst this
      exact ⟨fun _ => hend _, fun h => absurd (fun i h1 h2 => by omega) h⟩
    | succ j ih =>
      intro k N h1 h2 h3
      obtain ⟨N, rfl⟩ : ∃ M, N = M + 1 := ⟨N - 1, by omega⟩
      have e : iter d f (N + 1) (st k) H = f (iter d f N) (st k) H := rfl
      obtain ⟨i1, i2⟩ := ih (k + 1) N (by omega) (by omega) (by omega)
      obtain ⟨s1, s2⟩ := hstep (iter d f N) k (by omega)
      rw [e]
      constructor
      · intro h
        rw [s1 (h k (by omega) (by omega)), i1 (fun i hi => h i (by omega))]
      · intro h
        by_cases hp : P k
        · rw [s1 hp, i2]
          intro h'
          apply h
          intro i hi hi'
          by_cases hk : i = k
          · subst hk; exact hp
          · exact h' i (by omega) hi'
        · exact s2 hp
  obtain ⟨q1, q2⟩ := this b 0 N (by omega) (by omega) (by omega)
  exact ⟨fun h => q1 (fun i _ hi => hc.2 h i hi), fun h => q2 (fun h' => h (hc.1 (fun i hi => h' i (by omega) hi)))⟩
theorem run_iter {α β : Type} {d : β} {f : (α → Heap → Res β) → α → Heap → Res β} {H : Heap} (st : Nat → α) (b : Nat) (x : Res β) (hend : ∀ R, f R (st b) H = x)
    (hstep : ∀ R k, k < b → f R (st k) H = R (st (k + 1)) H) (N : Nat) (hN : b < N) : iter d f N (st 0) H = x :=
  (all_iter st b (fun _ => True) True x x (by simp) hend (fun R k hk => ⟨fun _ => hstep R k hk, fun h => absurd trivial h⟩) N hN).1 trivial
theorem rows_eq {a b : List (List AV)} (hl : a.length = b.length) : a = b ↔ ∀ k, k < a.length → nth a k [] = nth b k [] := by
  constructor
  · rintro rfl k hk; rfl
  · intro h
    apply List.ext_getElem hl
    intro i h1 h2
    have := h i h1
    rw [nth_getD, nth_getD] at this
    simpa [List.getD, h1, h2] using this
theorem cells_eq {a b : List AV} {n : Nat} (ha : a.length = n) (hb : b.length = n) : a = b ↔ ∀ k, k < n → nth a k .junk = nth b k .junk := by
  constructor
  · rintro rfl k hk; rfl
  · intro h
    apply List.ext_getElem (by omega)
    intro i h1 h2
    have := h i (by omega)
    rw [nth_getD, nth_getD] at this
    simpa [List.getD, h1, h2] using this
/-- Cells alike: part by part. -/
def parts (a b : List AV) : List Nat → Nat → Prop
  | [], _ => True
  | [1], o => nth a o .junk = nth b o .junk
  | [k], o => sub a o k = sub b o k
  | 1 :: ks, o => nth a o .junk = nth b o .junk ∧ parts a b ks (o + 1)
  | k :: ks, o => sub a o k = sub b o k ∧ parts a b ks (o + k)
theorem sub_eq (a b : List AV) (o k : Nat) : sub a o k = sub b o k ↔ ∀ i, i < k → nth a (o + i) .junk = nth b (o + i) .junk := by
  constructor
  · intro h i hi
    rw [← nth_sub k o i a hi, h, nth_sub k o i b hi]
  · exact fun h => sub_ext k o o a b h
theorem parts_iff (a b : List AV) : ∀ (ks : List Nat) (o : Nat), parts a b ks o ↔ ∀ i, i < ks.sum → nth a (o + i) .junk = nth b (o + i) .junk
  | [], o => by simp [parts]
  | [k], o => by
    have : parts a b [k] o ↔ sub a o k = sub b o k := by
      match k with
      | 0 => exact Iff.rfl
      | 1 => exact ⟨fun h => by show [nth a o .junk] = [nth b o .junk]; rw [show nth a o .junk = nth b o .junk from h], fun h => by have : [nth a o .junk] = [nth b o .junk] := h; exact List.head_eq_of_cons_eq this⟩
      | k + 2 => exact Iff.rfl
    rw [this, sub_eq]; simp
  | k :: k' :: ks, o => by
    have : parts a b (k :: k' :: ks) o ↔ sub a o k = sub b o k ∧ parts a b (k' :: ks) (o + k) := by
      match k with
      | 0 => exact Iff.rfl
      | 1 =>
        have e : sub a o 1 = sub b o 1 ↔ nth a o .junk = nth b o .junk := ⟨fun h => by have : [nth a o .junk] = [nth b o .junk] := h; exact List.head_eq_of_cons_eq this, fun h => by show [nth a o .junk] = [nth b o .junk]; rw [h]⟩
        rw [e]; exact Iff.rfl
      | k + 2 => exact Iff.rfl
    rw [this, sub_eq, parts_iff a b (k' :: ks) (o + k)]
    simp only [List.sum_cons]
    constructor
    · rintro ⟨h1, h2⟩ i hi
      by_cases hk : i < k
      · exact h1 i hk
      · have := h2 (i - k) (by omega)
        rwa [show o + k + (i - k) = o + i by omega] at this
    · intro h
      refine ⟨fun i hi => h i (by omega), fun i hi => ?_⟩
      have := h (k + i) (by omega)
      rwa [← Nat.add_assoc] at this
theorem eq_parts {a b : List AV} (ks : List Nat) (ha : a.length = ks.sum) (hb : b.length = ks.sum) : a = b ↔ parts a b ks 0 := by
  rw [parts_iff, cells_eq ha hb]; simp
theorem TyL.numeq {n m : Nat} {cs ds : List CS} {a b : List AV} (ha : TyL n cs a) (hb : TyL m ds b) (i : Nat) (k : IntKind) (hc : DenT.nth cs i .b = .i k ∧ DenT.nth ds i .b = .i k ∧ i < cs.length ∧ i < ds.length) :
    ((DenT.nth a i .junk).num = (DenT.nth b i .junk).num) ↔ DenT.nth a i .junk = DenT.nth b i .junk := by
  constructor
  · intro h
    rw [← ha.val i k hc.1 hc.2.2.1, ← hb.val i k hc.2.1 hc.2.2.2, h]
  · intro h; rw [h]
theorem TyL.slseq {n m : Nat} {cs ds : List CS} {a b : List AV} (ha : TyL n cs a) (hb : TyL m ds b) (i : Nat) (es : List CS) (hc : DenT.nth cs i .b = .sl es ∧ DenT.nth ds i .b = .sl es ∧ i < cs.length ∧ i < ds.length) :
    ((DenT.nth a i .junk).els = (DenT.nth b i .junk).els) ↔ DenT.nth a i .junk = DenT.nth b i .junk := by
  constructor
  · intro h
    rw [← ha.slv i _ es hc.1 rfl hc.2.2.1, ← hb.slv i _ es hc.2.1 rfl hc.2.2.2, h]
  · intro h; rw [h]
theorem eqI_go (xs ys : List AV) : ∀ (n o : Nat), (Nat.rec (motive := fun _ => Nat → Bool) (fun _ => true) (fun _ ih o => (nth xs o .junk).num == (nth ys o .junk).num && ih (o + 1)) n o : Bool) = true ↔ ∀ i, i < n → (nth xs (o + i) .junk).num = (nth ys (o + i) .junk).num
  | 0, o => ⟨fun _ i hi => by omega, fun _ => rfl⟩
  | n + 1, o => by
    show ((nth xs o .junk).num == (nth ys o .junk).num && _) = true ↔ _
    rw [Bool.and_eq_true, eqI_go xs ys n (o + 1), beq_iff_eq]
    constructor
    · rintro ⟨h1, h2⟩ i hi
      cases i with
      | zero => exact h1
      | succ i => have := h2 i (by omega); rwa [show o + 1 + i = o + (i + 1) by omega] at this
    · intro h
      exact ⟨h 0 (by omega), fun i hi => by have := h (i + 1) (by omega); rwa [show o + (i + 1) = o + 1 + i by omega] at this⟩
theorem allI_go (xs : List AV) : ∀ (ks : List IntKind) (o : Nat), (List.rec (motive := fun _ => Nat → Bool) (fun _ => true) (fun k _ ih o => (nth xs o .junk).isI k && ih (o + 1)) ks o : Bool) = true ↔ ∀ i k, ks[i]? = some k → (nth xs (o + i) .junk).isI k = true
  | [], o => by simp
  | k :: ks, o => by
    show ((nth xs o .junk).isI k && _) = true ↔ _
    rw [Bool.and_eq_true, allI_go xs ks (o + 1)]
    constructor
    · rintro ⟨h1, h2⟩ i k' hi
      cases i with
      | zero => simp at hi; subst hi; exact h1
      | succ i => have := h2 i k' (by simpa using hi); rwa [show o + 1 + i = o + (i + 1) by omega] at this
    · intro h
      exact ⟨h 0 k rfl, fun i k' hi => by have := h (i + 1) k' (by simpa using hi); rwa [show o + (i + 1) = o + 1 + i by omega] at this⟩
theorem TyL.allI {n m o : Nat} {cs : List CS} {a : List AV} (ha : TyL n cs a) (ks : List IntKind) (hm : ks.length = m) (hc : (cs.drop o).take m = ks.map CS.i) : DenT.allI ks (DenT.sub a o m) = true := by
  refine (allI_go _ ks 0).2 fun i k hi => ?_
  have hi' : i < ks.length := (List.getElem?_eq_some_iff.1 hi).1
  rcases part_at hc (by simp [hm]) with h' | h'
  · rw [Nat.zero_add, nth_sub m o i a (by omega)]
    have := h'.1 i (by omega)
    rw [nth_getD] at this
    simp [List.getD, hi] at this
    exact ha.isI _ k this.symm (by omega)
  · omega
theorem TyL.eqI {n n' m o : Nat} {cs ds : List CS} {a b : List AV} (ha : TyL n cs a) (hb : TyL n' ds b) (k : IntKind) (h1 : (cs.drop o).take m = List.replicate m (.i k)) (h2 : (ds.drop o).take m = List.replicate m (.i k)) :
    DenT.eqI m (DenT.sub a o m) (DenT.sub b o m) = decide (DenT.sub a o m = DenT.sub b o m) := by
  rw [Bool.eq_iff_iff, decide_eq_true_eq, sub_eq]
  have rep : ∀ i, i < m → DenT.nth (List.replicate m (CS.i k)) i .b = .i k := fun i hi => by rw [nth_getD]; simp [List.getD, hi]
  refine (eqI_go _ _ m 0).trans ⟨fun h i hi => ?_, fun h i hi => ?_⟩
  · have := h i hi
    rw [Nat.zero_add, nth_sub m o i a hi, nth_sub m o i b hi] at this
    rcases part_at h1 (by simp) with p | p
    · rcases part_at h2 (by simp) with q | q
      · exact (ha.numeq hb (o + i) k ⟨by rw [← p.1 i hi, rep i hi], by rw [← q.1 i hi, rep i hi], by omega, by omega⟩).1 this
      · omega
    · omega
  · rw [Nat.zero_add, nth_sub m o i a hi, nth_sub m o i b hi, h i hi]
theorem take_cat (l : List (List AV)) (k : Nat) (h : k < l.length) : cat (l.take k) [nth l k []] = l.take (k + 1) := by
  rw [nth_getD, cat, List.take_add_one]
  simp [List.getD, h]
theorem roomL_take (l : List (List AV)) (k b : Nat) (x : List AV) (h : k < l.length) (hb : l.length * b ≤ room) : roomL (l.take k) [x] b = true := by
  simp only [roomL, List.length_take, List.length_singleton, decide_eq_true_eq]
  rw [Nat.min_eq_left (by omega)]
  exact Nat.le_trans (Nat.mul_le_mul_right b (by omega)) hb
end Go.Proofs.DenT
end
