/- A part of the proof of this claim (part 2): own work: a lifting of compiled code into pure functions, and laws on them. -/
import Derived.Test.YtlllkgpicbddfaaDen1
import Derived.Laws.AppendOwn
import Derived.Orders
set_option linter.all false
set_option linter.unusedSimpArgs false
set_option linter.unusedVariables false
section
namespace Go.Proofs.DenT
set_option linter.unusedVariables false
set_option linter.unusedSimpArgs false
open Go
theorem ext_getD {l m : List AV} (h : l.length = m.length) (hk : ∀ k, k < l.length → l.getD k .junk = m.getD k .junk) : l = m := by
  apply List.ext_getElem h
  intro k h1 h2
  have := hk k h1
  simpa [List.getD_eq_getElem?_getD, h1, h2] using this
theorem upd_getD {α : Type} (l : List α) (n m : Nat) (v d : α) : (upd l n v).getD m d = if n = m ∧ n < l.length then v else l.getD m d := by
  rw [← nth_eq, nth_upd, nth_eq]
theorem lay_row {sz : Nat} {rs : List (List AV)} {xs : List AV} {j : Nat} (h0 : 0 < sz) (hr : ∀ i, i < rs.length → (rs.getD i []).length = sz) (hx : xs.length = sz) (hj : j < rs.length) :
    lay xs sz rs.flatten (j * sz) = (upd rs j xs).flatten := by
  have hr' : ∀ i, i < (upd rs j xs).length → ((upd rs j xs).getD i []).length = sz := by
    intro i hi
    rw [upd_len] at hi
    rw [upd_getD]
    split
    · exact hx
    · exact hr i hi
  obtain ⟨f1, f2⟩ := flat_get (sz := sz) rs hr
  obtain ⟨g1, g2⟩ := flat_get (sz := sz) (upd rs j xs) hr'
  obtain ⟨l1, l2⟩ := lay_spec xs sz rs.flatten (j * sz)
  have hfit : j * sz + sz ≤ rs.flatten.length := by
    rw [f1]
    have : (j + 1) * sz ≤ rs.length * sz := Nat.mul_le_mul_right _ hj
    rw [Nat.add_mul] at this; omega
  refine ext_getD (by rw [l1, f1, g1, upd_len]) (fun k hk => ?_)
  rw [l1, f1] at hk
  rw [l2 k hfit]
  have d1 : k / sz < rs.length := Nat.div_lt_of_lt_mul (by rw [Nat.mul_comm]; exact hk)
  have d2 : k % sz < sz := Nat.mod_lt _ h0
  have d3 : k = k / sz * sz + k % sz := by rw [Nat.mul_comm]; exact (Nat.div_add_mod k sz).symm
  have q1 := g2 (k / sz) (k % sz) (by rw [upd_len]; exact d1) d2
  have q2 := f2 (k / sz) (k % sz) d1 d2
  rw [← d3] at q1 q2
  rw [q1, q2, upd_getD]
  by_cases hkj : j = k / sz
  · have e1 : j * sz ≤ k ∧ k < j * sz + sz := by rw [hkj]; omega
    have e2 : k - j * sz = k % sz := by rw [hkj]; omega
    rw [if_pos e1, if_pos ⟨hkj, hj⟩, e2]
  · have e1 : ¬ (j * sz ≤ k ∧ k < j * sz + sz) := by
      intro ⟨h1, h2⟩
      apply hkj
      exact (Nat.div_eq_of_lt_le h1 (by rw [Nat.add_mul]; omega)).symm
    have e2 : ¬ (j = k / sz ∧ j < rs.length) := fun h => hkj h.1
    rw [if_neg e1, if_neg e2]

section
variable {Pg : Program} {fr : Fr} {pu : Bool} {g : Gh} {s : St} {a : Act} {w : World} {Γ : Env} {o : Oper}
theorem layRows_cons (u : Src × Nat) (us : List (Src × Nat)) (vs : List Reg) (rs : List (List AV)) : layRows (u :: us) vs rs = layRows us vs.tail (upd rs u.2 (rg vs 0).x.cellsOf) := rfl
theorem layAll_cons (u : Src × Nat × Nat) (us : List (Src × Nat × Nat)) (vs : List Reg) (z : List AV) : layAll (u :: us) vs z = layAll us vs.tail (lay (rg vs 0).x.cellsOf u.2.2 z u.2.1) := rfl
theorem rg_tail (vs : List Reg) (i : Nat) : rg vs (i + 1) = rg vs.tail i := by cases vs <;> rfl
theorem layRows_spec {sz : Nat} (h0 : 0 < sz) : ∀ (us : List (Src × Nat)) (vs : List Reg) (rs : List (List AV)), (∀ i, i < rs.length → (rs.getD i []).length = sz) →
    (∀ (i : Nat) u, us[i]? = some u → (rg vs i).x.cellsOf.length = sz ∧ u.2 < rs.length) →
    layAll (us.map fun u => (u.1, u.2 * sz, sz)) vs rs.flatten = (layRows us vs rs).flatten ∧ (layRows us vs rs).length = rs.length ∧ ∀ i, i < rs.length → ((layRows us vs rs).getD i []).length = sz := by
  intro us
  induction us with
  | nil => intro vs rs hr _; exact ⟨rfl, rfl, hr⟩
  | cons u us ih =>
    intro vs rs hr h
    obtain ⟨h1, h2⟩ := h 0 u rfl
    have hr' : ∀ i, i < (upd rs u.2 (rg vs 0).x.cellsOf).length → ((upd rs u.2 (rg vs 0).x.cellsOf).getD i []).length = sz := by
      intro i hi
      rw [upd_len] at hi
      rw [upd_getD]
      split
      · exact h1
      · exact hr i hi
    obtain ⟨q1, q2, q3⟩ := ih vs.tail (upd rs u.2 (rg vs 0).x.cellsOf) hr' (fun i u' hu => by
      have := h (i + 1) u' hu
      rw [rg_tail] at this
      rw [upd_len]; exact this)
    rw [upd_len] at q2 q3
    refine ⟨?_, q2, q3⟩
    rw [List.map_cons, layAll_cons, layRows_cons]
    simp only
    rw [lay_row h0 hr h1 h2]
    exact q1
theorem okRows_spec {n : Nat} : ∀ {ps : List (Nat × Operand)} {us : List (Src × Nat)}, okRows ps us n = true → ps.length = us.length ∧
    ∀ (i : Nat) p u, ps[i]? = some p → us[i]? = some u → okSrc p.2 u.1 = true ∧ p.1 = u.2 ∧ u.2 < n
  | [], [], _ => ⟨rfl, fun i p u h => by simp at h⟩
  | [], _ :: _, h => by simp [okRows] at h
  | _ :: _, [], h => by simp [okRows] at h
  | (j, x) :: ps, (y, j') :: us, h => by
    simp only [okRows, Bool.and_eq_true, beq_iff_eq, decide_eq_true_eq] at h
    obtain ⟨⟨⟨h1, h2⟩, h3⟩, h4⟩ := h
    obtain ⟨q1, q2⟩ := okRows_spec h4
    refine ⟨by simp [q1], fun i p u hp hu => ?_⟩
    cases i with
    | zero => simp at hp hu; subst hp; subst hu; exact ⟨h1, h2, by omega⟩
    | succ i => exact q2 i p u (by simpa using hp) (by simpa using hu)
theorem rowsB_spec (env : List Reg) {sz : Nat} : ∀ {us : List (Src × Nat)}, (∀ b, b ∈ rowsB sz us (us.map fun u => envGet env u.1) → b = true) →
    ∀ (i : Nat) u, us[i]? = some u → (envGet env u.1).k.isG = true ∧ (envGet env u.1).x.isTp = false ∧ (envGet env u.1).x.cellsOf.length = sz
  | [], _, i, u, h => by simp at h
  | u0 :: us, hb, i, u, h => by
    have e : rowsB sz (u0 :: us) ((u0 :: us).map fun u => envGet env u.1) = ((envGet env u0.1).k.isG && !(envGet env u0.1).x.isTp && ((envGet env u0.1).x.cellsOf.length == sz)) :: rowsB sz us (us.map fun u => envGet env u.1) := rfl
    rw [e] at hb
    cases i with
    | zero =>
      simp at h; subst h
      have := hb _ (List.mem_cons_self)
      simpa [and_assoc] using this
    | succ i => exact rowsB_spec env (fun b q => hb b (List.mem_cons_of_mem _ q)) i u (by simpa using h)
theorem repl_eq {α : Type} (n : Nat) (x : α) : repl n x = List.replicate n x := by
  induction n with
  | zero => rfl
  | succ n ih => show x :: repl n x = _; rw [ih, List.replicate_succ]
theorem flatten_repl_getD {sz n : Nat} {z : List AV} (hz : z.length = sz) : (List.replicate n z).flatten.length = n * sz ∧ ∀ i j, i < n → j < sz → (List.replicate n z).flatten.getD (i * sz + j) .junk = z.getD j .junk := by
  have hr : ∀ i, i < (List.replicate n z).length → ((List.replicate n z).getD i []).length = sz := fun i hi => by
    simp at hi; simp [List.getD_eq_getElem?_getD, List.getElem?_replicate, hi, hz]
  obtain ⟨f1, f2⟩ := flat_get (sz := sz) (List.replicate n z) hr
  refine ⟨by simpa using f1, fun i j hi hj => ?_⟩
  rw [f2 i j (by simpa using hi) hj]
  simp [List.getD_eq_getElem?_getD, List.getElem?_replicate, hi]
theorem still_bslice {sz n : Nat} {z : List AV} {us : List (Src × Nat)} (R : Rel fr pu g s a w) (hc : okOp Pg o.op o.type (.bslice sz n z us) = true) (hg : Good (evS Γ (.bslice sz n z us) s)) :
    Still Pg fr o (evS Γ (.bslice sz n z us) s).r.x (evS Γ (.bslice sz n z us) s).r.k g s a w := by
  simp only [okOp] at hc
  split at hc <;> try (simp at hc; done)
  rename_i t n' ps ho
  simp only [Bool.and_eq_true, beq_iff_eq, decide_eq_true_eq] at hc
  obtain ⟨⟨⟨rfl, h1⟩, h0⟩, h2⟩ := hc
  split at h2 <;> try (simp at h2; done)
  rename_i e he
  simp only [Bool.and_eq_true] at h2
  obtain ⟨⟨h2, h3⟩, h4⟩ := h2
  obtain ⟨hb, hs⟩ := hg
  obtain ⟨it, zv, hi, hzv, hsz, hzr⟩ := tyZero_spec (g := g) h2
  obtain ⟨i1, hi1, hi2⟩ := tySize_spec h3
  rw [hi] at hi1; simp at hi1; subst hi1
  have hzl : z.length = sz := by omega
  have hb' : ∀ b, b ∈ rowsB sz us (us.map fun u => envGet s.env u.1) → b = true := by
    intro b hbm; exact hb b (by simpa [evS, ev, P.opnds, List.map_map, Function.comp_def] using hbm)
  have hs' : ∀ q, q ∈ oksOf (us.map fun u => envGet s.env u.1) → q.sat := by
    intro q hq; exact hs q (by simpa [evS, ev, P.opnds, List.map_map, Function.comp_def] using hq)
  have hx : (evS Γ (.bslice sz n' z us) s).r.x = .sl sz (layRows us (us.map fun u => envGet s.env u.1) (repl n' z)) := by
    simp [evS, ev, P.opnds, List.map_map, Function.comp_def]
  have hk : (evS Γ (.bslice sz n' z us) s).r.k = .own := rfl
  rw [hx, hk, repl_eq]
  obtain ⟨hlen, huse⟩ := okRows_spec h4
  have rgm : ∀ (i : Nat) u, us[i]? = some u → rg (us.map fun u => envGet s.env u.1) i = envGet s.env u.1 := fun i u h => by
    rw [rg, nth_eq, List.getD_eq_getElem?_getD, List.getElem?_map, h]; rfl
  obtain ⟨fl1, fl2⟩ := flatten_repl_getD (n := n') hzl
  have dm : ∀ q, q < n' * sz → q / sz < n' ∧ q % sz < sz ∧ q = q / sz * sz + q % sz := fun q hq =>
    ⟨Nat.div_lt_of_lt_mul (by rw [Nat.mul_comm]; exact hq), Nat.mod_lt _ h0, by rw [Nat.mul_comm]; exact (Nat.div_add_mod q sz).symm⟩
  have hcells : CellsR (CR g) ((Array.range (n' * sz)).map (zv.cells[· % zv.cells.size]!)) (List.replicate n' z).flatten := by
    refine ⟨by simp [fl1, hzl], fun q hq => ?_⟩
    rw [fl1] at hq
    obtain ⟨d1, d2, d3⟩ := dm q hq
    have e1 := fl2 (q / sz) (q % sz) d1 d2
    rw [← d3] at e1
    rw [e1]
    have e2 := rep_getElem (z := zv.cells) (n := n') (sz := sz) (by rw [hzr.1, hzl]) d1 d2
    rw [← d3] at e2
    have := hzr.2 (q % sz) (by omega)
    rw [Array.getD_eq_getD_getElem?] at this
    rw [Array.getD_eq_getD_getElem?, e2]; exact this
  have hrep : ∀ i, i < (List.replicate n' z).length → ((List.replicate n' z).getD i []).length = sz := fun i hi => by
    simp at hi; simp [List.getD_eq_getElem?_getD, List.getElem?_replicate, hi, hzl]
  have hus : ∀ (i : Nat) u, us[i]? = some u → (rg (us.map fun u => envGet s.env u.1) i).x.cellsOf.length = sz ∧ u.2 < (List.replicate n' z).length := by
    intro i u hu
    obtain ⟨b1, b2, b3⟩ := rowsB_spec s.env hb' i u hu
    rw [rgm i u hu]
    have hp : ps.toList[i]? = some (ps.toList[i]'(by rw [hlen]; exact (List.getElem?_eq_some_iff.1 hu).1)) := List.getElem?_eq_getElem _
    obtain ⟨_, _, u3⟩ := huse i _ u hp hu
    exact ⟨b3, by simpa using u3⟩
  obtain ⟨L1, L2, L3⟩ := layRows_spec h0 us (us.map fun u => envGet s.env u.1) (List.replicate n' z) hrep hus
  obtain ⟨out, hout, hr⟩ := fill_spec (R := CR g) (place := fun j => some (j * sz, sz)) (ps.toList.map fun x => (x.1, a.eval x.2)) (us.map fun u => (u.1, u.2 * sz, sz)) (us.map fun u => envGet s.env u.1) _ _ hcells (by simpa using hlen) (fun i p u hp hu => by
    rw [List.getElem?_map] at hp hu
    cases hq : ps.toList[i]? with
    | none => rw [hq] at hp; simp at hp
    | some q =>
    cases hv : us[i]? with
    | none => rw [hv] at hu; simp at hu
    | some v =>
      rw [hq] at hp; rw [hv] at hu
      simp only [Option.map_some, Option.some.injEq] at hp hu
      subst hp; subst hu
      obtain ⟨u1, u2, u3⟩ := huse i q v hq hv
      obtain ⟨b1, b2, b3⟩ := rowsB_spec s.env hb' i v hv
      have hsat : (envGet s.env v.1).ok.sat := hs' _ (by simp only [oksOf, List.map_map, List.mem_map]; exact ⟨v, List.mem_of_getElem? hv, rfl⟩)
      have hkr := src_ok R u1 hsat
      rw [rgm i v hv]
      refine ⟨by simp [u2], RV.cellsR (hkr.rvG b1) b2, b3, ?_⟩
      rw [fl1]
      have : (v.2 + 1) * sz ≤ n' * sz := Nat.mul_le_mul_right _ u3
      rw [Nat.add_mul] at this
      simp only; omega)
  rw [L1] at hr
  have hrun := run_bslice (Pg := Pg) (w := w) ho he hi hzv hi2 h0 h1 hout
  simp only [List.length_replicate] at L2 L3
  obtain ⟨g1, g2⟩ := flat_get (sz := sz) _ (fun i hi => L3 i (by rw [L2] at hi; exact hi))
  have hnew := NewBlk.alloc w (.cells out e)
  refine Still.new R.inv hnew (n := n' * sz) hrun (fun c => ?_)
  refine own_row R.inv hnew L2 L3 (fun i j hi hj => ?_) c
  have hidx : i * sz + j < n' * sz := by
    have : (i + 1) * sz ≤ n' * sz := Nat.mul_le_mul_right _ hi
    rw [Nat.add_mul] at this; omega
  have hq := hr.2 (i * sz + j) (by rw [g1, L2]; exact hidx)
  have hsz' : i * sz + j < out.size := by rw [hr.1, g1, L2]; exact hidx
  rw [g2 i j (by rw [L2]; exact hi) hj] at hq
  refine ⟨out.getD (i * sz + j) undef, ?_, hq⟩
  rw [Array.getElem?_eq_getElem hsz', Array.getD_eq_getD_getElem?, Array.getElem?_eq_getElem hsz']; rfl
end
end Go.Proofs.DenT
end
section
/-! One operation, done: the state behind it. -/
namespace Go.Proofs.DenT
set_option linter.unusedVariables false
set_option linter.unusedSimpArgs false
open Go
section
variable {Pg : Program} {fr : Fr} {pu : Bool} {g : Gh} {s : St} {a : Act} {w : World} {Γ : Env} {o : Oper}

/-- Behind the operation the state s' is met. -/
def Goes (Pg : Program) (fr : Fr) (pu : Bool) (o : Oper) (g : Gh) (s' : St) (a : Act) (w : World) : Prop :=
  ∀ (K : Act → World → Prop) (Q : Exit → Act → World → Prop), (∀ v g' w', Rel fr pu g' s' (a.put o.dst v) w' → K (a.put o.dst v) w') → o.wp Pg a w K Q

theorem Rel.locStep {g' : Gh} {w' : World} (R : Rel fr pu g s a w) (h : Step g none w w') (hle : Gle g g') (hρ : ∀ j, g'.ρ (.L j) = g.ρ (.L j) ∧ ∀ o, g'.ρ (.LC j o) = g.ρ (.LC j o)) (hlam : g'.lam = g.lam) (j : Nat) : LOR g' j (s.loc.getD j LO.dead) w' :=
  LOR.le hle (fun _ => by rw [hlam]) (fun p hp => by rw [(hρ j).1]; exact hp) (fun o _ p hp => by rw [(hρ j).2]; exact hp) ((R.locs j).step R.inv h (by simp))
theorem Rel.heapStep {g' : Gh} {w' : World} (R : Rel fr pu g s a w) (h : Step g none w w') (hle : Gle g g') (hρ : ∀ l, g'.ρ (.G l) = g.ρ (.G l) ∧ ∀ o, g'.ρ (.GC l o) = g.ρ (.GC l o)) (l : Nat) (hl : l < s.H.length) : GOR g' pu l (s.H.getD l .dead) w' :=
  GOR.le hle (fun p hp => by rw [(hρ l).1]; exact hp) (fun _ o _ p hp => by rw [(hρ l).2]; exact hp)
    ((R.heap l hl).step R.inv h (by simp) (fun hp => ⟨(R.pud hp).1, fun b hb => (R.pud hp).2.1 l b hb⟩))
theorem Still.goes {x : AV} {k : Kd} (R : Rel fr pu g s a w) (h : Still Pg fr o x k g s a w) (r : Reg)
    (hr : ∀ g' v, (∀ c, KR g' (lives s.loc) c v k x) → ∀ c, RegR g' (lives s.loc) c v r) : Goes Pg fr pu o g ⟨putR s.env o.dst r, s.loc, s.H⟩ a w := by
  intro K Q hK
  refine h K Q (fun v g' w' hle hρ hlam hγ I' st hk => hK v g' w' ?_)
  exact R.next I' hle (fun j hj => ⟨hj, by rw [hlam]⟩) (fun t _ p hp _ => by rw [hρ]; exact hp) (fun t _ => hr g' v hk _)
    (fun j => R.locStep st hle (fun j => by rw [hρ]; exact ⟨rfl, fun _ => rfl⟩) hlam j)
    (fun l hl => R.heapStep st hle (fun j => by rw [hρ]; exact ⟨rfl, fun _ => rfl⟩) l hl)
    (fun l hl => by rw [hγ]; exact R.γdom l hl) (fun hp l => by rw [hρ]; exact R.nog hp l) (fun _ => hγ)
/-- A slot that is passed by holds nothing. -/
theorem Rel.skip (R : Rel fr pu g s a w) (dst : Option Nat) (x : AV) (k : Kd) : Rel fr pu g ⟨putR s.env dst ⟨x, k, .when false⟩, s.loc, s.H⟩ (a.put dst undef) w :=
  R.next R.inv (Gle.refl g) (fun j hj => ⟨hj, rfl⟩) (fun t _ p hp _ => hp) (fun t _ => ⟨fun h => by simp at h, fun _ => rfl⟩)
    (fun j => R.locs j) (fun l hl => R.heap l hl) R.γdom R.nog (fun _ => rfl)
/-- One slot's entry, seen otherwise. -/
theorem Rel.reslot (R : Rel fr pu g s a w) (t : Nat) (r : Reg) (hr : t < s.env.length → RegR g (lives s.loc) (.R t) (a.tmps.getD t undef) r) : Rel fr pu g { s with env := upd s.env t r } a w where
  inv := R.inv
  defs := R.defs
  len := by show (upd s.env t r).length = _; rw [upd_len]; exact R.len
  regs t' ht' := by
    have ht'' : t' < s.env.length := by
      have : t' < (upd s.env t r).length := ht'
      rwa [upd_len] at this
    show RegR g (lives s.loc) (.R t') _ ((upd s.env t r).getD t' Reg.junk)
    rw [upd_getD]
    split
    · rename_i h; obtain ⟨rfl, h2⟩ := h; exact hr h2
    · exact R.regs t' ht''
  locs := R.locs
  heap := R.heap
  γdom := R.γdom
  nog := R.nog
  pud := R.pud
theorem Rel.demote (R : Rel fr pu g s a w) (t : Nat) (h : (nth s.env t Reg.junk).k.isOwn = true) : Rel fr pu g { s with env := upd s.env t { nth s.env t Reg.junk with k := .glob } } a w := by
  refine R.reslot t _ (fun hlt => ?_)
  have hr := R.regs t hlt
  rw [nth_eq] at h ⊢
  have kr : ∀ {v}, KR g (lives s.loc) (.R t) v (s.env.getD t Reg.junk).k (s.env.getD t Reg.junk).x → KR g (lives s.loc) (.R t) v .glob (s.env.getD t Reg.junk).x := by
    intro v q
    cases hk : (s.env.getD t Reg.junk).k <;> rw [hk] at h q <;> simp [Kd.isOwn] at h
    exact q.1
  unfold RegR at hr ⊢
  split at hr <;> rename_i ho
  · simp only [ho]; exact kr hr
  · simp only [ho]; exact ⟨fun hp => kr (hr.1 hp), hr.2⟩
  · simp only [ho]

/-! ### Tokens -/
/-- What c owned is c's no more but c''s. -/
def Gh.mv (g : Gh) (c c' : Lc) : Gh := { g with ρ := fun d => if d = c' then g.ρ c else if d = c then none else g.ρ d }
theorem Gh.mv_inv {fr : Fr} (I : Inv fr g w) (c c' : Lc) : Inv fr (g.mv c c') w ∧ Gle g (g.mv c c') := by
  have src : ∀ d p, (g.mv c c').ρ d = some p → ∃ d', g.ρ d' = some p ∧ (d' = c ∧ d = c' ∨ d' = d ∧ d ≠ c ∧ d ≠ c') := by
    intro d p h
    simp only [Gh.mv] at h
    split at h
    · rename_i e; exact ⟨c, h, .inl ⟨rfl, e⟩⟩
    · split at h
      · simp at h
      · rename_i h1 h2; exact ⟨d, h, .inr ⟨rfl, h2, h1⟩⟩
  refine ⟨{ I with inj := ?_, disj := ?_, tok := ?_, mold := ?_ }, ⟨fun _ _ _ h => h, fun _ _ h => h, fun _ _ h => h⟩⟩
  · intro d1 d2 b n n' h1 h2
    obtain ⟨e1, q1, p1⟩ := src d1 _ h1
    obtain ⟨e2, q2, p2⟩ := src d2 _ h2
    have := I.inj _ _ _ _ _ q1 q2
    rcases p1 with ⟨rfl, rfl⟩ | ⟨rfl, p1, p1'⟩ <;> rcases p2 with ⟨h3, rfl⟩ | ⟨rfl, p2, p2'⟩
    · rfl
    · exact absurd this.symm p2
    · exact absurd (this.trans h3) p1
    · exact this
  · intro d b n o h1 h2
    obtain ⟨e1, q1, _⟩ := src d _ h1
    exact I.disj _ _ _ _ q1 h2
  · intro d b n h1
    obtain ⟨e1, q1, _⟩ := src d _ h1
    exact I.tok _ _ _ q1
  · intro d b n o h1 h2 h3
    obtain ⟨e1, q1, _⟩ := src d _ h1
    exact I.mold _ _ _ _ q1 h2 h3
theorem Gh.mv_ne {g : Gh} {c c' d : Lc} (h1 : d ≠ c) (h2 : d ≠ c') : (g.mv c c').ρ d = g.ρ d := by simp [Gh.mv, h1, h2]
theorem Gh.mv_to {g : Gh} {c c' : Lc} : (g.mv c c').ρ c' = g.ρ c := by simp [Gh.mv]

/-- A result that takes over what slot t owns; the world is as it was. -/
theorem goes_take {x : AV} {t d : Nat} {v : Value} (R : Rel fr pu g s a w) (ht : (nth s.env t Reg.junk).k.isOwn = true) (hd : o.dst = some d)
    (hrun : (execOp a.eval o).run Pg w = .ok (.value v) w) (hv : OwnR g (.R t) v x) :
    Goes Pg fr pu o g ⟨putR (upd s.env t { nth s.env t Reg.junk with k := .glob }) o.dst ⟨x, .own, .yes⟩, s.loc, s.H⟩ a w := by
  intro K Q hK
  unfold Oper.wp
  rw [hrun]
  obtain ⟨I', hle⟩ := Gh.mv_inv R.inv (.R t) (.R d)
  refine hK v (g.mv (.R t) (.R d)) w ((R.demote t ht).next I' hle (fun j hj => ⟨hj, rfl⟩) (fun t' hne p hp hk => ?_) (fun t' he => ?_) (fun j => ?_) (fun l hl => ?_) R.γdom (fun hp l => ?_) (fun _ => rfl))
  · have hne' : t' ≠ t := by
      intro e; subst e
      have hlt : t' < s.env.length := by
        rcases Nat.lt_or_ge t' s.env.length with q | q
        · exact q
        · rw [nth_eq, List.getD_eq_getElem?_getD, List.getElem?_eq_none q] at ht; simp [Reg.junk, Kd.isOwn] at ht
      have : (upd s.env t' { nth s.env t' Reg.junk with k := .glob }).getD t' Reg.junk = { nth s.env t' Reg.junk with k := .glob } := by rw [upd_getD, if_pos ⟨rfl, hlt⟩]
      rw [this] at hk
      simp at hk
    have : d ≠ t' := fun e => hne (by rw [hd, e])
    rw [Gh.mv_ne (by simp; exact hne') (by simp; exact fun e => this e.symm)]; exact hp
  · rw [hd] at he; simp at he; subst he
    exact OwnR.le hle (fun p hp => by rw [Gh.mv_to]; exact hp) hv
  · exact LOR.le hle (fun _ => rfl) (fun p hp => by rw [Gh.mv_ne (by simp) (by simp)]; exact hp) (fun o _ p hp => by rw [Gh.mv_ne (by simp) (by simp)]; exact hp) (R.locs j)
  · exact GOR.le hle (fun p hp => by rw [Gh.mv_ne (by simp) (by simp)]; exact hp) (fun _ o _ p hp => by rw [Gh.mv_ne (by simp) (by simp)]; exact hp) (R.heap l hl)
  · rw [Gh.mv_ne (by simp) (by simp)]
    exact ⟨(R.nog hp l).1, fun o => by rw [Gh.mv_ne (by simp) (by simp)]; exact (R.nog hp l).2 o⟩
/-- What a slot owns. -/
theorem Rel.own (R : Rel fr pu g s a w) {t : Nat} (hk : (nth s.env t Reg.junk).k.isOwn = true) (hs : (nth s.env t Reg.junk).ok.sat) : OwnR g (.R t) (a.eval (.tmp t)) (nth s.env t Reg.junk).x := by
  have := src_ok R (x := .tmp t) (y := .t t) (by simp [okSrc]) hs
  simp only [envGet, srcLc] at this
  cases h : (nth s.env t Reg.junk).k <;> rw [h] at hk this <;> simp [Kd.isOwn] at hk
  exact this
end
end Go.Proofs.DenT
end
section
/-! Stores. -/
namespace Go.Proofs.DenT
set_option linter.unusedVariables false
set_option linter.unusedSimpArgs false
open Go

/-- One block's cells are others. -/
structure WrBlk (w w' : World) (b : Nat) (cur cur' : Array Value) (e : TypeId) : Prop where
  was : w.heap[b]? = some (.cells cur e (0, 0))
  is_ : w'.heap[b]? = some (.cells cur' e (0, 0))
  size : cur'.size = cur.size
  hsize : w'.heap.size = w.heap.size
  others : ∀ b', b' ≠ b → w'.heap[b']? = w.heap[b']?
  os : w'.os = w.os
  tape : w'.tape = w.tape
  output : w'.output = w.output
theorem WrBlk.cell {w w' : World} {b : Nat} {cur cur' : Array Value} {e : TypeId} (h : WrBlk w w' b cur cur' e) (i : Nat) : w'.cell? ⟨b, i, none⟩ = cur'[i]? := by simp [World.cell?, h.is_]
theorem WrBlk.cell0 {w w' : World} {b : Nat} {cur cur' : Array Value} {e : TypeId} (h : WrBlk w w' b cur cur' e) (i : Nat) : w.cell? ⟨b, i, none⟩ = cur[i]? := by simp [World.cell?, h.was]
theorem WrBlk.step {g : Gh} {c : Lc} {w w' : World} {b k : Nat} {cur cur' : Array Value} {e : TypeId} (h : WrBlk w w' b cur cur' e) (hc : g.ρ c = some (b, k)) (hk : ∀ o, o < k → cur'[o]? = cur[o]?) (hinj : ∀ k', g.ρ c = some (b, k') → k' = k) : Step g (some c) w w' := by
  refine ⟨by rw [h.hsize]; exact Nat.le_refl _, h.os, h.tape, h.output, fun b' hb' hn => ?_, fun c0 b' n hc0 hn o ho => ?_, fun b' cs e' f hb' => ?_⟩
  · by_cases hbb : b' = b
    · subst hbb; exact absurd hc (hn c k rfl)
    · exact h.others b' hbb
  · simp at hc0; subst hc0
    rw [hc] at hn; simp at hn
    obtain ⟨rfl, rfl⟩ := hn
    rw [h.cell, h.cell0]; exact hk o ho
  · by_cases hbb : b' = b
    · subst hbb
      rw [h.was] at hb'; simp at hb'
      obtain ⟨rfl, rfl, rfl⟩ := hb'
      exact ⟨cur', h.is_, h.size⟩
    · exact ⟨cs, by rw [h.others b' hbb]; exact hb', rfl⟩
theorem modify_ne {α : Type} {xs : Array α} {i j : Nat} {f : α → α} (h : j ≠ i) : (xs.modify i f)[j]? = xs[j]? := by
  rw [Array.getElem?_modify]; simp [Ne.symm h]
theorem WrBlk.setCell {w : World} {b off : Nat} {cur : Array Value} {e : TypeId} {x : Value} (h : w.heap[b]? = some (.cells cur e (0, 0))) : WrBlk w (w.setCell ⟨b, off, none⟩ x) b cur (cur.setIfInBounds off x) e := by
  refine ⟨h, ?_, by simp, by simp [World.setCell], fun b' hb => ?_, rfl, rfl, rfl⟩
  · simp [World.setCell, Array.getElem?_modify, h]
  · simp only [World.setCell]; exact modify_ne hb
theorem WrBlk.setRow {w : World} {b : Nat} {cur cur' : Array Value} {e : TypeId} (h : w.heap[b]? = some (.cells cur e (0, 0))) (hs : cur'.size = cur.size) : WrBlk w (w.setRow b cur') b cur cur' e := by
  refine ⟨h, setRow_heap w b cur cur' e (0, 0) h, hs, by simp [World.setRow], fun b' hb => ?_, rfl, rfl, rfl⟩
  simp only [World.setRow]; exact modify_ne hb

/-! ### What is written -/
theorem agc_cells {x : AV} (h : x.isAg = true) : x.agc = x.cellsOf := by cases x <;> simp [AV.isAg] at h; rfl
def LSh.noAg : LSh → Bool | .one sh => sh.noAg | .agg _ => true
theorem write_spec {h : LSh} {n off : Nat} {cs : List AV} {x : AV} (hl : cs.length = n) (hoff : off + h.sz ≤ n) (hx : h.fits x = true) (hno : h.noAg = true) :
    x.cellsOf.length = h.sz ∧ x.isTp = false ∧ (h.write n cs off x).length = n ∧ ∀ i, (h.write n cs off x).getD i .junk = if off ≤ i ∧ i < off + h.sz then x.cellsOf.getD (i - off) .junk else cs.getD i .junk := by
  cases h with
  | one sh =>
    simp only [LSh.fits] at hx
    simp only [LSh.noAg] at hno
    have hone : x.cellsOf = [x] ∧ x.isTp = false := by
      cases sh <;> simp [Sh.noAg] at hno <;> cases x <;> simp [Sh.is, AV.isI, AV.isB, AV.isS, AV.isSl, AV.isAg, AV.atom, AV.isHp0, AV.isMp] at hx <;> exact ⟨rfl, rfl⟩
    refine ⟨by rw [hone.1]; rfl, hone.2, by simp only [LSh.write]; rw [upd_len]; exact hl, fun i => ?_⟩
    show (upd cs off x).getD i .junk = if off ≤ i ∧ i < off + 1 then x.cellsOf.getD (i - off) .junk else cs.getD i .junk
    have hoff' : off + 1 ≤ n := hoff
    rw [upd_getD, hone.1]
    by_cases hi : off = i
    · subst hi
      rw [if_pos ⟨rfl, by omega⟩, if_pos ⟨Nat.le_refl _, by omega⟩]
      simp
    · rw [if_neg (fun q => hi q.1), if_neg (by omega)]
  | agg m =>
    obtain ⟨c, rfl⟩ : ∃ c, x = .ag c := by cases x <;> first | exact ⟨_, rfl⟩ | (simp [LSh.fits] at hx)
    have hx : c.length = m := by simpa [LSh.fits] using hx
    refine ⟨hx, rfl, ?_, fun i => ?_⟩
    · simp only [LSh.write]
      split
      · rename_i hq
        simp only [Bool.and_eq_true, beq_iff_eq] at hq
        simp only [AV.agc]; omega
      · exact (lay_spec _ _ _ _).1.trans hl
    · have hoff' : off + m ≤ n := hoff
      show (match off == 0 && m == n with | true => c | false => lay c m cs off).getD i .junk = if off ≤ i ∧ i < off + m then c.getD (i - off) .junk else cs.getD i .junk
      split
      · rename_i hq
        simp only [Bool.and_eq_true, beq_iff_eq] at hq
        obtain ⟨rfl, rfl⟩ := hq
        simp only [Nat.zero_le, true_and, Nat.zero_add, Nat.sub_zero]
        split
        · rfl
        · rw [List.getD_eq_getElem?_getD, List.getD_eq_getElem?_getD, List.getElem?_eq_none (by omega), List.getElem?_eq_none (by omega)]
      · exact (lay_spec _ _ _ _).2 i (by omega)
theorem own_nil {g : Gh} {c : Lc} {x : AV} (h : RV g.Φ g.γ (.slice none 0 0) x) : OwnR g c (.slice none 0 0) x := by
  cases h with
  | nsl _ sz => exact ⟨.nsl _ _, _, _, _, _, _, rfl, rfl, .inl rfl⟩
theorem shiftN_spec {o k : Nat} : ∀ {l : List Nat}, k ∈ shiftN o l → ∃ a, a ∈ l ∧ k = a + o
  | [], h => by simp [shiftN] at h
  | a :: l, h => by
    simp only [shiftN, List.mem_cons] at h
    rcases h with h | h
    · exact ⟨a, List.mem_cons_self, h⟩
    · obtain ⟨b, hb, e⟩ := shiftN_spec h; exact ⟨b, List.mem_cons_of_mem _ hb, e⟩
/-- Cells of an object. -/
def ObjC (g : Gh) (mk : Nat → Lc) (own : List Nat) (cs : List AV) (n : Nat) (f : Nat → Option Value) : Prop :=
  ∀ i, i < n → ∃ v, f i = some v ∧ CellR g (mk i) (own.contains i) v (cs.getD i .junk)
theorem KR.nils_at {g : Gh} {live : Nat → Bool} {c : Lc} {v : Value} {k : Kd} {x : AV} (h : KR g live c v k x) {o : Nat} (ho : o ∈ k.offs) : v.cells.getD o undef = .slice none 0 0 := by
  cases k <;> simp [Kd.offs] at ho
  exact h.2 o ho
theorem ObjC.store {g : Gh} {mk : Nat → Lc} {own : List Nat} {cs : List AV} {n : Nat} {f f' : Nat → Option Value} {h : LSh} {off : Nat} {v : Value} {x : AV} {co : Bool} {k : Kd} (H : ObjC g mk own cs n f)
    (hl : cs.length = n) (hoff : off + h.sz ≤ n) (hx : h.fits x = true) (hno : h.noAg = true)
    (hv : RV g.Φ g.γ v x) (hco : co = true → v = .slice none 0 0) (hk : ∀ o, o ∈ k.offs → v.cells.getD o undef = .slice none 0 0)
    (hf : ∀ i, i < n → f' i = if off ≤ i ∧ i < off + h.sz then some (v.cells.getD (i - off) undef) else f i) :
    ObjC g mk (ownBehind h off co k own) (h.write n cs off x) n f' := by
  obtain ⟨w1, w2, w3, w4⟩ := write_spec hl hoff hx hno
  have hr := RV.cellsR hv w2
  intro i hi
  rw [w4 i, hf i hi]
  have outs : ∀ m, h.sz = m → i ∈ outN off m own → i ∈ own ∧ ¬ (off ≤ i ∧ i < off + h.sz) := fun m hm q => by
    obtain ⟨q1, q2⟩ := outN_spec q
    exact ⟨q1, by omega⟩
  by_cases hin : off ≤ i ∧ i < off + h.sz
  · rw [if_pos hin, if_pos hin]
    have hc := hr.2 (i - off) (by omega)
    refine ⟨_, rfl, hc.2, hc.1, fun ho => ?_⟩
    have hm : i ∈ ownBehind h off co k own := by simpa using ho
    cases h with
    | one sh =>
      simp only [ownBehind, LSh.sz] at hm hin outs
      have hi0 : i = off := by omega
      subst hi0
      cases co with
      | true =>
        have := hco rfl
        subst this
        simp only [Nat.sub_self] at hc ⊢
        exact own_nil hc.1
      | false => exact absurd hin (outs 1 rfl hm).2
    | agg m =>
      simp only [ownBehind, List.mem_append, LSh.sz] at hm hin outs
      rcases hm with hm | hm
      · obtain ⟨a, ha, e⟩ := shiftN_spec hm
        have e2 : i - off = a := by omega
        rw [e2] at hc ⊢
        rw [hk a ha] at hc ⊢
        exact own_nil hc.1
      · exact absurd hin (outs m rfl hm).2
  · rw [if_neg hin, if_neg hin]
    obtain ⟨u, hu1, hu2⟩ := H i hi
    refine ⟨u, hu1, hu2.1, hu2.2.1, fun ho => hu2.2.2 ?_⟩
    have hm : i ∈ ownBehind h off co k own := by simpa using ho
    suffices i ∈ own by simpa using this
    cases h with
    | one sh =>
      simp only [ownBehind, LSh.sz] at hm hin outs
      cases co with
      | true =>
        rcases List.mem_cons.1 hm with hm | hm
        · omega
        · exact (outs 1 rfl hm).1
      | false => exact (outs 1 rfl hm).1
    | agg m =>
      simp only [ownBehind, List.mem_append, LSh.sz] at hm hin outs w1
      rcases hm with hm | hm
      · obtain ⟨a, ha, e⟩ := shiftN_spec hm
        have hc' := hk a ha
        exfalso
        have hlen : ¬ a < x.cellsOf.length := by omega
        rw [Array.getD_eq_getD_getElem?, Array.getElem?_eq_none (by rw [hr.1]; omega)] at hc'
        simp [undef] at hc'
      · exact (outs m rfl hm).1
end Go.Proofs.DenT
end
section
namespace Go.Proofs.DenT
set_option linter.unusedVariables false
set_option linter.unusedSimpArgs false
open Go
section
variable {Pg : Program} {fr : Fr} {pu : Bool} {g : Gh} {s : St} {a : Act} {w : World} {Γ : Env} {o : Oper}
theorem store_run {ρ : Operand → Value} {t : TypeId} {u y : Operand} {b off n : Nat} {cur : Array Value} {e : TypeId} {v : Value} {x : AV} {h : LSh} (ho : o.op = .store t u y) (hu : ρ u = .pointer (some ⟨b, off, none⟩)) (hy : ρ y = v)
    (hb : w.heap[b]? = some (.cells cur e (0, 0))) (hn : cur.size = n) (hoff : off + h.sz ≤ n) (hv : RV g.Φ g.γ v x) (hx : h.fits x = true) (ht : okL Pg t h = true) :
    ∃ w' cur', (execOp ρ o).run Pg w = .ok .skip w' ∧ WrBlk w w' b cur cur' e ∧ ∀ i, i < n → cur'[i]? = if off ≤ i ∧ i < off + h.sz then some (v.cells.getD (i - off) undef) else cur[i]? := by
  cases h with
  | one sh =>
    have hoff' : off + 1 ≤ n := hoff
    simp only [okL, Bool.and_eq_true] at ht
    have hat : x.atom = true := by
      simp only [LSh.fits] at hx
      cases sh <;> simp [Sh.noAg] at ht <;> cases x <;> simp [Sh.is, AV.isI, AV.isB, AV.isS, AV.isSl, AV.isAg, AV.atom, AV.isHp0, AV.isMp] at hx <;> rfl
    have h1 := RV.one hv hat
    have hcs : v.cells = #[v] := by cases v <;> first | rfl | simp [Value.oneCell'] at h1
    have hc : w.cell? ⟨b, off, none⟩ = some (cur[off]'(by omega)) := by simp [World.cell?, hb]
    have hfz : w.frozen? ⟨b, off, none⟩ = false := by simp [World.frozen?, hb]
    refine ⟨_, _, run_store1 ho hu hy h1 ht.2.1 hc hfz, WrBlk.setCell hb, fun i hi => ?_⟩
    show (cur.setIfInBounds off v)[i]? = if off ≤ i ∧ i < off + 1 then _ else _
    by_cases hio : off = i
    · subst hio
      rw [if_pos ⟨Nat.le_refl _, by omega⟩, hcs]
      have : off < cur.size := by omega
      simp [this]
    · rw [if_neg (by omega), Array.getElem?_setIfInBounds_ne hio]
  | agg m =>
    have hoff' : off + m ≤ n := hoff
    simp only [okL, Bool.and_eq_true] at ht
    obtain ⟨c, rfl⟩ : ∃ c, x = .ag c := by cases x <;> first | exact ⟨_, rfl⟩ | (simp [LSh.fits] at hx)
    have hx : c.length = m := by simpa [LSh.fits] using hx
    cases hv with
    | ag vs xs hn' hr ha =>
    have h1 : ∀ x ∈ vs, x.oneCell' = true := by
      intro z hz
      obtain ⟨i, hi, rfl⟩ := Array.mem_iff_getElem.1 hz
      have := RV.one (hr i (by omega)) (ha i (by omega))
      rwa [Array.getD_eq_getD_getElem?, Array.getElem?_eq_getElem hi] at this
    have hsz : vs.size = m := by omega
    refine ⟨_, _, run_storeN ho hu hy h1 ht.1 hsz hb (by omega), WrBlk.setRow hb ?_, fun i hi => ?_⟩
    · simp [hsz]; omega
    · show (cur.toList.take off ++ vs.toList ++ cur.toList.drop (off + m)).toArray[i]? = if off ≤ i ∧ i < off + m then some (vs.getD (i - off) undef) else _
      have htl : (cur.toList.take off).length = off := by simp; omega
      simp only [List.getElem?_toArray]
      by_cases hin : off ≤ i ∧ i < off + m
      · rw [if_pos hin, List.append_assoc, List.getElem?_append_right (by omega), List.getElem?_append_left (by simp [htl, hsz]; omega), htl]
        have : i - off < vs.size := by omega
        simp [this]
      · rw [if_neg hin]
        rcases Nat.lt_or_ge i off with hlt | hge
        · rw [List.append_assoc, List.getElem?_append_left (by omega), List.getElem?_take, if_pos hlt]; simp
        · rw [List.getElem?_append_right (by simp [hsz]; omega), List.getElem?_drop]
          simp [hsz]
          have : off + m + (i - (min off cur.size + m)) = i := by
            have : min off cur.size = off := by omega
            omega
          rw [this]
theorem okL_no {t : TypeId} {h : LSh} (ht : okL Pg t h = true) : h.noAg = true := by
  cases h with
  | one sh => simp only [okL, Bool.and_eq_true] at ht; exact ht.1
  | agg m => rfl
/-- Which object a place is in. -/
theorem KR.lpJ_at {c : Lc} {v : Value} {k : Kd} {x : AV} (h : KR g (lives s.loc) c v k x) (hx : x.isLp = true) : v = .pointer (some ⟨g.lam x.lpJ, x.hpO, none⟩) ∧ (nth s.loc x.lpJ LO.dead).live = true := by
  cases x <;> simp [AV.isLp] at hx
  cases k with
  | loc => exact ⟨h.2, by rw [nth_eq]; exact h.1⟩
  | glob => cases h
  | own => cases h.1
  | nils l => cases h.1
theorem src_co (R : Rel fr pu g s a w) {x : Operand} {y : Src} (h : okSrc x y = true) (hc : y.isCo = true) : a.eval x = .slice none 0 0 := by
  cases y <;> simp [Src.isCo] at hc
  obtain ⟨sz, rfl, rfl⟩ := co_ok h
  rfl
theorem lives_upd {loc : List LO} {j : Nat} {lo : LO} (hl : lo.live = true) (i : Nat) (h : lives loc i = true) : lives (upd loc j lo) i = true := by
  simp only [lives] at h ⊢
  rw [upd_getD]
  split
  · exact hl
  · exact h
theorem loc_lt {loc : List LO} {j : Nat} (h : (nth loc j LO.dead).live = true) : j < loc.length := by
  rcases Nat.lt_or_ge j loc.length with q | q
  · exact q
  · rw [nth_eq, List.getD_eq_getElem?_getD, List.getElem?_eq_none q] at h; simp [LO.dead] at h

/-- A local object turns, and the world with it. -/
theorem goes_locWrite {g' : Gh} {w' : World} {j : Nat} {cur cur' : Array Value} {e : TypeId} {lo' : LO} (R : Rel fr pu g s a w) (hlive : (nth s.loc j LO.dead).live = true) (hfrz : (nth s.loc j LO.dead).frz = false)
    (hw : WrBlk w w' (g.lam j) cur cur' e) (hrun : (execOp a.eval o).run Pg w = .ok .skip w') (I' : Inv fr g w' → Inv fr g' w') (hle : Gle g g') (hlam : g'.lam = g.lam)
    (hR : ∀ t p, g.ρ (.R t) = some p → (s.env.getD t Reg.junk).k = .own → g'.ρ (.R t) = some p)
    (hLs : ∀ i, g'.ρ (.L i) = g.ρ (.L i) ∧ (i ≠ j → ∀ o, g'.ρ (.LC i o) = g.ρ (.LC i o))) (hGs : ∀ l, g'.ρ (.G l) = g.ρ (.G l) ∧ ∀ o, g'.ρ (.GC l o) = g.ρ (.GC l o)) (hγ : g'.γ = g.γ)
    (h1 : lo'.live = true) (h2 : lo'.frz = false) (h3 : lo'.n = (nth s.loc j LO.dead).n) (h4 : lo'.cs.length = lo'.n) (h5 : ObjC g' (.LC j) lo'.own lo'.cs lo'.n (fun i => w'.cell? ⟨g.lam j, i, none⟩)) :
    Goes Pg fr pu o g ⟨putR s.env o.dst Reg.junk, upd s.loc j lo', s.H⟩ a w := by
  intro K Q hK
  unfold Oper.wp
  rw [hrun]
  rw [nth_eq] at hlive hfrz h3
  have hL := R.locs j hlive
  obtain ⟨tok, hS⟩ := hL.2.2.1 hfrz
  have st : Step g (some (.L j)) w w' := hw.step tok (fun o ho => by omega) (fun k' hk => by rw [tok] at hk; simp at hk; omega)
  have I1 := R.inv.step st
  have hlt : j < s.loc.length := loc_lt (by rw [nth_eq]; exact hlive)
  refine hK undef g' w' (R.next (I' I1) hle (fun i hi => ⟨lives_upd h1 i hi, by rw [hlam]⟩) (fun t _ p hp hk => hR t p hp hk) (fun t _ => trivial) (fun i => ?_) (fun l hl => ?_) (fun l hl => by rw [hγ]; exact R.γdom l hl)
    (fun hp l => ⟨by rw [(hGs l).1]; exact (R.nog hp l).1, fun o => by rw [(hGs l).2]; exact (R.nog hp l).2 o⟩) (fun _ => hγ))
  · rw [upd_getD]
    by_cases hij : j = i
    · subst hij
      rw [if_pos ⟨rfl, hlt⟩]
      intro _
      rw [hlam]
      refine ⟨h4, fun i hi => ?_, fun _ => ⟨by rw [(hLs j).1]; exact tok, by rw [h3]; exact hle.S _ _ hS⟩, fun q => by rw [h2] at q; simp at q⟩
      obtain ⟨v, q1, q2⟩ := h5 i hi
      refine ⟨v, q1, q2.1, q2.2.1, fun ho => q2.2.2 ?_⟩
      rw [h2] at ho; simpa using ho
    · rw [if_neg (fun q => hij q.1)]
      exact LOR.le hle (fun _ => by rw [hlam]) (fun p hp => by rw [(hLs i).1]; exact hp) (fun o _ p hp => by rw [(hLs i).2 (fun q => hij q.symm)]; exact hp) ((R.locs i).step R.inv st (by simp; exact hij))
  · exact GOR.le hle (fun p hp => by rw [(hGs l).1]; exact hp) (fun _ o _ p hp => by rw [(hGs l).2]; exact hp)
      ((R.heap l hl).step R.inv st (by simp) (fun hp => ⟨(R.pud hp).1, fun b hb => (R.pud hp).2.1 l b hb⟩))
/-- A local object's cells, before and behind. -/
theorem loc_blk (R : Rel fr pu g s a w) {j : Nat} (hlive : (nth s.loc j LO.dead).live = true) (hfrz : (nth s.loc j LO.dead).frz = false) :
    ∃ cur e, w.heap[g.lam j]? = some (.cells cur e (0, 0)) ∧ cur.size = (nth s.loc j LO.dead).n ∧ (nth s.loc j LO.dead).cs.length = (nth s.loc j LO.dead).n ∧
      ObjC g (.LC j) (nth s.loc j LO.dead).own (nth s.loc j LO.dead).cs (nth s.loc j LO.dead).n (fun i => cur[i]?) := by
  rw [nth_eq] at hlive hfrz ⊢
  have hL := R.locs j hlive
  obtain ⟨tok, hS⟩ := hL.2.2.1 hfrz
  obtain ⟨cur, e, hb, hn⟩ := R.inv.shp _ _ hS
  refine ⟨cur, e, hb, hn, hL.1, fun i hi => ?_⟩
  obtain ⟨v, q1, q2⟩ := hL.2.1 i hi
  refine ⟨v, ?_, q2.1, q2.2.1, fun ho => q2.2.2 (by rw [hfrz]; simpa using ho)⟩
  simp only [World.cell?, hb] at q1
  exact q1
theorem goes_lstore {j0 : Nat} {x v : Src} {h : LSh} (R : Rel fr pu g s a w) (hc : okOp Pg o.op o.type (.lstore j0 x h v) = true) (hg : Good (evS Γ (.lstore j0 x h v) s)) :
    Goes Pg fr pu o g ⟨putR s.env o.dst Reg.junk, (evS Γ (.lstore j0 x h v) s).loc, s.H⟩ a w := by
  simp only [okOp] at hc
  split at hc <;> try (simp at hc; done)
  rename_i t u y ho
  simp only [Bool.and_eq_true] at hc
  obtain ⟨⟨h1, h2⟩, h3⟩ := hc
  obtain ⟨hb, hs⟩ := hg
  have hL : (evS Γ (.lstore j0 x h v) s).loc = upd s.loc (envGet s.env x).x.lpJ { lob s.loc (envGet s.env x).x with cs := h.write (lob s.loc (envGet s.env x).x).n (lob s.loc (envGet s.env x).x).cs (envGet s.env x).x.hpO (envGet s.env v).x, own := ownBehind h (envGet s.env x).x.hpO v.isCo (envGet s.env v).k (lob s.loc (envGet s.env x).x).own } := rfl
  rw [hL]
  simp [evS, ev, P.opnds, rg, nth_0, nth_S, oksOf, P.rdL] at hb hs
  obtain ⟨b1, b2, b3, b4, b5, b6, b7⟩ := hb
  obtain ⟨hu, hlive⟩ := (src_ok R h1 hs.1).lpJ_at b1
  have hkv := src_ok R h2 hs.2
  have hv := hkv.rvG b5
  have hco : v.isCo = true → a.eval y = .slice none 0 0 := src_co R h2
  generalize (envGet s.env v).x = xv at *
  simp only [lob] at b2 b3 b4 ⊢
  obtain ⟨cur, e, hblk, hsz, hlen, hobj⟩ := loc_blk R hlive b3
  obtain ⟨w', cur', hrun, hwr, hcells⟩ := store_run (g := g) ho hu rfl hblk hsz b4 hv b6 h3
  have hno := okL_no h3
  refine goes_locWrite R hlive b3 hwr hrun id (Gle.refl g) rfl (fun _ _ hp _ => hp) (fun _ => ⟨rfl, fun _ _ => rfl⟩) (fun _ => ⟨rfl, fun _ => rfl⟩) rfl hlive b3 rfl ?_ ?_
  · exact (write_spec hlen b4 b6 hno).2.2.1
  · refine ObjC.store hobj hlen b4 b6 hno hv hco (fun o ho => hkv.nils_at ho) (fun i hi => ?_)
    show w'.cell? ⟨g.lam (envGet s.env x).x.lpJ, i, none⟩ = _
    rw [hwr.cell]; exact hcells i hi
end
end Go.Proofs.DenT
end
section
namespace Go.Proofs.DenT
set_option linter.unusedVariables false
set_option linter.unusedSimpArgs false
open Go
section
variable {Pg : Program} {fr : Fr} {pu : Bool} {g : Gh} {s : St} {a : Act} {w : World} {Γ : Env} {o : Oper}
theorem isC_spec {x : HO} (h : x.isC = true) : x = .cells x.n x.cs x.own := by cases x <;> simp [HO.isC] at h; rfl
theorem obj_lt {H : Heap} {l : Nat} (h : (obj H l).isC = true) : l < H.length := by
  rcases Nat.lt_or_ge l H.length with q | q
  · exact q
  · simp only [obj, nth_eq] at h; rw [List.getD_eq_getElem?_getD, List.getElem?_eq_none q] at h; simp [HO.isC] at h
theorem KR.hpJ_at {c : Lc} {v : Value} {k : Kd} {x : AV} {live : Nat → Bool} (h : KR g live c v k x) (hx : x.isHp = true) : ∃ b, v = .pointer (some ⟨b, x.hpO, none⟩) ∧ g.γ x.hpL = some b := by
  cases x <;> simp [AV.isHp] at hx
  have hr := h.rvX rfl
  cases hr with
  | hp bl off l hl => exact ⟨bl, rfl, hl⟩
/-- An object of the heap turns, and the world with it. -/
theorem goes_heapWrite {g' : Gh} {w' : World} {l b n : Nat} {cs' : List AV} {own' : List Nat} {cur cur' : Array Value} {e : TypeId} (R : Rel fr false g s a w) (hC : (obj s.H l).isC = true)
    (hb : g.γ l = some b) (hw : WrBlk w w' b cur cur' e) (hrun : (execOp a.eval o).run Pg w = .ok .skip w') (I' : Inv fr g w' → Inv fr g' w') (hle : Gle g g') (hlam : g'.lam = g.lam)
    (hR : ∀ t p, g.ρ (.R t) = some p → (s.env.getD t Reg.junk).k = .own → g'.ρ (.R t) = some p)
    (hLs : ∀ i, g'.ρ (.L i) = g.ρ (.L i) ∧ ∀ o, g'.ρ (.LC i o) = g.ρ (.LC i o)) (hGs : ∀ i, g'.ρ (.G i) = g.ρ (.G i) ∧ (i ≠ l → ∀ o, g'.ρ (.GC i o) = g.ρ (.GC i o))) (hγ : g'.γ = g.γ)
    (h3 : n = (obj s.H l).n) (h4 : cs'.length = n) (h5 : ObjC g' (.GC l) own' cs' n (fun i => w'.cell? ⟨b, i, none⟩)) :
    Goes Pg fr false o g ⟨putR s.env o.dst Reg.junk, s.loc, upd s.H l (.cells n cs' own')⟩ a w := by
  intro K Q hK
  unfold Oper.wp
  rw [hrun]
  have hlt := obj_lt hC
  have hH := R.heap l hlt
  have ho := isC_spec hC
  simp only [obj, nth_eq] at ho hC h3
  rw [ho] at hH
  obtain ⟨b', k1, k2, k3, k4⟩ := hH
  rw [hb] at k1; simp at k1; subst k1
  obtain ⟨tok, hS⟩ := k3 rfl
  have st : Step g (some (.G l)) w w' := hw.step tok (fun o ho => by omega) (fun k' hk => by rw [tok] at hk; simp at hk; omega)
  have I1 := R.inv.step st
  refine hK undef g' w' (R.next (I' I1) hle (fun i hi => ⟨hi, by rw [hlam]⟩) (fun t _ p hp hk => hR t p hp hk) (fun t _ => trivial) (fun i => ?_) (fun i hi => ?_) (fun i hi => by rw [upd_len] at hi; rw [hγ]; exact R.γdom i hi)
    (fun hp => by simp at hp) (fun hp => by simp at hp))
  · exact LOR.le hle (fun _ => by rw [hlam]) (fun p hp => by rw [(hLs i).1]; exact hp) (fun o _ p hp => by rw [(hLs i).2]; exact hp) ((R.locs i).step R.inv st (by simp))
  · rw [upd_len] at hi
    rw [upd_getD]
    by_cases hil : l = i
    · subst hil
      rw [if_pos ⟨rfl, hlt⟩]
      refine ⟨b, by rw [hγ]; exact hb, h4, fun _ => ⟨by rw [(hGs l).1]; exact tok, by rw [h3]; exact hle.S _ _ hS⟩, fun i hi => ?_⟩
      obtain ⟨v, q1, q2⟩ := h5 i hi
      exact ⟨v, q1, q2.1, q2.2.1, fun ho => q2.2.2 (by simpa using ho)⟩
    · rw [if_neg (fun q => hil q.1)]
      exact GOR.le hle (fun p hp => by rw [(hGs i).1]; exact hp) (fun _ o _ p hp => by rw [(hGs i).2 (fun q => hil q.symm)]; exact hp)
        ((R.heap i hi).step R.inv st (by simp; exact hil) (fun hp => by simp at hp))
theorem heap_blk (R : Rel fr false g s a w) {l b : Nat} (hC : (obj s.H l).isC = true) (hb : g.γ l = some b) :
    ∃ cur e, w.heap[b]? = some (.cells cur e (0, 0)) ∧ cur.size = (obj s.H l).n ∧ (obj s.H l).cs.length = (obj s.H l).n ∧
      ObjC g (.GC l) (obj s.H l).own (obj s.H l).cs (obj s.H l).n (fun i => cur[i]?) := by
  have hlt := obj_lt hC
  have hH := R.heap l hlt
  have ho := isC_spec hC
  simp only [obj, nth_eq] at ho ⊢
  rw [ho] at hH
  obtain ⟨b', k1, k2, k3, k4⟩ := hH
  rw [hb] at k1; simp at k1; subst k1
  obtain ⟨tok, hS⟩ := k3 rfl
  obtain ⟨cur, e, hblk, hn⟩ := R.inv.shp _ _ hS
  refine ⟨cur, e, hblk, hn, k2, fun i hi => ?_⟩
  obtain ⟨v, q1, q2⟩ := k4 i hi
  refine ⟨v, ?_, q2.1, q2.2.1, fun ho => q2.2.2 (by simpa using ho)⟩
  simp only [World.cell?, hblk] at q1
  exact q1
theorem goes_hstore {x v : Src} {h : LSh} (R : Rel fr false g s a w) (hc : okOp Pg o.op o.type (.hstore x h v) = true) (hg : Good (evS Γ (.hstore x h v) s)) :
    Goes Pg fr false o g ⟨putR s.env o.dst Reg.junk, s.loc, (evS Γ (.hstore x h v) s).H⟩ a w := by
  simp only [okOp] at hc
  split at hc <;> try (simp at hc; done)
  rename_i t u y ho
  simp only [Bool.and_eq_true] at hc
  obtain ⟨⟨h1, h2⟩, h3⟩ := hc
  obtain ⟨hb, hs⟩ := hg
  have hL : (evS Γ (.hstore x h v) s).H = upd s.H (envGet s.env x).x.hpL (.cells (obj s.H (envGet s.env x).x.hpL).n (h.write (obj s.H (envGet s.env x).x.hpL).n (obj s.H (envGet s.env x).x.hpL).cs (envGet s.env x).x.hpO (envGet s.env v).x) (ownBehind h (envGet s.env x).x.hpO v.isCo (envGet s.env v).k (obj s.H (envGet s.env x).x.hpL).own)) := rfl
  rw [hL]
  simp [evS, ev, P.opnds, rg, nth_0, nth_S, oksOf, P.rdH] at hb hs
  obtain ⟨b1, b2, b4, b5, b6⟩ := hb
  obtain ⟨b, hu, hγ⟩ := (src_ok R h1 hs.1).hpJ_at b1
  have hkv := src_ok R h2 hs.2
  have hv := hkv.rvG b5
  have hco : v.isCo = true → a.eval y = .slice none 0 0 := src_co R h2
  generalize (envGet s.env v).x = xv at *
  obtain ⟨cur, e, hblk, hsz, hlen, hobj⟩ := heap_blk R b2 hγ
  obtain ⟨w', cur', hrun, hwr, hcells⟩ := store_run (g := g) ho hu rfl hblk hsz b4 hv b6 h3
  have hno := okL_no h3
  refine goes_heapWrite R b2 hγ hwr hrun id (Gle.refl g) rfl (fun _ _ hp _ => hp) (fun _ => ⟨rfl, fun _ => rfl⟩) (fun _ => ⟨rfl, fun _ _ => rfl⟩) rfl rfl ?_ ?_
  · exact (write_spec hlen b4 b6 hno).2.2.1
  · refine ObjC.store hobj hlen b4 b6 hno hv hco (fun o ho => hkv.nils_at ho) (fun i hi => ?_)
    show w'.cell? ⟨b, i, none⟩ = _
    rw [hwr.cell]; exact hcells i hi
/-! ### Owned rows, stored and taken back -/
theorem upd_ne_nil {α : Type} (l : List α) (n : Nat) (v : α) : (upd l n v).length = l.length := upd_len l n v
theorem ObjC.storeO {g g' : Gh} {mk : Nat → Lc} {own : List Nat} {cs : List AV} {n off : Nat} {f f' : Nat → Option Value} {v : Value} {x : AV} (H : ObjC g mk own cs n f) (hl : cs.length = n) (hoff : off < n)
    (hle : Gle g g') (hmk : ∀ i, i ≠ off → ∀ p, g.ρ (mk i) = some p → g'.ρ (mk i) = some p) (hv : OwnR g' (mk off) v x) (hat : x.atom = true)
    (hf : ∀ i, i < n → f' i = if off = i then some v else f i) : ObjC g' mk (off :: outN off 1 own) (upd cs off x) n f' := by
  intro i hi
  rw [hf i hi, upd_getD]
  by_cases hio : off = i
  · subst hio
    rw [if_pos rfl, if_pos ⟨rfl, by omega⟩]
    exact ⟨v, rfl, hat, hv.1, fun _ => hv⟩
  · rw [if_neg hio, if_neg (fun q => hio q.1)]
    obtain ⟨u, hu1, hu2⟩ := H i hi
    refine ⟨u, hu1, hu2.1, hu2.2.1.le hle, fun ho => (hu2.2.2 ?_).le hle (hmk i (fun q => hio q.symm))⟩
    have hm : i ∈ off :: outN off 1 own := by simpa using ho
    rcases List.mem_cons.1 hm with hm | hm
    · exact absurd hm.symm hio
    · simpa using (outN_spec hm).1
theorem OwnR.atom {c : Lc} {v : Value} {x : AV} (h : OwnR g c v x) : x.atom = true := by
  obtain ⟨_, sz, es, a, len, cap, rfl, _⟩ := h; rfl
theorem OwnR.slice {c : Lc} {v : Value} {x : AV} (h : OwnR g c v x) : ∃ sz, x.isSl sz = true := by
  obtain ⟨_, sz, es, a, len, cap, rfl, _⟩ := h; exact ⟨sz, by simp [AV.isSl]⟩
theorem own_ne_after (s : St) (t : Nat) (h : t < s.env.length) : ((upd s.env t { nth s.env t Reg.junk with k := .glob }).getD t Reg.junk).k = .glob := by rw [upd_getD, if_pos ⟨rfl, h⟩]
theorem own_lt {s : St} {t : Nat} (ht : (nth s.env t Reg.junk).k.isOwn = true) : t < s.env.length := by
  rcases Nat.lt_or_ge t s.env.length with q | q
  · exact q
  · rw [nth_eq, List.getD_eq_getElem?_getD, List.getElem?_eq_none q] at ht; simp [Reg.junk, Kd.isOwn] at ht
theorem storeO_run {ρ : Operand → Value} {t : TypeId} {u y : Operand} {b off n : Nat} {cur : Array Value} {e : TypeId} {v : Value} (ho : o.op = .store t u y) (hu : ρ u = .pointer (some ⟨b, off, none⟩)) (hy : ρ y = v)
    (hb : w.heap[b]? = some (.cells cur e (0, 0))) (hn : cur.size = n) (hoff : off < n) (h1 : v.oneCell' = true) (ht : tySize Pg t 1 = true) :
    ∃ w' cur', (execOp ρ o).run Pg w = .ok .skip w' ∧ WrBlk w w' b cur cur' e ∧ ∀ i, i < n → cur'[i]? = if off = i then some v else cur[i]? := by
  have hc : w.cell? ⟨b, off, none⟩ = some (cur[off]'(by omega)) := by simp [World.cell?, hb]
  have hfz : w.frozen? ⟨b, off, none⟩ = false := by simp [World.frozen?, hb]
  refine ⟨_, _, run_store1 ho hu hy h1 ht hc hfz, WrBlk.setCell hb, fun i hi => ?_⟩
  by_cases hio : off = i
  · subst hio
    rw [if_pos rfl]
    have : off < cur.size := by omega
    simp [this]
  · rw [if_neg hio, Array.getElem?_setIfInBounds_ne hio]
theorem goes_lstoreO {j0 : Nat} {x : Src} {t : Nat} (R : Rel fr pu g s a w) (hc : okOp Pg o.op o.type (.lstoreO j0 x t) = true) (hg : Good (evS Γ (.lstoreO j0 x t) s)) :
    Goes Pg fr pu o g ⟨putR (upd s.env t { nth s.env t Reg.junk with k := .glob }) o.dst Reg.junk, (evS Γ (.lstoreO j0 x t) s).loc, s.H⟩ a w := by
  simp only [okOp] at hc
  split at hc <;> try (simp at hc; done)
  rename_i ty u y ho
  simp only [Bool.and_eq_true] at hc
  obtain ⟨⟨h1, h2⟩, h3⟩ := hc
  obtain ⟨hb, hs⟩ := hg
  have hL : (evS Γ (.lstoreO j0 x t) s).loc = upd s.loc (envGet s.env x).x.lpJ { lob s.loc (envGet s.env x).x with cs := upd (lob s.loc (envGet s.env x).x).cs (envGet s.env x).x.hpO (envGet s.env (.t t)).x, own := (envGet s.env x).x.hpO :: outN (envGet s.env x).x.hpO 1 (lob s.loc (envGet s.env x).x).own } := rfl
  rw [hL]
  simp [evS, ev, P.opnds, rg, nth_0, nth_S, oksOf, P.rdL] at hb hs
  obtain ⟨b1, b2, b3, b4, b5, b7⟩ := hb
  obtain ⟨hu, hlive⟩ := (src_ok R h1 hs.1).lpJ_at b1
  have b5' : (nth s.env t Reg.junk).k.isOwn = true := b5
  have hvo := R.own b5' hs.2
  have hy : a.eval y = a.eval (.tmp t) := by
    unfold okSrc at h2
    split at h2 <;> simp_all
  simp only [lob] at b2 b3 b4 ⊢
  obtain ⟨cur, e, hblk, hsz, hlen, hobj⟩ := loc_blk R hlive b3
  obtain ⟨w', cur', hrun, hwr, hcells⟩ := storeO_run (Pg := Pg) ho hu hy hblk hsz b4 (RV.one hvo.1 hvo.atom) h3
  have hle : Gle g (g.mv (.R t) (.LC (envGet s.env x).x.lpJ (envGet s.env x).x.hpO)) := ⟨fun _ _ _ h => h, fun _ _ h => h, fun _ _ h => h⟩
  refine goes_locWrite (g' := g.mv (.R t) (.LC (envGet s.env x).x.lpJ (envGet s.env x).x.hpO)) (R.demote t b5') hlive b3 hwr hrun (fun I => (Gh.mv_inv I _ _).1) hle rfl ?_ (fun i => ⟨Gh.mv_ne (by simp) (by simp), fun hi o => Gh.mv_ne (by simp) (by simp; intro q; exact absurd q hi)⟩)
    (fun l => ⟨Gh.mv_ne (by simp) (by simp), fun o => Gh.mv_ne (by simp) (by simp)⟩) rfl hlive b3 rfl ?_ ?_
  · intro t' p hp hk
    have hne : t' ≠ t := by
      intro q; subst q
      rw [own_ne_after s t' (own_lt b5')] at hk; simp at hk
    rw [Gh.mv_ne (by simp; exact hne) (by simp)]; exact hp
  · show (upd _ _ _).length = _; rw [upd_len]; exact hlen
  · refine ObjC.storeO hobj hlen b4 hle (fun i hi p hp => ?_) (hvo.le hle (fun p hp => by rw [Gh.mv_to]; exact hp)) hvo.atom (fun i hi => ?_)
    · rw [Gh.mv_ne (by simp) (by simp; exact hi)]; exact hp
    · show w'.cell? ⟨g.lam (envGet s.env x).x.lpJ, i, none⟩ = _
      rw [hwr.cell]; exact hcells i hi
theorem goes_hstoreO {x : Src} {t : Nat} (R : Rel fr false g s a w) (hc : okOp Pg o.op o.type (.hstoreO x t) = true) (hg : Good (evS Γ (.hstoreO x t) s)) :
    Goes Pg fr false o g ⟨putR (upd s.env t { nth s.env t Reg.junk with k := .glob }) o.dst Reg.junk, s.loc, (evS Γ (.hstoreO x t) s).H⟩ a w := by
  simp only [okOp] at hc
  split at hc <;> try (simp at hc; done)
  rename_i ty u y ho
  simp only [Bool.and_eq_true] at hc
  obtain ⟨⟨h1, h2⟩, h3⟩ := hc
  obtain ⟨hb, hs⟩ := hg
  have hL : (evS Γ (.hstoreO x t) s).H = upd s.H (envGet s.env x).x.hpL (.cells (obj s.H (envGet s.env x).x.hpL).n (upd (obj s.H (envGet s.env x).x.hpL).cs (envGet s.env x).x.hpO (envGet s.env (.t t)).x) ((envGet s.env x).x.hpO :: outN (envGet s.env x).x.hpO 1 (obj s.H (envGet s.env x).x.hpL).own)) := rfl
  rw [hL]
  simp [evS, ev, P.opnds, rg, nth_0, nth_S, oksOf, P.rdH] at hb hs
  obtain ⟨b1, b2, b4, b5⟩ := hb
  obtain ⟨b, hu, hγ⟩ := (src_ok R h1 hs.1).hpJ_at b1
  have b5' : (nth s.env t Reg.junk).k.isOwn = true := b5
  have hvo := R.own b5' hs.2
  have hy : a.eval y = a.eval (.tmp t) := by
    unfold okSrc at h2
    split at h2 <;> simp_all
  obtain ⟨cur, e, hblk, hsz, hlen, hobj⟩ := heap_blk R b2 hγ
  obtain ⟨w', cur', hrun, hwr, hcells⟩ := storeO_run (Pg := Pg) ho hu hy hblk hsz b4 (RV.one hvo.1 hvo.atom) h3
  have hle : Gle g (g.mv (.R t) (.GC (envGet s.env x).x.hpL (envGet s.env x).x.hpO)) := ⟨fun _ _ _ h => h, fun _ _ h => h, fun _ _ h => h⟩
  refine goes_heapWrite (g' := g.mv (.R t) (.GC (envGet s.env x).x.hpL (envGet s.env x).x.hpO)) (R.demote t b5') b2 hγ hwr hrun (fun I => (Gh.mv_inv I _ _).1) hle rfl ?_ (fun i => ⟨Gh.mv_ne (by simp) (by simp), fun o => Gh.mv_ne (by simp) (by simp)⟩)
    (fun l => ⟨Gh.mv_ne (by simp) (by simp), fun hi o => Gh.mv_ne (by simp) (by simp; intro q; exact absurd q hi)⟩) rfl rfl ?_ ?_
  · intro t' p hp hk
    have hne : t' ≠ t := by
      intro q; subst q
      rw [own_ne_after s t' (own_lt b5')] at hk; simp at hk
    rw [Gh.mv_ne (by simp; exact hne) (by simp)]; exact hp
  · show (upd _ _ _).length = _; rw [upd_len]; exact hlen
  · refine ObjC.storeO hobj hlen b4 hle (fun i hi p hp => ?_) (hvo.le hle (fun p hp => by rw [Gh.mv_to]; exact hp)) hvo.atom (fun i hi => ?_)
    · rw [Gh.mv_ne (by simp) (by simp; exact hi)]; exact hp
    · show w'.cell? ⟨b, i, none⟩ = _
      rw [hwr.cell]; exact hcells i hi
end
end Go.Proofs.DenT
end
section
namespace Go.Proofs.DenT
set_option linter.unusedVariables false
set_option linter.unusedSimpArgs false
open Go
section
variable {Pg : Program} {fr : Fr} {pu : Bool} {g : Gh} {s : St} {a : Act} {w : World} {Γ : Env} {o : Oper}
theorem mv_regs {t d : Nat} {c : Lc} {p : Nat × Nat} (hc : ∀ i, c ≠ .R i) (hd : t ≠ d) (hp : g.ρ (.R t) = some p) : (g.mv c (.R d)).ρ (.R t) = some p := by
  rw [Gh.mv_ne (fun q => hc t q.symm) (by simp; exact hd)]; exact hp
theorem goes_lloadO {j0 : Nat} {x : Src} {sz d : Nat} (R : Rel fr pu g s a w) (hd : o.dst = some d) (hc : okOp Pg o.op o.type (.lloadO j0 x sz) = true) (hg : Good (evS Γ (.lloadO j0 x sz) s)) :
    Goes Pg fr pu o g ⟨putR s.env o.dst (evS Γ (.lloadO j0 x sz) s).r, (evS Γ (.lloadO j0 x sz) s).loc, s.H⟩ a w := by
  simp only [okOp] at hc
  split at hc <;> try (simp at hc; done)
  rename_i ty u ho
  simp only [Bool.and_eq_true] at hc
  obtain ⟨⟨h1, h2⟩, h3⟩ := hc
  obtain ⟨hb, hs⟩ := hg
  have hL : (evS Γ (.lloadO j0 x sz) s).loc = upd s.loc (envGet s.env x).x.lpJ { lob s.loc (envGet s.env x).x with own := outN (envGet s.env x).x.hpO 1 (lob s.loc (envGet s.env x).x).own } := rfl
  have hr : (evS Γ (.lloadO j0 x sz) s).r = ⟨.sl sz (nth (lob s.loc (envGet s.env x).x).cs (envGet s.env x).x.hpO .junk).els, .own, .yes⟩ := rfl
  rw [hL, hr]
  simp [evS, ev, P.opnds, rg, nth_0, nth_S, oksOf, P.rdL] at hb hs
  obtain ⟨b1, b2, b3, b4, b5, b6, b7⟩ := hb
  obtain ⟨hu, hlive⟩ := (src_ok R h1 hs).lpJ_at b1
  simp only [lob] at b2 b3 b4 b5 b6 ⊢
  generalize hj : (envGet s.env x).x.lpJ = j at *
  generalize hof : (envGet s.env x).x.hpO = off at *
  obtain ⟨cur, e, hblk, hsz, hlen, hobj⟩ := loc_blk R hlive b3
  obtain ⟨v, hv1, hv2⟩ := hobj off b4
  rw [← nth_eq] at hv2
  have hown := hv2.2.2 (by simpa using b5)
  have hcell : w.cell? ⟨g.lam j, off, none⟩ = some v := by simp only [World.cell?, hblk]; exact hv1
  have hrun : (execOp a.eval o).run Pg w = .ok (.value v) w := run_load ho hu (run_loadVar1 h3 hcell)
  have hlt := loc_lt hlive
  intro K Q hK
  unfold Oper.wp
  rw [hrun]
  obtain ⟨I', hle⟩ := Gh.mv_inv R.inv (.LC j off) (.R d)
  simp only [nth_eq] at hlive b3 b4 b5 b6 hlen hobj hown hK
  refine hK v (g.mv (.LC j off) (.R d)) w (R.next I' hle (fun i hi => ⟨?_, rfl⟩) (fun t' hne p hp hk => mv_regs (by simp) (fun q => hne (by rw [hd, q])) hp) (fun t' he => ?_) (fun i => ?_) (fun l hl => ?_) R.γdom (fun hp l => ?_) (fun _ => rfl))
  · exact lives_upd (lo := { n := (s.loc.getD j LO.dead).n, cs := (s.loc.getD j LO.dead).cs, own := outN off 1 (s.loc.getD j LO.dead).own, frz := (s.loc.getD j LO.dead).frz, live := (s.loc.getD j LO.dead).live }) hlive i hi
  · rw [hd] at he; simp at he; subst he
    have e2 := isSl_spec b6
    rw [← e2]
    exact OwnR.le hle (fun p hp => by rw [Gh.mv_to]; exact hp) hown
  · rw [upd_getD]
    by_cases hij : j = i
    · subst hij
      rw [if_pos ⟨rfl, hlt⟩]
      have hL := R.locs j hlive
      intro _
      refine ⟨hL.1, fun i hi => ?_, fun _ => ⟨by rw [Gh.mv_ne (by simp) (by simp)]; exact (hL.2.2.1 b3).1, (hL.2.2.1 b3).2⟩, fun q => absurd (b3.symm.trans q) (by simp)⟩
      obtain ⟨u', q1, q2⟩ := hL.2.1 i hi
      refine ⟨u', q1, q2.1, q2.2.1.le hle, fun ho => ?_⟩
      have hm : i ∈ outN off 1 (s.loc.getD j LO.dead).own := by simp at ho; exact ho.2
      obtain ⟨m1, m2⟩ := outN_spec hm
      refine (q2.2.2 (by rw [b3]; simpa using m1)).le hle (fun p hp => ?_)
      rw [Gh.mv_ne (by simp; omega) (by simp)]; exact hp
    · rw [if_neg (fun q => hij q.1)]
      exact LOR.le hle (fun _ => rfl) (fun p hp => by rw [Gh.mv_ne (by simp) (by simp)]; exact hp) (fun o _ p hp => by rw [Gh.mv_ne (by simp; intro q; exact absurd q.symm hij) (by simp)]; exact hp) (R.locs i)
  · exact GOR.le hle (fun p hp => by rw [Gh.mv_ne (by simp) (by simp)]; exact hp) (fun _ o _ p hp => by rw [Gh.mv_ne (by simp) (by simp)]; exact hp) (R.heap l hl)
  · rw [Gh.mv_ne (by simp) (by simp)]
    exact ⟨(R.nog hp l).1, fun o => by rw [Gh.mv_ne (by simp) (by simp)]; exact (R.nog hp l).2 o⟩
theorem goes_hloadO {x : Src} {sz d : Nat} (R : Rel fr false g s a w) (hd : o.dst = some d) (hc : okOp Pg o.op o.type (.hloadO x sz) = true) (hg : Good (evS Γ (.hloadO x sz) s)) :
    Goes Pg fr false o g ⟨putR s.env o.dst (evS Γ (.hloadO x sz) s).r, s.loc, (evS Γ (.hloadO x sz) s).H⟩ a w := by
  simp only [okOp] at hc
  split at hc <;> try (simp at hc; done)
  rename_i ty u ho
  simp only [Bool.and_eq_true] at hc
  obtain ⟨⟨h1, h2⟩, h3⟩ := hc
  obtain ⟨hb, hs⟩ := hg
  have hL : (evS Γ (.hloadO x sz) s).H = upd s.H (envGet s.env x).x.hpL (.cells (obj s.H (envGet s.env x).x.hpL).n (obj s.H (envGet s.env x).x.hpL).cs (outN (envGet s.env x).x.hpO 1 (obj s.H (envGet s.env x).x.hpL).own)) := rfl
  have hr : (evS Γ (.hloadO x sz) s).r = ⟨.sl sz (nth (obj s.H (envGet s.env x).x.hpL).cs (envGet s.env x).x.hpO .junk).els, .own, .yes⟩ := rfl
  rw [hL, hr]
  simp [evS, ev, P.opnds, rg, nth_0, nth_S, oksOf, P.rdH] at hb hs
  obtain ⟨b1, b2, b4, b5, b6⟩ := hb
  obtain ⟨b, hu, hγ⟩ := (src_ok R h1 hs).hpJ_at b1
  generalize hj : (envGet s.env x).x.hpL = l at *
  generalize hof : (envGet s.env x).x.hpO = off at *
  obtain ⟨cur, e, hblk, hsz, hlen, hobj⟩ := heap_blk R b2 hγ
  obtain ⟨v, hv1, hv2⟩ := hobj off b4
  rw [← nth_eq] at hv2
  have hown := hv2.2.2 (by simpa using b5)
  have hcell : w.cell? ⟨b, off, none⟩ = some v := by simp only [World.cell?, hblk]; exact hv1
  have hrun : (execOp a.eval o).run Pg w = .ok (.value v) w := run_load ho hu (run_loadVar1 h3 hcell)
  have hlt := obj_lt b2
  have hH := R.heap l hlt
  have hob := isC_spec b2
  simp only [obj, nth_eq] at hob b4 hobj
  rw [hob] at hH
  obtain ⟨b', k1, k2, k3, k4⟩ := hH
  rw [hγ] at k1; simp at k1; subst k1
  intro K Q hK
  unfold Oper.wp
  rw [hrun]
  obtain ⟨I', hle⟩ := Gh.mv_inv R.inv (.GC l off) (.R d)
  simp only [obj, nth_eq] at hK
  refine hK v (g.mv (.GC l off) (.R d)) w (R.next I' hle (fun i hi => ⟨hi, rfl⟩) (fun t' hne p hp hk => mv_regs (by simp) (fun q => hne (by rw [hd, q])) hp) (fun t' he => ?_) (fun i => ?_) (fun i hi => ?_) (fun i hi => by rw [upd_len] at hi; exact R.γdom i hi) (fun hp l => by simp at hp) (fun hp => by simp at hp))
  · rw [hd] at he; simp at he; subst he
    have e2 := isSl_spec b6
    simp only [obj, nth_eq] at e2 hown
    rw [← e2]
    exact OwnR.le hle (fun p hp => by rw [Gh.mv_to]; exact hp) hown
  · exact LOR.le hle (fun _ => rfl) (fun p hp => by rw [Gh.mv_ne (by simp) (by simp)]; exact hp) (fun o _ p hp => by rw [Gh.mv_ne (by simp) (by simp)]; exact hp) (R.locs i)
  · rw [upd_len] at hi
    rw [upd_getD]
    by_cases hil : l = i
    · subst hil
      rw [if_pos ⟨rfl, hlt⟩]
      refine ⟨b, hγ, k2, fun _ => ⟨by rw [Gh.mv_ne (by simp) (by simp)]; exact (k3 rfl).1, (k3 rfl).2⟩, fun i hi => ?_⟩
      obtain ⟨u', q1, q2⟩ := k4 i hi
      refine ⟨u', q1, q2.1, q2.2.1.le hle, fun ho => ?_⟩
      have hm : i ∈ outN off 1 (s.H.getD l HO.dead).own := by simpa using ho
      obtain ⟨m1, m2⟩ := outN_spec hm
      refine (q2.2.2 (by simpa using m1)).le hle (fun p hp => ?_)
      rw [Gh.mv_ne (by simp; omega) (by simp)]; exact hp
    · rw [if_neg (fun q => hil q.1)]
      exact GOR.le hle (fun p hp => by rw [Gh.mv_ne (by simp) (by simp)]; exact hp) (fun _ o _ p hp => by rw [Gh.mv_ne (by simp; intro q; exact absurd q.symm hil) (by simp)]; exact hp) (R.heap i hi)
/-! ### Maps -/
theorem RV.alone {v : Value} {x : AV} (h : RV g.Φ g.γ v x) (h1 : x.isAg = false) (h2 : x.isTp = false) : x.atom = true ∧ x.cellsOf = [x] := by
  cases h <;> simp [AV.isAg, AV.isTp] at h1 h2 <;> exact ⟨rfl, rfl⟩
theorem goes_mupd {m i v : Src} {kk : IntKind} {n : Nat} (R : Rel fr false g s a w) (hc : okOp Pg o.op o.type (.mupd m i v kk n) = true) (hg : Good (evS Γ (.mupd m i v kk n) s)) :
    Goes Pg fr false o g ⟨putR s.env o.dst Reg.junk, s.loc, (evS Γ (.mupd m i v kk n) s).H⟩ a w := by
  have key : ∀ t x y z, (o.op = .mapUpdate t x y z ∨ o.op = .insert t x y z) → okSrc x m = true → okSrc y i = true → okSrc z v = true →
      (match Pg.underlying t with | some (.map k e) => tyInt Pg k kk && (tySize Pg e n && decide (0 < n)) | _ => false) = true →
      Goes Pg fr false o g ⟨putR s.env o.dst Reg.junk, s.loc, (evS Γ (.mupd m i v kk n) s).H⟩ a w := by
    intro t x y z ho h1 h2 h3 h4
    split at h4 <;> try (simp at h4; done)
    rename_i k e he
    simp only [Bool.and_eq_true, decide_eq_true_eq] at h4
    obtain ⟨hb, hs⟩ := hg
    have hL : (evS Γ (.mupd m i v kk n) s).H = upd s.H (envGet s.env m).x.hpL (.map kk (obj s.H (envGet s.env m).x.hpL).agg (putE (envGet s.env i).x.num (envGet s.env v).x.cellsOf (obj s.H (envGet s.env m).x.hpL).es)) := rfl
    rw [hL]
    simp [evS, ev, P.opnds, rg, nth_0, nth_S, oksOf, P.rdH] at hb hs
    obtain ⟨b1, b2, b3, b4, b5⟩ := hb
    obtain ⟨r, es, cl, hu, hγ, hr, hes, hlt, hob⟩ := (src_ok R h1 hs.1).mapObj R b1 b2
    have hv := (src_ok R h2 hs.2.1).int b3
    have hkv := (src_ok R h3 hs.2.2).rvG b4
    generalize hxl : (envGet s.env m).x.hpL = l at *
    have hval : ∀ b, MapR g kk (envGet s.env v).x.isAg ⟨.int kk (envGet s.env i).x.num, a.eval z, b⟩ ((envGet s.env i).x.num, (envGet s.env v).x.cellsOf) := by
      intro b
      refine ⟨rfl, ?_⟩
      cases hag : (envGet s.env v).x.isAg with
      | true =>
        have e := isAg_spec hag
        rw [e] at hkv ⊢
        exact hkv
      | false =>
        obtain ⟨q1, q2⟩ := RV.alone hkv hag (by
          cases hx : (envGet s.env v).x <;> first | rfl | (rw [hx] at b5; simp [AV.cellsOf] at b5; omega))
        rw [q2]
        exact ⟨rfl, q1, hkv⟩
    obtain ⟨es', cl', hrun, hes'⟩ := run_mupd (Pg := Pg) (w := w) ho he (tyInt_spec h4.1) hu hv rfl hr hes hval
    have hHO := R.heap l hlt
    simp only [obj, nth_eq] at hob hes' ⊢
    rw [hob] at hHO
    obtain ⟨b', en, cl0, k1, k2, k3, k4⟩ := hHO
    rw [hγ] at k1; simp at k1; subst k1
    have tok := k3 rfl
    intro K Q hK
    unfold Oper.wp
    rw [hrun]
    have hrl : r < w.heap.size := (Array.getElem?_eq_some_iff.1 hr).1
    have st : Step g (some (.G l)) w { w with heap := w.heap.setIfInBounds r (.map es' cl') } := by
      refine ⟨by simp, rfl, rfl, rfl, fun b hb hn => ?_, fun c0 b n' hc0 hn' o' ho' => ?_, fun b cs e' f hb => ?_⟩
      · have : r ≠ b := by intro q; subst q; exact hn _ 0 rfl tok
        simp [Array.getElem?_setIfInBounds_ne this]
      · simp at hc0; subst hc0
        rw [tok] at hn'; simp at hn'; omega
      · have : r ≠ b := by intro q; subst q; rw [hr] at hb; simp at hb
        exact ⟨cs, by simp [Array.getElem?_setIfInBounds_ne this]; exact hb, rfl⟩
    refine hK undef g _ (R.next (R.inv.step st) (Gle.refl g) (fun i hi => ⟨hi, rfl⟩) (fun t' hne p hp hk => hp) (fun t' he => trivial) (fun i => (R.locs i).step R.inv st (by simp)) (fun i hi => ?_) (fun i hi => by rw [upd_len] at hi; exact R.γdom i hi) (fun hp l => by simp at hp) (fun hp => by simp at hp))
    rw [upd_len] at hi
    rw [upd_getD]
    by_cases hil : l = i
    · subst hil
      rw [if_pos ⟨rfl, hlt⟩]
      refine ⟨r, es', cl', hγ, by simp [hrl], fun _ => tok, ?_⟩
      have hagg : (s.H.getD l HO.dead).agg = (envGet s.env v).x.isAg := by rw [hob]; rfl
      rw [hagg]; exact hes'
    · rw [if_neg (fun q => hil q.1)]
      exact (R.heap i hi).step R.inv st (by simp; exact hil) (fun hp => by simp at hp)
  simp only [okOp] at hc
  split at hc <;> try (simp at hc; done)
  all_goals
    rename_i t x y z ho
    simp only [Bool.and_eq_true] at hc
    obtain ⟨⟨⟨h1, h2⟩, h3⟩, h4⟩ := hc
  · exact key t x y z (.inl ho) h1 h2 h3 h4
  · exact key t x y z (.inr ho) h1 h2 h3 h4
end
end Go.Proofs.DenT
end
section
/-! New objects. -/
namespace Go.Proofs.DenT
set_option linter.unusedVariables false
set_option linter.unusedSimpArgs false
open Go
def Gh.newTok (g : Gh) (c : Lc) (b n k : Nat) : Gh := { g with ρ := fun d => if d = c then some (b, k) else g.ρ d, S := fun b' => if b' = b then some n else g.S b' }
theorem Inv.newTok {fr : Fr} {g : Gh} {w : World} (I : Inv fr g w) {c : Lc} {b n k : Nat} {arr : Array Value} {e : TypeId} (hfree : ∀ d m, g.ρ d ≠ some (b, m)) (hΦ : ∀ o, k ≤ o → g.Φ b o = none)
    (hb : w.heap[b]? = some (.cells arr e (0, 0))) (hn : arr.size = n) (hold : fr.w0.heap.size ≤ b) : Inv fr (g.newTok c b n k) w ∧ Gle g (g.newTok c b n k) := by
  have hlt : b < w.heap.size := (Array.getElem?_eq_some_iff.1 hb).1
  have hS : ∀ m, g.S b = some m → m = n := by
    intro m hm
    obtain ⟨cs, e', h1, h2⟩ := I.shp b m hm
    rw [hb] at h1; simp at h1
    obtain ⟨rfl, rfl⟩ := h1
    omega
  have src : ∀ d p, (g.newTok c b n k).ρ d = some p → (d = c ∧ p = (b, k)) ∨ (d ≠ c ∧ g.ρ d = some p) := by
    intro d p h
    simp only [Gh.newTok] at h
    split at h
    · rename_i q; simp at h; exact .inl ⟨q, h.symm⟩
    · rename_i q; exact .inr ⟨q, h⟩
  have hSle : ∀ b' m, g.S b' = some m → (g.newTok c b n k).S b' = some m := by
    intro b' m hm
    simp only [Gh.newTok]
    split
    · rename_i q; subst q; rw [hS m hm]
    · exact hm
  refine ⟨{ I with inj := ?_, disj := ?_, tok := ?_, shp := ?_, mold := ?_, Sle := fun b n h => hSle _ _ (I.Sle b n h) }, ⟨fun _ _ _ h => h, fun _ _ h => h, hSle⟩⟩
  · intro d1 d2 b1 n1 n2 h1 h2
    rcases src _ _ h1 with ⟨rfl, e1⟩ | ⟨q1, e1⟩ <;> rcases src _ _ h2 with ⟨rfl, e2⟩ | ⟨q2, e2⟩
    · rfl
    · simp at e1; obtain ⟨rfl, rfl⟩ := e1; exact absurd e2 (hfree _ _)
    · simp at e2; obtain ⟨rfl, rfl⟩ := e2; exact absurd e1 (hfree _ _)
    · exact I.inj _ _ _ _ _ e1 e2
  · intro d b1 n1 o h1 h2
    rcases src _ _ h1 with ⟨rfl, e1⟩ | ⟨q1, e1⟩
    · simp at e1; obtain ⟨rfl, rfl⟩ := e1; exact hΦ o h2
    · exact I.disj _ _ _ _ e1 h2
  · intro d b1 n1 h1
    rcases src _ _ h1 with ⟨rfl, e1⟩ | ⟨q1, e1⟩
    · simp at e1; obtain ⟨rfl, rfl⟩ := e1; exact hlt
    · exact I.tok _ _ _ e1
  · intro b' m hm
    simp only [Gh.newTok] at hm
    split at hm
    · rename_i q; subst q; simp at hm; subst hm; exact ⟨arr, e, hb, hn⟩
    · exact I.shp b' m hm
  · intro d b1 n1 o h1 h2 h3
    rcases src _ _ h1 with ⟨rfl, e1⟩ | ⟨q1, e1⟩
    · simp at e1; obtain ⟨rfl, rfl⟩ := e1; omega
    · exact I.mold _ _ _ _ e1 h2 h3
theorem Gh.newTok_ne {g : Gh} {c d : Lc} {b n k : Nat} (h : d ≠ c) : (g.newTok c b n k).ρ d = g.ρ d := by simp [Gh.newTok, h]
theorem Gh.newTok_to {g : Gh} {c : Lc} {b n k : Nat} : (g.newTok c b n k).ρ c = some (b, k) := by simp [Gh.newTok]
theorem Inv.relam {fr : Fr} {g : Gh} {w : World} (I : Inv fr g w) (lam : Nat → Nat) : Inv fr { g with lam := lam } w := { I with }
theorem Inv.newγ {fr : Fr} {g : Gh} {w : World} (I : Inv fr g w) {l b : Nat} (hl : g.γ l = none) (hb : b < w.heap.size) : Inv fr { g with γ := fun l' => if l' = l then some b else g.γ l' } w ∧ Gle g { g with γ := fun l' => if l' = l then some b else g.γ l' } := by
  have hle : ∀ l' b', g.γ l' = some b' → (if l' = l then some b else g.γ l') = some b' := by
    intro l' b' h
    by_cases q : l' = l
    · subst q; rw [hl] at h; simp at h
    · rw [if_neg q]; exact h
  refine ⟨{ I with gtok := fun l' b' h => ?_, γle := fun l' b' h => hle _ _ (I.γle _ _ h) }, ⟨fun _ _ _ h => h, hle, fun _ _ h => h⟩⟩
  simp only at h
  split at h
  · simp at h; omega
  · exact I.gtok _ _ h
section
variable {Pg : Program} {fr : Fr} {pu : Bool} {g : Gh} {s : St} {a : Act} {w : World} {Γ : Env} {o : Oper}
theorem new_free (I : Inv fr g w) (d : Lc) (m : Nat) : g.ρ d ≠ some (w.heap.size, m) := fun h => absurd (I.tok _ _ _ h) (by omega)
theorem new_Φ (I : Inv fr g w) (o : Nat) : g.Φ w.heap.size o = none := by
  cases h : g.Φ w.heap.size o with
  | none => rfl
  | some v => exact absurd (cell_lt (I.agree _ _ _ h)) (by omega)
theorem goes_newLoc {w' : World} {arr : Array Value} {e : TypeId} {j n : Nat} {cs : List AV} {own : List Nat} (R : Rel fr pu g s a w) (hdead : (nth s.loc j LO.dead).live = false) (hj : j < s.loc.length)
    (h : NewBlk w w' (.cells arr e)) (hn : cs.length = n) (hcells : CellsR (CR g) arr cs) (hown : ∀ i, i ∈ own → arr.getD i undef = .slice none 0 0) (hrun : (execOp a.eval o).run Pg w = .ok (.value (.pointer (some ⟨w.heap.size, 0, none⟩))) w') :
    Goes Pg fr pu o g ⟨putR s.env o.dst ⟨.lp j 0, .loc, .yes⟩, upd s.loc j ⟨n, cs, own, false, true⟩, s.H⟩ a w := by
  intro K Q hK
  unfold Oper.wp
  rw [hrun]
  have st : Step g none w w' := h.step
  have I1 := R.inv.step st
  have hblk : w'.heap[w.heap.size]? = some (.cells arr e (0, 0)) := by rw [h.heap]; simp
  have hsz : arr.size = n := by rw [hcells.1, hn]
  obtain ⟨I2, hle⟩ := I1.newTok (c := .L j) (k := 0) (new_free R.inv) (fun o _ => new_Φ R.inv o) hblk hsz R.inv.size
  have I3 := I2.relam (fun i => if i = j then w.heap.size else g.lam i)
  have hle' : Gle g { g.newTok (.L j) w.heap.size n 0 with lam := fun i => if i = j then w.heap.size else g.lam i } := ⟨hle.Φ, hle.γ, hle.S⟩
  rw [nth_eq] at hdead
  have hne : ∀ i, lives s.loc i = true → i ≠ j := fun i hi q => by subst q; simp only [lives] at hi; rw [hdead] at hi; simp at hi
  have hlam : ∀ i, i ≠ j → (if i = j then w.heap.size else g.lam i) = g.lam i := fun i hi => if_neg hi
  refine hK _ { g.newTok (.L j) w.heap.size n 0 with lam := fun i => if i = j then w.heap.size else g.lam i } w' (R.next I3 hle' (fun i hi => ⟨?_, hlam i (hne i hi)⟩) (fun t _ p hp hk => ?_) (fun t _ => ?_) (fun i => ?_) (fun l hl => ?_) R.γdom (fun hp l => ?_) (fun _ => rfl))
  · exact lives_upd (lo := ⟨n, cs, own, false, true⟩) rfl i hi
  · show (g.newTok (.L j) w.heap.size n 0).ρ (.R t) = some p
    rw [Gh.newTok_ne (by simp)]; exact hp
  · refine ⟨?_, by simp⟩
    simp only [lives]; rw [upd_getD, if_pos ⟨rfl, hj⟩]
  · rw [upd_getD]
    by_cases hij : j = i
    · subst hij
      rw [if_pos ⟨rfl, hj⟩]
      intro _
      simp only [if_true]
      refine ⟨hn, fun i hi => ?_, fun _ => ⟨Gh.newTok_to, by simp [Gh.newTok]⟩, fun q => by simp at q⟩
      have hc := hcells.2 i (by omega)
      refine ⟨arr.getD i undef, ?_, hc.2, RV.le hle' hc.1, fun ho => ?_⟩
      · rw [h.cell_new, Array.getElem?_eq_getElem (by omega), Array.getD_eq_getD_getElem?, Array.getElem?_eq_getElem (by omega)]; rfl
      · have hm : i ∈ own := by simpa using ho
        rw [hown i hm] at hc ⊢
        exact own_nil (RV.le hle' hc.1)
    · rw [if_neg (fun q => hij q.1)]
      refine LOR.le hle' (fun _ => hlam i (fun q => hij q.symm)) (fun p hp => ?_) (fun o _ p hp => ?_) ((R.locs i).step R.inv st (by simp))
      · show (g.newTok (.L j) w.heap.size n 0).ρ (.L i) = some p
        rw [Gh.newTok_ne (by simp; exact fun q => hij q.symm)]; exact hp
      · show (g.newTok (.L j) w.heap.size n 0).ρ (.LC i o) = some p
        rw [Gh.newTok_ne (by simp)]; exact hp
  · refine GOR.le hle' (fun p hp => ?_) (fun _ o _ p hp => ?_) ((R.heap l hl).step R.inv st (by simp) (fun hp => ⟨(R.pud hp).1, fun b hb => (R.pud hp).2.1 l b hb⟩))
    · show (g.newTok (.L j) w.heap.size n 0).ρ (.G l) = some p
      rw [Gh.newTok_ne (by simp)]; exact hp
    · show (g.newTok (.L j) w.heap.size n 0).ρ (.GC l o) = some p
      rw [Gh.newTok_ne (by simp)]; exact hp
  · refine ⟨?_, fun o => ?_⟩
    · show (g.newTok (.L j) w.heap.size n 0).ρ (.G l) = none
      rw [Gh.newTok_ne (by simp)]; exact (R.nog hp l).1
    · show (g.newTok (.L j) w.heap.size n 0).ρ (.GC l o) = none
      rw [Gh.newTok_ne (by simp)]; exact (R.nog hp l).2 o
theorem getD_snoc {α : Type} (l : List α) (x d : α) (i : Nat) : (l ++ [x]).getD i d = if i = l.length then x else l.getD i d := by
  rw [List.getD_eq_getElem?_getD, List.getD_eq_getElem?_getD]
  rcases Nat.lt_trichotomy i l.length with h | h | h
  · rw [List.getElem?_append_left h, if_neg (by omega)]
  · subst h; simp
  · rw [List.getElem?_append_right (by omega), if_neg (by omega), List.getElem?_eq_none (show ([x] : List α).length ≤ i - l.length by simp; omega), List.getElem?_eq_none (by omega)]
/-- A new object of the heap. -/
theorem Rel.newHeap {w' : World} {ob : Obj} {b : Nat} {ho : HO} {gn : Gh} (R : Rel fr false g s a w) (h : NewBlk w w' ob) (In : Inv fr gn w') (hle : Gle g gn) (hlam : gn.lam = g.lam)
    (hρ : ∀ d, d ≠ .G s.H.length → gn.ρ d = g.ρ d) (hγ : ∀ l, l ≠ s.H.length → gn.γ l = g.γ l) (hG : GOR gn false s.H.length ho w') (dst : Option Nat) (v : Value) (r : Reg) (hr : ∀ t, RegR gn (lives s.loc) (.R t) v r) :
    Rel fr false gn ⟨putR s.env dst r, s.loc, s.H ++ [ho]⟩ (a.put dst v) w' := by
  have st : Step g none w w' := h.step
  refine R.next In hle (fun i hi => ⟨hi, by rw [hlam]⟩) (fun t _ p hp hk => by rw [hρ _ (by simp)]; exact hp) (fun t _ => hr t) (fun i => ?_) (fun l hl => ?_) (fun l hl => ?_) (fun hp => by simp at hp) (fun hp => by simp at hp)
  · exact LOR.le hle (fun _ => by rw [hlam]) (fun p hp => by rw [hρ _ (by simp)]; exact hp) (fun o _ p hp => by rw [hρ _ (by simp)]; exact hp) ((R.locs i).step R.inv st (by simp))
  · rw [getD_snoc]
    split
    · rename_i q; subst q; exact hG
    · rename_i q
      have hl' : l < s.H.length := by simp at hl; omega
      exact GOR.le hle (fun p hp => by rw [hρ _ (by simp; exact q)]; exact hp) (fun _ o _ p hp => by rw [hρ _ (by simp)]; exact hp) ((R.heap l hl').step R.inv st (by simp) (fun hp => by simp at hp))
  · simp at hl
    rw [hγ l (by omega)]
    exact R.γdom l (by omega)
theorem goes_newHeap {w' : World} {arr : Array Value} {e : TypeId} {n : Nat} {cs : List AV} {own : List Nat} (R : Rel fr false g s a w)
    (h : NewBlk w w' (.cells arr e)) (hn : cs.length = n) (hcells : CellsR (CR g) arr cs) (hown : ∀ i, i ∈ own → arr.getD i undef = .slice none 0 0) (hrun : (execOp a.eval o).run Pg w = .ok (.value (.pointer (some ⟨w.heap.size, 0, none⟩))) w') :
    Goes Pg fr false o g ⟨putR s.env o.dst ⟨.hp s.H.length 0, .glob, .yes⟩, s.loc, s.H ++ [.cells n cs own]⟩ a w := by
  intro K Q hK
  unfold Oper.wp
  rw [hrun]
  have I1 := R.inv.step (c := none) (h.step (g := g))
  have hblk : w'.heap[w.heap.size]? = some (.cells arr e (0, 0)) := by rw [h.heap]; simp
  have hsz : arr.size = n := by rw [hcells.1, hn]
  obtain ⟨I2, hle2⟩ := I1.newTok (c := .G s.H.length) (k := 0) (new_free R.inv) (fun o _ => new_Φ R.inv o) hblk hsz R.inv.size
  obtain ⟨I3, hle3⟩ := I2.newγ (l := s.H.length) (b := w.heap.size) (R.γdom _ (Nat.le_refl _)) (by rw [h.heap]; simp)
  have hle := hle2.trans hle3
  refine hK _ _ w' (R.newHeap (b := w.heap.size) h I3 hle rfl (fun d hd => Gh.newTok_ne (n := n) hd) (fun l hl => if_neg hl) ?_ o.dst _ _ (fun t => ?_))
  · refine ⟨w.heap.size, if_pos rfl, hn, fun _ => ⟨Gh.newTok_to (n := n), by simp [Gh.newTok]⟩, fun i hi => ?_⟩
    have hc := hcells.2 i (by omega)
    refine ⟨arr.getD i undef, ?_, hc.2, RV.le hle hc.1, fun ho => ?_⟩
    · rw [h.cell_new, Array.getElem?_eq_getElem (by omega), Array.getD_eq_getD_getElem?, Array.getElem?_eq_getElem (by omega)]; rfl
    · have hm : i ∈ own := by simpa using ho
      rw [hown i hm] at hc ⊢
      exact own_nil (RV.le hle hc.1)
  · exact RV.hp _ _ _ (if_pos rfl)
theorem tyZero_own {t : TypeId} {z : List AV} {own : List Nat} (hz : tyZero Pg t z = true) (ho : own.all (fun i => match z[i]? with | some (.sl _ []) => true | _ => false) = true) {i : TypeInfo} {v : Value} (hi : Pg.info? t = some i) (hv : i.zero = some v) :
    ∀ k, k ∈ own → v.cells.getD k undef = .slice none 0 0 := by
  intro k hk
  have := List.all_eq_true.1 ho k hk
  split at this
  · rename_i sz hsz; exact tyZero_nil hz hi hv k sz hsz
  · simp at this
theorem goes_lalloc {j n : Nat} {cs : List AV} {own : List Nat} (R : Rel fr pu g s a w) (hc : okOp Pg o.op o.type (.lalloc j n cs own) = true) (hg : Good (evS Γ (.lalloc j n cs own) s)) :
    Goes Pg fr pu o g ⟨putR s.env o.dst ⟨.lp j 0, .loc, .yes⟩, upd s.loc j ⟨n, cs, own, false, true⟩, s.H⟩ a w := by
  simp only [okOp] at hc
  split at hc <;> try (simp at hc; done)
  rename_i t ho
  simp only [Bool.and_eq_true] at hc
  obtain ⟨⟨h1, h2⟩, h3⟩ := hc
  obtain ⟨hb, hs⟩ := hg
  simp [evS, ev, P.opnds, rg, nth_0, nth_S, oksOf, P.rdL] at hb hs
  obtain ⟨it, zv, hi, hzv, hsz, hzr⟩ := tyZero_spec (g := g) h1
  obtain ⟨i1, hi1, hi2⟩ := tySize_spec h2
  rw [hi] at hi1; simp at hi1; subst hi1
  exact goes_newLoc R hb.1 (of_decide_eq_true hb.2) (NewBlk.alloc w _) (by omega) hzr (tyZero_own h1 h3 hi hzv) (run_alloc ho hi hzv)
theorem goes_halloc {n : Nat} {cs : List AV} {own : List Nat} (R : Rel fr false g s a w) (hc : okOp Pg o.op o.type (.halloc n cs own) = true) (hg : Good (evS Γ (.halloc n cs own) s)) :
    Goes Pg fr false o g ⟨putR s.env o.dst ⟨.hp s.H.length 0, .glob, .yes⟩, s.loc, s.H ++ [.cells n cs own]⟩ a w := by
  simp only [okOp] at hc
  split at hc <;> try (simp at hc; done)
  rename_i t ho
  simp only [Bool.and_eq_true] at hc
  obtain ⟨⟨h1, h2⟩, h3⟩ := hc
  obtain ⟨it, zv, hi, hzv, hsz, hzr⟩ := tyZero_spec (g := g) h1
  obtain ⟨i1, hi1, hi2⟩ := tySize_spec h2
  rw [hi] at hi1; simp at hi1; subst hi1
  exact goes_newHeap R (NewBlk.alloc w _) (by omega) hzr (tyZero_own h1 h3 hi hzv) (run_alloc ho hi hzv)
theorem notTp {x : AV} {n : Nat} (h0 : 0 < n) (h : x.cellsOf.length = n) : x.isTp = false := by
  cases x <;> first | rfl | (simp [AV.cellsOf] at h; omega)
theorem goes_lbox {j n : Nat} {x : Src} {wide : Bool} (R : Rel fr pu g s a w) (hc : okOp Pg o.op o.type (.lbox j n x wide) = true) (hg : Good (evS Γ (.lbox j n x wide) s)) :
    Goes Pg fr pu o g ⟨putR s.env o.dst ⟨.lp j 0, .loc, .yes⟩, (evS Γ (.lbox j n x wide) s).loc, s.H⟩ a w := by
  simp only [okOp] at hc
  split at hc <;> try (simp at hc; done)
  rename_i t u ho
  simp only [Bool.and_eq_true, decide_eq_true_eq] at hc
  obtain ⟨⟨h1, h0⟩, h2⟩ := hc
  obtain ⟨hb, hs⟩ := hg
  have hL : (evS Γ (.lbox j n x wide) s).loc = upd s.loc j ⟨n, cellsW n (envGet s.env x).x wide, (envGet s.env x).k.offs, false, true⟩ := rfl
  rw [hL]
  simp [evS, ev, P.opnds, rg, nth_0, nth_S, oksOf, P.rdL] at hb hs
  obtain ⟨b1, b2, b3, b4⟩ := hb
  have hk := src_ok R h2 hs
  have hr := RV.cellsR (hk.rvG b1) (notTp h0 b2)
  have e : cellsW n (envGet s.env x).x wide = (envGet s.env x).x.cellsOf := by
    cases wide
    · rfl
    · exact sub_all _ _ b2
  rw [e]
  exact goes_newLoc R b3 (of_decide_eq_true b4) (NewBlk.alloc w _) b2 hr (fun i hi => hk.nils_at hi) (run_box ho)
theorem goes_hbox {n : Nat} {x : Src} (R : Rel fr false g s a w) (hc : okOp Pg o.op o.type (.hbox n x) = true) (hg : Good (evS Γ (.hbox n x) s)) :
    Goes Pg fr false o g ⟨putR s.env o.dst ⟨.hp s.H.length 0, .glob, .yes⟩, s.loc, s.H ++ [.cells n (envGet s.env x).x.cellsOf (envGet s.env x).k.offs]⟩ a w := by
  simp only [okOp] at hc
  split at hc <;> try (simp at hc; done)
  rename_i t u ho
  simp only [Bool.and_eq_true, decide_eq_true_eq] at hc
  obtain ⟨⟨h1, h0⟩, h2⟩ := hc
  obtain ⟨hb, hs⟩ := hg
  simp [evS, ev, P.opnds, rg, nth_0, nth_S, oksOf, P.rdH] at hb hs
  obtain ⟨b1, b2⟩ := hb
  have hk := src_ok R h2 hs
  have hr := RV.cellsR (hk.rvG b1) (notTp h0 b2)
  exact goes_newHeap R (NewBlk.alloc w _) b2 hr (fun i hi => hk.nils_at hi) (run_box ho)
theorem goes_mmap {kk : IntKind} {agg : Bool} (R : Rel fr false g s a w) (hc : okOp Pg o.op o.type (.mmap kk agg) = true) :
    Goes Pg fr false o g ⟨putR s.env o.dst ⟨.mp s.H.length, .glob, .yes⟩, s.loc, s.H ++ [.map kk agg []]⟩ a w := by
  simp only [okOp] at hc
  split at hc <;> try (simp at hc; done)
  rename_i t ho
  intro K Q hK
  unfold Oper.wp
  rw [run_mmap ho]
  have h := NewBlk.alloc w (.map #[] 0)
  have I1 := R.inv.step (c := none) (h.step (g := g))
  have I2 : Inv fr { g with ρ := fun d => if d = .G s.H.length then some (w.heap.size, 0) else g.ρ d } (w.alloc (.map #[] 0)) := by
    have src : ∀ d p, (if d = Lc.G s.H.length then some (w.heap.size, 0) else g.ρ d) = some p → (d = .G s.H.length ∧ p = (w.heap.size, 0)) ∨ (d ≠ .G s.H.length ∧ g.ρ d = some p) := by
      intro d p h
      split at h
      · rename_i q; simp at h; exact .inl ⟨q, h.symm⟩
      · rename_i q; exact .inr ⟨q, h⟩
    refine { I1 with inj := ?_, disj := ?_, tok := ?_, mold := ?_ }
    · intro d1 d2 b1 n1 n2 h1 h2
      rcases src _ _ h1 with ⟨rfl, e1⟩ | ⟨q1, e1⟩ <;> rcases src _ _ h2 with ⟨rfl, e2⟩ | ⟨q2, e2⟩
      · rfl
      · simp at e1; obtain ⟨rfl, rfl⟩ := e1; exact absurd e2 (new_free R.inv _ _)
      · simp at e2; obtain ⟨rfl, rfl⟩ := e2; exact absurd e1 (new_free R.inv _ _)
      · exact I1.inj _ _ _ _ _ e1 e2
    · intro d b1 n1 o h1 h2
      rcases src _ _ h1 with ⟨rfl, e1⟩ | ⟨q1, e1⟩
      · simp at e1; obtain ⟨rfl, rfl⟩ := e1; exact new_Φ R.inv o
      · exact I1.disj _ _ _ _ e1 h2
    · intro d b1 n1 h1
      rcases src _ _ h1 with ⟨rfl, e1⟩ | ⟨q1, e1⟩
      · simp at e1; obtain ⟨rfl, rfl⟩ := e1; simp
      · exact I1.tok _ _ _ e1
    · intro d b1 n1 o h1 h2 h3
      rcases src _ _ h1 with ⟨rfl, e1⟩ | ⟨q1, e1⟩
      · simp at e1; obtain ⟨rfl, rfl⟩ := e1; have := R.inv.size; omega
      · exact I1.mold _ _ _ _ e1 h2 h3
  obtain ⟨I3, hle3⟩ := I2.newγ (l := s.H.length) (b := w.heap.size) (R.γdom _ (Nat.le_refl _)) (by simp)
  have hle : Gle g _ := ⟨hle3.Φ, hle3.γ, hle3.S⟩
  refine hK _ _ _ (R.newHeap (b := w.heap.size) h I3 hle rfl (fun d hd => if_neg hd) (fun l hl => if_neg hl) ?_ o.dst _ _ (fun t => ?_))
  · exact ⟨w.heap.size, #[], 0, if_pos rfl, by rw [h.heap]; simp, fun _ => if_pos rfl, trivial⟩
  · exact RV.mp _ _ (if_pos rfl)
end
end Go.Proofs.DenT
end
section
/-! Owned rows grow. -/
namespace Go.Proofs.DenT
set_option linter.unusedVariables false
set_option linter.unusedSimpArgs false
open Go
/-- c's block has cells more that turn no more; what is behind is c''s. -/
def Gh.ext (g : Gh) (w : World) (c c' : Lc) (b k k' : Nat) : Gh :=
  { g with Φ := fun b' o => if b' = b ∧ k ≤ o ∧ o < k' then w.cell? ⟨b, o, none⟩ else g.Φ b' o, ρ := fun d => if d = c' then some (b, k') else if d = c then none else g.ρ d }
theorem Inv.ext {fr : Fr} {g : Gh} {w : World} (I : Inv fr g w) {c c' : Lc} {b k k' : Nat} (hc : g.ρ c = some (b, k)) (hk : k ≤ k') : Inv fr (g.ext w c c' b k k') w ∧ Gle g (g.ext w c c' b k k') := by
  have hlt := I.tok _ _ _ hc
  have hΦ : ∀ b' o v, g.Φ b' o = some v → (g.ext w c c' b k k').Φ b' o = some v := by
    intro b' o v h
    simp only [Gh.ext]
    split
    · rename_i q; obtain ⟨rfl, q1, q2⟩ := q
      have := I.disj c b' k o hc q1
      rw [this] at h; simp at h
    · exact h
  have hle : Gle g (g.ext w c c' b k k') := ⟨hΦ, fun _ _ h => h, fun _ _ h => h⟩
  have src : ∀ d p, (g.ext w c c' b k k').ρ d = some p → (d = c' ∧ p = (b, k')) ∨ (d ≠ c' ∧ d ≠ c ∧ g.ρ d = some p) := by
    intro d p h
    simp only [Gh.ext] at h
    split at h
    · rename_i q; simp at h; exact .inl ⟨q, h.symm⟩
    · split at h
      · simp at h
      · rename_i q1 q2; exact .inr ⟨q1, q2, h⟩
  refine ⟨{ I with agree := ?_, inj := ?_, disj := ?_, tok := ?_, mold := ?_, tab := TabQ.mono hΦ I.tab, Φle := fun b o v h => hΦ _ _ _ (I.Φle _ _ _ h), Φold := ?_ }, hle⟩
  · intro b' o v h
    simp only [Gh.ext] at h
    split at h
    · rename_i q; obtain ⟨rfl, _⟩ := q; exact h
    · exact I.agree _ _ _ h
  · intro d1 d2 b1 n1 n2 h1 h2
    rcases src _ _ h1 with ⟨rfl, e1⟩ | ⟨p1, q1, e1⟩ <;> rcases src _ _ h2 with ⟨rfl, e2⟩ | ⟨p2, q2, e2⟩
    · rfl
    · simp at e1; obtain ⟨rfl, rfl⟩ := e1; exact absurd (I.inj _ _ _ _ _ e2 hc) q2
    · simp at e2; obtain ⟨rfl, rfl⟩ := e2; exact absurd (I.inj _ _ _ _ _ e1 hc) q1
    · exact I.inj _ _ _ _ _ e1 e2
  · intro d b1 n1 o h1 h2
    rcases src _ _ h1 with ⟨rfl, e1⟩ | ⟨p1, q1, e1⟩
    · simp at e1; obtain ⟨rfl, rfl⟩ := e1
      simp only [Gh.ext]
      rw [if_neg (by omega)]
      exact I.disj _ _ _ _ hc (by omega)
    · simp only [Gh.ext]
      have hne : b1 ≠ b := fun q => by subst q; exact q1 (I.inj _ _ _ _ _ e1 hc)
      rw [if_neg (fun q => hne q.1)]
      exact I.disj _ _ _ _ e1 h2
  · intro d b1 n1 h1
    rcases src _ _ h1 with ⟨rfl, e1⟩ | ⟨p1, q1, e1⟩
    · simp at e1; obtain ⟨rfl, rfl⟩ := e1; exact hlt
    · exact I.tok _ _ _ e1
  · intro d b1 n1 o h1 h2 h3
    rcases src _ _ h1 with ⟨rfl, e1⟩ | ⟨p1, q1, e1⟩
    · simp at e1; obtain ⟨rfl, rfl⟩ := e1; exact I.mold _ _ _ _ hc (by omega) h3
    · exact I.mold _ _ _ _ e1 h2 h3
  · intro b' o v h h0 h3
    simp only [Gh.ext] at h
    split at h
    · rename_i q; obtain ⟨rfl, q1, q2⟩ := q; exact I.mold _ _ _ _ hc q1 h3
    · exact I.Φold _ _ _ h h0 h3
section
variable {Pg : Program} {fr : Fr} {pu : Bool} {g : Gh} {s : St} {a : Act} {w : World} {Γ : Env} {o : Oper}
/-- A state whose ghosts differ in what slots own alone. -/
theorem Rel.nextR {g' : Gh} {w' : World} {dst : Option Nat} {v : Value} {r : Reg} {c : Option Lc} (R : Rel fr pu g s a w) (st : Step g c w w') (hc : ∀ c0, c = some c0 → ∃ t, c0 = .R t) (I' : Inv fr g' w') (hle : Gle g g') (hlam : g'.lam = g.lam) (hγ : g'.γ = g.γ)
    (hρ : ∀ d, (∀ t, d ≠ .R t) → g'.ρ d = g.ρ d) (hR : ∀ t, dst ≠ some t → ∀ p, g.ρ (.R t) = some p → (s.env.getD t Reg.junk).k = .own → g'.ρ (.R t) = some p)
    (hr : ∀ t, dst = some t → RegR g' (lives s.loc) (.R t) v r) : Rel fr pu g' ⟨putR s.env dst r, s.loc, s.H⟩ (a.put dst v) w' := by
  have hcL : ∀ j, c ≠ some (.L j) := fun j q => by obtain ⟨t, h⟩ := hc _ q; simp at h
  have hcG : ∀ j, c ≠ some (.G j) := fun j q => by obtain ⟨t, h⟩ := hc _ q; simp at h
  refine R.next I' hle (fun j hj => ⟨hj, by rw [hlam]⟩) hR hr (fun j => ?_) (fun l hl => ?_) (fun l hl => by rw [hγ]; exact R.γdom l hl) (fun hp l => ?_) (fun _ => hγ)
  · exact LOR.le hle (fun _ => by rw [hlam]) (fun p hp => by rw [hρ _ (by simp)]; exact hp) (fun o _ p hp => by rw [hρ _ (by simp)]; exact hp) ((R.locs j).step R.inv st (hcL j))
  · exact GOR.le hle (fun p hp => by rw [hρ _ (by simp)]; exact hp) (fun _ o _ p hp => by rw [hρ _ (by simp)]; exact hp)
      ((R.heap l hl).step R.inv st (hcG l) (fun hp => ⟨(R.pud hp).1, fun b hb => (R.pud hp).2.1 l b hb⟩))
  · rw [hρ _ (by simp)]
    exact ⟨(R.nog hp l).1, fun o => by rw [hρ _ (by simp)]; exact (R.nog hp l).2 o⟩
/-- What is appended. -/
structure NewsA (Pg : Program) (g : Gh) (w : World) (sz : Nat) (x : Value) (fs : List (List AV)) (news : List Value) : Prop where
  r : NewsR Pg w sz fs.length x news
  row : ∀ i, i < fs.length → (fs.getD i []).length = sz
  cell : ∀ i j, i < fs.length → j < sz → ∃ v, news[i * sz + j]? = some v ∧ CR g v ((fs.getD i []).getD j .junk)
theorem idx_lt {i j n sz : Nat} (hi : i < n) (hj : j < sz) : i * sz + j < n * sz := by
  have : (i + 1) * sz ≤ n * sz := Nat.mul_le_mul_right _ hi
  rw [Nat.add_mul] at this; omega
theorem getD_app (es fs : List (List AV)) (i : Nat) : (es ++ fs).getD i [] = if i < es.length then es.getD i [] else fs.getD (i - es.length) [] := by
  simp only [List.getD_eq_getElem?_getD]
  split
  · rename_i h; rw [List.getElem?_append_left h]
  · rename_i h; rw [List.getElem?_append_right (by omega)]
theorem goes_append {t d : Nat} {ty t2 e : TypeId} {u v : Operand} {it : TypeInfo} {z : Value} {sz bytes : Nat} {es fs : List (List AV)} {news : List Value} (R : Rel fr pu g s a w) (hd : o.dst = some d)
    (ho : o.op = .call ⟨.builtin .append, ⟨[u, v]⟩, ⟨[ty, t2]⟩⟩) (ht : Pg.underlying ty = some (.slice e)) (ht2 : (∃ e, Pg.underlying t2 = some (.slice e)) ∨ Pg.underlying t2 = some .string)
    (hi : Pg.info? e = some it) (hz : it.zero = some z) (hsz : it.size = sz) (hby : it.bytes = bytes) (hzs : z.cells.size = sz) (h0 : 0 < sz) (h1 : 0 < bytes) (hk : (nth s.env t Reg.junk).k.isOwn = true)
    (hu : a.eval u = a.eval (.tmp t)) (hown : OwnR g (.R t) (a.eval (.tmp t)) (.sl sz es)) (hx : NewsA Pg g w sz (a.eval v) fs news) (hroom : (es.length + fs.length) * bytes ≤ room) :
    Goes Pg fr pu o g ⟨putR (upd s.env t { nth s.env t Reg.junk with k := .glob }) o.dst ⟨.sl sz (es ++ fs), .own, .yes⟩, s.loc, s.H⟩ a w := by
  obtain ⟨hrv, sz', es', base, n, cap, hxe, hve, htok⟩ := hown
  simp at hxe
  obtain ⟨rfl, rfl⟩ := hxe
  have hnc : es.length = n ∧ n ≤ cap ∧ (base = none → n = 0) := by
    rw [hve] at hrv
    cases hrv with
    | nsl => exact ⟨rfl, Nat.le_refl _, fun _ => rfl⟩
    | sl bl o len cap sz es vs hl hcap => exact ⟨hl, hcap, fun h => by simp at h⟩
  obtain ⟨hlen, hcap, hbase⟩ := hnc
  have huv : a.eval u = .slice base n cap := hu.trans hve
  obtain ⟨r0, r1, r2⟩ := run_app (Pg := Pg) (w := w) ho ht ht2 hi hz hsz hby hzs h1 huv rfl hx.r (by rw [← hlen]; exact hroom) hcap
  by_cases hm : fs.length = 0
  · have hfs : fs = [] := List.eq_nil_of_length_eq_zero hm
    subst hfs
    have := goes_take (x := .sl sz es) R hk hd (r0 hm) (by rw [← hve]; exact ⟨hrv, sz, es, base, n, cap, rfl, hve, htok⟩)
    simpa using this
  · -- what the row is behind: cells known, a token
    have fin : ∀ {g1 : Gh} {w' : World} {b k : Nat} (cap' : Nat), Step g (some (.R t)) w w' ∨ Step g none w w' → Inv fr g1 w' → Gle g g1 → g1.lam = g.lam → g1.γ = g.γ → (∀ d, (∀ t, d ≠ .R t) → g1.ρ d = g.ρ d) → (∀ t', t' ≠ t → g1.ρ (.R t') = g.ρ (.R t')) →
        g1.ρ (.R t) = some (b, k) → k ≤ (n + fs.length) * sz → g1.S b = some (cap' * sz) → n + fs.length ≤ cap' →
        (∀ i j, i < n + fs.length → j < sz → ∃ v, w'.cell? ⟨b, i * sz + j, none⟩ = some v ∧ CR g v (((es ++ fs).getD i []).getD j .junk)) → (∀ i j, i < n + fs.length → j < sz → i * sz + j < k → ∃ v, g1.Φ b (i * sz + j) = some v) →
        (execOp a.eval o).run Pg w = .ok (.value (.slice (some ⟨b, 0, none⟩) (n + fs.length) cap')) w' →
        Goes Pg fr pu o g ⟨putR (upd s.env t { nth s.env t Reg.junk with k := .glob }) o.dst ⟨.sl sz (es ++ fs), .own, .yes⟩, s.loc, s.H⟩ a w := by
      intro g1 w' b k cap' hst I1 hle1 hlam hγ hρ hR htk hkk hS hcap' hcell hΦ hrun K Q hK
      unfold Oper.wp
      rw [hrun]
      obtain ⟨I2, hle2⟩ := I1.ext (c' := .R d) htk hkk
      have hle := hle1.trans hle2
      have hlt := own_lt hk
      have hst' : ∃ c : Option Lc, Step g c w w' ∧ ∀ c0, c = some c0 → ∃ t, c0 = .R t := by
        rcases hst with h | h
        · exact ⟨_, h, fun c0 q => ⟨t, by simpa using q.symm⟩⟩
        · exact ⟨_, h, fun c0 q => by simp at q⟩
      obtain ⟨c, st, hc⟩ := hst'
      refine hK _ (g1.ext w' (.R t) (.R d) b k ((n + fs.length) * sz)) w' ((R.demote t hk).nextR st hc I2 hle hlam hγ (fun d' hd' => ?_) (fun t' hne p hp hkt => ?_) (fun t' he => ?_))
      · show (if d' = .R d then _ else if d' = .R t then none else g1.ρ d') = _
        rw [if_neg (hd' _), if_neg (hd' _)]; exact hρ d' hd'
      · have hne' : t' ≠ t := by
          intro q; subst q
          rw [own_ne_after s t' hlt] at hkt; simp at hkt
        have hne2 : t' ≠ d := fun q => hne (by rw [hd, q])
        show (if (Lc.R t') = .R d then _ else if (Lc.R t') = .R t then none else g1.ρ (.R t')) = _
        rw [if_neg (by simp; exact hne2), if_neg (by simp; exact hne'), hR t' hne']; exact hp
      · rw [hd] at he; simp at he; subst he
        have hcv : ∀ p : Nat × Nat, ∃ v, p.1 < n + fs.length → p.2 < sz → w'.cell? ⟨b, p.1 * sz + p.2, none⟩ = some v ∧ CR g v (((es ++ fs).getD p.1 []).getD p.2 .junk) := by
          intro p
          by_cases q : p.1 < n + fs.length ∧ p.2 < sz
          · obtain ⟨v, hv⟩ := hcell p.1 p.2 q.1 q.2; exact ⟨v, fun _ _ => hv⟩
          · exact ⟨undef, fun q1 q2 => absurd ⟨q1, q2⟩ q⟩
        obtain ⟨V, hV⟩ := Classical.axiomOfChoice hcv
        have hrow : ∀ i, i < n + fs.length → ((es ++ fs).getD i []).length = sz := by
          intro i hi
          rw [getD_app]
          split
          · rename_i q
            rw [hve] at hrv
            cases hrv with
            | nsl => simp at q
            | sl bl o len cap sz es vs hl hcap hn => exact hn i (by omega)
          · exact hx.row _ (by omega)
        refine ⟨.sl b 0 (n + fs.length) cap' sz (es ++ fs) (fun i j => V (i, j)) (by simp [hlen]) hcap' hrow (fun i j hi hj => ?_) (fun i j hi hj => ?_) (fun i j hi hj => ?_), sz, _, _, _, cap', rfl, rfl, .inr ⟨b, rfl, ?_, hle2.S _ _ hS, h0⟩⟩
        · rw [Nat.zero_add]
          have hv := (hV (i, j) hi hj).1
          by_cases q : i * sz + j < k
          · obtain ⟨v', hv'⟩ := hΦ i j hi hj q
            have e1 := hle2.Φ _ _ _ hv'
            have e2 := I2.agree _ _ _ e1
            rw [hv] at e2
            rw [e1, ← e2]
          · show (if b = b ∧ k ≤ i * sz + j ∧ i * sz + j < (n + fs.length) * sz then _ else _) = _
            rw [if_pos ⟨rfl, by omega, idx_lt hi hj⟩]; exact hv
        · exact RV.le hle (hV (i, j) hi hj).2.1
        · exact (hV (i, j) hi hj).2.2
        · show (if Lc.R d = .R d then _ else _) = _
          rw [if_pos rfl]
    have hnews : news.length = fs.length * sz := hx.r.size
    -- what the old cells hold
    have holds : ∀ i j, i < n → j < sz → ∃ b0 o0 v, base = some ⟨b0, o0, none⟩ ∧ g.Φ b0 (o0 + i * sz + j) = some v ∧ CR g v ((es.getD i []).getD j .junk) := by
      intro i j hi' hj
      rw [hve] at hrv
      cases hrv with
      | nsl => simp at hlen; omega
      | sl bl o len cap sz es vs hl hcap hn hc hr ha => exact ⟨bl, o, _, rfl, hc i j hi' hj, hr i j hi' hj, ha i j hi' hj⟩
    by_cases hfit : n + fs.length ≤ cap
    · rcases htok with h | ⟨bl, hb1, hb2, hb3, _⟩
      · omega
      · obtain ⟨cur, e', hblk, hcs⟩ := R.inv.shp _ _ hb3
        have hrun := r1 bl cur e' hb1 hfit hblk hcs
        have hnn : (n + fs.length) * sz ≤ cap * sz := Nat.mul_le_mul_right _ hfit
        rw [Nat.add_mul] at hnn
        have hsize : (cur.toList.take (n * sz) ++ news ++ cur.toList.drop (n * sz + news.length)).toArray.size = cur.size := by
          simp [hnews]; omega
        have hw := WrBlk.setRow (cur' := (cur.toList.take (n * sz) ++ news ++ cur.toList.drop (n * sz + news.length)).toArray) hblk hsize
        have hold : ∀ q, q < n * sz → (cur.toList.take (n * sz) ++ news ++ cur.toList.drop (n * sz + news.length)).toArray[q]? = cur[q]? := by
          intro q hq
          simp only [List.getElem?_toArray]
          rw [List.append_assoc, List.getElem?_append_left (by simp; omega), List.getElem?_take, if_pos hq]; simp
        have hnew : ∀ q, q < news.length → (cur.toList.take (n * sz) ++ news ++ cur.toList.drop (n * sz + news.length)).toArray[n * sz + q]? = news[q]? := by
          intro q hq
          have htl : (cur.toList.take (n * sz)).length = n * sz := by simp; omega
          simp only [List.getElem?_toArray]
          rw [List.append_assoc, List.getElem?_append_right (by omega), htl, List.getElem?_append_left (by omega)]
          congr 1; omega
        have st : Step g (some (.R t)) w _ := hw.step hb2 hold (fun k' hk' => by rw [hb2] at hk'; simp at hk'; omega)
        have hb1' : base = some ⟨bl, 0, none⟩ := hb1
        rw [hb1'] at hrun
        refine fin cap (.inl st) (R.inv.step st) (Gle.refl g) rfl rfl (fun _ _ => rfl) (fun _ _ => rfl) hb2 (by rw [Nat.add_mul]; omega) hb3 hfit (fun i j hi' hj => ?_) (fun i j hi' hj hlt => ?_) hrun
        · rw [hw.cell]
          rcases Nat.lt_or_ge i n with hin | hin
          · obtain ⟨b0, o0, v, q1, q2, q3⟩ := holds i j hin hj
            rw [hb1'] at q1; simp at q1
            obtain ⟨rfl, rfl⟩ := q1
            refine ⟨v, ?_, ?_⟩
            · rw [hold _ (idx_lt hin hj), ← hw.cell0]
              have := R.inv.agree _ _ _ q2
              rw [Nat.zero_add] at this; exact this
            · rw [getD_app, if_pos (by omega)]; exact q3
          · obtain ⟨v, q1, q2⟩ := hx.cell (i - n) j (by omega) hj
            refine ⟨v, ?_, ?_⟩
            · have e1 : i * sz + j = n * sz + ((i - n) * sz + j) := by
                have : i = n + (i - n) := by omega
                rw [this, Nat.add_mul]
                have : n + (i - n) - n = i - n := by omega
                rw [this]; omega
              rw [e1, hnew _ (by rw [hnews]; exact idx_lt (by omega) hj)]; exact q1
            · rw [getD_app, if_neg (by omega), hlen]; exact q2
        · have hin : i < n := by
            rcases Nat.lt_or_ge i n with h | h
            · exact h
            · have : n * sz ≤ i * sz := Nat.mul_le_mul_right _ h
              omega
          obtain ⟨b0, o0, v, q1, q2, q3⟩ := holds i j hin hj
          rw [hb1'] at q1; simp at q1
          obtain ⟨rfl, rfl⟩ := q1
          rw [Nat.zero_add] at q2
          exact ⟨v, q2⟩
    · have hOv : ∀ p : Nat × Nat, ∃ v, p.1 < n → p.2 < sz → (∀ b, base = some b → w.cell? (b.add (p.1 * sz + p.2)) = some v) ∧ CR g v ((es.getD p.1 []).getD p.2 .junk) := by
        intro p
        by_cases q : p.1 < n ∧ p.2 < sz
        · obtain ⟨b0, o0, v, q1, q2, q3⟩ := holds p.1 p.2 q.1 q.2
          refine ⟨v, fun _ _ => ⟨fun b hb => ?_, q3⟩⟩
          rw [q1] at hb; simp at hb; subst hb
          rw [addr_add, ← Nat.add_assoc]; exact R.inv.agree _ _ _ q2
        · exact ⟨undef, fun q1 q2 => absurd ⟨q1, q2⟩ q⟩
      obtain ⟨V, hV⟩ := Classical.axiomOfChoice hOv
      have dm : ∀ q, q < n * sz → q / sz < n ∧ q % sz < sz ∧ q = q / sz * sz + q % sz := fun q hq =>
        ⟨Nat.div_lt_of_lt_mul (by rw [Nat.mul_comm]; exact hq), Nat.mod_lt _ h0, by rw [Nat.mul_comm]; exact (Nat.div_add_mod q sz).symm⟩
      obtain ⟨cap', hc', hrun⟩ := r2 ((List.range (n * sz)).map fun q => V (q / sz, q % sz)) (by omega) (by simp) hbase (fun b hb q v hq => by
        have hql : q < n * sz := by
          rcases Nat.lt_or_ge q (n * sz) with h | h
          · exact h
          · rw [List.getElem?_eq_none (by simpa using h)] at hq; simp at hq
        simp [hql] at hq
        obtain ⟨d1, d2, d3⟩ := dm q hql
        have := (hV (q / sz, q % sz) d1 d2).1 b hb
        simp only at this
        rw [← d3, hq] at this; exact this)
      generalize hal : ((List.range (n * sz)).map fun q => V (q / sz, q % sz)) = olds at hrun
      have holen : olds.length = n * sz := by rw [← hal]; simp
      have hoget : ∀ i j, i < n → j < sz → olds[i * sz + j]? = some (V (i, j)) := by
        intro i j hi' hj
        have e1 : (i * sz + j) / sz = i := Nat.div_eq_of_lt_le (by omega) (by rw [Nat.add_mul]; omega)
        have e2 : (i * sz + j) % sz = j := by rw [Nat.mul_comm, Nat.mul_add_mod, Nat.mod_eq_of_lt hj]
        have hlt := idx_lt hi' hj
        rw [← hal]
        simp [hlt, e1, e2]
      generalize hZ : Builtin.zeroCells z.cells (cap' - (n + fs.length)) = Z at hrun
      have hZs : Z.size = (cap' - (n + fs.length)) * sz := by rw [← hZ, size_zeroCells, hzs]
      have hnb : NewBlk w (w.drew.alloc (.cells (olds.toArray ++ news.toArray ++ Z) e)) (.cells (olds.toArray ++ news.toArray ++ Z) e) := NewBlk.drew _ _
      have hasz : (olds.toArray ++ news.toArray ++ Z).size = cap' * sz := by
        simp [holen, hnews, hZs]
        rw [← Nat.add_mul, ← Nat.add_mul]
        congr 1; omega
      have I1 := R.inv.step (c := none) (hnb.step (g := g))
      obtain ⟨I2, hle2⟩ := I1.newTok (c := .R t) (k := 0) (e := e) (arr := olds.toArray ++ news.toArray ++ Z) (new_free R.inv) (fun o _ => new_Φ R.inv o) (by rw [hnb.heap]; simp) hasz R.inv.size
      refine fin (g1 := g.newTok (.R t) w.heap.size (cap' * sz) 0) cap' (.inr hnb.step) I2 hle2 rfl rfl (fun d' hd' => Gh.newTok_ne (hd' t)) (fun t' ht' => Gh.newTok_ne (by simp; exact ht')) Gh.newTok_to (Nat.zero_le _) (by simp [Gh.newTok]) hc' (fun i j hi' hj => ?_) (fun i j hi' hj hlt => by omega) hrun
      rw [hnb.cell_new]
      rcases Nat.lt_or_ge i n with hin | hin
      · have hlt := idx_lt hin hj
        refine ⟨V (i, j), ?_, ?_⟩
        · rw [Array.append_assoc, Array.getElem?_append_left (by simp; omega)]
          simpa using hoget i j hin hj
        · rw [getD_app, if_pos (by omega)]; exact (hV (i, j) hin hj).2
      · obtain ⟨v, q1, q2⟩ := hx.cell (i - n) j (by omega) hj
        have e1 : i * sz + j = n * sz + ((i - n) * sz + j) := by
          have : i = n + (i - n) := by omega
          rw [this, Nat.add_mul]
          have : n + (i - n) - n = i - n := by omega
          rw [this]; omega
        have hlt : (i - n) * sz + j < news.length := by rw [hnews]; exact idx_lt (by omega) hj
        refine ⟨v, ?_, ?_⟩
        · rw [e1, Array.append_assoc, Array.getElem?_append_right (by simp; omega), Array.getElem?_append_left (by simp; omega)]
          simp [holen]; exact q1
        · rw [getD_app, if_neg (by omega), hlen]; exact q2
end
end Go.Proofs.DenT
end
section
namespace Go.Proofs.DenT
set_option linter.unusedVariables false
set_option linter.unusedSimpArgs false
open Go
section
variable {Pg : Program} {fr : Fr} {pu : Bool} {g : Gh} {s : St} {a : Act} {w : World} {Γ : Env} {o : Oper}
theorem okSrc_tmp {u : Operand} {t : Nat} (h : okSrc u (.t t) = true) : u = .tmp t := by
  unfold okSrc at h
  split at h <;> simp_all
/-- The state behind a take. -/
noncomputable abbrev takes (s : St) (t : Nat) : List Reg := upd s.env t { nth s.env t Reg.junk with k := .glob }
theorem goes_movO {t d : Nat} (R : Rel fr pu g s a w) (hd : o.dst = some d) (hc : okOp Pg o.op o.type (.movO t) = true) (hg : Good (evS Γ (.movO t) s)) :
    Goes Pg fr pu o g ⟨putR (takes s t) o.dst ⟨(nth s.env t Reg.junk).x, .own, .yes⟩, s.loc, s.H⟩ a w := by
  have key : ∀ u, (o.op = .move u ∨ o.op = .assign u) → okSrc u (.t t) = true → Goes Pg fr pu o g ⟨putR (takes s t) o.dst ⟨(nth s.env t Reg.junk).x, .own, .yes⟩, s.loc, s.H⟩ a w := by
    intro u ho hu
    obtain ⟨hb, hs⟩ := hg
    have h1 : (nth s.env t Reg.junk).k.isOwn = true := hb _ (by simp [evS, ev, P.opnds, rg, nth_0, envGet])
    have h2 : (nth s.env t Reg.junk).ok.sat := hs _ (by simp [evS, ev, P.opnds, rg, nth_0, envGet, oksOf])
    have hy : a.eval u = a.eval (.tmp t) := by
      unfold okSrc at hu
      split at hu <;> simp_all
    exact goes_take R h1 hd (run_move ho) (by rw [hy]; exact R.own h1 h2)
  simp only [okOp] at hc
  split at hc <;> try (simp at hc; done)
  · exact key _ (.inl (by assumption)) hc
  · exact key _ (.inr (by assumption)) hc
theorem newsA_sl {v : Value} {sz : Nat} {fs : List (List AV)} (I : Inv fr g w) (h : RV g.Φ g.γ v (.sl sz fs)) (h0 : 0 < sz) : ∃ news, NewsA Pg g w sz v fs news := by
  cases h with
  | nsl => exact ⟨[], news_nil, fun i hi => by simp at hi, fun i j hi => by simp at hi⟩
  | sl bl o len cap sz es vs hl hcap hn hc hr ha =>
    subst hl
    have dm : ∀ q, q < fs.length * sz → q / sz < fs.length ∧ q % sz < sz ∧ q = q / sz * sz + q % sz := fun q hq =>
      ⟨Nat.div_lt_of_lt_mul (by rw [Nat.mul_comm]; exact hq), Nat.mod_lt _ h0, by rw [Nat.mul_comm]; exact (Nat.div_add_mod q sz).symm⟩
    refine ⟨(List.range (fs.length * sz)).map fun q => vs (q / sz) (q % sz), news_slice (by simp) (fun j u hj => ?_) (fun u hu => ?_), hn, fun i j hi hj => ?_⟩
    · have hql : j < fs.length * sz := by
        rcases Nat.lt_or_ge j (fs.length * sz) with h | h
        · exact h
        · rw [List.getElem?_eq_none (by simpa using h)] at hj; simp at hj
      simp [hql] at hj
      obtain ⟨d1, d2, d3⟩ := dm j hql
      subst hj
      rw [addr_add]
      have := I.agree _ _ _ (hc _ _ d1 d2)
      rw [Nat.add_assoc, ← d3] at this; exact this
    · simp only [List.mem_map, List.mem_range] at hu
      obtain ⟨q, hq, rfl⟩ := hu
      obtain ⟨d1, d2, d3⟩ := dm q hq
      exact RV.one (hr _ _ d1 d2) (ha _ _ d1 d2)
    · have e1 : (i * sz + j) / sz = i := Nat.div_eq_of_lt_le (by omega) (by rw [Nat.add_mul]; omega)
      have e2 : (i * sz + j) % sz = j := by rw [Nat.mul_comm, Nat.mul_add_mod, Nat.mod_eq_of_lt hj]
      exact ⟨vs i j, by simp [idx_lt hi hj, e1, e2], hr i j hi hj, ha i j hi hj⟩
theorem newsA_str {b : ByteArray} : ∃ news, NewsA Pg g w 1 (.string b) (bytesOf b) news := by
  refine ⟨b.data.toList.map fun b => Value.int .u8 b.toNat, ?_, fun i hi => ?_, fun i j hi hj => ?_⟩
  · rw [bytesOf_len]; exact news_string
  · rw [bytesOf_len] at hi; rw [bytesOf_get _ _ hi]; rfl
  · rw [bytesOf_len] at hi
    have hj0 : j = 0 := by omega
    subst hj0
    rw [bytesOf_get _ _ hi]
    have : b.data[i]? = some (b.data[i]'hi) := Array.getElem?_eq_getElem hi
    refine ⟨.int .u8 (b.data.toList.getD i 0).toNat, ?_, .i _ _, rfl⟩
    simp [this]
theorem goes_app {t d : Nat} {y : Src} {sz bytes : Nat} (R : Rel fr pu g s a w) (hd : o.dst = some d) (hc : okOp Pg o.op o.type (.app t y sz bytes) = true) (hg : Good (evS Γ (.app t y sz bytes) s)) :
    Goes Pg fr pu o g ⟨putR (takes s t) o.dst ⟨.sl sz (cat (nth s.env t Reg.junk).x.els (envGet s.env y).x.els), .own, .yes⟩, s.loc, s.H⟩ a w := by
  simp only [okOp] at hc
  split at hc <;> try (simp at hc; done)
  rename_i u v t1 t2 ho
  simp only [Bool.and_eq_true, decide_eq_true_eq, beq_iff_eq] at hc
  obtain ⟨⟨⟨⟨⟨h1, h2⟩, rfl⟩, h3⟩, h4⟩, h5⟩ := hc
  split at h5 <;> try (simp at h5; done)
  rename_i e he
  simp only [Bool.and_eq_true] at h5
  obtain ⟨⟨h5, h6⟩, h7⟩ := h5
  obtain ⟨hb, hs⟩ := hg
  simp [evS, ev, P.opnds, rg, nth_0, nth_S, oksOf, Kd.app] at hb hs
  obtain ⟨b1, b2, b3, b4, b5⟩ := hb
  have hk : (nth s.env t Reg.junk).k.isOwn = true := by
    cases q : (nth s.env t Reg.junk).k <;> simp only [envGet, q] at b1 <;> first | rfl | (simp at b1)
  have hown := R.own hk hs.1
  have e1 : (nth s.env t Reg.junk).x = .sl sz (nth s.env t Reg.junk).x.els := isSl_spec b2
  rw [e1] at hown
  have hy := (src_ok R h2 hs.2).rvG b3
  rw [isSl_spec b4] at hy
  obtain ⟨news, hn⟩ := newsA_sl (Pg := Pg) R.inv hy h3
  obtain ⟨it, hi, hsz⟩ := tySize_spec h5
  obtain ⟨it2, hi2, hby⟩ := tyBytes_spec h6
  rw [hi] at hi2; simp at hi2; subst hi2
  rw [hi] at h7
  simp only at h7
  split at h7 <;> try (simp at h7; done)
  rename_i z hz
  rw [beq_iff_eq] at h7
  have hu : a.eval u = a.eval (.tmp t) := by rw [okSrc_tmp h1]
  have hroom := of_decide_eq_true b5
  exact goes_append R hd ho he (.inl ⟨e, he⟩) hi hz hsz hby h7 h3 h4 hk hu hown hn hroom
theorem goes_appS {t d : Nat} {y : Src} {bytes : Nat} (R : Rel fr pu g s a w) (hd : o.dst = some d) (hc : okOp Pg o.op o.type (.appS t y bytes) = true) (hg : Good (evS Γ (.appS t y bytes) s)) :
    Goes Pg fr pu o g ⟨putR (takes s t) o.dst ⟨.sl 1 (cat (nth s.env t Reg.junk).x.els (bytesOf (envGet s.env y).x.str)), .own, .yes⟩, s.loc, s.H⟩ a w := by
  simp only [okOp] at hc
  split at hc <;> try (simp at hc; done)
  rename_i u v t1 t2 ho
  simp only [Bool.and_eq_true, decide_eq_true_eq] at hc
  obtain ⟨⟨⟨⟨h1, h2⟩, h3⟩, h4⟩, h5⟩ := hc
  have ht2 : Pg.underlying t2 = some .string := by split at h4 <;> simp_all
  split at h5 <;> try (simp at h5; done)
  rename_i e he
  simp only [Bool.and_eq_true] at h5
  obtain ⟨⟨h5, h6⟩, h7⟩ := h5
  obtain ⟨hb, hs⟩ := hg
  simp [evS, ev, P.opnds, rg, nth_0, nth_S, oksOf, Kd.app] at hb hs
  obtain ⟨b1, b2, b3, b5⟩ := hb
  have hk : (nth s.env t Reg.junk).k.isOwn = true := by
    cases q : (nth s.env t Reg.junk).k <;> simp only [envGet, q] at b1 <;> first | rfl | (simp at b1)
  have hown := R.own hk hs.1
  have e1 : (nth s.env t Reg.junk).x = .sl 1 (nth s.env t Reg.junk).x.els := isSl_spec b2
  rw [e1] at hown
  have hy := (src_ok R h2 hs.2).str b3
  obtain ⟨news, hn⟩ := newsA_str (Pg := Pg) (g := g) (w := w) (b := (envGet s.env y).x.str)
  rw [← hy] at hn
  obtain ⟨it, hi, hsz⟩ := tySize_spec h5
  obtain ⟨it2, hi2, hby⟩ := tyBytes_spec h6
  rw [hi] at hi2; simp at hi2; subst hi2
  rw [hi] at h7
  simp only at h7
  split at h7 <;> try (simp at h7; done)
  rename_i z hz
  rw [beq_iff_eq] at h7
  have hu : a.eval u = a.eval (.tmp t) := by rw [okSrc_tmp h1]
  have hroom := of_decide_eq_true b5
  exact goes_append R hd ho he (.inr ht2) hi hz hsz hby h7 (by omega) h3 hk hu hown hn (by rw [bytesOf_len]; exact hroom)
end
end Go.Proofs.DenT
end
section
/-! Function values: what they capture turns no more. -/
namespace Go.Proofs.DenT
set_option linter.unusedVariables false
set_option linter.unusedSimpArgs false
open Go
section
variable {Pg : Program} {fr : Fr} {pu : Bool} {g : Gh} {s : St} {a : Act} {w : World} {Γ : Env} {o : Oper}
theorem LO.eq_frz (lo : LO) (h : lo.frz = true) : { lo with frz := true } = lo := by cases lo; simp at h; subst h; rfl
theorem upd_self {α : Type} (l : List α) (n : Nat) (d : α) : upd l n (nth l n d) = l := by
  rw [upd_eq, nth_eq]
  apply List.ext_getElem?
  intro i
  by_cases h : n = i
  · subst h
    rcases Nat.lt_or_ge n l.length with q | q
    · simp [q, List.getD_eq_getElem?_getD]
    · rw [List.getElem?_eq_none (by simpa using q), List.getElem?_eq_none q]
  · rw [List.getElem?_set_ne h]
def Gh.frz (g : Gh) (w : World) (j n : Nat) : Gh := { g with Φ := fun b o => if b = g.lam j ∧ o < n then w.cell? ⟨b, o, none⟩ else g.Φ b o, ρ := fun d => if d = .L j then none else g.ρ d }
theorem Rel.freeze (R : Rel fr pu g s a w) {j : Nat} (hlive : (nth s.loc j LO.dead).live = true) :
    ∃ g', Gle g g' ∧ g'.lam = g.lam ∧ Rel fr pu g' { s with loc := upd s.loc j { nth s.loc j LO.dead with frz := true } } a w := by
  cases hf : (nth s.loc j LO.dead).frz with
  | true =>
    refine ⟨g, Gle.refl g, rfl, ?_⟩
    rw [LO.eq_frz _ hf, upd_self]
    exact R
  | false =>
    have hlt := loc_lt hlive
    rw [nth_eq] at hlive hf ⊢
    have hL := R.locs j hlive
    obtain ⟨tok, hS⟩ := hL.2.2.1 hf
    have hΦ : ∀ b o v, g.Φ b o = some v → (g.frz w j (s.loc.getD j LO.dead).n).Φ b o = some v := by
      intro b o v h
      simp only [Gh.frz]
      split
      · rename_i q; obtain ⟨rfl, _⟩ := q
        exact R.inv.agree _ _ _ h
      · exact h
    have hle : Gle g (g.frz w j (s.loc.getD j LO.dead).n) := ⟨hΦ, fun _ _ h => h, fun _ _ h => h⟩
    have src : ∀ d p, (g.frz w j (s.loc.getD j LO.dead).n).ρ d = some p → d ≠ .L j ∧ g.ρ d = some p := by
      intro d p h
      simp only [Gh.frz] at h
      split at h
      · simp at h
      · rename_i q; exact ⟨q, h⟩
    have hne : ∀ d, d ≠ .L j → (g.frz w j (s.loc.getD j LO.dead).n).ρ d = g.ρ d := fun d hd => if_neg hd
    have I' : Inv fr (g.frz w j (s.loc.getD j LO.dead).n) w := by
      refine { R.inv with agree := ?_, inj := ?_, disj := ?_, tok := ?_, mold := ?_, tab := TabQ.mono hΦ R.inv.tab, Φle := fun b o v h => hΦ _ _ _ (R.inv.Φle _ _ _ h), Φold := ?_ }
      · intro b o v h
        simp only [Gh.frz] at h
        split at h
        · exact h
        · exact R.inv.agree _ _ _ h
      · intro d1 d2 b n n' h1 h2; exact R.inv.inj _ _ _ _ _ (src _ _ h1).2 (src _ _ h2).2
      · intro d b n o h1 h2
        obtain ⟨q1, q2⟩ := src _ _ h1
        have hb : b ≠ g.lam j := fun q => by subst q; exact q1 (R.inv.inj _ _ _ _ _ q2 tok)
        simp only [Gh.frz]
        rw [if_neg (fun q => hb q.1)]
        exact R.inv.disj _ _ _ _ q2 h2
      · intro d b n h1; exact R.inv.tok _ _ _ (src _ _ h1).2
      · intro d b n o h1 h2 h3; exact R.inv.mold _ _ _ _ (src _ _ h1).2 h2 h3
      · intro b o v h h0 h3
        simp only [Gh.frz] at h
        split at h
        · rename_i q; obtain ⟨rfl, _⟩ := q
          exact R.inv.mold _ _ _ _ tok (Nat.zero_le _) h3
        · exact R.inv.Φold _ _ _ h h0 h3
    refine ⟨_, hle, rfl, ?_⟩
    have := R.next (dst := none) (v := undef) (r := Reg.junk) (loc' := upd s.loc j { s.loc.getD j LO.dead with frz := true }) (H' := s.H) I' hle (fun i hi => ⟨lives_upd (lo := { s.loc.getD j LO.dead with frz := true }) hlive i hi, rfl⟩) (fun t _ p hp hk => by rw [hne _ (by simp)]; exact hp) (fun t q => by simp at q) (fun i => ?_) (fun l hl => ?_) R.γdom (fun hp l => ?_) (fun _ => rfl)
    · exact this
    · rw [upd_getD]
      by_cases hij : j = i
      · subst hij
        rw [if_pos ⟨rfl, hlt⟩]
        intro _
        refine ⟨hL.1, fun i hi => ?_, fun q => by simp at q, fun _ i hi => ?_⟩
        · obtain ⟨v, q1, q2⟩ := hL.2.1 i hi
          exact ⟨v, q1, q2.1, q2.2.1.le hle, fun q => by simp at q⟩
        · obtain ⟨v, q1, q2⟩ := hL.2.1 i hi
          refine ⟨v, ?_⟩
          show (if g.lam j = g.lam j ∧ i < (s.loc.getD j LO.dead).n then _ else _) = _
          rw [if_pos ⟨rfl, hi⟩]; exact q1
      · rw [if_neg (fun q => hij q.1)]
        exact LOR.le hle (fun _ => rfl) (fun p hp => by rw [hne _ (by simp; exact fun q => hij q.symm)]; exact hp) (fun o _ p hp => by rw [hne _ (by simp)]; exact hp) (R.locs i)
    · exact GOR.le hle (fun p hp => by rw [hne _ (by simp)]; exact hp) (fun _ o _ p hp => by rw [hne _ (by simp)]; exact hp) (R.heap l hl)
    · rw [hne _ (by simp)]
      exact ⟨(R.nog hp l).1, fun o => by rw [hne _ (by simp)]; exact (R.nog hp l).2 o⟩
/-- What a freeze leaves. -/
structure Frz (loc loc' : List LO) : Prop where
  len : loc'.length = loc.length
  same : ∀ j, (nth loc' j LO.dead).n = (nth loc j LO.dead).n ∧ (nth loc' j LO.dead).cs = (nth loc j LO.dead).cs ∧ (nth loc' j LO.dead).live = (nth loc j LO.dead).live
  up : ∀ j, (nth loc j LO.dead).frz = true → (nth loc' j LO.dead).frz = true
theorem Frz.refl (loc : List LO) : Frz loc loc := ⟨rfl, fun _ => ⟨rfl, rfl, rfl⟩, fun _ h => h⟩
theorem Frz.trans {a b c : List LO} (h : Frz a b) (k : Frz b c) : Frz a c := ⟨k.len.trans h.len, fun j => ⟨(k.same j).1.trans (h.same j).1, (k.same j).2.1.trans (h.same j).2.1, (k.same j).2.2.trans (h.same j).2.2⟩, fun j q => k.up j (h.up j q)⟩
theorem Frz.one (loc : List LO) (j : Nat) : Frz loc (upd loc j { nth loc j LO.dead with frz := true }) := by
  refine ⟨upd_len _ _ _, fun i => ?_, fun i h => ?_⟩
  · rw [nth_upd]
    split
    · rename_i q; obtain ⟨rfl, _⟩ := q; exact ⟨rfl, rfl, rfl⟩
    · exact ⟨rfl, rfl, rfl⟩
  · rw [nth_upd]
    split
    · rfl
    · exact h
theorem freeze_frz (loc : List LO) (r : Reg) : Frz loc (freeze loc r) := by
  unfold freeze
  split
  · exact Frz.one _ _
  · exact Frz.refl _
theorem freezeAll_cons (loc : List LO) (r : Reg) (vs : List Reg) : freezeAll loc (r :: vs) = freezeAll (freeze loc r) vs := rfl
theorem freezeAll_frz : ∀ (vs : List Reg) (loc : List LO), Frz loc (freezeAll loc vs)
  | [], loc => Frz.refl loc
  | r :: vs, loc => by rw [freezeAll_cons]; exact (freeze_frz loc r).trans (freezeAll_frz vs _)
theorem isLoc_spec {k : Kd} : k = .loc ∨ ∀ {α : Type} (x y : α), (match k with | .loc => x | _ => y) = y := by cases k <;> first | exact .inl rfl | exact .inr (fun _ _ => rfl)
theorem Rel.freezeAll : ∀ (vs : List Reg) {g : Gh} {s : St}, Rel fr pu g s a w → (∀ r, r ∈ vs → snapB s.loc r = true) →
    ∃ g', Gle g g' ∧ g'.lam = g.lam ∧ Rel fr pu g' { s with loc := DenT.freezeAll s.loc vs } a w ∧ ∀ r, r ∈ vs → r.k = .loc → (nth (DenT.freezeAll s.loc vs) r.x.lpJ LO.dead).frz = true := by
  intro vs
  induction vs with
  | nil => intro g s R _; exact ⟨g, Gle.refl g, rfl, R, fun r h => by simp at h⟩
  | cons r vs ih =>
    intro g s R hb
    have hr := hb r List.mem_cons_self
    have h1 : ∃ g1, Gle g g1 ∧ g1.lam = g.lam ∧ Rel fr pu g1 { s with loc := DenT.freeze s.loc r } a w ∧ (r.k = .loc → (nth (DenT.freeze s.loc r) r.x.lpJ LO.dead).frz = true) := by
      cases hk : r.k with
      | loc =>
        simp only [snapB, hk, Bool.and_eq_true, lob] at hr
        obtain ⟨g1, q1, q2, q3⟩ := R.freeze (j := r.x.lpJ) hr.2
        have e : DenT.freeze s.loc r = upd s.loc r.x.lpJ { nth s.loc r.x.lpJ LO.dead with frz := true } := by unfold DenT.freeze; rw [hk]; rfl
        refine ⟨g1, q1, q2, by rw [e]; exact q3, fun _ => ?_⟩
        rw [e, nth_upd, if_pos ⟨rfl, loc_lt hr.2⟩]
      | glob => exact ⟨g, Gle.refl g, rfl, by unfold DenT.freeze; rw [hk]; exact R, fun h => by simp at h⟩
      | own => exact ⟨g, Gle.refl g, rfl, by unfold DenT.freeze; rw [hk]; exact R, fun h => by simp at h⟩
      | nils l => exact ⟨g, Gle.refl g, rfl, by unfold DenT.freeze; rw [hk]; exact R, fun h => by simp at h⟩
    obtain ⟨g1, q1, q2, R1, q3⟩ := h1
    have F := freeze_frz s.loc r
    obtain ⟨g2, p1, p2, R2, p3⟩ := ih R1 (fun r' hr' => by
      have := hb r' (List.mem_cons_of_mem _ hr')
      simp only [snapB, lob] at this ⊢
      rw [(F.same _).2.2]; exact this)
    refine ⟨g2, q1.trans p1, p2.trans q2, R2, fun r' hr' hk => ?_⟩
    rw [freezeAll_cons]
    rcases List.mem_cons.1 hr' with rfl | hr'
    · exact (freezeAll_frz vs _).up _ (q3 hk)
    · exact p3 r' hr' hk
theorem goes_mkfn {f : Nat} {caps : List Src} (R : Rel fr pu g s a w) (hc : okOp Pg o.op o.type (.mkfn f caps) = true) (hg : Good (evS Γ (.mkfn f caps) s)) :
    Goes Pg fr pu o g ⟨putR s.env o.dst (evS Γ (.mkfn f caps) s).r, (evS Γ (.mkfn f caps) s).loc, s.H⟩ a w := by
  simp only [okOp] at hc
  split at hc <;> try (simp at hc; done)
  rename_i f' cs ho
  simp only [Bool.and_eq_true] at hc
  obtain ⟨h1, h2⟩ := hc
  have hff := eq_of_beq h1
  subst hff
  obtain ⟨hb, hs⟩ := hg
  have e1 : (evS Γ (.mkfn f' caps) s).loc = freezeAll s.loc (caps.map (envGet s.env)) := rfl
  have e2 : (evS Γ (.mkfn f' caps) s).r = ⟨.fn f' ((caps.map (envGet s.env)).map (snap s.loc)), .glob, .yes⟩ := rfl
  have e3 : (evS Γ (.mkfn f' caps) s).bs = (caps.map (envGet s.env)).map (snapB s.loc) := rfl
  have e4 : (evS Γ (.mkfn f' caps) s).os = oksOf (caps.map (envGet s.env)) := rfl
  rw [e1, e2]
  rw [e3] at hb
  rw [e4] at hs
  have hb' : ∀ r, r ∈ caps.map (envGet s.env) → snapB s.loc r = true := fun r hr => hb _ (List.mem_map.2 ⟨r, hr, rfl⟩)
  obtain ⟨g', hle, hlam, R', hfz⟩ := Rel.freezeAll _ R hb'
  obtain ⟨l1, l2⟩ := okSrcs_spec h2
  have F := freezeAll_frz (caps.map (envGet s.env)) s.loc
  intro K Q hK
  unfold Oper.wp
  have hrun := run_mkfn (Pg := Pg) (w := w) (o := o) (ρ := a.eval) (f := f') (cs := cs.toList) (by rw [ho])
  rw [hrun]
  refine hK _ g' w (R'.next R'.inv (Gle.refl g') (fun j hj => ⟨hj, rfl⟩) (fun t _ p hp hk => hp) (fun t _ => ?_) R'.locs R'.heap R'.γdom R'.nog (fun _ => rfl))
  refine RV.fn f' (cs.toList.map a.eval).toArray _ (by simpa using l1) (fun i hi => ?_)
  simp only [List.length_map] at hi
  have hx : cs.toList[i]? = some (cs.toList[i]'(by omega)) := List.getElem?_eq_getElem _
  have hy : caps[i]? = some caps[i] := List.getElem?_eq_getElem _
  have hsrc := l2 i _ _ hx hy
  have hmem : envGet s.env caps[i] ∈ caps.map (envGet s.env) := List.mem_map.2 ⟨_, List.getElem_mem _, rfl⟩
  have hsat : (envGet s.env caps[i]).ok.sat := hs _ (by simp only [oksOf, List.map_map, List.mem_map]; exact ⟨caps[i], List.getElem_mem _, rfl⟩)
  have hk := src_ok R hsrc hsat
  have hbi := hb' _ hmem
  have g1 : (cs.toList.map a.eval).toArray.getD i undef = a.eval (cs.toList[i]'(by omega)) := by
    rw [← arr_getD]; simp [List.getD_eq_getElem?_getD, show i < cs.size by simpa using (show i < cs.toList.length by omega)]
  have g2 : ((caps.map (envGet s.env)).map (snap s.loc)).getD i .junk = snap s.loc (envGet s.env caps[i]) := by
    simp [List.getD_eq_getElem?_getD, hi]
  rw [g1, g2]
  generalize envGet s.env caps[i] = r at *
  cases hkk : r.k with
  | glob =>
    rw [hkk] at hk
    have : snap s.loc r = r.x := by simp only [snap, hkk]
    rw [this]; exact RV.le hle hk
  | own => simp [snapB, hkk] at hbi
  | nils l => simp [snapB, hkk] at hbi
  | loc =>
    have hfzr := hfz r hmem hkk
    rw [hkk] at hk
    simp only [snapB, hkk, Bool.and_eq_true, lob] at hbi
    have : snap s.loc r = .ip (lob s.loc r.x).n (lob s.loc r.x).cs r.x.hpO := by simp only [snap, hkk]
    rw [this]
    obtain ⟨hv, hlv⟩ := KR.lpJ_at (s := s) (k := .loc) hk hbi.1
    rw [hv]
    obtain ⟨s1, s2, s3⟩ := F.same r.x.lpJ
    simp only [lob]
    have hlive' : (nth (DenT.freezeAll s.loc (caps.map (envGet s.env))) r.x.lpJ LO.dead).live = true := by rw [s3]; exact hbi.2
    rw [nth_eq] at hlive' hfzr s1 s2
    obtain ⟨q1, q2, q3, q4⟩ := R'.locs r.x.lpJ hlive'
    simp only at q1 q2 q4
    rw [hlam] at q2 q4
    rw [← s1, ← s2]
    have hcv : ∀ i : Nat, ∃ v, i < ((DenT.freezeAll s.loc (caps.map (envGet s.env))).getD r.x.lpJ LO.dead).n → g'.Φ (g.lam r.x.lpJ) i = some v ∧ CR g' v (((DenT.freezeAll s.loc (caps.map (envGet s.env))).getD r.x.lpJ LO.dead).cs.getD i .junk) := by
      intro i
      by_cases hi : i < ((DenT.freezeAll s.loc (caps.map (envGet s.env))).getD r.x.lpJ LO.dead).n
      · obtain ⟨v, p1, p2⟩ := q2 i hi
        obtain ⟨v', p3⟩ := q4 hfzr i hi
        have := R'.inv.agree _ _ _ p3
        rw [p1] at this; simp at this; subst this
        exact ⟨v, fun _ => ⟨p3, p2.2.1, p2.1⟩⟩
      · exact ⟨undef, fun q => absurd q hi⟩
    obtain ⟨V, hV⟩ := Classical.axiomOfChoice hcv
    have := RV.ip (Φ := g'.Φ) (γ := g'.γ) (g.lam r.x.lpJ) 0 _ r.x.hpO _ V q1 (fun i hi => by rw [Nat.zero_add]; exact (hV i hi).1) (fun i hi => (hV i hi).2.1) (fun i hi => (hV i hi).2.2)
    rw [Nat.zero_add] at this
    exact this
end
end Go.Proofs.DenT
end
section
/-! Calls. -/
namespace Go.Proofs.DenT
set_option linter.unusedVariables false
set_option linter.unusedSimpArgs false
open Go
/-- The frame of a call: what may turn. -/
def FrAt (g : Gh) (w : World) : Fr := ⟨w, g, fun b o => ∃ c k, g.ρ c = some (b, k) ∧ k ≤ o⟩
def Lc.hp : Lc → Bool | .G _ => true | .GC _ _ => true | _ => false
theorem Inv.at {fr : Fr} {g : Gh} {w : World} (I : Inv fr g w) : Inv (FrAt g w) g w where
  agree := I.agree
  inj := I.inj
  disj := I.disj
  tok := I.tok
  gtok := I.gtok
  shp := I.shp
  os := rfl
  tape := rfl
  output := rfl
  size := Nat.le_refl _
  fcell _ _ _ _ := rfl
  fblk _ _ _ := rfl
  fshp b c e f h := ⟨c, h, rfl⟩
  mold c b n o h h1 _ := ⟨c, n, h, h1⟩
  tab := I.tab
  Φle _ _ _ h := h
  Φold b o v h h0 _ := by rw [show (FrAt g w).g0 = g from rfl] at h0; rw [h] at h0; simp at h0
  γle _ _ h := h
  Sle _ _ h := h
/-- Fewer tokens. -/
theorem Inv.less {fr : Fr} {g : Gh} {w : World} (I : Inv fr g w) (ρ : Lc → Option (Nat × Nat)) (h : ∀ c p, ρ c = some p → g.ρ c = some p) : Inv fr { g with ρ := ρ } w :=
  { I with inj := fun c c' b n n' h1 h2 => I.inj _ _ _ _ _ (h _ _ h1) (h _ _ h2), disj := fun c b n o h1 h2 => I.disj _ _ _ _ (h _ _ h1) h2, tok := fun c b n h1 => I.tok _ _ _ (h _ _ h1), mold := fun c b n o h1 h2 h3 => I.mold _ _ _ _ (h _ _ h1) h2 h3 }
/-- What a callee answers. -/
structure Back (S : Sem) (xs : List AV) (H : Heap) (g : Gh) (w : World) (v : Value) (g' : Gh) (w' : World) : Prop where
  inv : Inv (FrAt g w) g' w'
  res : KR g' (fun _ => false) .X v S.rk (oneOr (S.run xs H).out)
  heap : S.pu = false → (∀ l, l < (S.run xs H).H.length → GOR g' false l ((S.run xs H).H.getD l .dead) w') ∧ ∀ l, (S.run xs H).H.length ≤ l → g'.γ l = none
  still : S.pu = true → g'.γ = g.γ
  toks : ∀ c p, g'.ρ c = some p → c = .X ∨ (S.pu = false ∧ c.hp = true)
structure CallOK (Pg : Program) (f : Nat) (S : Sem) : Prop where
  pure : S.pu = true → ∀ xs H, (∀ b, b ∈ S.fit xs → b = true) → (S.run xs H).pre = true → (S.run xs H).H = H
  fn : ∃ fn c, Pg.funcs[f]? = some fn ∧ fn.body = some c ∧ fn.name ≠ "runtime.NumGoroutine"
  calls : ∀ (g : Gh) (w : World) (H : Heap) (args : Array Value) (xs : List AV), Inv (FrAt g w) g w → (∀ c p, g.ρ c = some p → S.pu = false ∧ c.hp = true) →
    (∀ l, l < H.length → GOR g S.pu l (H.getD l .dead) w) → (∀ l, H.length ≤ l → g.γ l = none) → args.size = xs.length →
    (∀ i, i < xs.length → RV g.Φ g.γ (args.getD i undef) (xs.getD i .junk)) → (∀ b, b ∈ S.fit xs → b = true) → (S.run xs H).pre = true →
    Calls Pg f args w fun e w' => ∃ v g', e = .returned v ∧ Back S xs H g w v g' w'
def EnvOK (Pg : Program) (Γ : Env) : Prop := ∀ e, e ∈ Γ → CallOK Pg e.1 e.2
theorem EnvOK.get {Pg : Program} {Γ : Env} (h : EnvOK Pg Γ) {f : Nat} {xs : List AV} {H : Heap} (hp : ((Γ.at f Sem.none).run xs H).pre = true) : CallOK Pg f (Γ.at f Sem.none) := by
  induction Γ with
  | nil => simp [Env.at, Sem.run, Sem.none, fail] at hp
  | cons e Γ ih =>
    have e1 : Env.at (e :: Γ) f Sem.none = match e.1 == f with | true => e.2 | false => Env.at Γ f Sem.none := rfl
    rw [e1] at hp ⊢
    cases hq : e.1 == f with
    | true =>
      have := eq_of_beq hq
      subst this
      exact h e List.mem_cons_self
    | false =>
      rw [hq] at hp
      exact ih (fun e' he' => h e' (List.mem_cons_of_mem _ he')) hp

section
variable {Pg : Program} {fr : Fr} {pu : Bool} {g : Gh} {s : St} {a : Act} {w : World} {Γ : Env} {o : Oper}
/-- The ghosts that a callee is handed. -/
def Gh.sub (g : Gh) (p : Bool) : Gh := { g with ρ := fun d => match p with | true => none | false => (match d.hp with | true => g.ρ d | false => none) }
theorem Gh.sub_le {g : Gh} {p : Bool} {c : Lc} {q : Nat × Nat} (h : (g.sub p).ρ c = some q) : p = false ∧ c.hp = true ∧ g.ρ c = some q := by
  simp only [Gh.sub] at h
  cases p with
  | true => simp at h
  | false =>
    simp only at h
    cases hc : c.hp with
    | true => rw [hc] at h; exact ⟨rfl, rfl, h⟩
    | false => rw [hc] at h; simp at h
/-- The ghosts behind a call. -/
def Gh.back (g g' : Gh) (p : Bool) (dst : Option Nat) : Gh :=
  { Φ := g'.Φ, γ := g'.γ, lam := g.lam, S := g'.S, ρ := fun d => match d with
    | .R t => if dst = some t then g'.ρ .X else g.ρ (.R t)
    | .X => none
    | .L j => g.ρ (.L j)
    | .LC j o => g.ρ (.LC j o)
    | .G l => match p with | true => g.ρ (.G l) | false => g'.ρ (.G l)
    | .GC l o => match p with | true => g.ρ (.GC l o) | false => g'.ρ (.GC l o) }
theorem Gh.back_src {g g' : Gh} {p : Bool} {dst : Option Nat} {d : Lc} {q : Nat × Nat} (h : (g.back g' p dst).ρ d = some q) :
    (g.ρ d = some q ∧ (p = false → d.hp = false)) ∨ (∃ d', g'.ρ d' = some q ∧ ((d' = .X ∧ ∃ t, d = .R t ∧ dst = some t) ∨ (p = false ∧ d' = d ∧ d.hp = true))) := by
  cases d with
  | R t =>
    simp only [Gh.back] at h
    split at h
    · exact .inr ⟨_, h, .inl ⟨rfl, t, rfl, by assumption⟩⟩
    · exact .inl ⟨h, fun _ => rfl⟩
  | X => simp [Gh.back] at h
  | L j => exact .inl ⟨h, fun _ => rfl⟩
  | LC j o => exact .inl ⟨h, fun _ => rfl⟩
  | G l =>
    cases p with
    | true => exact .inl ⟨h, fun q => by simp at q⟩
    | false => exact .inr ⟨_, h, .inr ⟨rfl, rfl, rfl⟩⟩
  | GC l o =>
    cases p with
    | true => exact .inl ⟨h, fun q => by simp at q⟩
    | false => exact .inr ⟨_, h, .inr ⟨rfl, rfl, rfl⟩⟩
theorem Inv.back {p : Bool} {g' : Gh} {w' : World} {dst : Option Nat} (I : Inv fr g w) (J : Inv (FrAt (g.sub p) w) g' w') (ht : ∀ c q, g'.ρ c = some q → c = .X ∨ (p = false ∧ c.hp = true)) :
    Inv fr (g.back g' p dst) w' ∧ Gle g (g.back g' p dst) := by
  have hM : ∀ b o, (FrAt (g.sub p) w).M0 b o → ∃ c k, p = false ∧ c.hp = true ∧ g.ρ c = some (b, k) ∧ k ≤ o := by
    intro b o h
    obtain ⟨c, k, h1, h2⟩ := h
    obtain ⟨q1, q2, q3⟩ := Gh.sub_le h1
    exact ⟨c, k, q1, q2, q3, h2⟩
  have hM0 : ∀ b o, b < fr.w0.heap.size → (FrAt (g.sub p) w).M0 b o → fr.M0 b o := by
    intro b o hb h
    obtain ⟨c, k, _, _, q3, h2⟩ := hM b o h
    exact I.mold _ _ _ _ q3 h2 hb
  have k1 : ∀ d b k, g.ρ d = some (b, k) → (p = false → d.hp = false) → ∀ d' k', g'.ρ d' = some (b, k') → False := by
    intro d b k h1 h2 d' k' h3
    have hb := I.tok _ _ _ h1
    obtain ⟨c, k'', q1, q2, q3, q4⟩ := hM _ _ (J.mold _ _ _ k' h3 (Nat.le_refl _) hb)
    have := I.inj _ _ _ _ _ h1 q3
    subst this
    rw [h2 q1] at q2; simp at q2
  have k2 : ∀ d b k o, g.ρ d = some (b, k) → (p = false → d.hp = false) → k ≤ o → g'.Φ b o = none := by
    intro d b k o h1 h2 h3
    cases h : g'.Φ b o with
    | none => rfl
    | some v =>
      obtain ⟨c, k'', q1, q2, q3, q4⟩ := hM _ _ (J.Φold _ _ _ h (I.disj _ _ _ _ h1 h3) (I.tok _ _ _ h1))
      have := I.inj _ _ _ _ _ h1 q3
      subst this
      rw [h2 q1] at q2; simp at q2
  have hle : Gle g (g.back g' p dst) := ⟨J.Φle, J.γle, J.Sle⟩
  refine ⟨⟨J.agree, ?_, ?_, ?_, J.gtok, J.shp, J.os.trans I.os, J.tape.trans I.tape, J.output.trans I.output, Nat.le_trans I.size J.size, ?_, ?_, ?_, ?_, ?_, ?_, ?_, ?_, J.tab⟩, hle⟩
  · intro d1 d2 b n n' h1 h2
    rcases Gh.back_src h1 with ⟨a1, a2⟩ | ⟨e1, a1, a2⟩ <;> rcases Gh.back_src h2 with ⟨b1, b2⟩ | ⟨e2, b1, b2⟩
    · exact I.inj _ _ _ _ _ a1 b1
    · exact (k1 _ _ _ a1 a2 _ _ b1).elim
    · exact (k1 _ _ _ b1 b2 _ _ a1).elim
    · have := J.inj _ _ _ _ _ a1 b1
      subst this
      rcases a2 with ⟨rfl, t, rfl, q1⟩ | ⟨_, rfl, q1⟩ <;> rcases b2 with ⟨q2, t', rfl, q3⟩ | ⟨_, rfl, q2⟩
      · rw [q1] at q3; simp at q3; rw [q3]
      · simp [Lc.hp] at q2
      · subst q2; simp [Lc.hp] at q1
      · rfl
  · intro d b n o h1 h2
    rcases Gh.back_src h1 with ⟨a1, a2⟩ | ⟨e1, a1, a2⟩
    · exact k2 _ _ _ _ a1 a2 h2
    · exact J.disj _ _ _ _ a1 h2
  · intro d b n h1
    rcases Gh.back_src h1 with ⟨a1, a2⟩ | ⟨e1, a1, a2⟩
    · exact Nat.lt_of_lt_of_le (I.tok _ _ _ a1) J.size
    · exact J.tok _ _ _ a1
  · intro b o hb hm
    rw [J.fcell b o (Nat.lt_of_lt_of_le hb I.size) (fun q => hm (hM0 b o hb q))]
    exact I.fcell b o hb hm
  · intro b hb hm
    rw [J.fblk b (Nat.lt_of_lt_of_le hb I.size) (fun o q => hm o (hM0 b o hb q))]
    exact I.fblk b hb hm
  · intro b c e f h
    obtain ⟨c1, q1, q2⟩ := I.fshp b c e f h
    obtain ⟨c2, q3, q4⟩ := J.fshp b c1 e f q1
    exact ⟨c2, q3, by omega⟩
  · intro d b n o h1 h2 h3
    rcases Gh.back_src h1 with ⟨a1, a2⟩ | ⟨e1, a1, a2⟩
    · exact I.mold _ _ _ _ a1 h2 h3
    · exact hM0 b o h3 (J.mold _ _ _ _ a1 h2 (Nat.lt_of_lt_of_le h3 I.size))
  · intro b o v h; exact J.Φle _ _ _ (I.Φle _ _ _ h)
  · intro b o v h h0 h3
    cases hq : g.Φ b o with
    | some v' => exact I.Φold _ _ _ hq h0 h3
    | none => exact hM0 b o h3 (J.Φold _ _ _ h hq (Nat.lt_of_lt_of_le h3 I.size))
  · intro l b h; exact J.γle _ _ (I.γle _ _ h)
  · intro b n h; exact J.Sle _ _ (I.Sle _ _ h)
/-- Behind a call. -/
theorem Rel.back {S : Sem} {xs : List AV} {v : Value} {g' : Gh} {w' : World} {dst : Option Nat} {r : Reg} (R : Rel fr pu g s a w) (hpu : pu = true → S.pu = true) (B : Back S xs s.H (g.sub S.pu) w v g' w')
    (hr : ∀ t, dst = some t → RegR (g.back g' S.pu dst) (lives s.loc) (.R t) v r) :
    Rel fr pu (g.back g' S.pu dst) ⟨putR s.env dst r, s.loc, match S.pu with | true => s.H | false => (S.run xs s.H).H⟩ (a.put dst v) w' := by
  obtain ⟨I', hle⟩ := R.inv.back (dst := dst) B.inv B.toks
  have J := B.inv
  have hM : ∀ b o, (FrAt (g.sub S.pu) w).M0 b o → ∃ c k, S.pu = false ∧ c.hp = true ∧ g.ρ c = some (b, k) ∧ k ≤ o := by
    intro b o h
    obtain ⟨c, k, h1, h2⟩ := h
    obtain ⟨q1, q2, q3⟩ := Gh.sub_le h1
    exact ⟨c, k, q1, q2, q3, h2⟩
  refine R.next I' hle (fun j hj => ⟨hj, rfl⟩) (fun t hne p hp _ => ?_) hr (fun j => ?_) ?_ ?_ ?_ ?_
  · show (if dst = some t then _ else _) = _
    rw [if_neg hne]; exact hp
  · intro hlive
    obtain ⟨h1, h2, h3, h4⟩ := R.locs j hlive
    refine ⟨h1, fun i hi => ?_, fun hf => ⟨(h3 hf).1, hle.S _ _ (h3 hf).2⟩, fun hf i hi => ?_⟩
    · obtain ⟨u, q1, q2⟩ := h2 i hi
      refine ⟨u, ?_, q2.le (c' := .LC j i) hle (fun _ p hp => hp)⟩
      show w'.cell? ⟨g.lam j, i, none⟩ = _
      rw [J.fcell _ _ (cell_lt q1) (fun hm => ?_)]
      · exact q1
      · obtain ⟨c, k, p1, p2, p3, p4⟩ := hM _ _ hm
        cases hf : (s.loc.getD j LO.dead).frz with
        | false =>
          have := R.inv.inj _ _ _ _ _ p3 (h3 hf).1
          subst this; simp [Lc.hp] at p2
        | true =>
          obtain ⟨u', hu'⟩ := h4 hf i hi
          rw [R.inv.disj _ _ _ _ p3 p4] at hu'; simp at hu'
    · obtain ⟨u, hu⟩ := h4 hf i hi
      exact ⟨u, hle.Φ _ _ _ hu⟩
  · cases hp : S.pu with
    | false =>
      simp only
      intro l hl
      have := (B.heap hp).1 l hl
      have hpu' : pu = false := by cases pu <;> simp_all
      subst hpu'
      exact GOR.le (g := g') ⟨fun _ _ _ h => h, fun _ _ h => h, fun _ _ h => h⟩ (fun p hp' => hp') (fun _ o _ p hp' => hp') this
    | true =>
      simp only
      intro l hl
      have hno : ∀ b o, ¬ (FrAt (g.sub S.pu) w).M0 b o := fun b o hm => by
        obtain ⟨c, k, p1, _⟩ := hM _ _ hm; rw [hp] at p1; simp at p1
      have hH := R.heap l hl
      have hG : ∀ p, g.ρ (.G l) = some p → (g.back g' S.pu dst).ρ (.G l) = some p := fun p hp' => by show (match S.pu with | true => _ | false => _) = _; rw [hp]; exact hp'
      have hGC : ∀ o p, g.ρ (.GC l o) = some p → (g.back g' S.pu dst).ρ (.GC l o) = some p := fun o p hp' => by show (match S.pu with | true => _ | false => _) = _; rw [hp]; exact hp'
      rw [hp] at hG hGC hle
      cases ho : s.H.getD l .dead with
      | cells n cs own =>
        rw [ho] at hH
        obtain ⟨b, q1, q2, q3, q4⟩ := hH
        refine ⟨b, hle.γ _ _ q1, q2, fun h => ⟨hG _ (q3 h).1, hle.S _ _ (q3 h).2⟩, fun i hi => ?_⟩
        obtain ⟨u, u1, u2⟩ := q4 i hi
        refine ⟨u, ?_, u2.le hle (fun _ p h => hGC _ _ h)⟩
        rw [J.fcell _ _ (cell_lt u1) (hno _ _)]; exact u1
      | map kk ag es =>
        rw [ho] at hH
        obtain ⟨b, en, cl, q1, q2, q3, q4⟩ := hH
        refine ⟨b, en, cl, hle.γ _ _ q1, ?_, fun h => hG _ (q3 h), q4.imp fun _ _ => MapR.le hle⟩
        rw [J.fblk _ (Array.getElem?_eq_some_iff.1 q2).1 (hno _)]; exact q2
      | dead => trivial
  · cases hp : S.pu with
    | false => exact (B.heap hp).2
    | true =>
      intro l hl
      show g'.γ l = none
      rw [B.still hp]; exact R.γdom l hl
  · intro h l
    have hp := hpu h
    refine ⟨?_, fun o => ?_⟩
    · show (match S.pu with | true => _ | false => _) = _
      rw [hp]; exact (R.nog h l).1
    · show (match S.pu with | true => _ | false => _) = _
      rw [hp]; exact (R.nog h l).2 o
  · intro h
    exact B.still (hpu h)
end
end Go.Proofs.DenT
end
section
namespace Go.Proofs.DenT
set_option linter.unusedVariables false
set_option linter.unusedSimpArgs false
open Go
section
variable {Pg : Program} {fr : Fr} {pu : Bool} {g : Gh} {s : St} {a : Act} {w : World} {Γ : Env} {o : Oper}
theorem GOR.pure {l : Nat} {x : HO} (h : GOR g pu l x w) : GOR g true l x w := by
  cases x with
  | cells n cs own =>
    obtain ⟨b, h1, h2, h3, h4⟩ := h
    refine ⟨b, h1, h2, fun q => by simp at q, fun i hi => ?_⟩
    obtain ⟨v, q1, q2⟩ := h4 i hi
    exact ⟨v, q1, q2.1, q2.2.1, fun q => by simp at q⟩
  | map kk ag es =>
    obtain ⟨b, en, cl, h1, h2, h3, h4⟩ := h
    exact ⟨b, en, cl, h1, h2, fun q => by simp at q, h4⟩
  | dead => trivial
theorem GOR.of (R : Rel fr pu g s a w) {p : Bool} (hp : pu = true → p = true) (l : Nat) (hl : l < s.H.length) : GOR g p l (s.H.getD l .dead) w := by
  have := R.heap l hl
  cases p with
  | true => exact this.pure
  | false => cases pu <;> simp_all
theorem flat_one {S : Sem} {xs : List AV} {H : Heap} (hf : S.outs.all Sh.flat = true) : ∀ {Φ γ Φ' γ'} {v : Value}, RV Φ γ v (oneOr (S.run xs H).out) → RV Φ' γ' v (oneOr (S.run xs H).out) := by
  intro Φ γ Φ' γ' v h
  have key : ∀ (hs : List Sh) (t : Tup hs), hs.all Sh.flat = true → ∀ i, i < (Tup.inj hs t).length → ∀ v, RV Φ γ v ((Tup.inj hs t).getD i .junk) → RV Φ' γ' v ((Tup.inj hs t).getD i .junk) := by
    intro hs
    induction hs with
    | nil => intro t _ i hi; simp [Tup.inj] at hi
    | cons h hs ih =>
      intro t ha i hi v hv
      simp only [List.all_cons, Bool.and_eq_true] at ha
      simp only [Tup.inj] at hi hv ⊢
      cases i with
      | zero =>
        simp only [List.getD_cons_zero] at hv ⊢
        cases h <;> simp [Sh.flat] at ha <;> simp only [Sh.inj] at hv ⊢ <;> cases hv <;> constructor
      | succ i =>
        simp only [List.getD_cons_succ] at hv ⊢
        exact ih t.2 ha.2 i (by simpa using hi) v hv
  have hk := key S.outs (S.F (Tup.prj S.ins xs) H).out hf
  have e : (S.run xs H).out = Tup.inj S.outs (S.F (Tup.prj S.ins xs) H).out := rfl
  rw [e] at h ⊢
  generalize Tup.inj S.outs (S.F (Tup.prj S.ins xs) H).out = l at *
  match l, hk, h with
  | [x], hk, h => exact hk 0 (by simp) v h
  | [], hk, h => cases h with | tp cs _ hn hr => exact .tp cs _ hn (fun i hi => by simp at hi)
  | x :: y :: l, hk, h => cases h with | tp cs _ hn hr => exact .tp cs _ hn (fun i hi => hk i hi _ (hr i hi))
theorem flat_sl {S : Sem} {xs : List AV} {H : Heap} (hf : S.outs.all Sh.flat = true) : (∀ sz es, oneOr (S.run xs H).out ≠ .sl sz es) ∧ ∀ {g live v}, ¬ LocR g live v (oneOr (S.run xs H).out) := by
  have e : (S.run xs H).out = Tup.inj S.outs (S.F (Tup.prj S.ins xs) H).out := rfl
  rw [e]
  have key : ∀ (hs : List Sh) (t : Tup hs), hs.all Sh.flat = true → (∀ sz es, oneOr (Tup.inj hs t) ≠ .sl sz es) ∧ ∀ {g live v}, ¬ LocR g live v (oneOr (Tup.inj hs t)) := by
    intro hs t ha
    match hs, t, ha with
    | [], t, ha => exact ⟨fun _ _ q => by simp [Tup.inj, oneOr] at q, fun q => q⟩
    | [h], t, ha =>
      simp only [List.all_cons, Bool.and_eq_true] at ha
      cases h <;> simp [Sh.flat] at ha <;> exact ⟨fun _ _ q => by simp [Tup.inj, oneOr, Sh.inj] at q, fun q => q⟩
    | h :: h' :: hs, t, ha => exact ⟨fun _ _ q => by simp [Tup.inj, oneOr] at q, fun q => q⟩
  exact key _ _ hf
theorem back_res {S : Sem} {xs : List AV} {H : Heap} {g' : Gh} {v : Value} {dst : Option Nat} {p : Bool} (h : KR g' (fun _ => false) .X v S.rk (oneOr (S.run xs H).out)) (t : Nat) (ht : dst = some t) {live : Nat → Bool} :
    KR (g.back g' p dst) live (.R t) v S.rk (oneOr (S.run xs H).out) := by
  refine KR.le (g := g') (g' := g.back g' p dst) ⟨fun _ _ _ h => h, fun _ _ h => h, fun _ _ h => h⟩ (fun j hj => by simp at hj) (fun q hq => ?_) h
  show (if dst = some t then _ else _) = _
  rw [if_pos ht]; exact hq
/-- The arguments. -/
theorem args_at {as : Array Operand} {args : List Src} (h : okSrcs as.toList args = true) : (as.map a.eval).size = args.length ∧ ∀ i, i < args.length → ∃ x y, args[i]? = some y ∧ okSrc x y = true ∧ (as.map a.eval).getD i undef = a.eval x := by
  obtain ⟨l1, l2⟩ := okSrcs_spec h
  refine ⟨by simpa using l1, fun i hi => ?_⟩
  have hx : as.toList[i]? = some (as.toList[i]'(by omega)) := List.getElem?_eq_getElem _
  refine ⟨_, _, List.getElem?_eq_getElem hi, l2 i _ _ hx (List.getElem?_eq_getElem hi), ?_⟩
  have : i < as.size := by simpa using (show i < as.toList.length by omega)
  simp [Array.getD_eq_getD_getElem?, this]
theorem wp_enter {f : Nat} {as : Array Value} {S : Sem} {K : Act → World → Prop} {Q : Exit → Act → World → Prop} {P : Value → World → Prop} (hrun : (execOp a.eval o).run Pg w = .ok (.enter f as) w)
    (hC : Calls Pg f as w fun e w' => ∃ v, e = .returned v ∧ P v w') (hK : ∀ v w', P v w' → K (a.put o.dst v) w') : o.wp Pg a w K Q := by
  unfold Oper.wp
  rw [hrun]
  show Calls Pg f as w _
  refine hC.mono (fun e w' h => ?_)
  obtain ⟨v, rfl, hv⟩ := h
  exact hK v w' hv
theorem goes_call {pu' : Bool} {f : Nat} {args : List Src} (R : Rel fr pu g s a w) (hE : EnvOK Pg Γ) (hpu : pu = true → pu' = true) (hc : okOp Pg o.op o.type (.call pu' false f args) = true) (hg : Good (evS Γ (.call pu' false f args) s))
    (hps : ∀ b, b ∈ (evS Γ (.call pu' false f args) s).ps → b = true) :
    Goes Pg fr pu o g ⟨putR s.env o.dst (evS Γ (.call pu' false f args) s).r, s.loc, match (generalizing := false) pu' with | true => s.H | false => (evS Γ (.call pu' false f args) s).H⟩ a w := by
  simp only [okOp] at hc
  split at hc <;> try (simp at hc; done)
  rename_i f' as ts ho
  simp only [Bool.and_eq_true] at hc
  obtain ⟨h1, h2⟩ := hc
  have hff := eq_of_beq h1
  subst hff
  obtain ⟨hb, hs⟩ := hg
  have e1 : (evS Γ (.call pu' false f' args) s).bs = (Γ.at f' Sem.none).fit ((args.map (envGet s.env)).map (argX false [])) ++ (args.map (envGet s.env)).map (argB false []) ++ [true, match (generalizing := false) pu' with | true => (Γ.at f' Sem.none).pu | false => true] := rfl
  have e2 : (evS Γ (.call pu' false f' args) s).os = oksOf (args.map (envGet s.env)) := rfl
  have e3 : (evS Γ (.call pu' false f' args) s).ps = [((Γ.at f' Sem.none).run ((args.map (envGet s.env)).map (argX false [])) s.H).pre] := rfl
  have e4 : (evS Γ (.call pu' false f' args) s).r = ⟨oneOr ((Γ.at f' Sem.none).run ((args.map (envGet s.env)).map (argX false [])) s.H).out, (Γ.at f' Sem.none).rk, .yes⟩ := rfl
  have e5 : (evS Γ (.call pu' false f' args) s).H = (match (generalizing := false) pu' with | true => s.H | false => ((Γ.at f' Sem.none).run ((args.map (envGet s.env)).map (argX false [])) s.H).H) := rfl
  rw [e4, e5]
  rw [e3] at hps
  rw [e1] at hb
  rw [e2] at hs
  have hpre := hps _ List.mem_cons_self
  have hCO := hE.get hpre
  generalize hS : Γ.at f' Sem.none = S at *
  generalize hX : (args.map (envGet s.env)).map (argX false []) = xs at *
  have hfit : ∀ b, b ∈ S.fit xs → b = true := fun b h => hb b (List.mem_append_left _ (List.mem_append_left _ h))
  have hSpu : pu' = true → S.pu = true := fun h => by
    have := hb (match (generalizing := false) pu' with | true => S.pu | false => true) (by simp)
    rw [h] at this; exact this
  have hH : (match (generalizing := false) pu' with | true => s.H | false => (match (generalizing := false) pu' with | true => s.H | false => (S.run xs s.H).H)) = (match (generalizing := false) S.pu with | true => s.H | false => (S.run xs s.H).H) := by
    cases pu' with
    | true => rw [hSpu rfl]
    | false =>
      cases hp : S.pu with
      | false => rfl
      | true => exact hCO.pure hp xs s.H hfit hpre
  rw [hH]
  obtain ⟨a1, a2⟩ := args_at (a := a) h2
  obtain ⟨fn, c, f1, f2, f3⟩ := hCO.fn
  have hrun := run_callF (Pg := Pg) (w := w) (ρ := a.eval) ho rfl f1 f2 f3
  have hxl : xs.length = args.length := by rw [← hX]; simp
  have hinv : Inv (FrAt (g.sub S.pu) w) (g.sub S.pu) w := (R.inv.less (g.sub S.pu).ρ (fun c p h => (Gh.sub_le h).2.2)).at
  have hcall := hCO.calls (g.sub S.pu) w s.H (as.map a.eval) xs hinv (fun c p h => ⟨(Gh.sub_le h).1, (Gh.sub_le h).2.1⟩)
    (fun l hl => by
      have := GOR.of R (p := S.pu) (fun h => hSpu (hpu h)) l hl
      cases hp : S.pu with
      | true => rw [hp] at this; exact GOR.le (g' := g.sub true) (g := { g with ρ := fun _ => none }) ⟨fun _ _ _ h => h, fun _ _ h => h, fun _ _ h => h⟩ (fun p h => by simp at h) (fun h => by simp at h) (by
          revert this
          cases s.H.getD l HO.dead with
          | cells n cs own => exact fun ⟨b, q1, q2, q3, q4⟩ => ⟨b, q1, q2, fun h => by simp at h, fun i hi => by obtain ⟨v, p1, p2⟩ := q4 i hi; exact ⟨v, p1, p2.1, p2.2.1, fun h => by simp at h⟩⟩
          | map kk ag es => exact fun ⟨b, en, cl, q1, q2, q3, q4⟩ => ⟨b, en, cl, q1, q2, fun h => by simp at h, q4⟩
          | dead => exact fun _ => trivial)
      | false =>
        rw [hp] at this
        exact GOR.le (g' := g.sub false) ⟨fun _ _ _ h => h, fun _ _ h => h, fun _ _ h => h⟩ (fun p h => h) (fun _ i _ p h => h) this)
    R.γdom (by rw [a1, hxl]) (fun i hi => by
      obtain ⟨x, y, p1, p2, p3⟩ := a2 i (by omega)
      rw [p3]
      have hsat : (envGet s.env y).ok.sat := hs _ (by simp only [oksOf, List.map_map, List.mem_map]; exact ⟨y, List.mem_of_getElem? p1, rfl⟩)
      have hG : argB false [] (envGet s.env y) = true := hb _ (List.mem_append_left _ (List.mem_append_right _ (List.mem_map.2 ⟨envGet s.env y, List.mem_map.2 ⟨y, List.mem_of_getElem? p1, rfl⟩, rfl⟩)))
      have e : xs.getD i .junk = (envGet s.env y).x := by
        rw [← hX, List.getD_eq_getElem?_getD, List.getElem?_map, List.getElem?_map, p1]; rfl
      rw [e]
      exact (src_ok R p2 hsat).rvG hG) hfit hpre
  intro K Q hK
  refine wp_enter (S := S) (P := fun v w' => ∃ g', Back S xs s.H (g.sub S.pu) w v g' w') hrun (hcall.mono (fun e w' ⟨v, g', h1, h2⟩ => ⟨v, h1, g', h2⟩)) (fun v w' ⟨g', hB⟩ => ?_)
  exact hK v _ w' (R.back (fun h => hSpu (hpu h)) hB (fun t ht => back_res hB.res t ht))
end
end Go.Proofs.DenT
end
section
namespace Go.Proofs.DenT
set_option linter.unusedVariables false
set_option linter.unusedSimpArgs false
open Go
section
variable {Pg : Program} {fr : Fr} {pu : Bool} {g : Gh} {s : St} {a : Act} {w : World} {Γ : Env} {o : Oper}
theorem GOR.notok {g g' : Gh} {l : Nat} {x : HO} (hΦ : ∀ b o v, g.Φ b o = some v → g'.Φ b o = some v) (hγ : g'.γ = g.γ) (h : GOR g true l x w) : GOR g' true l x w := by
  have hr : ∀ {v x}, RV g.Φ g.γ v x → RV g'.Φ g'.γ v x := fun q => RV.mono hΦ (fun l b h => by rw [hγ]; exact h) q
  cases x with
  | cells n cs own => obtain ⟨b, q1, q2, q3, q4⟩ := h; exact ⟨b, by rw [hγ]; exact q1, q2, fun h => by simp at h, fun i hi => by obtain ⟨v, p1, p2⟩ := q4 i hi; exact ⟨v, p1, p2.1, hr p2.2.1, fun h => by simp at h⟩⟩
  | map kk ag es =>
    obtain ⟨b, en, cl, q1, q2, q3, q4⟩ := h
    refine ⟨b, en, cl, by rw [hγ]; exact q1, q2, fun h => by simp at h, q4.imp fun e p h => ⟨h.1, ?_⟩⟩
    have h2 := h.2
    cases ag with
    | true => exact hr h2
    | false => exact ⟨h2.1, h2.2.1, hr h2.2.2⟩
  | dead => trivial
theorem goes_enter {f : Nat} {S : Sem} {as : Array Value} {xs : List AV} {r : Reg} (R : Rel fr pu g s a w) (hCO : CallOK Pg f S) (hrun : (execOp a.eval o).run Pg w = .ok (.enter f as) w) (hpu : pu = true → S.pu = true)
    (hn : as.size = xs.length) (hrv : ∀ i, i < xs.length → RV g.Φ g.γ (as.getD i undef) (xs.getD i .junk)) (hfit : ∀ b, b ∈ S.fit xs → b = true) (hpre : (S.run xs s.H).pre = true)
    (hr : ∀ g' v t, o.dst = some t → KR g' (fun _ => false) .X v S.rk (oneOr (S.run xs s.H).out) → RegR (g.back g' S.pu o.dst) (lives s.loc) (.R t) v r) :
    Goes Pg fr pu o g ⟨putR s.env o.dst r, s.loc, match S.pu with | true => s.H | false => (S.run xs s.H).H⟩ a w := by
  have hinv : Inv (FrAt (g.sub S.pu) w) (g.sub S.pu) w := (R.inv.less (g.sub S.pu).ρ (fun c p h => (Gh.sub_le h).2.2)).at
  have hcall := hCO.calls (g.sub S.pu) w s.H as xs hinv (fun c p h => ⟨(Gh.sub_le h).1, (Gh.sub_le h).2.1⟩)
    (fun l hl => by
      have := GOR.of R (p := S.pu) hpu l hl
      cases hp : S.pu with
      | true => rw [hp] at this; exact GOR.notok (g := g) (g' := g.sub true) (fun _ _ _ h => h) rfl this
      | false =>
        rw [hp] at this
        exact GOR.le (g' := g.sub false) ⟨fun _ _ _ h => h, fun _ _ h => h, fun _ _ h => h⟩ (fun p h => h) (fun _ i _ p h => h) this)
    R.γdom hn hrv hfit hpre
  intro K Q hK
  refine wp_enter (S := S) (P := fun v w' => ∃ g', Back S xs s.H (g.sub S.pu) w v g' w') hrun (hcall.mono (fun e w' ⟨v, g', h1, h2⟩ => ⟨v, h1, g', h2⟩)) (fun v w' ⟨g', hB⟩ => ?_)
  exact hK v _ w' (R.back hpu hB (fun t ht => hr g' v t ht hB.res))
theorem reqBs_pre {α : Type} {bs : List Bool} {d : α} {r : Res α} (h : (reqBs bs d r).pre = true) : (∀ b, b ∈ bs → b = true) ∧ reqBs bs d r = r := by
  induction bs with
  | nil => exact ⟨fun b h => by simp at h, rfl⟩
  | cons b bs ih =>
    have e : reqBs (b :: bs) d r = reqB b d (reqBs bs d r) := rfl
    rw [e] at h ⊢
    cases b with
    | false => simp [reqB, fail] at h
    | true =>
      obtain ⟨h1, h2⟩ := ih h
      refine ⟨fun b hb => ?_, h2⟩
      rcases List.mem_cons.1 hb with q | q
      · exact q
      · exact h1 b q
theorem nfs_id : ∀ (outs : List Sh) (l : List AV), l.length = outs.length → (∀ b, b ∈ iss outs l → b = true) → nfs outs l = l
  | [], [], _, _ => rfl
  | h :: outs, x :: l, hl, hb => by
    have h1 : h.is x = true := hb _ (by simp [iss])
    have h2 := nfs_id outs l (by simpa using hl) (fun b q => hb b (by simp only [iss, List.headD_cons, List.tail_cons]; exact List.mem_cons_of_mem _ q))
    simp only [nfs, List.headD_cons, List.tail_cons, h2, nf_spec h1]
  | [], _ :: _, hl, _ => by simp at hl
  | _ :: _, [], hl, _ => by simp at hl
theorem goes_callv {pu' : Bool} {x : Src} {args : List Src} {outs : List Sh} (R : Rel fr pu g s a w) (hE : EnvOK Pg Γ) (hpu : pu = true → pu' = true) (hc : okOp Pg o.op o.type (.callv pu' x args outs) = true) (hg : Good (evS Γ (.callv pu' x args outs) s))
    (hps : ∀ b, b ∈ (evS Γ (.callv pu' x args outs) s).ps → b = true) :
    Goes Pg fr pu o g ⟨putR s.env o.dst (evS Γ (.callv pu' x args outs) s).r, s.loc, match (generalizing := false) pu' with | true => s.H | false => (evS Γ (.callv pu' x args outs) s).H⟩ a w := by
  simp only [okOp] at hc
  split at hc <;> try (simp at hc; done)
  rename_i t as ts ho
  simp only [Bool.and_eq_true] at hc
  obtain ⟨h1, h2⟩ := hc
  obtain ⟨hb, hs⟩ := hg
  have e0 : ((envGet s.env x :: args.map (envGet s.env)).tail.map (·.x)) = (args.map (envGet s.env)).map (·.x) := rfl
  have e1 : (evS Γ (.callv pu' x args outs) s).bs = (match (generalizing := false) pu' with | true => puV Γ (envGet s.env x).x | false => true) :: (envGet s.env x :: args.map (envGet s.env)).map (fun r => r.k.isG) ++ ((appV Γ (envGet s.env x).x ((args.map (envGet s.env)).map (·.x)) s.H).out.length == outs.length) :: iss outs (appV Γ (envGet s.env x).x ((args.map (envGet s.env)).map (·.x)) s.H).out := rfl
  have e2 : (evS Γ (.callv pu' x args outs) s).os = oksOf (envGet s.env x :: args.map (envGet s.env)) := rfl
  have e3 : (evS Γ (.callv pu' x args outs) s).ps = [(appV Γ (envGet s.env x).x ((args.map (envGet s.env)).map (·.x)) s.H).pre] := rfl
  have e4 : (evS Γ (.callv pu' x args outs) s).r = ⟨oneOr (nfs outs (appV Γ (envGet s.env x).x ((args.map (envGet s.env)).map (·.x)) s.H).out), .glob, .yes⟩ := rfl
  have e5 : (evS Γ (.callv pu' x args outs) s).H = (match (generalizing := false) pu' with | true => s.H | false => (appV Γ (envGet s.env x).x ((args.map (envGet s.env)).map (·.x)) s.H).H) := rfl
  rw [e4, e5]
  rw [e3] at hps
  rw [e1] at hb
  rw [e2] at hs
  have hpre := hps _ List.mem_cons_self
  have hxG : (envGet s.env x).k.isG = true := hb _ (by simp)
  have hxs : (envGet s.env x).ok.sat := hs _ (by simp [oksOf])
  have hx := (src_ok R h1 hxs).rvG hxG
  have hp0 : pu' = true → puV Γ (envGet s.env x).x = true := fun h => by
    have := hb (match (generalizing := false) pu' with | true => puV Γ (envGet s.env x).x | false => true) (by simp)
    rw [h] at this; exact this
  have hlen : (appV Γ (envGet s.env x).x ((args.map (envGet s.env)).map (·.x)) s.H).out.length = outs.length := by
    have := hb ((appV Γ (envGet s.env x).x ((args.map (envGet s.env)).map (·.x)) s.H).out.length == outs.length) (by simp)
    simpa using this
  have hiss : ∀ b, b ∈ iss outs (appV Γ (envGet s.env x).x ((args.map (envGet s.env)).map (·.x)) s.H).out → b = true := fun b q => hb b (by
    simp only [List.cons_append, List.mem_cons, List.mem_append]; exact .inr (.inr (.inr q)))
  rw [nfs_id outs _ hlen hiss]
  have hbG : ∀ y, y ∈ args → (envGet s.env y).k.isG = true ∧ (envGet s.env y).ok.sat := fun y hy =>
    ⟨hb _ (by
      simp only [List.cons_append, List.mem_cons, List.mem_append, List.map_cons, List.map_map, List.mem_map]
      exact .inr (.inr (.inl ⟨y, hy, rfl⟩))), hs _ (by
      simp only [oksOf, List.map_cons, List.map_map, List.mem_cons, List.mem_map]
      exact .inr ⟨y, hy, rfl⟩)⟩
  clear hb hs e1 e2 e3 e4 e5 e0 hps
  obtain ⟨a1, a2⟩ := args_at (a := a) h2
  generalize hxx : (envGet s.env x).x = X at *
  generalize hXS : (args.map (envGet s.env)).map (·.x) = xs at *
  have hXl : xs.length = args.length := by rw [← hXS]; simp
  have hval : a.eval (.tmp t) = a.eval (.tmp t) := rfl
  generalize hvv : a.eval (.tmp t) = v0 at hx
  cases X with
  | fn f caps =>
    cases hx with
    | fn _ cs _ hcn hcr =>
    have eA : appV Γ (.fn f caps) xs s.H = reqBs ((Γ.at f Sem.none).fit (xs ++ caps)) [] ((Γ.at f Sem.none).run (xs ++ caps) s.H) := rfl
    rw [eA] at hpre hlen hiss ⊢
    obtain ⟨hfit, eR⟩ := reqBs_pre hpre
    rw [eR] at hpre hlen hiss ⊢
    have hCO := hE.get hpre
    have hp1 : pu' = true → (Γ.at f Sem.none).pu = true := hp0
    generalize Γ.at f Sem.none = S at *
    have hH : (match (generalizing := false) pu' with | true => s.H | false => (match (generalizing := false) pu' with | true => s.H | false => (S.run (xs ++ caps) s.H).H)) = (match (generalizing := false) S.pu with | true => s.H | false => (S.run (xs ++ caps) s.H).H) := by
      cases pu' with
      | true => rw [hp1 rfl]
      | false =>
        cases hp : S.pu with
        | false => rfl
        | true => exact hCO.pure hp _ s.H hfit hpre
    rw [hH]
    obtain ⟨fn, c, f1, f2, f3⟩ := hCO.fn
    have hrun := run_callV (Pg := Pg) (w := w) (ρ := a.eval) ho hvv f1 f2 f3
    refine goes_enter R hCO hrun (fun h => hp1 (hpu h)) (by rw [Array.size_append, a1, List.length_append, hXl, hcn]) (fun i hi => ?_) hfit hpre (fun g' v t ht hk => ?_)
    · simp only [List.length_append] at hi
      rw [Array.getD_eq_getD_getElem?, List.getD_eq_getElem?_getD]
      by_cases hlt : i < args.length
      · rw [Array.getElem?_append_left (by omega), List.getElem?_append_left (by omega)]
        obtain ⟨x', y, p1, p2, p3⟩ := a2 i hlt
        rw [Array.getD_eq_getD_getElem?] at p3
        rw [p3]
        have hy := hbG y (List.mem_of_getElem? p1)
        have e : xs[i]? = some (envGet s.env y).x := by rw [← hXS, List.getElem?_map, List.getElem?_map, p1]; rfl
        rw [e]
        exact (src_ok R p2 hy.2).rvG hy.1
      · rw [Array.getElem?_append_right (by omega), List.getElem?_append_right (by omega)]
        have := hcr (i - args.length) (by omega)
        rw [Array.getD_eq_getD_getElem?, List.getD_eq_getElem?_getD] at this
        rw [a1, hXl]; exact this
    · have hk' := back_res (g := g) (p := S.pu) hk t ht (live := fun _ => false)
      show RV _ _ v _
      cases hrk : S.rk <;> rw [hrk] at hk'
      · exact hk'
      · revert hk'
        cases oneOr (S.run (xs ++ caps) s.H).out <;> intro hk' <;> first | exact hk'.elim | (have := hk'.1; simp at this)
      · exact hk'.1
      · exact hk'.1
  | _ => simp [appV, fail] at hpre
end
end Go.Proofs.DenT
end
section
namespace Go.Proofs.DenT
set_option linter.unusedVariables false
set_option linter.unusedSimpArgs false
open Go
section
variable {Pg : Program} {fr : Fr} {pu : Bool} {g : Gh} {s : St} {a : Act} {w : World} {Γ : Env} {o : Oper}
/-- The ghosts of a call that only looks: nothing turns. -/
def Gh.look (g : Gh) (w : World) : Gh := { g with Φ := fun b o => w.cell? ⟨b, o, none⟩, ρ := fun _ => none }
theorem goes_callW {pu' : Bool} {f : Nat} {args : List Src} (R : Rel fr pu g s a w) (hE : EnvOK Pg Γ) (hc : okOp Pg o.op o.type (.call pu' true f args) = true) (hg : Good (evS Γ (.call pu' true f args) s))
    (hps : ∀ b, b ∈ (evS Γ (.call pu' true f args) s).ps → b = true) :
    Goes Pg fr pu o g ⟨putR s.env o.dst (evS Γ (.call pu' true f args) s).r, s.loc, match (generalizing := false) pu' with | true => s.H | false => (evS Γ (.call pu' true f args) s).H⟩ a w := by
  simp only [okOp] at hc
  split at hc <;> try (simp at hc; done)
  rename_i f' as ts ho
  simp only [Bool.and_eq_true] at hc
  obtain ⟨h1, h2⟩ := hc
  have hff := eq_of_beq h1
  subst hff
  obtain ⟨hb, hs⟩ := hg
  have e1 : (evS Γ (.call pu' true f' args) s).bs = (Γ.at f' Sem.none).fit ((args.map (envGet s.env)).map (argX true s.loc)) ++ (args.map (envGet s.env)).map (argB true s.loc) ++ [(Γ.at f' Sem.none).outs.all Sh.flat && (Γ.at f' Sem.none).pu, match (generalizing := false) pu' with | true => (Γ.at f' Sem.none).pu | false => true] := rfl
  have e2 : (evS Γ (.call pu' true f' args) s).os = oksOf (args.map (envGet s.env)) := rfl
  have e3 : (evS Γ (.call pu' true f' args) s).ps = [((Γ.at f' Sem.none).run ((args.map (envGet s.env)).map (argX true s.loc)) s.H).pre] := rfl
  have e4 : (evS Γ (.call pu' true f' args) s).r = ⟨oneOr ((Γ.at f' Sem.none).run ((args.map (envGet s.env)).map (argX true s.loc)) s.H).out, (Γ.at f' Sem.none).rk, .yes⟩ := rfl
  have e5 : (evS Γ (.call pu' true f' args) s).H = (match (generalizing := false) pu' with | true => s.H | false => ((Γ.at f' Sem.none).run ((args.map (envGet s.env)).map (argX true s.loc)) s.H).H) := rfl
  rw [e4, e5]
  rw [e3] at hps
  rw [e1] at hb
  rw [e2] at hs
  have hpre := hps _ List.mem_cons_self
  have hCO := hE.get hpre
  generalize hS : Γ.at f' Sem.none = S at *
  generalize hX : (args.map (envGet s.env)).map (argX true s.loc) = xs at *
  have hfit : ∀ b, b ∈ S.fit xs → b = true := fun b h => hb b (List.mem_append_left _ (List.mem_append_left _ h))
  have hfl : (S.outs.all Sh.flat && S.pu) = true := hb _ (by simp)
  simp only [Bool.and_eq_true] at hfl
  obtain ⟨hflat, hSpu⟩ := hfl
  have hH : (match (generalizing := false) pu' with | true => s.H | false => (match (generalizing := false) pu' with | true => s.H | false => (S.run xs s.H).H)) = s.H := by
    cases pu' with
    | true => rfl
    | false => exact hCO.pure hSpu xs s.H hfit hpre
  rw [hH]
  obtain ⟨a1, a2⟩ := args_at (a := a) h2
  obtain ⟨fn, c, f1, f2, f3⟩ := hCO.fn
  have hrun := run_callF (Pg := Pg) (w := w) (ρ := a.eval) ho rfl f1 f2 f3
  have hxl : xs.length = args.length := by rw [← hX]; simp
  have hΦ : ∀ b o v, g.Φ b o = some v → (g.look w).Φ b o = some v := fun b o v h => R.inv.agree _ _ _ h
  have hinv : Inv (FrAt (g.look w) w) (g.look w) w :=
    { R.inv.at with
      agree := fun b o v h => h
      inj := fun c c' b n n' h => by simp [Gh.look] at h
      disj := fun c b n o h => by simp [Gh.look] at h
      tok := fun c b n h => by simp [Gh.look] at h
      mold := fun c b n o h => by simp [Gh.look] at h
      fcell := fun _ _ _ _ => rfl
      fblk := fun _ _ _ => rfl
      tab := TabQ.mono hΦ R.inv.tab
      Φle := fun _ _ _ h => h
      Φold := fun b o v h h0 _ => by rw [show (FrAt (g.look w) w).g0 = g.look w from rfl] at h0; rw [h] at h0; simp at h0 }
  have hcall := hCO.calls (g.look w) w s.H (as.map a.eval) xs hinv (fun c p h => by simp [Gh.look] at h)
    (fun l hl => by
      have := GOR.of R (p := true) (fun _ => rfl) l hl
      rw [hSpu]
      exact GOR.notok (g := g) (g' := g.look w) hΦ rfl this)
    R.γdom (by rw [a1, hxl]) (fun i hi => by
      obtain ⟨x, y, p1, p2, p3⟩ := a2 i (by omega)
      rw [p3]
      have hsat : (envGet s.env y).ok.sat := hs _ (by simp only [oksOf, List.map_map, List.mem_map]; exact ⟨y, List.mem_of_getElem? p1, rfl⟩)
      have hG : argB true s.loc (envGet s.env y) = true := hb _ (List.mem_append_left _ (List.mem_append_right _ (List.mem_map.2 ⟨envGet s.env y, List.mem_map.2 ⟨y, List.mem_of_getElem? p1, rfl⟩, rfl⟩)))
      have e : xs.getD i .junk = argX true s.loc (envGet s.env y) := by
        rw [← hX, List.getD_eq_getElem?_getD, List.getElem?_map, List.getElem?_map, p1]; rfl
      rw [e]
      have hk := src_ok R p2 hsat
      generalize envGet s.env y = r at *
      cases hkk : r.k with
      | loc =>
        simp only [argB, hkk] at hG
        simp only [argX, hkk]
        obtain ⟨b, o1, cap, _, q1, q2, q3, q4, q5, q6, q7⟩ := hk.view_at R hG
        rw [q1]
        have hcv : ∀ p : Nat × Nat, ∃ v, p.1 < r.x.lvN → p.2 < r.x.lvZ → w.cell? ⟨b, o1 + p.1 * r.x.lvZ + p.2, none⟩ = some v ∧ CR g v (((seen s.loc r.x).getD p.1 []).getD p.2 .junk) := by
          intro p
          by_cases q : p.1 < r.x.lvN ∧ p.2 < r.x.lvZ
          · obtain ⟨v, z1, z2, z3⟩ := q7 p.1 p.2 q.1 q.2; exact ⟨v, fun _ _ => ⟨z1, z2, z3⟩⟩
          · exact ⟨undef, fun z1 z2 => absurd ⟨z1, z2⟩ q⟩
        obtain ⟨V, hV⟩ := Classical.axiomOfChoice hcv
        exact .sl b o1 _ cap _ _ (fun i j => V (i, j)) q5 q2 q6 (fun i j hi hj => (hV (i, j) hi hj).1) (fun i j hi hj => RV.mono hΦ (fun _ _ h => h) (hV (i, j) hi hj).2.1) (fun i j hi hj => (hV (i, j) hi hj).2.2)
      | glob =>
        simp only [argX, hkk]
        exact RV.mono hΦ (fun _ _ h => h) (hk.rvG (by rw [hkk]; rfl))
      | own =>
        simp only [argX, hkk]
        exact RV.mono hΦ (fun _ _ h => h) (hk.rvG (by rw [hkk]; rfl))
      | nils l =>
        simp only [argX, hkk]
        exact RV.mono hΦ (fun _ _ h => h) (hk.rvG (by rw [hkk]; rfl))) hfit hpre
  refine Still.goes R (x := oneOr (S.run xs s.H).out) (k := S.rk) ?_ _ (fun g' v hk c => hk c)
  intro K Q hK
  refine wp_enter (S := S) (P := fun v w' => ∃ g', Back S xs s.H (g.look w) w v g' w') hrun (hcall.mono (fun e w' ⟨v, g', h1, h2⟩ => ⟨v, h1, g', h2⟩)) (fun v w' ⟨g', hB⟩ => ?_)
  have J := hB.inv
  have hno : ∀ b o, ¬ (FrAt (g.look w) w).M0 b o := fun b o ⟨c, k, h, _⟩ => by simp [Gh.look] at h
  have st : Step g none w w' := ⟨J.size, J.os, J.tape, J.output, fun b hb _ => J.fblk b hb (hno b), fun c0 b n h => by simp at h, J.fshp⟩
  refine hK v g w' (Gle.refl g) rfl rfl rfl (R.inv.step st) st (fun c => ?_)
  have hk := hB.res
  obtain ⟨z1, z2⟩ := flat_sl (S := S) (xs := xs) (H := s.H) hflat
  cases hrk : S.rk <;> rw [hrk] at hk
  · exact flat_one hflat hk
  · exact absurd hk z2
  · obtain ⟨_, sz, es, _, _, _, h, _⟩ := hk; exact absurd h (z1 sz es)
  · exact ⟨flat_one hflat hk.1, hk.2⟩
end
end Go.Proofs.DenT
end
section
/-! One operation of a region, guards and all. -/
namespace Go.Proofs.DenT
set_option linter.unusedVariables false
set_option linter.unusedSimpArgs false
open Go

/-! ### What must hold, taken out -/
theorem req_pre {α : Type} {p : Bool} {r : Res α} (h : (req p r).pre = true) : p = true ∧ req p r = r := by
  simp only [req, Bool.and_eq_true] at h
  obtain ⟨rfl, h2⟩ := h
  exact ⟨rfl, by simp [req]⟩
theorem reqB_pre {α : Type} {p : Bool} {d : α} {r : Res α} (h : (reqB p d r).pre = true) : p = true ∧ reqB p d r = r := by
  cases p
  · simp [reqB, fail] at h
  · exact ⟨rfl, rfl⟩
theorem reqO_pre {α : Type} {o : Ok} {r : Res α} (h : (reqO o r).pre = true) : o.sat ∧ reqO o r = r := by
  cases o with
  | yes => exact ⟨trivial, rfl⟩
  | when p => exact req_pre h
  | no => obtain ⟨h1, _⟩ := req_pre (p := false) (r := r) h; simp at h1
theorem reqOs_pre {α : Type} {os : List Ok} {r : Res α} (h : (reqOs os r).pre = true) : (∀ q, q ∈ os → q.sat) ∧ reqOs os r = r := by
  induction os with
  | nil => exact ⟨fun q h => by simp at h, rfl⟩
  | cons o os ih =>
    obtain ⟨h1, h2⟩ := reqO_pre (o := o) (r := reqOs os r) h
    have e : reqOs (o :: os) r = reqO o (reqOs os r) := rfl
    rw [e, h2] at h ⊢
    obtain ⟨h3, h4⟩ := ih h
    refine ⟨fun q hq => ?_, h4⟩
    rcases List.mem_cons.1 hq with e | e
    · rw [e]; exact h1
    · exact h3 q e
theorem reqPs_pre {α : Type} {ps : List Bool} {r : Res α} (h : (reqPs ps r).pre = true) : (∀ q, q ∈ ps → q = true) ∧ reqPs ps r = r := by
  induction ps with
  | nil => exact ⟨fun q h => by simp at h, rfl⟩
  | cons o os ih =>
    obtain ⟨h1, h2⟩ := req_pre (p := o) (r := reqPs os r) h
    have e : reqPs (o :: os) r = req o (reqPs os r) := rfl
    rw [e, h2] at h ⊢
    obtain ⟨h3, h4⟩ := ih h
    refine ⟨fun q hq => ?_, h4⟩
    rcases List.mem_cons.1 hq with e | e
    · rw [e]; exact h1
    · exact h3 q e
theorem reqG_pre {α : Type} {g b : Bool} {r : Res α} (h : (reqG g b r).pre = true) : (g = true → b = true) ∧ reqG g b r = r := by
  cases b with
  | true => exact ⟨fun _ => rfl, rfl⟩
  | false =>
    obtain ⟨h1, h2⟩ := req_pre (p := !g) (r := r) h
    exact ⟨fun q => by subst q; simp at h1, h2⟩
theorem reqGs_pre {α : Type} {g : Bool} {bs : List Bool} {r : Res α} (h : (reqGs g bs r).pre = true) : (g = true → ∀ b, b ∈ bs → b = true) ∧ reqGs g bs r = r := by
  induction bs with
  | nil => exact ⟨fun _ b h => by simp at h, rfl⟩
  | cons o os ih =>
    obtain ⟨h1, h2⟩ := reqG_pre (b := o) (r := reqGs g os r) h
    have e : reqGs g (o :: os) r = reqG g o (reqGs g os r) := rfl
    rw [e, h2] at h ⊢
    obtain ⟨h3, h4⟩ := ih h
    refine ⟨fun hg q hq => ?_, h4⟩
    rcases List.mem_cons.1 hq with e | e
    · rw [e]; exact h1 hg
    · exact h3 hg q e
theorem imp_true {p q : Bool} (h : imp p q = true) (hp : p = true) : q = true := by subst hp; exact h
theorem reqGO_pre {α : Type} {g : Bool} {o : Ok} {r : Res α} (h : (reqGO g o r).pre = true) : (g = true → o.sat) ∧ reqGO g o r = r := by
  cases o with
  | yes => exact ⟨fun _ => trivial, rfl⟩
  | when p => obtain ⟨h1, h2⟩ := req_pre (p := imp g p) (r := r) h; exact ⟨fun hg => imp_true h1 hg, h2⟩
  | no => obtain ⟨h1, h2⟩ := req_pre (p := !g) (r := r) h; exact ⟨fun hg => by subst hg; simp at h1, h2⟩
theorem reqGOs_pre {α : Type} {g : Bool} {os : List Ok} {r : Res α} (h : (reqGOs g os r).pre = true) : (g = true → ∀ q, q ∈ os → q.sat) ∧ reqGOs g os r = r := by
  induction os with
  | nil => exact ⟨fun _ b h => by simp at h, rfl⟩
  | cons o os ih =>
    obtain ⟨h1, h2⟩ := reqGO_pre (o := o) (r := reqGOs g os r) h
    have e : reqGOs g (o :: os) r = reqGO g o (reqGOs g os r) := rfl
    rw [e, h2] at h ⊢
    obtain ⟨h3, h4⟩ := ih h
    refine ⟨fun hg q hq => ?_, h4⟩
    rcases List.mem_cons.1 hq with e | e
    · rw [e]; exact h1 hg
    · exact h3 hg q e
theorem reqGPs_pre {α : Type} {g : Bool} {ps : List Bool} {r : Res α} (h : (reqGPs g ps r).pre = true) : (g = true → ∀ q, q ∈ ps → q = true) ∧ reqGPs g ps r = r := by
  induction ps with
  | nil => exact ⟨fun _ b h => by simp at h, rfl⟩
  | cons o os ih =>
    obtain ⟨h1, h2⟩ := req_pre (p := imp g o) (r := reqGPs g os r) h
    have e : reqGPs g (o :: os) r = req (imp g o) (reqGPs g os r) := rfl
    rw [e, h2] at h ⊢
    obtain ⟨h3, h4⟩ := ih h
    refine ⟨fun hg q hq => ?_, h4⟩
    rcases List.mem_cons.1 hq with e | e
    · rw [e]; exact imp_true h1 hg
    · exact h3 hg q e

/-! ### One step -/
def Tst (e : EV) : Prop := Good e ∧ ∀ b, b ∈ e.ps → b = true
noncomputable def soft (s : St) (j : Nat) (b : Bool) : St := { s with env := upd s.env j ⟨.b b, .glob, .yes⟩ }
noncomputable def nx (Γ : Env) (o : O') (s : St) : St :=
  match o.g with
  | none => behind o (evS Γ o.op s) (evS Γ o.op s).r s
  | some (j, want, false) => behind o (evS Γ o.op s) ⟨(evS Γ o.op s).r.x, (evS Γ o.op s).r.k.view, .when ((nth s.env j Reg.junk).gP want)⟩ s
  | some (j, want, true) => match (nth s.env j Reg.junk).x.bool == want with
    | true => behind o (evS Γ o.op (soft s j want)) (evS Γ o.op (soft s j want)).r (soft s j want)
    | false => { soft s j (!want) with env := putR (soft s j (!want)).env o.dst ⟨.junk, .glob, .when false⟩ }
def Ts (Γ : Env) (o : O') (s : St) : Prop :=
  match o.g with
  | none => Tst (evS Γ o.op s)
  | some (j, want, false) => (nth s.env j Reg.junk).gB = true ∧ o.op.still = true ∧ o.op.jAt (o.op.opnds.map (envGet s.env)) = true ∧ ((nth s.env j Reg.junk).gP want = true → Tst (evS Γ o.op s))
  | some (j, want, true) => (nth s.env j Reg.junk).x.isB = true ∧ (nth s.env j Reg.junk).ok.sat ∧ ((nth s.env j Reg.junk).x.bool = want → Tst (evS Γ o.op (soft s j want)))
theorem stepU_pre {α : Type} {Γ : Env} {d : α} {o : O'} {s : St} {K : St → Res α} (h : (stepU Γ d o s K).pre = true) : Tst (evS Γ o.op s) ∧ stepU Γ d o s K = K (behind o (evS Γ o.op s) (evS Γ o.op s).r s) := by
  have e : stepU Γ d o s K = reqBs (evS Γ o.op s).bs d (reqOs (evS Γ o.op s).os (reqPs (evS Γ o.op s).ps (K (behind o (evS Γ o.op s) (evS Γ o.op s).r s)))) := rfl
  rw [e] at h ⊢
  obtain ⟨h1, e1⟩ := reqBs_pre h
  rw [e1] at h ⊢
  obtain ⟨h2, e2⟩ := reqOs_pre h
  rw [e2] at h ⊢
  obtain ⟨h3, e3⟩ := reqPs_pre h
  exact ⟨⟨⟨h1, h2⟩, h3⟩, e3⟩
theorem step_pre {α : Type} {Γ : Env} {d : α} {o : O'} {s : St} {K : St → Res α} (h : (step Γ d o s K).pre = true) : Ts Γ o s ∧ step Γ d o s K = K (nx Γ o s) := by
  obtain ⟨dst, op, g⟩ := o
  match g with
  | none => exact stepU_pre h
  | some (j, want, false) =>
    have e : step Γ d ⟨dst, op, some (j, want, false)⟩ s K = reqB (nth s.env j Reg.junk).gB d (reqB op.still d (reqB (op.jAt (op.opnds.map (envGet s.env))) d (reqGs ((nth s.env j Reg.junk).gP want) (evS Γ op s).bs (reqGOs ((nth s.env j Reg.junk).gP want) (evS Γ op s).os (reqGPs ((nth s.env j Reg.junk).gP want) (evS Γ op s).ps
      (K (behind ⟨dst, op, some (j, want, false)⟩ (evS Γ op s) ⟨(evS Γ op s).r.x, (evS Γ op s).r.k.view, .when ((nth s.env j Reg.junk).gP want)⟩ s))))))) := rfl
    rw [e] at h ⊢
    obtain ⟨h1, e1⟩ := reqB_pre h
    rw [e1] at h ⊢
    obtain ⟨h2, e2⟩ := reqB_pre h
    rw [e2] at h ⊢
    obtain ⟨h6, e6⟩ := reqB_pre h
    rw [e6] at h ⊢
    obtain ⟨h3, e3⟩ := reqGs_pre h
    rw [e3] at h ⊢
    obtain ⟨h4, e4⟩ := reqGOs_pre h
    rw [e4] at h ⊢
    obtain ⟨h5, e5⟩ := reqGPs_pre h
    exact ⟨⟨h1, h2, h6, fun q => ⟨⟨h3 q, h4 q⟩, h5 q⟩⟩, e5⟩
  | some (j, want, true) =>
    have e : step Γ d ⟨dst, op, some (j, want, true)⟩ s K = reqB (nth s.env j Reg.junk).x.isB d (reqO (nth s.env j Reg.junk).ok (match (nth s.env j Reg.junk).x.bool == want with
      | true => stepU Γ d ⟨dst, op, some (j, want, true)⟩ (soft s j want) K
      | false => K { soft s j (!want) with env := putR (soft s j (!want)).env dst ⟨.junk, .glob, .when false⟩ })) := by
      unfold step soft; rfl
    rw [e] at h ⊢
    obtain ⟨h1, e1⟩ := reqB_pre h
    rw [e1] at h ⊢
    obtain ⟨h2, e2⟩ := reqO_pre h
    rw [e2] at h ⊢
    cases hw : (nth s.env j Reg.junk).x.bool == want with
    | true =>
      rw [hw] at h
      obtain ⟨h3, e3⟩ := stepU_pre h
      refine ⟨⟨h1, h2, fun _ => h3⟩, ?_⟩
      simp only [nx, hw]
      exact e3
    | false =>
      refine ⟨⟨h1, h2, fun q => ?_⟩, ?_⟩
      · simp at hw; exact absurd q hw
      · simp only [nx, hw]
/-- A run of operations. -/
noncomputable def runs (Γ : Env) : List O' → St → St
  | [], s => s
  | o :: l, s => runs Γ l (nx Γ o s)
def Tss (Γ : Env) : List O' → St → Prop
  | [], _ => True
  | o :: l, s => Ts Γ o s ∧ Tss Γ l (nx Γ o s)
theorem steps_pre {α : Type} {Γ : Env} {d : α} : ∀ {l : List O'} {s : St} {K : St → Res α}, (steps Γ d l s K).pre = true → Tss Γ l s ∧ steps Γ d l s K = K (runs Γ l s)
  | [], s, K, h => ⟨trivial, rfl⟩
  | o :: l, s, K, h => by
    have e : steps Γ d (o :: l) s K = step Γ d o s (fun s' => steps Γ d l s' K) := rfl
    rw [e] at h ⊢
    obtain ⟨h1, e1⟩ := step_pre h
    rw [e1] at h ⊢
    obtain ⟨h2, e2⟩ := steps_pre h
    exact ⟨⟨h1, h2⟩, e2⟩
end Go.Proofs.DenT
end
section
namespace Go.Proofs.DenT
set_option linter.unusedVariables false
set_option linter.unusedSimpArgs false
open Go
/-! ### The checks of one operation of a region -/
def eqON : Option Nat → Option Nat → Bool
  | none, none => true
  | some a, some b => a == b
  | _, _ => false
theorem eqON_spec {a b : Option Nat} (h : eqON a b = true) : a = b := by
  cases a <;> cases b <;> simp [eqON] at h
  · rfl
  · rw [h]
def P.needD : P → Bool
  | .movO _ | .app _ _ _ _ | .appS _ _ _ | .lloadO _ _ _ | .hloadO _ _ => true
  | _ => false
def isSomeN : Option Nat → Bool | some _ => true | none => false
def dstAt (ops : List Oper) (i : Nat) : Option Nat := match ops[i]? with | some o => o.dst | none => none
def okG (ops : List Oper) (g : Option (Nat × Bool)) (g' : Option (Nat × Bool × Bool)) : Bool :=
  match g, g' with
  | none, none => true
  | some (i, w), some (j, w', _) => (match w with | true => w' | false => !w') && eqON (dstAt ops i) (some j)
  | _, _ => false
def chkO (Pg : Program) (pu : Bool) (ops : List Oper) (o : Oper) (o' : O') : Bool :=
  eqON o.dst o'.dst && okOp Pg o.op o.type o'.op && (match pu with | true => !o'.op.wrH | false => true) && (match o'.op.needD with | true => isSomeN o.dst | false => true) && okG ops o.guard o'.g
section
variable {Pg : Program} {fr : Fr} {pu : Bool} {g : Gh} {s : St} {a : Act} {w : World} {Γ : Env} {o : Oper}
theorem goes_still {x : AV} {k : Kd} {op : P} (R : Rel fr pu g s a w) (h : Still Pg fr o x k g s a w) (r : Reg) (hr : r = ⟨x, k, .yes⟩) : Goes Pg fr pu o g ⟨putR s.env o.dst r, s.loc, s.H⟩ a w :=
  h.goes R r (fun g' v hk c => by rw [hr]; exact hk c)
theorem op_goes {op : P} {o' : O'} (R : Rel fr pu g s a w) (hE : EnvOK Pg Γ) (ho' : o'.op = op) (hdst : o'.dst = o.dst) (hc : okOp Pg o.op o.type op = true) (hpu : pu = true → op.wrH = false) (hd : op.needD = true → ∃ d, o.dst = some d)
    (hg : Good (evS Γ op s)) (hps : ∀ b, b ∈ (evS Γ op s).ps → b = true) : Goes Pg fr pu o g (behind o' (evS Γ op s) (evS Γ op s).r s) a w := by
  obtain ⟨dst', op', g'⟩ := o'
  simp only at ho' hdst
  subst ho'; subst hdst
  cases op' with
  | mov x => exact goes_still (op := .mov x) R (still_mov R hc hg) _ rfl
  | movO t => obtain ⟨d, hd⟩ := hd rfl; exact goes_movO R hd hc hg
  | pick c x y => exact goes_still (op := .pick c x y) R (still_pick R hc hg) _ rfl
  | build z us => exact goes_still (op := .build z us) R (still_build R hc hg) _ rfl
  | bslice sz n z us => exact goes_still (op := .bslice sz n z us) R (still_bslice R hc hg) _ rfl
  | arith q k x y => exact goes_still (op := .arith q k x y) R (still_arith R hc hg) _ rfl
  | shl k yk x y => exact goes_still (op := .shl k yk x y) R (still_shl R hc hg) _ rfl
  | shr k yk x y => exact goes_still (op := .shr k yk x y) R (still_shr R hc hg) _ rfl
  | cmp q k x y => exact goes_still (op := .cmp q k x y) R (still_cmp R hc hg) _ rfl
  | beq n x y => exact goes_still (op := .beq n x y) R (still_beq R hc hg) _ rfl
  | scmp q x y => exact goes_still (op := .scmp q x y) R (still_scmp R hc hg) _ rfl
  | sadd x y => exact goes_still (op := .sadd x y) R (still_sadd R hc hg) _ rfl
  | aeq n ks x y => exact goes_still (op := .aeq n ks x y) R (still_aeq R hc hg) _ rfl
  | pnil n x => exact goes_still (op := .pnil n x) R (still_pnil R hc hg) _ rfl
  | inil n x => exact goes_still (op := .inil n x) R (still_inil R hc hg) _ rfl
  | snil n x sz => exact goes_still (op := .snil n x sz) R (still_snil R hc hg) _ rfl
  | neg k x => exact goes_still (op := .neg k x) R (still_neg R hc hg) _ rfl
  | compl k x => exact goes_still (op := .compl k x) R (still_compl R hc hg) _ rfl
  | not x => exact goes_still (op := .not x) R (still_not R hc hg) _ rfl
  | conv k0 k x => exact goes_still (op := .conv k0 k x) R (still_conv R hc hg) _ rfl
  | s2b x => exact goes_still (op := .s2b x) R (still_s2b R hc hg) _ rfl
  | b2s x => exact goes_still (op := .b2s x) R (still_b2s R hc hg) _ rfl
  | b2sV x => exact goes_still (op := .b2sV x) R (still_b2sV R hc hg) _ rfl
  | idS x => exact goes_still (op := .idS x) R (still_idS R hc hg) _ rfl
  | fld x n off h => exact goes_still (op := .fld x n off h) R (still_fld R hc hg) _ rfl
  | idxA x i ik n sz h => exact goes_still (op := .idxA x i ik n sz h) R (still_idxA R hc hg) _ rfl
  | idxS x i ik => exact goes_still (op := .idxS x i ik) R (still_idxS R hc hg) _ rfl
  | fa x off => exact goes_still (op := .fa x off) R (still_fa R hc hg) _ rfl
  | ixa x i ik sz => exact goes_still (op := .ixa x i ik sz) R (still_ixa R hc hg) _ rfl
  | ixp x i ik n sz => exact goes_still (op := .ixp x i ik n sz) R (still_ixp R hc hg) _ rfl
  | nck x => exact goes_still (op := .nck x) R (still_nck R hc hg) _ rfl
  | nckL x => exact goes_still (op := .nckL x) R (still_nckL R hc hg) _ rfl
  | iload x h => exact goes_still (op := .iload x h) R (still_iload R hc hg) _ rfl
  | lload j x h => exact goes_still (op := .lload j x h) R (still_lload R hc hg) _ rfl
  | hload x h => exact goes_still (op := .hload x h) R (still_hload R hc hg) _ rfl
  | slc x sz lo hi => exact goes_still (op := .slc x sz lo hi) R (still_slc R hc hg) _ rfl
  | clp x sz lo hi mx => exact goes_still (op := .clp x sz lo hi mx) R (still_clp R hc hg) _ rfl
  | slcS x lo hi => exact goes_still (op := .slcS x lo hi) R (still_slcS R hc hg) _ rfl
  | slcL x n sz lo hi => exact goes_still (op := .slcL x n sz lo hi) R (still_slcL R hc hg) _ rfl
  | slcI x n sz lo hi => exact goes_still (op := .slcI x n sz lo hi) R (still_slcI R hc hg) _ rfl
  | s2a x n sz => exact goes_still (op := .s2a x n sz) R (still_s2a R hc hg) _ rfl
  | mkif t x => exact goes_still (op := .mkif t x) R (still_mkif R hc hg) _ rfl
  | ext x j h => exact goes_still (op := .ext x j h) R (still_ext R hc hg) _ rfl
  | lenL x sz => exact goes_still (op := .lenL x sz) R (still_lenL R hc hg) _ rfl
  | lenV x => exact goes_still (op := .lenV x) R (still_lenV R hc hg) _ rfl
  | lenS x => exact goes_still (op := .lenS x) R (still_lenS R hc hg) _ rfl
  | lenM x => exact goes_still (op := .lenM x) R (still_lenM R hc hg) _ rfl
  | ext2 mn k x xs => exact goes_still (op := .ext2 mn k x xs) R (still_ext2 R hc hg) _ rfl
  | look x i kk z h ok => exact goes_still (op := .look x i kk z h ok) R (still_look R hc hg) _ rfl
  | mks x ik sz b z => exact goes_still (op := .mks x ik sz b z) R (still_mks R hc hg) _ rfl
  | ibox n x => exact goes_still (op := .ibox n x) R (still_ibox R hc hg) _ rfl
  | lalloc j n cs own => exact goes_lalloc R hc hg
  | lbox j n x wide => exact goes_lbox R hc hg
  | lstore j x h v => exact goes_lstore R hc hg
  | lstoreO j x t => exact goes_lstoreO R hc hg
  | lloadO j x sz => obtain ⟨d, hd⟩ := hd rfl; exact goes_lloadO R hd hc hg
  | app t y sz b => obtain ⟨d, hd⟩ := hd rfl; exact goes_app R hd hc hg
  | appS t y b => obtain ⟨d, hd⟩ := hd rfl; exact goes_appS R hd hc hg
  | mkfn f caps => exact goes_mkfn R hc hg
  | halloc n cs own => cases pu with | true => simp [P.wrH] at hpu | false => exact goes_halloc R hc hg
  | hbox n x => cases pu with | true => simp [P.wrH] at hpu | false => exact goes_hbox R hc hg
  | hstore x h v => cases pu with | true => simp [P.wrH] at hpu | false => exact goes_hstore R hc hg
  | hstoreO x t => cases pu with | true => simp [P.wrH] at hpu | false => exact goes_hstoreO R hc hg
  | hloadO x sz => cases pu with | true => simp [P.wrH] at hpu | false => obtain ⟨d, hd⟩ := hd rfl; exact goes_hloadO R hd hc hg
  | mmap kk agg => cases pu with | true => simp [P.wrH] at hpu | false => exact goes_mmap R hc
  | mupd m i v kk n => cases pu with | true => simp [P.wrH] at hpu | false => exact goes_mupd R hc hg
  | call p vw f args =>
    cases vw with
    | false =>
      have := goes_call R hE (fun h => by have := hpu h; simpa [P.wrH] using this) hc hg hps
      cases p <;> exact this
    | true =>
      have := goes_callW R hE hc hg hps
      cases p <;> exact this
  | callv p x args outs =>
    have := goes_callv R hE (fun h => by have := hpu h; simpa [P.wrH] using this) hc hg hps
    cases p <;> exact this
end
end Go.Proofs.DenT
end
section
namespace Go.Proofs.DenT
set_option linter.unusedVariables false
set_option linter.unusedSimpArgs false
open Go
section
variable {Pg : Program} {fr : Fr} {pu : Bool} {g : Gh} {s : St} {a : Act} {w : World} {Γ : Env} {o : Oper} {ops : Array Oper} {Q : Exit → Act → World → Prop}
theorem upd_upd {α : Type} (l : List α) (n : Nat) (x y : α) : upd (upd l n x) n y = upd l n y := by simp [upd_eq]
theorem Rel.view {dst : Option Nat} {x : AV} {k : Kd} (R : Rel fr pu g ⟨putR s.env dst ⟨x, k, .yes⟩, s.loc, s.H⟩ a w) : Rel fr pu g ⟨putR s.env dst ⟨x, k.view, .when true⟩, s.loc, s.H⟩ a w := by
  cases dst with
  | none => exact R
  | some d =>
    have := R.reslot d ⟨x, k.view, .when true⟩ (fun hlt => ?_)
    · have e : upd (putR s.env (some d) ⟨x, k, .yes⟩) d ⟨x, k.view, .when true⟩ = putR s.env (some d) ⟨x, k.view, .when true⟩ := upd_upd _ _ _ _
      rw [e] at this; exact this
    · have h := R.regs d hlt
      have hlt' : d < s.env.length := by
        have : d < (upd s.env d ⟨x, k, .yes⟩).length := hlt
        rwa [upd_len] at this
      have e : (putR s.env (some d) ⟨x, k, .yes⟩).getD d Reg.junk = ⟨x, k, .yes⟩ := by
        show (upd s.env d _).getD d _ = _
        rw [upd_getD, if_pos ⟨rfl, hlt'⟩]
      rw [e] at h
      exact ⟨fun _ => KR.view h, fun q => by simp at q⟩
theorem behind_still {o' : O'} {e : EV} {r : Reg} (h : o'.op.still = true) : behind o' e r s = ⟨putR s.env o'.dst r, s.loc, s.H⟩ := by
  simp only [P.still, Bool.and_eq_true, Bool.not_eq_true'] at h
  obtain ⟨⟨h1, h2⟩, h3⟩ := h
  cases hd : o'.op.demo with
  | none => simp only [behind, hd, h1, h2]
  | some t => rw [hd] at h3; simp at h3
/-- What slot j yields. -/
theorem reg_bool (R : Rel fr pu g s a w) {j : Nat} (hx : (nth s.env j Reg.junk).x.isB = true) (hs : (nth s.env j Reg.junk).ok.sat) : a.tmps[j]? = some (.bool (nth s.env j Reg.junk).x.bool) := by
  have hlt : j < s.env.length := by
    rcases Nat.lt_or_ge j s.env.length with q | q
    · exact q
    · rw [nth_eq, List.getD_eq_getElem?_getD, List.getElem?_eq_none q] at hx; simp [Reg.junk, AV.isB] at hx
  have := src_ok R (x := .tmp j) (y := .t j) (by simp [okSrc]) hs
  have hb := this.bool hx
  have hsz : j < a.tmps.size := by rw [← R.len]; exact hlt
  simp only [Act.eval, Array.getD_eq_getD_getElem?, Array.getElem?_eq_getElem hsz, envGet] at hb
  rw [Array.getElem?_eq_getElem hsz]
  simpa using hb
def boolOf : Option Value → Option Bool | some (.bool b) => some b | _ => none
theorem yielded_of {i j : Nat} {v : Option Value} (hd : dstAt ops.toList i = some j) (hv : a.tmps[j]? = v) : yielded ops a.tmps i = boolOf v := by
  unfold dstAt at hd
  split at hd
  · rename_i o ho
    have : ops[i]? = some o := by simpa using ho
    subst hv
    simp only [yielded, this, Option.bind_some, hd, boolOf]
    rfl
  · simp at hd
theorem ev_yes {op : P} (h : op.still = true) : (evS Γ op s).r.ok = .yes := by
  cases op <;> first | rfl | (simp [P.still, P.wrL, P.wrH, P.demo] at h)
theorem okG_spec {l : List Oper} {i j : Nat} {w w' sp : Bool} (h : okG l (some (i, w)) (some (j, w', sp)) = true) : w = w' ∧ dstAt l i = some j := by
  simp only [okG, Bool.and_eq_true] at h
  refine ⟨?_, eqON_spec h.2⟩
  cases w <;> cases w' <;> simp_all
theorem chkO_spec {l : List Oper} {o' : O'} (h : chkO Pg pu l o o' = true) : o'.dst = o.dst ∧ okOp Pg o.op o.type o'.op = true ∧ (pu = true → o'.op.wrH = false) ∧ (o'.op.needD = true → ∃ d, o.dst = some d) ∧ okG l o.guard o'.g = true := by
  simp only [chkO, Bool.and_eq_true] at h
  obtain ⟨⟨⟨⟨h1, h2⟩, h3⟩, h4⟩, h5⟩ := h
  refine ⟨(eqON_spec h1).symm, h2, fun q => ?_, fun q => ?_, h5⟩
  · subst q; simpa using h3
  · rw [q] at h4
    cases hd : o.dst with
    | none => rw [hd] at h4; simp [isSomeN] at h4
    | some d => exact ⟨d, rfl⟩
theorem Rel.soft (R : Rel fr pu g s a w) {j : Nat} (hx : (nth s.env j Reg.junk).x.isB = true) (hs : (nth s.env j Reg.junk).ok.sat) {b : Bool} (hb : (nth s.env j Reg.junk).x.bool = b) : Rel fr pu g (DenT.soft s j b) a w := by
  refine R.reslot j _ (fun hlt => ?_)
  have := reg_bool R hx hs
  rw [Array.getD_eq_getD_getElem?, this, hb]
  exact .b _
/-- One operation of a region: what it does to the state. -/
theorem wpOp_rel {i : Nat} {o' : O'} (R : Rel fr pu g s a w) (hE : EnvOK Pg Γ) (hi : ops[i]? = some o) (hc : chkO Pg pu ops.toList o o' = true) (hT : Ts Γ o' s) {K : Act → World → Prop}
    (hK : ∀ g' a' w', Rel fr pu g' (nx Γ o' s) a' w' → K a' w') : wpOp Pg ops Q i K a w := by
  obtain ⟨c1, c2, c3, c4, c5⟩ := chkO_spec hc
  unfold wpOp
  simp only [hi]
  obtain ⟨dst', op, gd⟩ := o'
  simp only at c1 c2 c3 c4 c5
  match gd, hg : o.guard with
  | none, none =>
    have hw : Region.wanted o (yielded ops a.tmps) = true := by simp [Region.wanted, hg]
    rw [if_pos hw]
    exact .inl (op_goes (o' := ⟨dst', op, none⟩) R hE rfl c1 c2 c3 c4 hT.1 hT.2 K Q (fun v g' w' R' => hK _ _ _ R'))
  | none, some (i', w1) => rw [hg] at c5; simp [okG] at c5
  | some (j, w1, sp), none => rw [hg] at c5; simp [okG] at c5
  | some (j, w1, false), some (i', w2) =>
    rw [hg] at c5
    obtain ⟨rfl, hd⟩ := okG_spec c5
    obtain ⟨t1, t2, _, t3⟩ := hT
    cases hp : (nth s.env j Reg.junk).gP w2 with
    | true =>
      have hsat : (nth s.env j Reg.junk).ok.sat ∧ (nth s.env j Reg.junk).x.isB = true ∧ (nth s.env j Reg.junk).x.bool = w2 := by
        revert t1 hp
        simp only [Reg.gB, Reg.gP]
        cases (nth s.env j Reg.junk).ok <;> intro t1 hp
        · refine ⟨trivial, t1, ?_⟩; cases w2 <;> simp_all [isB]
        · simp only [Bool.and_eq_true] at hp
          refine ⟨hp.1, t1, ?_⟩; have := hp.2; cases w2 <;> simp_all [isB]
        · simp at t1
      have hy := yielded_of hd (reg_bool R hsat.2.1 hsat.1)
      have hw : Region.wanted o (yielded ops a.tmps) = true := by simp [Region.wanted, hg, hy, hsat.2.2, boolOf]
      rw [if_pos hw]
      obtain ⟨g1, g2⟩ := t3 hp
      refine .inl (op_goes (o' := ⟨dst', op, some (j, w2, false)⟩) R hE rfl c1 c2 c3 c4 g1 g2 K Q (fun v g' w' R' => hK g' _ _ ?_))
      have e1 := behind_still (s := s) (e := evS Γ op s) (r := (evS Γ op s).r) t2
      rw [e1] at R'
      have e3 : nx Γ ⟨dst', op, some (j, w2, false)⟩ s = ⟨putR s.env dst' ⟨(evS Γ op s).r.x, (evS Γ op s).r.k.view, .when true⟩, s.loc, s.H⟩ := by
        simp only [nx, hp]
        exact behind_still t2
      rw [e3]
      have e4 : (evS Γ op s).r = ⟨(evS Γ op s).r.x, (evS Γ op s).r.k, .yes⟩ := by
        have := ev_yes (Γ := Γ) (s := s) t2
        cases hr : (evS Γ op s).r; rw [hr] at this; simp at this; subst this; rfl
      rw [e4] at R'
      rw [c1]
      rw [c1] at R'
      exact R'.view
    | false =>
      have hw : Region.wanted o (yielded ops a.tmps) = false := by
        have hv : boolOf a.tmps[j]? ≠ some w2 := by
          intro hb
          have hlt : j < s.env.length := by
            rcases Nat.lt_or_ge j s.env.length with q | q
            · exact q
            · rw [nth_eq, List.getD_eq_getElem?_getD, List.getElem?_eq_none q] at t1; simp [Reg.junk, Reg.gB] at t1
          have hr := R.regs j hlt
          rw [← nth_eq] at hr
          have hsz : j < a.tmps.size := by rw [← R.len]; exact hlt
          revert t1 hp hr
          simp only [Reg.gB, Reg.gP, RegR]
          have hbv : boolOf (some (a.tmps.getD j undef)) = some w2 := by
            rw [← hb, Array.getD_eq_getD_getElem?, Array.getElem?_eq_getElem hsz]; rfl
          have fin : KR g (lives s.loc) (.R j) (a.tmps.getD j undef) (nth s.env j Reg.junk).k (nth s.env j Reg.junk).x → (nth s.env j Reg.junk).x.isB = true → (nth s.env j Reg.junk).x.bool = w2 := by
            intro hk hx
            rw [hk.bool hx] at hbv
            simpa [boolOf] using hbv
          cases (nth s.env j Reg.junk).ok with
          | yes =>
            intro t1 hp hr
            have := fin hr t1
            rw [this] at hp; cases w2 <;> simp [isB] at hp
          | when q =>
            intro t1 hp hr
            cases q with
            | true =>
              have := fin (hr.1 rfl) t1
              rw [this] at hp; cases w2 <;> simp [isB] at hp
            | false =>
              rw [hr.2 rfl] at hbv; simp [boolOf, undef] at hbv
          | no => intro t1; simp at t1
        simp only [Region.wanted, hg, yielded_of hd rfl]
        exact beq_eq_false_iff_ne.2 hv
      rw [if_neg (by rw [hw]; simp)]
      refine hK g _ _ ?_
      have e3 : nx Γ ⟨dst', op, some (j, w2, false)⟩ s = ⟨putR s.env o.dst ⟨(evS Γ op s).r.x, (evS Γ op s).r.k.view, .when false⟩, s.loc, s.H⟩ := by
        simp only [nx, hp]
        rw [← c1]
        exact behind_still t2
      rw [e3]
      exact R.skip _ _ _
  | some (j, w1, true), some (i', w2) =>
    rw [hg] at c5
    obtain ⟨rfl, hd⟩ := okG_spec c5
    obtain ⟨t1, t2, t3⟩ := hT
    have hy := yielded_of hd (reg_bool R t1 t2)
    cases hq : (nth s.env j Reg.junk).x.bool == w2 with
    | true =>
      have hq' : (nth s.env j Reg.junk).x.bool = w2 := by simpa using hq
      have hw : Region.wanted o (yielded ops a.tmps) = true := by simp [Region.wanted, hg, hy, boolOf, hq']
      rw [if_pos hw]
      obtain ⟨g1, g2⟩ := t3 hq'
      have R1 := R.soft t1 t2 hq'
      refine .inl (op_goes (o' := ⟨dst', op, some (j, w2, true)⟩) R1 hE rfl c1 c2 c3 c4 g1 g2 K Q (fun v g' w' R' => hK g' _ _ ?_))
      simp only [nx, hq]
      exact R'
    | false =>
      have hq' : (nth s.env j Reg.junk).x.bool = !w2 := by
        have : (nth s.env j Reg.junk).x.bool ≠ w2 := by simpa using hq
        cases h1 : (nth s.env j Reg.junk).x.bool <;> cases w2 <;> simp_all
      have hw : Region.wanted o (yielded ops a.tmps) = false := by
        simp only [Region.wanted, hg, hy, boolOf, hq']
        cases w2 <;> rfl
      rw [if_neg (by rw [hw]; simp)]
      have R1 := R.soft t1 t2 hq'
      refine hK g _ _ ?_
      have e3 : nx Γ ⟨dst', op, some (j, w2, true)⟩ s = { DenT.soft s j (!w2) with env := putR (DenT.soft s j (!w2)).env o.dst ⟨.junk, .glob, .when false⟩ } := by
        simp only [nx, hq, c1]
      rw [e3]
      exact R1.skip _ _ _
end
end Go.Proofs.DenT
end
section
/-! Operations that do not touch each other may change places. -/
namespace Go.Proofs.DenT
set_option linter.unusedVariables false
set_option linter.unusedSimpArgs false
open Go

/-! ### Footprints -/
inductive LR where | none | one (j : Nat) | all
def P.lr : P → LR
  | .lload j _ _ => .one j
  | .lstore j _ _ _ => .one j
  | .lstoreO j _ _ => .one j
  | .lloadO j _ _ => .one j
  | .lalloc j _ _ _ => .one j
  | .lbox j _ _ _ => .one j
  | .mkfn _ _ => .all
  | .b2sV _ => .all
  | .call _ true _ _ => .all
  | _ => .none
def srcRegs : List Src → List Nat
  | [] => []
  | .t n :: l => n :: srcRegs l
  | _ :: l => srcRegs l
def optL : Option Nat → List Nat | some d => [d] | none => []
def gdL : Option (Nat × Bool × Bool) → List Nat | some (j, _, _) => [j] | none => []
def sfL : Option (Nat × Bool × Bool) → List Nat | some (j, _, true) => [j] | _ => []
def O'.rd (o : O') : List Nat := srcRegs o.op.opnds
def O'.wr (o : O') : List Nat := optL o.op.demo ++ optL o.dst
def memN (x : Nat) : List Nat → Bool | [] => false | y :: l => x == y || memN x l
def disjN : List Nat → List Nat → Bool | [], _ => true | x :: l, m => !memN x m && disjN l m
def LR.meet : LR → LR → Bool
  | .none, _ => false | _, .none => false | .one i, .one j => i == j | _, _ => true
def indep (a b : O') : Bool :=
  disjN a.wr b.rd && disjN a.wr (gdL b.g) && disjN a.wr b.wr && disjN b.wr a.rd && disjN b.wr (gdL a.g) &&
  disjN (sfL a.g) b.rd && disjN (sfL a.g) b.wr && disjN (sfL b.g) a.rd && disjN (sfL b.g) a.wr && disjN (sfL a.g) (sfL b.g) &&
  !((a.op.wrL || b.op.wrL) && a.op.lr.meet b.op.lr) && !((a.op.wrH && b.op.rdH) || (b.op.wrH && a.op.rdH))
theorem memN_spec {x : Nat} {l : List Nat} : memN x l = true ↔ x ∈ l := by
  induction l with
  | nil => simp [memN]
  | cons y l ih => simp [memN, ih]
theorem disjN_spec {l m : List Nat} (h : disjN l m = true) : ∀ x, x ∈ l → x ∉ m := by
  induction l with
  | nil => intro x hx; simp at hx
  | cons y l ih =>
    simp only [disjN, Bool.and_eq_true, Bool.not_eq_true'] at h
    intro x hx
    rcases List.mem_cons.1 hx with e | e
    · subst e; intro hm; rw [memN_spec.2 hm] at h; simp at h
    · exact ih h.2 x e

/-! ### What an operation reads -/
/-- Alike as a guard. -/
def GSame (r r' : Reg) : Prop := r = r' ∨ (r.x.isB = true ∧ r.ok.sat ∧ r' = ⟨.b r.x.bool, .glob, .yes⟩) ∨ (r'.x.isB = true ∧ r'.ok.sat ∧ r = ⟨.b r'.x.bool, .glob, .yes⟩)
theorem GSame.facts {r r' : Reg} (h : GSame r r') : r.gB = r'.gB ∧ (∀ w, r.gP w = r'.gP w) ∧ r.x.isB = r'.x.isB ∧ (r.ok.sat ↔ r'.ok.sat) ∧ r.x.bool = r'.x.bool := by
  have key : ∀ {r r' : Reg}, (r.x.isB = true ∧ r.ok.sat ∧ r' = ⟨.b r.x.bool, .glob, .yes⟩) → r.gB = r'.gB ∧ (∀ w, r.gP w = r'.gP w) ∧ r.x.isB = r'.x.isB ∧ (r.ok.sat ↔ r'.ok.sat) ∧ r.x.bool = r'.x.bool := by
    rintro ⟨x, k, ok⟩ r' ⟨h1, h2, rfl⟩
    simp only at h1 h2
    cases ok with
    | yes => exact ⟨h1, fun _ => rfl, h1, Iff.rfl, rfl⟩
    | when q => simp only [Ok.sat] at h2; subst h2; exact ⟨h1, fun _ => by simp [Reg.gP, AV.bool], h1, ⟨fun _ => trivial, fun _ => rfl⟩, rfl⟩
    | no => exact h2.elim
  rcases h with rfl | h | h
  · exact ⟨rfl, fun _ => rfl, rfl, Iff.rfl, rfl⟩
  · exact key h
  · obtain ⟨a, b, c, d, e⟩ := key h
    exact ⟨a.symm, fun w => (b w).symm, c.symm, d.symm, e.symm⟩
def LRSame (r : LR) (l l' : List LO) : Prop :=
  match r with
  | .none => True
  | .one j => nth l j LO.dead = nth l' j LO.dead
  | .all => l = l'
structure Sees (o : O') (s t : St) : Prop where
  len : s.env.length = t.env.length
  llen : s.loc.length = t.loc.length
  env : ∀ r, r ∈ o.rd → nth s.env r Reg.junk = nth t.env r Reg.junk
  gd : ∀ j, j ∈ gdL o.g → GSame (nth s.env j Reg.junk) (nth t.env j Reg.junk)
  loc : LRSame o.op.lr s.loc t.loc
  heap : o.op.rdH = true → s.H = t.H
theorem mem_srcRegs {n : Nat} {l : List Src} (h : .t n ∈ l) : n ∈ srcRegs l := by
  induction l with
  | nil => simp at h
  | cons y l ih =>
    rcases List.mem_cons.1 h with e | e
    · subst e; simp [srcRegs]
    · cases y <;> simp only [srcRegs] <;> first | exact List.mem_cons_of_mem _ (ih e) | exact ih e
theorem opnds_same {l : List Src} {e e' : List Reg} (h : ∀ r, r ∈ srcRegs l → nth e r Reg.junk = nth e' r Reg.junk) : l.map (envGet e) = l.map (envGet e') := by
  apply List.map_congr_left
  intro y hy
  cases y with
  | t n => exact h n (mem_srcRegs hy)
  | c v => rfl
  | co v => rfl

/-- A local object's operation, seen at other objects' states. -/
theorem ev_one {Γ : Env} {op : P} {j : Nat} {vs : List Reg} {loc loc' : List LO} {H : Heap} (hj : op.lr = .one j) (h : nth loc j LO.dead = nth loc' j LO.dead) (hl : loc.length = loc'.length) (hq : op.jAt vs = true) :
    (ev Γ op vs loc' H).bs = (ev Γ op vs loc H).bs ∧ (ev Γ op vs loc' H).os = (ev Γ op vs loc H).os ∧ (ev Γ op vs loc' H).ps = (ev Γ op vs loc H).ps ∧ (ev Γ op vs loc' H).r = (ev Γ op vs loc H).r ∧ (ev Γ op vs loc' H).H = (ev Γ op vs loc H).H ∧
    (op.wrL = true → ∃ lo, (ev Γ op vs loc H).loc = upd loc j lo ∧ (ev Γ op vs loc' H).loc = upd loc' j lo) := by
  cases op <;> simp only [P.lr] at hj <;> try (simp at hj; done)
  case lload j' x sh =>
    simp only [LR.one.injEq] at hj; subst hj
    have e : (rg vs 0).x.lpJ = j' := by simpa [P.jAt] using hq
    refine ⟨?_, rfl, rfl, ?_, rfl, fun q => by simp [P.wrL] at q⟩ <;> simp only [ev, lob, e, h]
  case lstore j' x sh v =>
    simp only [LR.one.injEq] at hj; subst hj
    have e : (rg vs 0).x.lpJ = j' := by simpa [P.jAt] using hq
    refine ⟨?_, rfl, rfl, rfl, rfl, fun q => ?_⟩
    · simp only [ev, lob, e, h]
    · simp only [ev, lob, e, h]; exact ⟨_, rfl, rfl⟩
  case lstoreO j' x t =>
    simp only [LR.one.injEq] at hj; subst hj
    have e : (rg vs 0).x.lpJ = j' := by simpa [P.jAt] using hq
    refine ⟨?_, rfl, rfl, rfl, rfl, fun q => ?_⟩
    · simp only [ev, lob, e, h]
    · simp only [ev, lob, e, h]; exact ⟨_, rfl, rfl⟩
  case lloadO j' x sz =>
    simp only [LR.one.injEq] at hj; subst hj
    have e : (rg vs 0).x.lpJ = j' := by simpa [P.jAt] using hq
    refine ⟨?_, rfl, rfl, ?_, rfl, fun q => ?_⟩
    · simp only [ev, lob, e, h]
    · simp only [ev, lob, e, h]
    · simp only [ev, lob, e, h]; exact ⟨_, rfl, rfl⟩
  case lalloc j' n cs own =>
    simp only [LR.one.injEq] at hj; subst hj
    refine ⟨?_, rfl, rfl, rfl, rfl, fun q => ⟨_, rfl, rfl⟩⟩
    simp only [ev, h, hl]
  case lbox j' n x wide =>
    simp only [LR.one.injEq] at hj; subst hj
    refine ⟨?_, rfl, rfl, rfl, rfl, fun q => ⟨_, rfl, rfl⟩⟩
    simp only [ev, h, hl]
  case call p vw f args => cases vw <;> simp at hj
theorem tst_jAt {Γ : Env} {op : P} {vs : List Reg} {loc : List LO} {H : Heap} (hb : ∀ b, b ∈ (ev Γ op vs loc H).bs → b = true) : op.jAt vs = true := by
  cases op <;> first | rfl | exact hb _ (by simp [ev, P.jAt])
theorem lr_none {op : P} (h : op.lr = .none) : op.rdL = false ∧ op.wrL = false := by
  cases op <;> first | exact ⟨rfl, rfl⟩ | (simp [P.lr] at h; done) | skip
  case call p vw f args => cases vw <;> first | exact ⟨rfl, rfl⟩ | (simp [P.lr] at h)
theorem lr_one {op : P} {j : Nat} (h : op.lr = .one j) : op.rdL = true := by
  cases op <;> first | rfl | (simp [P.lr] at h; done) | skip
  case call p vw f args => cases vw <;> simp [P.lr] at h
theorem wrH_rdH {op : P} (h : op.wrH = true) : op.rdH = true := by
  cases op <;> first | rfl | (simp [P.wrH] at h)
theorem demo_mem {op : P} {t : Nat} (h : op.demo = some t) : t ∈ srcRegs op.opnds := by
  cases op <;> simp only [P.demo] at h <;> first | (simp at h; done) | skip
  all_goals (simp only [Option.some.injEq] at h; subst h; simp only [P.opnds])
  case movO => simp [srcRegs]
  case lstoreO j x t => cases x <;> simp [srcRegs]
  case hstoreO x t => cases x <;> simp [srcRegs]
  case app t y sz b => cases y <;> simp [srcRegs]
  case appS t y b => cases y <;> simp [srcRegs]

/-! ### What an operation does -/
inductive LW where | none | one (j : Nat) (lo : LO) | all (l : List LO)
structure Eff where
  env : List (Nat × Reg)
  loc : LW
  H : Option Heap
noncomputable def puts (l : List (Nat × Reg)) (env : List Reg) : List Reg := l.foldl (fun e p => upd e p.1 p.2) env
noncomputable def Eff.app (e : Eff) (s : St) : St :=
  ⟨puts e.env s.env, (match e.loc with | .none => s.loc | .one j lo => upd s.loc j lo | .all l => l), (match e.H with | some h => h | none => s.H)⟩
noncomputable def effU (op : P) (dst : Option Nat) (e : EV) (r : Reg) (s : St) : Eff :=
  ⟨(match op.demo with | none => [] | some t => [(t, { nth s.env t Reg.junk with k := .glob })]) ++ (match dst with | none => [] | some d => [(d, r)]),
    (match op.wrL with | false => .none | true => match op.lr with | .one j => .one j (nth e.loc j LO.dead) | _ => .all e.loc),
    (match op.wrH with | false => none | true => some e.H)⟩
noncomputable def Eff.pre (p : Nat × Reg) (e : Eff) : Eff := ⟨p :: e.env, e.loc, e.H⟩
noncomputable def eff (Γ : Env) (o : O') (s : St) : Eff :=
  match o.g with
  | none => effU o.op o.dst (evS Γ o.op s) (evS Γ o.op s).r s
  | some (j, want, false) => effU o.op o.dst (evS Γ o.op s) ⟨(evS Γ o.op s).r.x, (evS Γ o.op s).r.k.view, .when ((nth s.env j Reg.junk).gP want)⟩ s
  | some (j, want, true) => match (nth s.env j Reg.junk).x.bool == want with
    | true => (effU o.op o.dst (evS Γ o.op (soft s j want)) (evS Γ o.op (soft s j want)).r (soft s j want)).pre (j, ⟨.b want, .glob, .yes⟩)
    | false => ⟨(j, ⟨.b (!want), .glob, .yes⟩) :: (match o.dst with | none => [] | some d => [(d, ⟨.junk, .glob, .when false⟩)]), .none, none⟩
theorem behind_eff {Γ : Env} {o : O'} {r : Reg} {s : St} (hq : o.op.jAt (o.op.opnds.map (envGet s.env)) = true) : behind o (evS Γ o.op s) r s = (effU o.op o.dst (evS Γ o.op s) r s).app s := by
  have hloc : (match o.op.wrL with | true => (evS Γ o.op s).loc | false => s.loc) = (match (effU o.op o.dst (evS Γ o.op s) r s).loc with | .none => s.loc | .one j lo => upd s.loc j lo | .all l => l) := by
    cases hw : o.op.wrL with
    | false => simp only [effU, hw]
    | true =>
      cases hl : o.op.lr with
      | none => rw [(lr_none hl).2] at hw; simp at hw
      | all => simp only [effU, hw, hl]
      | one j =>
        have hr := lr_one hl
        have := (ev_one (Γ := Γ) (loc := s.loc) (loc' := s.loc) (H := match o.op.rdH with | true => s.H | false => []) hl rfl rfl hq).2.2.2.2.2 hw
        obtain ⟨lo, h1, _⟩ := this
        have e : (evS Γ o.op s).loc = upd s.loc j lo := by
          simp only [evS, hr]; exact h1
        simp only [effU, hw, hl, e]
        rw [nth_upd]
        split
        · rfl
        · rename_i q
          have hge : s.loc.length ≤ j := by
            rcases Nat.lt_or_ge j s.loc.length with z | z
            · exact absurd ⟨rfl, z⟩ q
            · exact z
          rw [upd_eq, upd_eq, List.set_eq_of_length_le hge, List.set_eq_of_length_le hge]
  have henv : putR (match o.op.demo with | none => s.env | some t => upd s.env t { nth s.env t Reg.junk with k := .glob }) o.dst r = puts (effU o.op o.dst (evS Γ o.op s) r s).env s.env := by
    cases hd : o.op.demo <;> cases hx : o.dst <;> simp [effU, hd, hx, puts, putR]
  have hH : (match o.op.wrH with | true => (evS Γ o.op s).H | false => s.H) = (match (effU o.op o.dst (evS Γ o.op s) r s).H with | some h => h | none => s.H) := by
    cases hw : o.op.wrH <;> simp only [effU, hw]
  simp only [behind, Eff.app, St.mk.injEq]
  exact ⟨henv, hloc, hH⟩
theorem nx_eff {Γ : Env} {o : O'} {s : St} (hT : Ts Γ o s) : nx Γ o s = (eff Γ o s).app s := by
  obtain ⟨dst, op, g⟩ := o
  match g with
  | none => exact behind_eff (tst_jAt hT.1.1)
  | some (j, want, false) => exact behind_eff (o := ⟨dst, op, some (j, want, false)⟩) hT.2.2.1
  | some (j, want, true) =>
    cases hq : (nth s.env j Reg.junk).x.bool == want with
    | true =>
      have hq' : (nth s.env j Reg.junk).x.bool = want := by simpa using hq
      have := behind_eff (Γ := Γ) (o := ⟨dst, op, some (j, want, true)⟩) (r := (evS Γ op (soft s j want)).r) (s := soft s j want) (tst_jAt (hT.2.2 hq').1.1)
      simp only [nx, eff, hq]
      rw [this]
      simp only [Eff.app, Eff.pre, puts, soft, List.foldl_cons]
    | false =>
      simp only [nx, eff, hq, Eff.app, puts, soft]
      cases dst <;> simp [putR]
end Go.Proofs.DenT
end
section
namespace Go.Proofs.DenT
set_option linter.unusedVariables false
set_option linter.unusedSimpArgs false
open Go
variable {Γ : Env}
def LocSame (op : P) (e e' : EV) : Prop := op.wrL = true → match op.lr with | .one j => nth e'.loc j LO.dead = nth e.loc j LO.dead | _ => e'.loc = e.loc
theorem LocSame.refl (op : P) (e : EV) : LocSame op e e := by
  intro _
  cases op.lr <;> rfl
theorem evS_full {op : P} {s t : St} (hvs : op.opnds.map (envGet s.env) = op.opnds.map (envGet t.env)) (hH : op.rdH = true → s.H = t.H) (hL : op.rdL = true → s.loc = t.loc) : evS Γ op t = evS Γ op s := by
  have e1 : (match op.rdL with | true => t.loc | false => []) = (match op.rdL with | true => s.loc | false => []) := by
    cases h : op.rdL with
    | true => simp only [hL h]
    | false => rfl
  have e2 : (match op.rdH with | true => t.H | false => []) = (match op.rdH with | true => s.H | false => []) := by
    cases h : op.rdH with
    | true => simp only [hH h]
    | false => rfl
  show ev Γ op _ _ _ = ev Γ op _ _ _
  rw [hvs]
  congr 1
theorem evS_same {op : P} {s t : St} (hvs : op.opnds.map (envGet s.env) = op.opnds.map (envGet t.env)) (hll : s.loc.length = t.loc.length) (hloc : LRSame op.lr s.loc t.loc) (hH : op.rdH = true → s.H = t.H) (hq : op.jAt (op.opnds.map (envGet s.env)) = true) :
    (evS Γ op t).bs = (evS Γ op s).bs ∧ (evS Γ op t).os = (evS Γ op s).os ∧ (evS Γ op t).ps = (evS Γ op s).ps ∧ (evS Γ op t).r = (evS Γ op s).r ∧ (evS Γ op t).H = (evS Γ op s).H ∧
    LocSame op (evS Γ op s) (evS Γ op t) := by
  have full : (op.rdL = true → s.loc = t.loc) → (evS Γ op t).bs = (evS Γ op s).bs ∧ (evS Γ op t).os = (evS Γ op s).os ∧ (evS Γ op t).ps = (evS Γ op s).ps ∧ (evS Γ op t).r = (evS Γ op s).r ∧ (evS Γ op t).H = (evS Γ op s).H ∧
    LocSame op (evS Γ op s) (evS Γ op t) := by
    intro h
    rw [evS_full hvs hH h]
    exact ⟨rfl, rfl, rfl, rfl, rfl, LocSame.refl _ _⟩
  cases hl : op.lr with
  | none => exact full (fun q => by rw [(lr_none hl).1] at q; simp at q)
  | all => rw [hl] at hloc; exact full (fun _ => hloc)
  | one j =>
    rw [hl] at hloc
    have e2 : (match op.rdH with | true => t.H | false => []) = (match op.rdH with | true => s.H | false => []) := by
      cases h : op.rdH with
      | true => simp only [hH h]
      | false => rfl
    have hr := lr_one hl
    obtain ⟨k1, k2, k3, k4, k5, k6⟩ := ev_one (Γ := Γ) (H := match op.rdH with | true => s.H | false => []) hl hloc hll hq
    have es : evS Γ op s = ev Γ op (op.opnds.map (envGet s.env)) s.loc (match op.rdH with | true => s.H | false => []) := by
      show ev Γ op (op.opnds.map (envGet s.env)) (match op.rdL with | true => s.loc | false => []) (match op.rdH with | true => s.H | false => []) = _
      rw [hr]
    have et : evS Γ op t = ev Γ op (op.opnds.map (envGet s.env)) t.loc (match op.rdH with | true => s.H | false => []) := by
      show ev Γ op (op.opnds.map (envGet t.env)) (match op.rdL with | true => t.loc | false => []) (match op.rdH with | true => t.H | false => []) = _
      rw [hr, hvs]
      exact congrArg (ev Γ op _ _) e2
    rw [es, et]
    refine ⟨k1, k2, k3, k4, k5, fun q => ?_⟩
    obtain ⟨lo, p1, p2⟩ := k6 q
    rw [hl]
    simp only
    rw [p1, p2, nth_upd, nth_upd, hloc, hll]
theorem effU_same {op : P} {dst : Option Nat} {s t : St} {r : Reg} (hdemo : ∀ d, op.demo = some d → nth s.env d Reg.junk = nth t.env d Reg.junk) (hH : (evS Γ op t).H = (evS Γ op s).H)
    (hL : LocSame op (evS Γ op s) (evS Γ op t)) :
    effU op dst (evS Γ op t) r t = effU op dst (evS Γ op s) r s := by
  have h1 : (match op.demo with | none => ([] : List (Nat × Reg)) | some d => [(d, { nth t.env d Reg.junk with k := .glob })]) = (match op.demo with | none => [] | some d => [(d, { nth s.env d Reg.junk with k := .glob })]) := by
    cases hd : op.demo with
    | none => rfl
    | some d => simp only [hdemo d hd]
  have h2 : (match op.wrL with | false => LW.none | true => match op.lr with | .one j => .one j (nth (evS Γ op t).loc j LO.dead) | _ => .all (evS Γ op t).loc) = (match op.wrL with | false => LW.none | true => match op.lr with | .one j => .one j (nth (evS Γ op s).loc j LO.dead) | _ => .all (evS Γ op s).loc) := by
    cases hw : op.wrL with
    | false => rfl
    | true =>
      have := hL hw
      unfold LocSame at hL
      cases hl : op.lr <;> rw [hl] at this <;> simp only at this ⊢ <;> rw [this]
  show Eff.mk _ _ _ = Eff.mk _ _ _
  rw [hH]
  congr 1
  · congr 1
theorem tst_jAt' {op : P} {s : St} (h : Tst (evS Γ op s)) : op.jAt (op.opnds.map (envGet s.env)) = true := tst_jAt (Γ := Γ) (loc := match op.rdL with | true => s.loc | false => []) (H := match op.rdH with | true => s.H | false => []) h.1.1
theorem Sees.vs {o : O'} {s t : St} (h : Sees o s t) : o.op.opnds.map (envGet s.env) = o.op.opnds.map (envGet t.env) := opnds_same h.env
theorem Sees.demo {o : O'} {s t : St} (h : Sees o s t) (d : Nat) (hd : o.op.demo = some d) : nth s.env d Reg.junk = nth t.env d Reg.junk := h.env d (demo_mem hd)
theorem tst_same {e e' : EV} (h1 : e'.bs = e.bs) (h2 : e'.os = e.os) (h3 : e'.ps = e.ps) (h : Tst e) : Tst e' := by
  unfold Tst Good at *
  rw [h1, h2, h3]; exact h
set_option maxHeartbeats 2000000 in
theorem eff_same {o : O'} {s t : St} (h : Sees o s t) (hT : Ts Γ o s) : Ts Γ o t ∧ eff Γ o t = eff Γ o s := by
  obtain ⟨dst, op, g⟩ := o
  match g with
  | none =>
    obtain ⟨k1, k2, k3, k4, k5, k6⟩ := evS_same (Γ := Γ) h.vs h.llen h.loc h.heap (tst_jAt' hT)
    refine ⟨tst_same k1 k2 k3 hT, ?_⟩
    show effU op dst (evS Γ op t) (evS Γ op t).r t = effU op dst (evS Γ op s) (evS Γ op s).r s
    have k4' : (evS Γ op t).r = (evS Γ op s).r := k4
    rw [k4']
    exact effU_same h.demo k5 k6
  | some (j, want, false) =>
    obtain ⟨t1, t2, t3, t4⟩ := hT
    obtain ⟨k1, k2, k3, k4, k5, k6⟩ := evS_same (Γ := Γ) h.vs h.llen h.loc h.heap t3
    obtain ⟨g1, g2, g3, g4, g5⟩ := (h.gd j (by simp [gdL])).facts
    have k4' : (evS Γ op t).r = (evS Γ op s).r := k4
    refine ⟨⟨g1 ▸ t1, t2, by rw [← h.vs]; exact t3, fun q => tst_same k1 k2 k3 (t4 (by rw [g2]; exact q))⟩, ?_⟩
    show effU op dst (evS Γ op t) ⟨(evS Γ op t).r.x, (evS Γ op t).r.k.view, .when ((nth t.env j Reg.junk).gP want)⟩ t = effU op dst (evS Γ op s) ⟨(evS Γ op s).r.x, (evS Γ op s).r.k.view, .when ((nth s.env j Reg.junk).gP want)⟩ s
    rw [k4', ← g2]
    exact effU_same h.demo k5 k6
  | some (j, want, true) =>
    obtain ⟨t1, t2, t3⟩ := hT
    obtain ⟨g1, g2, g3, g4, g5⟩ := (h.gd j (by simp [gdL])).facts
    have hs : ∀ b r, r ∈ srcRegs op.opnds → nth (soft s j b).env r Reg.junk = nth (soft t j b).env r Reg.junk := by
      intro b r hr
      simp only [soft]
      rw [nth_upd, nth_upd, h.len, h.env r hr]
    have hvs : ∀ b, op.opnds.map (envGet (soft s j b).env) = op.opnds.map (envGet (soft t j b).env) := fun b => opnds_same (hs b)
    cases hq : (nth s.env j Reg.junk).x.bool == want with
    | true =>
      have hq' : (nth s.env j Reg.junk).x.bool = want := by simpa using hq
      have hqt : ((nth t.env j Reg.junk).x.bool == want) = true := by rw [← g5]; exact hq
      obtain ⟨k1, k2, k3, k4, k5, k6⟩ := evS_same (Γ := Γ) (s := soft s j want) (t := soft t j want) (hvs want) h.llen h.loc h.heap (tst_jAt' (t3 hq'))
      refine ⟨⟨g3 ▸ t1, g4.1 t2, fun _ => tst_same k1 k2 k3 (t3 hq')⟩, ?_⟩
      have hdm : ∀ d, op.demo = some d → nth (soft s j want).env d Reg.junk = nth (soft t j want).env d Reg.junk := fun d hd => hs want d (demo_mem hd)
      have fin : effU op dst (evS Γ op (soft t j want)) (evS Γ op (soft t j want)).r (soft t j want) = effU op dst (evS Γ op (soft s j want)) (evS Γ op (soft s j want)).r (soft s j want) := by
        clear hs hvs t3 hq'
        generalize soft s j want = S at *
        generalize soft t j want = T at *
        have k4' : (evS Γ op T).r = (evS Γ op S).r := k4
        rw [k4']
        exact effU_same hdm k5 k6
      simp only [eff, hq, hqt]
      exact congrArg (Eff.pre _) fin
    | false =>
      have hqt : ((nth t.env j Reg.junk).x.bool == want) = false := by rw [← g5]; exact hq
      refine ⟨⟨g3 ▸ t1, g4.1 t2, fun q => by rw [q] at hqt; simp at hqt⟩, ?_⟩
      simp only [eff, hq, hqt]
end Go.Proofs.DenT
end
section
namespace Go.Proofs.DenT
set_option linter.unusedVariables false
set_option linter.unusedSimpArgs false
open Go
variable {Γ : Env}
theorem puts_len : ∀ (l : List (Nat × Reg)) (env : List Reg), (puts l env).length = env.length
  | [], _ => rfl
  | p :: l, env => by
    have := puts_len l (upd env p.1 p.2)
    rw [upd_len] at this; exact this
theorem puts_ne : ∀ (l : List (Nat × Reg)) (env : List Reg) (r : Nat), (∀ p, p ∈ l → p.1 ≠ r) → nth (puts l env) r Reg.junk = nth env r Reg.junk
  | [], _, _, _ => rfl
  | p :: l, env, r, h => by
    have := puts_ne l (upd env p.1 p.2) r (fun q hq => h q (List.mem_cons_of_mem _ hq))
    rw [nth_upd, if_neg (fun q => h p List.mem_cons_self q.1)] at this; exact this
theorem upd_comm {α : Type} (l : List α) {i j : Nat} (x y : α) (h : i ≠ j) : upd (upd l i x) j y = upd (upd l j y) i x := by
  simp only [upd_eq]; exact List.set_comm _ _ h
theorem puts_upd : ∀ (l : List (Nat × Reg)) (env : List Reg) (i : Nat) (x : Reg), (∀ p, p ∈ l → p.1 ≠ i) → puts l (upd env i x) = upd (puts l env) i x
  | [], _, _, _, _ => rfl
  | p :: l, env, i, x, h => by
    have := puts_upd l (upd env p.1 p.2) i x (fun q hq => h q (List.mem_cons_of_mem _ hq))
    show puts l (upd (upd env i x) p.1 p.2) = upd (puts l (upd env p.1 p.2)) i x
    rw [upd_comm _ _ _ (fun e => h p List.mem_cons_self e.symm), this]
theorem puts_comm : ∀ (l m : List (Nat × Reg)) (env : List Reg), (∀ p, p ∈ l → ∀ q, q ∈ m → p.1 ≠ q.1) → puts m (puts l env) = puts l (puts m env)
  | [], _, _, _ => rfl
  | p :: l, m, env, h => by
    have := puts_comm l m (upd env p.1 p.2) (fun a ha => h a (List.mem_cons_of_mem _ ha))
    show puts m (puts l (upd env p.1 p.2)) = puts l (upd (puts m env) p.1 p.2)
    rw [this, puts_upd m env p.1 p.2 (fun q hq e => h p List.mem_cons_self q hq e.symm)]
/-- Where an effect writes. -/
theorem effU_idx {op : P} {dst : Option Nat} {e : EV} {r : Reg} {s : St} : ∀ p, p ∈ (effU op dst e r s).env → p.1 ∈ optL op.demo ++ optL dst := by
  intro p hp
  simp only [effU, List.mem_append] at hp ⊢
  rcases hp with hp | hp
  · left; cases hd : op.demo with
    | none => rw [hd] at hp; simp at hp
    | some t => rw [hd] at hp; simp at hp; subst hp; simp [optL]
  · right; cases hd : dst with
    | none => rw [hd] at hp; simp at hp
    | some t => rw [hd] at hp; simp at hp; subst hp; simp [optL]
theorem eff_idx {o : O'} {s : St} : ∀ p, p ∈ (eff Γ o s).env → p.1 ∈ o.wr ∨ p.1 ∈ sfL o.g := by
  intro p hp
  obtain ⟨dst, op, g⟩ := o
  match g with
  | none => exact .inl (effU_idx p hp)
  | some (j, want, false) => exact .inl (effU_idx p hp)
  | some (j, want, true) =>
    simp only [eff] at hp
    split at hp
    · simp only [Eff.pre, List.mem_cons] at hp
      rcases hp with hp | hp
      · right; rw [hp]; simp [sfL]
      · exact .inl (effU_idx p hp)
    · simp only [List.mem_cons] at hp
      rcases hp with hp | hp
      · right; rw [hp]; simp [sfL]
      · left
        simp only [O'.wr, List.mem_append]; right
        cases dst with
        | none => simp at hp
        | some d => simp at hp; subst hp; simp [optL]
theorem eff_loc {o : O'} {s : St} : (o.op.wrL = false → (eff Γ o s).loc = .none) ∧ (∀ j, o.op.lr = .one j → (eff Γ o s).loc = .none ∨ ∃ lo, (eff Γ o s).loc = .one j lo) ∧ (o.op.wrH = false → (eff Γ o s).H = none) := by
  have key : ∀ (e : EV) (r : Reg) (s : St), (o.op.wrL = false → (effU o.op o.dst e r s).loc = .none) ∧ (∀ j, o.op.lr = .one j → (effU o.op o.dst e r s).loc = .none ∨ ∃ lo, (effU o.op o.dst e r s).loc = .one j lo) ∧ (o.op.wrH = false → (effU o.op o.dst e r s).H = none) := by
    intro e r s
    refine ⟨fun h => by simp only [effU, h], fun j hj => ?_, fun h => by simp only [effU, h]⟩
    cases hw : o.op.wrL with
    | false => left; simp only [effU, hw]
    | true => right; simp only [effU, hw, hj]; exact ⟨_, rfl⟩
  obtain ⟨dst, op, g⟩ := o
  match g with
  | none => exact key _ _ _
  | some (j, want, false) => exact key _ _ _
  | some (j, want, true) =>
    simp only [eff]
    split
    · exact key (evS Γ op (soft s j want)) (evS Γ op (soft s j want)).r (soft s j want)
    · exact ⟨fun _ => rfl, fun _ _ => .inl rfl, fun _ => rfl⟩
theorem ev_len {op : P} {s : St} (hw : op.wrL = true) (hl : op.lr = .all) : (evS Γ op s).loc.length = s.loc.length := by
  cases op <;> simp only [P.lr, P.wrL] at hl hw <;> first | (simp at hw; done) | (simp at hl; done) | skip
  exact (freezeAll_frz _ s.loc).len
theorem eff_len {o : O'} {s : St} (l : List LO) (h : (eff Γ o s).loc = .all l) : l.length = s.loc.length := by
  have key : ∀ (r : Reg) (s : St), (effU o.op o.dst (evS Γ o.op s) r s).loc = .all l → l.length = s.loc.length := by
    intro r s h
    simp only [effU] at h
    cases hw : o.op.wrL with
    | false => rw [hw] at h; simp at h
    | true =>
      rw [hw] at h
      cases hl : o.op.lr with
      | none => rw [(lr_none hl).2] at hw; simp at hw
      | one j => rw [hl] at h; simp at h
      | all => rw [hl] at h; simp at h; rw [← h]; exact ev_len hw hl
  obtain ⟨dst, op, g⟩ := o
  match g with
  | none => exact key _ _ h
  | some (j, want, false) => exact key _ _ h
  | some (j, want, true) =>
    simp only [eff] at h
    split at h
    · exact key (evS Γ op (soft s j want)).r (soft s j want) h
    · simp at h
theorem eff_soft {o : O'} {s : St} (hT : Ts Γ o s) {j : Nat} (hj : j ∈ sfL o.g) : ∃ l, (eff Γ o s).env = (j, ⟨.b (nth s.env j Reg.junk).x.bool, .glob, .yes⟩) :: l ∧ (∀ p, p ∈ l → p.1 ∈ o.wr) ∧ (nth s.env j Reg.junk).x.isB = true ∧ (nth s.env j Reg.junk).ok.sat := by
  obtain ⟨dst, op, g⟩ := o
  match g with
  | none => simp [sfL] at hj
  | some (j', want, false) => simp [sfL] at hj
  | some (j', want, true) =>
    simp [sfL] at hj; subst hj
    obtain ⟨t1, t2, t3⟩ := hT
    cases hq : (nth s.env j Reg.junk).x.bool == want with
    | true =>
      have hq' : (nth s.env j Reg.junk).x.bool = want := by simpa using hq
      simp only [eff, hq, Eff.pre]
      exact ⟨_, by rw [hq'], fun p hp => effU_idx p hp, t1, t2⟩
    | false =>
      have hq' : (nth s.env j Reg.junk).x.bool = !want := by
        have : (nth s.env j Reg.junk).x.bool ≠ want := by simpa using hq
        cases h1 : (nth s.env j Reg.junk).x.bool <;> cases want <;> simp_all
      simp only [eff, hq]
      refine ⟨_, by rw [hq'], fun p hp => ?_, t1, t2⟩
      simp only [O'.wr, List.mem_append]; right
      cases dst with
      | none => simp at hp
      | some d => simp at hp; subst hp; simp [optL]
/-- What o has done is not seen by o'. -/
structure Unseen (o o' : O') : Prop where
  rd : ∀ r, r ∈ o'.rd → r ∉ o.wr ∧ r ∉ sfL o.g
  gd : ∀ r, r ∈ gdL o'.g → r ∉ o.wr
  loc : o.op.wrL = true → o.op.lr.meet o'.op.lr = false
  heap : o'.op.rdH = true → o.op.wrH = false
theorem nx_sees {o o' : O'} {s : St} (hU : Unseen o o') (hT : Ts Γ o s) : Sees o' (nx Γ o s) s := by
  rw [nx_eff hT]
  obtain ⟨l1, l2, l3⟩ := eff_loc (Γ := Γ) (o := o) (s := s)
  refine ⟨puts_len _ _, ?_, fun r hr => ?_, fun j hj => ?_, ?_, fun h => ?_⟩
  · show (match (eff Γ o s).loc with | .none => s.loc | .one j lo => upd s.loc j lo | .all l => l).length = _
    cases hl : (eff Γ o s).loc with
    | none => rfl
    | one j lo => exact upd_len _ _ _
    | all l => exact eff_len l hl
  · refine puts_ne _ _ r (fun p hp => ?_)
    obtain ⟨h1, h2⟩ := hU.rd r hr
    rcases eff_idx p hp with h | h
    · intro e; subst e; exact h1 h
    · intro e; subst e; exact h2 h
  · show GSame (nth (puts (eff Γ o s).env s.env) j Reg.junk) (nth s.env j Reg.junk)
    have h1 := hU.gd j hj
    by_cases hs : j ∈ sfL o.g
    · obtain ⟨l, e1, e2, e3, e4⟩ := eff_soft hT hs
      rw [e1]
      show GSame (nth (puts l (upd s.env j _)) j Reg.junk) _
      rw [puts_ne l _ j (fun p hp e => h1 (e ▸ e2 p hp)), nth_upd]
      have hlt : j < s.env.length := by
        rcases Nat.lt_or_ge j s.env.length with q | q
        · exact q
        · rw [nth_eq, List.getD_eq_getElem?_getD, List.getElem?_eq_none q] at e3; simp [Reg.junk, AV.isB] at e3
      rw [if_pos ⟨rfl, hlt⟩]
      exact .inr (.inr ⟨e3, e4, rfl⟩)
    · rw [puts_ne _ _ j (fun p hp => ?_)]
      · exact .inl rfl
      · rcases eff_idx p hp with h | h
        · intro e; subst e; exact h1 h
        · intro e; subst e; exact hs h
  · show LRSame o'.op.lr (match (eff Γ o s).loc with | .none => s.loc | .one j lo => upd s.loc j lo | .all l => l) s.loc
    cases hw : o.op.wrL with
    | false => rw [l1 hw]; cases o'.op.lr <;> simp [LRSame]
    | true =>
      have hm := hU.loc hw
      cases hl : o.op.lr with
      | none => rw [(lr_none hl).2] at hw; simp at hw
      | all => rw [hl] at hm; cases hl' : o'.op.lr <;> rw [hl'] at hm <;> simp [LR.meet] at hm; simp [LRSame]
      | one j =>
        rcases l2 j hl with e | ⟨lo, e⟩
        · rw [e]; cases o'.op.lr <;> simp [LRSame]
        · rw [e]
          cases hl' : o'.op.lr with
          | none => simp [LRSame]
          | all => rw [hl, hl'] at hm; simp [LR.meet] at hm
          | one j' =>
            rw [hl, hl'] at hm
            simp [LR.meet] at hm
            show nth (upd s.loc j lo) j' LO.dead = nth s.loc j' LO.dead
            rw [nth_upd, if_neg (fun q => hm q.1)]
  · show (match (eff Γ o s).H with | some h => h | none => s.H) = s.H
    rw [l3 (hU.heap h)]
theorem indep_unseen {a b : O'} (h : indep a b = true) : Unseen a b ∧ Unseen b a ∧ (∀ x, x ∈ a.wr ++ sfL a.g → x ∉ b.wr ++ sfL b.g) ∧ ((a.op.wrL || b.op.wrL) && a.op.lr.meet b.op.lr) = false ∧ ((a.op.wrH && b.op.rdH) || (b.op.wrH && a.op.rdH)) = false := by
  simp only [indep, Bool.and_eq_true, Bool.not_eq_true'] at h
  obtain ⟨⟨⟨⟨⟨⟨⟨⟨⟨⟨⟨h1, h2⟩, h3⟩, h4⟩, h5⟩, h6⟩, h7⟩, h8⟩, h9⟩, h10⟩, h11⟩, h12⟩ := h
  have meet_comm : ∀ x y : LR, x.meet y = y.meet x := by
    intro x y
    cases x <;> cases y <;> first | rfl | skip
    rename_i i j
    show (i == j) = (j == i)
    exact Bool.beq_comm
  have hm : ∀ w : Bool, w = true → (w && a.op.lr.meet b.op.lr) = false → a.op.lr.meet b.op.lr = false := by intro w hw h; subst hw; simpa using h
  refine ⟨⟨fun r hr => ⟨fun q => disjN_spec h1 r q hr, fun q => disjN_spec h6 r q hr⟩, fun r hr q => disjN_spec h2 r q hr, fun hw => hm _ (by simp [hw]) h11, fun hr => ?_⟩,
    ⟨fun r hr => ⟨fun q => disjN_spec h4 r q hr, fun q => disjN_spec h8 r q hr⟩, fun r hr q => disjN_spec h5 r q hr, fun hw => by rw [meet_comm]; exact hm _ (by simp [hw]) h11, fun hr => ?_⟩, fun x hx => ?_, h11, h12⟩
  · cases hw : a.op.wrH with
    | false => rfl
    | true => rw [hw, hr] at h12; simp at h12
  · cases hw : b.op.wrH with
    | false => rfl
    | true => rw [hw, hr] at h12; simp at h12
  · simp only [List.mem_append, not_or] at hx ⊢
    rcases hx with hx | hx
    · exact ⟨disjN_spec h3 x hx, fun q => disjN_spec h9 x q hx⟩
    · exact ⟨disjN_spec h7 x hx, disjN_spec h10 x hx⟩
/-- Two that do not touch each other. -/
theorem swap {a b : O'} {s : St} (h : indep a b = true) (ha : Ts Γ a s) (hb : Ts Γ b (nx Γ a s)) : Ts Γ b s ∧ Ts Γ a (nx Γ b s) ∧ nx Γ a (nx Γ b s) = nx Γ b (nx Γ a s) := by
  obtain ⟨u1, u2, u3, u4, u5⟩ := indep_unseen h
  obtain ⟨hb', eb⟩ := eff_same (nx_sees u1 ha) hb
  have s2 := nx_sees u2 hb'
  have s2' : Sees a s (nx Γ b s) := ⟨s2.len.symm, s2.llen.symm, fun r hr => (s2.env r hr).symm, fun j hj => by
    rcases s2.gd j hj with e | e | e
    · exact .inl e.symm
    · exact .inr (.inr e)
    · exact .inr (.inl e), by
    have := s2.loc
    revert this
    cases a.op.lr with
    | none => exact fun _ => trivial
    | one j => exact fun q => Eq.symm q
    | all => exact fun q => Eq.symm q, fun q => (s2.heap q).symm⟩
  obtain ⟨ha', ea⟩ := eff_same s2' ha
  refine ⟨hb', ha', ?_⟩
  rw [nx_eff ha', ea, nx_eff hb, ← eb, nx_eff ha, nx_eff hb']
  obtain ⟨l1, l2, l3⟩ := eff_loc (Γ := Γ) (o := a) (s := s)
  obtain ⟨m1, m2, m3⟩ := eff_loc (Γ := Γ) (o := b) (s := s)
  simp only [Eff.app, St.mk.injEq]
  refine ⟨?_, ?_, ?_⟩
  · refine (puts_comm _ _ _ (fun p hp q hq e => ?_)).symm
    have h1 := u3 p.1 (List.mem_append.2 (eff_idx p hp))
    exact h1 (e ▸ List.mem_append.2 (eff_idx q hq))
  · cases hwa : a.op.wrL with
    | false => rw [l1 hwa]
    | true =>
      rw [hwa] at u4
      simp only [Bool.true_or, Bool.true_and] at u4
      cases hla : a.op.lr with
      | none => rw [(lr_none hla).2] at hwa; simp at hwa
      | all =>
        cases hlb : b.op.lr with
        | none => rw [m1 (lr_none hlb).2]
        | one j => rw [hla, hlb] at u4; simp [LR.meet] at u4
        | all => rw [hla, hlb] at u4; simp [LR.meet] at u4
      | one j =>
        cases hlb : b.op.lr with
        | none => rw [m1 (lr_none hlb).2]
        | all => rw [hla, hlb] at u4; simp [LR.meet] at u4
        | one j' =>
          rw [hla, hlb] at u4; simp [LR.meet] at u4
          rcases l2 j hla with e1 | ⟨lo, e1⟩ <;> rcases m2 j' hlb with e2 | ⟨lo', e2⟩ <;> rw [e1, e2]
          exact (upd_comm _ _ _ u4).symm
  · cases hwa : a.op.wrH with
    | false => rw [l3 hwa]
    | true =>
      cases hwb : b.op.wrH with
      | false => rw [m3 hwb]
      | true => rw [hwa, wrH_rdH hwb] at u5; simp at u5
/-- What is ready may go first. -/
theorem front {x : O'} : ∀ (pre post : List O') (s : St), (∀ y, y ∈ pre → indep y x = true) → Tss Γ (pre ++ x :: post) s → Tss Γ (x :: (pre ++ post)) s ∧ runs Γ (x :: (pre ++ post)) s = runs Γ (pre ++ x :: post) s
  | [], post, s, _, h => ⟨h, rfl⟩
  | y :: pre, post, s, hi, h => by
    obtain ⟨h1, h2⟩ := h
    obtain ⟨⟨k1, k2⟩, k3⟩ := front pre post (nx Γ y s) (fun z hz => hi z (List.mem_cons_of_mem _ hz)) h2
    obtain ⟨e1, e2, e3⟩ := swap (hi y List.mem_cons_self) h1 k1
    refine ⟨⟨e1, e2, ?_⟩, ?_⟩
    · rw [e3]; exact k2
    · show runs Γ (pre ++ post) (nx Γ y (nx Γ x s)) = runs Γ (pre ++ x :: post) (nx Γ y s)
      rw [e3]; exact k3
end Go.Proofs.DenT
end
section
/-! Regions, in whatever order. -/
namespace Go.Proofs.DenT
set_option linter.unusedVariables false
set_option linter.unusedSimpArgs false
open Go

/-! ### The checks -/
def edgeB (e : Edge) : Bool := match e.ground with | .textOnly _ => false | .gcOnly _ => false | _ => true
theorem edgeB_spec (e : Edge) : edgeB e = Region.binds .any e := by
  unfold edgeB Region.binds
  cases e.ground <;> rfl
def chkOs (Pg : Program) (pu : Bool) (ops : List Oper) : List Oper → List O' → Bool
  | [], [] => true
  | o :: os, o' :: l => (match chkO Pg pu ops o o' with | true => chkOs Pg pu ops os l | false => false)
  | _, _ => false
def bmask (bs : List Nat) : List Edge → Nat
  | [] => 0
  | e :: es => match edgeB e with | true => Nat.lor (bmask bs es) (Nat.lor (Nat.pow 2 e.on) (bs.getD e.on 0)) | false => bmask bs es
def befs : List Oper → List Nat → List Nat
  | [], acc => acc
  | o :: os, acc => befs os (acc ++ [bmask acc o.after.toList])
def chkEdges : Nat → List Oper → Bool
  | _, [] => true
  | i, o :: os => o.after.toList.all (fun e => match edgeB e with | true => decide (e.on < i) | false => true) && chkEdges (i + 1) os
def chkPairs (seen : List (Nat × O')) : Nat → List O' → List Nat → Bool
  | _, [], _ => true
  | i, o :: l, bs => seen.all (fun p => match Nat.testBit (bs.headD 0) p.1 with | true => true | false => indep p.2 o) && chkPairs ((i, o) :: seen) (i + 1) l bs.tail
def chkRegion (Pg : Program) (pu draw : Bool) (ops : List Oper) (l : List O') : Bool :=
  chkOs Pg pu ops ops l && (match draw with | true => chkEdges 0 ops && chkPairs [] 0 l (befs ops []) | false => true)

theorem chkOs_spec {Pg : Program} {pu : Bool} {ops : List Oper} : ∀ {os : List Oper} {l : List O'}, chkOs Pg pu ops os l = true → os.length = l.length ∧ ∀ (i : Nat) o o', os[i]? = some o → l[i]? = some o' → chkO Pg pu ops o o' = true
  | [], [], _ => ⟨rfl, fun i o o' h => by simp at h⟩
  | [], _ :: _, h => by simp [chkOs] at h
  | _ :: _, [], h => by simp [chkOs] at h
  | o :: os, o' :: l, h => by
    simp only [chkOs] at h
    split at h <;> try (simp at h; done)
    rename_i h1
    obtain ⟨h2, h3⟩ := chkOs_spec h
    refine ⟨by simp [h2], fun i a b ha hb => ?_⟩
    cases i with
    | zero => simp at ha hb; subst ha; subst hb; exact h1
    | succ i => exact h3 i a b (by simpa using ha) (by simpa using hb)
theorem befs_spec : ∀ (os : List Oper) (acc : List Nat), (befs os acc).length = acc.length + os.length ∧ (∀ i, i < acc.length → (befs os acc).getD i 0 = acc.getD i 0) ∧
    ∀ (i : Nat) o, os[i]? = some o → ∃ bs : List Nat, bs.length = acc.length + i ∧ (∀ k, k < bs.length → bs.getD k 0 = (befs os acc).getD k 0) ∧ (befs os acc).getD (acc.length + i) 0 = bmask bs o.after.toList
  | [], acc => ⟨rfl, fun _ _ => rfl, fun i o h => by simp at h⟩
  | o :: os, acc => by
    obtain ⟨h1, h2, h3⟩ := befs_spec os (acc ++ [bmask acc o.after.toList])
    have ha : ∀ i, i < acc.length → (acc ++ [bmask acc o.after.toList]).getD i 0 = acc.getD i 0 := fun i hi => by
      rw [List.getD_eq_getElem?_getD, List.getElem?_append_left hi, List.getD_eq_getElem?_getD]
    refine ⟨by show (befs os _).length = _; rw [h1]; simp; omega, fun i hi => ?_, fun i a ha' => ?_⟩
    · show (befs os _).getD i 0 = _
      rw [h2 i (by simp; omega), ha i hi]
    · cases i with
      | zero =>
        simp at ha'; subst ha'
        refine ⟨acc, rfl, fun k hk => ?_, ?_⟩
        · show _ = (befs os _).getD k 0
          rw [h2 k (by simp; omega), ha k hk]
        · show (befs os _).getD _ 0 = _
          rw [h2 _ (by simp)]
          simp [List.getD_eq_getElem?_getD]
      | succ i =>
        obtain ⟨bs, q1, q2, q3⟩ := h3 i a (by simpa using ha')
        refine ⟨bs, by rw [q1]; simp; omega, q2, ?_⟩
        rw [← q3]
        show (befs os _).getD _ 0 = _
        congr 1; simp; omega
theorem bmask_spec {bs : List Nat} {k : Nat} : ∀ {es : List Edge}, Nat.testBit (bmask bs es) k = true → ∃ e, e ∈ es ∧ edgeB e = true ∧ (k = e.on ∨ Nat.testBit (bs.getD e.on 0) k = true)
  | [], h => by simp [bmask] at h
  | e :: es, h => by
    simp only [bmask] at h
    split at h
    · rename_i he
      have h' : Nat.testBit ((bmask bs es) ||| ((2 ^ e.on) ||| (bs.getD e.on 0))) k = true := h
      rw [Nat.testBit_or, Nat.testBit_or] at h'
      simp only [Bool.or_eq_true] at h'
      rcases h' with h' | h' | h'
      · obtain ⟨e', q1, q2⟩ := bmask_spec h'; exact ⟨e', List.mem_cons_of_mem _ q1, q2⟩
      · refine ⟨e, List.mem_cons_self, he, .inl ?_⟩
        rw [Nat.testBit_two_pow] at h'
        exact Eq.symm (by simpa using h')
      · exact ⟨e, List.mem_cons_self, he, .inr h'⟩
    · obtain ⟨e', q1, q2⟩ := bmask_spec h; exact ⟨e', List.mem_cons_of_mem _ q1, q2⟩
theorem chkEdges_spec : ∀ {os : List Oper} {n : Nat}, chkEdges n os = true → ∀ (i : Nat) o, os[i]? = some o → ∀ e, e ∈ o.after.toList → edgeB e = true → e.on < n + i
  | [], n, _, i, o, h => by simp at h
  | o0 :: os, n, h, i, o, ho => by
    simp only [chkEdges, Bool.and_eq_true] at h
    cases i with
    | zero =>
      simp at ho; subst ho
      intro e he hb
      have := List.all_eq_true.1 h.1 e he
      rw [hb] at this
      simpa using this
    | succ i =>
      intro e he hb
      have := chkEdges_spec h.2 i o (by simpa using ho) e he hb
      omega
theorem chkPairs_spec : ∀ {l : List O'} {bs : List Nat} {n : Nat} {seen : List (Nat × O')}, chkPairs seen n l bs = true → 
    (∀ (j : Nat) o, l[j]? = some o → ∀ p, p ∈ seen → Nat.testBit (bs.getD j 0) p.1 = true ∨ indep p.2 o = true) ∧
    ∀ (i j : Nat) a b, i < j → l[i]? = some a → l[j]? = some b → Nat.testBit (bs.getD j 0) (n + i) = true ∨ indep a b = true
  | [], bs, n, seen, _ => ⟨fun j o h => by simp at h, fun i j a b _ h => by simp at h⟩
  | o :: l, bs, n, seen, h => by
    simp only [chkPairs, Bool.and_eq_true] at h
    obtain ⟨h1, h2⟩ := chkPairs_spec h.2
    have hd : ∀ j, bs.getD (j + 1) 0 = bs.tail.getD j 0 := fun j => by cases bs <;> simp
    have h0 : bs.getD 0 0 = bs.headD 0 := by cases bs <;> rfl
    refine ⟨fun j a ha p hp => ?_, fun i j a b hij ha hb => ?_⟩
    · cases j with
      | zero =>
        simp at ha; subst ha
        have := List.all_eq_true.1 h.1 p hp
        rw [h0]
        split at this
        · rename_i q; exact .inl q
        · exact .inr this
      | succ j => rw [hd]; exact h1 j a (by simpa using ha) p (List.mem_cons_of_mem _ hp)
    · cases j with
      | zero => omega
      | succ j =>
        rw [hd]
        cases i with
        | zero => simp at ha; subst ha; exact h1 j b (by simpa using hb) (n, o) List.mem_cons_self
        | succ i =>
          have := h2 i j a b (by omega) (by simpa using ha) (by simpa using hb)
          rw [show n + (i + 1) = n + 1 + i from by omega]; exact this
/-- What stands before, all listed where the direct ones are. -/
theorem closure {ops : List Oper} {L : Nat → Prop} (he : chkEdges 0 ops = true) (hL : ∀ (i : Nat) o, ops[i]? = some o → L i → ∀ e, e ∈ o.after.toList → edgeB e = true → L e.on) :
    ∀ (i : Nat) o, ops[i]? = some o → (∀ e, e ∈ o.after.toList → edgeB e = true → L e.on) → ∀ k, Nat.testBit ((befs ops []).getD i 0) k = true → L k := by
  intro i
  induction i using Nat.strongRecOn with
  | _ i ih =>
    intro o ho hd k hk
    obtain ⟨_, _, h3⟩ := befs_spec ops []
    obtain ⟨bs, q1, q2, q3⟩ := h3 i o ho
    simp only [List.length_nil, Nat.zero_add] at q1 q3
    rw [q3] at hk
    obtain ⟨e, e1, e2, e3⟩ := bmask_spec hk
    have hon := chkEdges_spec he i o ho e e1 e2
    rw [Nat.zero_add] at hon
    have hLe := hd e e1 e2
    rcases e3 with rfl | e3
    · exact hLe
    · rw [q2 e.on (by omega)] at e3
      have hlen : i < ops.length := (List.getElem?_eq_some_iff.1 ho).1
      have hx : ops[e.on]? = some (ops[e.on]'(by omega)) := List.getElem?_eq_getElem _
      exact ih e.on hon _ hx (hL _ _ hx hLe) k e3
end Go.Proofs.DenT
end
section
namespace Go.Proofs.DenT
set_option linter.unusedVariables false
set_option linter.unusedSimpArgs false
open Go
section
variable {Pg : Program} {fr : Fr} {pu : Bool} {g : Gh} {s : St} {a : Act} {w : World} {Γ : Env} {ops : Array Oper} {Q : Exit → Act → World → Prop} {l : List O'}
theorem region_plain (hE : EnvOK Pg Γ) (hc : chkOs Pg pu ops.toList ops.toList l = true) : ∀ (n k : Nat) {g : Gh} {s : St} {a : Act} {w : World}, k + n = ops.size → Rel fr pu g s a w → Tss Γ (l.drop k) s →
    (∀ g' a' w', Rel fr pu g' (runs Γ (l.drop k) s) a' w' → Q .normal a' w') → wpOps Pg ops Q (List.range' k n) a w := by
  obtain ⟨c1, c2⟩ := chkOs_spec hc
  have hlen : ops.size = l.length := by simpa using c1
  intro n
  induction n with
  | zero =>
    intro k g s a w hk R hT hQ
    have : l.drop k = [] := List.drop_eq_nil_of_le (by omega)
    rw [this] at hQ
    exact hQ g a w R
  | succ n ih =>
    intro k g s a w hk R hT hQ
    have hkl : k < l.length := by omega
    have hd : l.drop k = l[k] :: l.drop (k + 1) := List.drop_eq_getElem_cons hkl
    rw [hd] at hT hQ
    have hko : k < ops.size := by omega
    have ho : ops[k]? = some ops[k] := Array.getElem?_eq_getElem hko
    rw [List.range'_succ, wpOps_cons]
    exact wpOp_rel R hE ho (c2 k _ _ (by simpa using ho) (List.getElem?_eq_getElem hkl)) hT.1 (fun g' a' w' R' => ih (k + 1) (by omega) R' hT.2 hQ)
/-- Operations with their places. -/
def tag : Nat → List O' → List (Nat × O')
  | _, [] => []
  | i, o :: l => (i, o) :: tag (i + 1) l
theorem tag_spec : ∀ (l : List O') (n : Nat), (tag n l).map (·.2) = l ∧ (∀ p, p ∈ tag n l → n ≤ p.1 ∧ l[p.1 - n]? = some p.2) ∧ (tag n l).Pairwise (fun x y => x.1 < y.1) ∧ ∀ i, i < l.length → ∃ p, p ∈ tag n l ∧ p.1 = n + i
  | [], n => ⟨rfl, fun p h => by simp [tag] at h, List.Pairwise.nil, fun i h => by simp at h⟩
  | o :: l, n => by
    obtain ⟨h1, h2, h3, h4⟩ := tag_spec l (n + 1)
    refine ⟨by simp [tag, h1], fun p hp => ?_, ?_, fun i hi => ?_⟩
    · simp only [tag, List.mem_cons] at hp
      rcases hp with rfl | hp
      · exact ⟨Nat.le_refl _, by simp⟩
      · obtain ⟨q1, q2⟩ := h2 p hp
        refine ⟨by omega, ?_⟩
        rw [show p.1 - n = (p.1 - (n + 1)) + 1 from by omega]
        simpa using q2
    · simp only [tag]
      exact List.Pairwise.cons (fun p hp => by have := (h2 p hp).1; simp only; omega) h3
    · cases i with
      | zero => exact ⟨(n, o), by simp [tag], rfl⟩
      | succ i =>
        obtain ⟨p, q1, q2⟩ := h4 i (by simpa using hi)
        exact ⟨p, by simp only [tag]; exact List.mem_cons_of_mem _ q1, by omega⟩
/-- What is left to do. -/
structure Rest (ops : Array Oper) (l : List O') (listed : Array Bool) (rem : List (Nat × O')) : Prop where
  size : listed.size = ops.size
  ord : rem.Pairwise (fun x y => x.1 < y.1)
  at_ : ∀ p, p ∈ rem → l[p.1]? = some p.2
  un : ∀ i, i < ops.size → (listed.getD i true = false ↔ ∃ p, p ∈ rem ∧ p.1 = i)
  closed : ∀ (i : Nat) o, ops[i]? = some o → listed.getD i false = true → ∀ e, e ∈ o.after.toList → edgeB e = true → listed.getD e.on false = true
theorem getD_both {xs : Array Bool} {i : Nat} (h : i < xs.size) (d d' : Bool) : xs.getD i d = xs.getD i d' := by
  rw [Array.getD_eq_getD_getElem?, Array.getD_eq_getD_getElem?, Array.getElem?_eq_getElem h]; rfl
theorem region_any (hE : EnvOK Pg Γ) (hc : chkOs Pg pu ops.toList ops.toList l = true) (he : chkEdges 0 ops.toList = true) (hp : chkPairs [] 0 l (befs ops.toList []) = true) {sf : St}
    (hQ : ∀ g' a' w', Rel fr pu g' sf a' w' → Q .normal a' w') : ∀ (fuel : Nat) {listed : Array Bool} {rem : List (Nat × O')} {g : Gh} {s : St} {a : Act} {w : World}, rem.length ≤ fuel → Rest ops l listed rem → Rel fr pu g s a w →
    Tss Γ (rem.map (·.2)) s → runs Γ (rem.map (·.2)) s = sf → wpAny Pg .any ops Q fuel listed a w := by
  obtain ⟨c1, c2⟩ := chkOs_spec hc
  have hlen : ops.size = l.length := by simpa using c1
  have hprs := (chkPairs_spec hp).2
  -- nothing is ready: nothing is left
  have done : ∀ {listed : Array Bool} {rem : List (Nat × O')}, Rest ops l listed rem → Region.ready .any ops listed = [] → rem = [] := by
    intro listed rem RR hr
    cases rem with
    | nil => rfl
    | cons p rem =>
      exfalso
      have hat := RR.at_ p List.mem_cons_self
      have hlt : p.1 < ops.size := by rw [hlen]; exact (List.getElem?_eq_some_iff.1 hat).1
      have ho : ops[p.1]? = some ops[p.1] := Array.getElem?_eq_getElem hlt
      have : p.1 ∈ Region.ready .any ops listed := by
        rw [mem_ready]
        refine ⟨(RR.un p.1 hlt).2 ⟨p, List.mem_cons_self, rfl⟩, _, ho, fun e hem hb => ?_⟩
        have hon := chkEdges_spec he p.1 ops[p.1] (by rw [Array.getElem?_toList]; exact ho) e (by simpa using hem) (by rw [edgeB_spec]; exact hb)
        rw [Nat.zero_add] at hon
        have hes : e.on < ops.size := by omega
        cases hq : listed.getD e.on false with
        | true => rfl
        | false =>
          obtain ⟨q, q1, q2⟩ := (RR.un e.on hes).1 (by rw [getD_both (by rw [RR.size]; exact hes) true false]; exact hq)
          have hord := RR.ord
          rcases List.mem_cons.1 q1 with rfl | q1
          · omega
          · have := (List.pairwise_cons.1 hord).1 q q1
            omega
      rw [hr] at this; simp at this
  intro fuel
  induction fuel with
  | zero =>
    intro listed rem g s a w hf RR R hT hs
    have hrem : rem = [] := List.eq_nil_of_length_eq_zero (by omega)
    subst hrem
    refine ⟨?_, hQ g a w (by rw [← hs]; exact R)⟩
    apply List.eq_nil_iff_forall_not_mem.2
    intro i hi
    rw [mem_ready] at hi
    obtain ⟨h0, o, ho, _⟩ := hi
    have hlt : i < ops.size := (Array.getElem?_eq_some_iff.1 ho).1
    obtain ⟨p, hp, _⟩ := (RR.un i hlt).1 h0
    simp at hp
  | succ fuel ih =>
    intro listed rem g s a w hf RR R hT hs
    refine ⟨fun hr => ?_, fun i hi => ?_⟩
    · have := done RR hr
      subst this
      exact hQ g a w (by rw [← hs]; exact R)
    · rw [mem_ready] at hi
      obtain ⟨h0, o, ho, hall⟩ := hi
      have hlt : i < ops.size := (Array.getElem?_eq_some_iff.1 ho).1
      have hlts : i < listed.size := by rw [RR.size]; exact hlt
      obtain ⟨p, hpm, rfl⟩ := (RR.un i hlt).1 h0
      obtain ⟨pre, post, hsplit⟩ := List.append_of_mem hpm
      subst hsplit
      have hat := RR.at_ p hpm
      have hord := List.pairwise_append.1 RR.ord
      have hdirect : ∀ e, e ∈ o.after.toList → edgeB e = true → listed.getD e.on false = true := fun e h1 h2 => hall e (by simpa using h1) (by rw [← edgeB_spec]; exact h2)
      have hcl := closure (L := fun k => listed.getD k false = true) he (fun i o ho => RR.closed i o (by simpa using ho)) p.1 o (by simpa using ho) hdirect
      have hind : ∀ y, y ∈ pre.map (·.2) → indep y p.2 = true := by
        intro y hy
        obtain ⟨q, q1, rfl⟩ := List.mem_map.1 hy
        have hqp : q.1 < p.1 := hord.2.2 q q1 p List.mem_cons_self
        rcases hprs q.1 p.1 _ _ hqp (RR.at_ q (List.mem_append_left _ q1)) hat with h | h
        · rw [Nat.zero_add] at h
          have h1 := hcl q.1 h
          have h2 := (RR.un q.1 (by omega)).2 ⟨q, List.mem_append_left _ q1, rfl⟩
          rw [getD_both (by rw [RR.size]; omega) true false, h1] at h2
          simp at h2
        · exact h
      rw [List.map_append, List.map_cons] at hT hs
      obtain ⟨⟨f1, f2⟩, f3⟩ := front (Γ := Γ) (pre.map (·.2)) (post.map (·.2)) s hind hT
      refine wpOp_rel R hE ho (c2 p.1 _ _ (by simpa using ho) hat) f1 (fun g' a' w' R' => ih (rem := pre ++ post) ?_ ?_ R' ?_ ?_)
      · simp at hf ⊢; omega
      · have hpair : ∀ q, q ∈ pre ++ post → q.1 ≠ p.1 := by
          intro q hq e
          rcases List.mem_append.1 hq with hq | hq
          · have := hord.2.2 q hq p List.mem_cons_self; omega
          · have := (List.pairwise_cons.1 hord.2.1).1 q hq; omega
        refine ⟨by simp [RR.size], ?_, fun q hq => RR.at_ q ?_, fun k hk => ?_, fun k ok hok hk e he1 he2 => ?_⟩
        · refine List.pairwise_append.2 ⟨hord.1, (List.pairwise_cons.1 hord.2.1).2, fun x hx y hy => hord.2.2 x hx y (List.mem_cons_of_mem _ hy)⟩
        · rcases List.mem_append.1 hq with hq | hq
          · exact List.mem_append_left _ hq
          · exact List.mem_append_right _ (List.mem_cons_of_mem _ hq)
        · by_cases hkp : p.1 = k
          · subst hkp
            constructor
            · intro h; simp [hlts] at h
            · rintro ⟨q, q1, q2⟩; exact absurd q2 (hpair q q1)
          · rw [getD_set_ne true hkp, RR.un k hk]
            constructor
            · rintro ⟨q, q1, q2⟩
              refine ⟨q, ?_, q2⟩
              rcases List.mem_append.1 q1 with q1 | q1
              · exact List.mem_append_left _ q1
              · rcases List.mem_cons.1 q1 with q1 | q1
                · subst q1; exact absurd q2 hkp
                · exact List.mem_append_right _ q1
            · rintro ⟨q, q1, q2⟩
              refine ⟨q, ?_, q2⟩
              rcases List.mem_append.1 q1 with q1 | q1
              · exact List.mem_append_left _ q1
              · exact List.mem_append_right _ (List.mem_cons_of_mem _ q1)
        · by_cases hkp : p.1 = k
          · subst hkp
            rw [ho] at hok; simp at hok; subst hok
            exact getD_set_true (hdirect e he1 he2)
          · rw [getD_set_ne false hkp] at hk
            exact getD_set_true (RR.closed k ok hok hk e he1 he2)
      · rw [List.map_append]; exact f2
      · rw [List.map_append, ← hs, ← f3]; rfl
theorem chkRegion_wp {id : Nat} {draw : Bool} (hm : Pg.follows .mixedOrders = true) (hE : EnvOK Pg Γ) (hc : chkRegion Pg pu draw ops.toList l = true) (R : Rel fr pu g s a w) (hT : Tss Γ l s)
    (hQ : ∀ g' a' w', Rel fr pu g' (runs Γ l s) a' w' → Q .normal a' w') : (Code.region id ops draw).wp Pg Q a w := by
  simp only [chkRegion, Bool.and_eq_true] at hc
  obtain ⟨c1, c2⟩ := hc
  have hlen : ops.size = l.length := by simpa using (chkOs_spec c1).1
  cases draw with
  | false =>
    refine wp_region ?_
    rw [List.range_eq_range']
    exact region_plain hE c1 ops.size 0 (by omega) R hT hQ
  | true =>
    simp only [Bool.and_eq_true] at c2
    refine wp_region_any hm ?_
    obtain ⟨t1, t2, t3, t4⟩ := tag_spec l 0
    have R' : Rel fr pu g s a { w with drawn := w.drawn + 1 } := { R with inv := { R.inv with } }
    refine region_any (l := l) hE c1 c2.1 c2.2 hQ ops.size (rem := tag 0 l) ?_ ⟨by simp, t3, fun p hp => ?_, fun i hi => ?_, fun i o ho h => ?_⟩ R' (by rw [t1]; exact hT) (by rw [t1])
    · have := congrArg List.length t1
      rw [List.length_map] at this; omega
    · simpa using (t2 p hp).2
    · constructor
      · intro _
        obtain ⟨p, q1, q2⟩ := t4 i (by omega)
        exact ⟨p, q1, by omega⟩
      · intro _; simp [hi]
    · rw [Array.getD_eq_getD_getElem?, Array.getElem?_replicate] at h
      split at h <;> simp at h
end
end Go.Proofs.DenT
end
section
/-! Code: what the compact code says is what the program's does. -/
namespace Go.Proofs.DenT
set_option linter.unusedVariables false
set_option linter.unusedSimpArgs false
open Go

/-! ### The checks -/
def okIR (objs : List InO) (r : IR) : Bool := match r.k with | .loc => (match r.h with | .lpc j => memN j (objs.map (·.j)) | _ => false) | _ => true
def eqB (a b : Bool) : Bool := match a with | true => b | false => !b
def chkC (Pg : Program) (pu : Bool) : C' → Code → Bool
  | .skip, c => (match c with | .skip => true | _ => false)
  | .ops d l, c => (match c with | .region _ ops draw => eqB d draw && chkRegion Pg pu draw ops.toList l | _ => false)
  | .seq a b, c => (match c with | .seq x y => chkC Pg pu a x && chkC Pg pu b y | _ => false)
  | .cond s a b, c => (match c with | .cond u x y => okSrc u s && chkC Pg pu a x && chkC Pg pu b y | _ => false)
  | .block id a, c => (match c with | .block id' x => id == id' && chkC Pg pu a x | _ => false)
  | .exit id, c => (match c with | .exit id' => id == id' | _ => false)
  | .ret, c => (match c with | .ret => true | _ => false)
  | .loop id a ins objs outs, c => (match c with | .block id' (.loop x) => id == id' && chkC Pg pu a x && ins.all (okIR objs) && outs.all (okIR objs) | _ => false)
  | .loopR id a ins objs outs rets, c => (match c with | .block id' (.loop x) => id == id' && chkC Pg pu a x && ins.all (okIR objs) && outs.all (okIR objs) && rets.all (okIR objs) | _ => false)
theorem eqB_spec {a b : Bool} (h : eqB a b = true) : a = b := by cases a <;> cases b <;> simp_all [eqB]

section
variable {Pg : Program} {fr : Fr} {pu : Bool} {g : Gh} {s : St} {a : Act} {w : World} {Γ : Env}
/-- The relation, with what stays: how many slots there are; the heap, where nothing may turn. -/
structure RelN (fr : Fr) (pu : Bool) (nt : Nat) (H0 : Heap) (g : Gh) (s : St) (a : Act) (w : World) : Prop where
  R : Rel fr pu g s a w
  nt : s.env.length = nt
  H : pu = true → s.H = H0
theorem eff_env_len {o : O'} {s : St} (hT : Ts Γ o s) : (nx Γ o s).env.length = s.env.length := by rw [nx_eff hT]; exact puts_len _ _
theorem runs_env : ∀ {l : List O'} {s : St}, Tss Γ l s → (pu = true → ∀ o, o ∈ l → o.op.wrH = false) → (runs Γ l s).env.length = s.env.length ∧ (pu = true → (runs Γ l s).H = s.H)
  | [], s, _, _ => ⟨rfl, fun _ => rfl⟩
  | o :: l, s, hT, hp => by
    obtain ⟨h1, h2⟩ := runs_env hT.2 (fun h o' ho' => hp h o' (List.mem_cons_of_mem _ ho'))
    refine ⟨h1.trans (eff_env_len hT.1), fun h => (h2 h).trans ?_⟩
    rw [nx_eff hT.1]
    have := (eff_loc (Γ := Γ) (o := o) (s := s)).2.2 (hp h o List.mem_cons_self)
    simp only [Eff.app, this]
theorem chkOs_pu {ops : List Oper} : ∀ {os : List Oper} {l : List O'}, chkOs Pg pu ops os l = true → pu = true → ∀ o, o ∈ l → o.op.wrH = false := by
  intro os l h hp o ho
  obtain ⟨i, hi⟩ := List.getElem?_of_mem ho
  obtain ⟨h1, h2⟩ := chkOs_spec h
  have hlt : i < os.length := by rw [h1]; exact (List.getElem?_eq_some_iff.1 hi).1
  exact (chkO_spec (h2 i _ _ (List.getElem?_eq_getElem hlt) hi)).2.2.1 hp

/-! ### What is packed -/
theorem pack_pre {α : Type} {d : α} {ins : List IR} {objs : List InO} {K : Tup (LTs ins objs) → Res α} (h : (pack d s ins objs K).pre = true) :
    (∀ b, b ∈ packB s ins objs → b = true) ∧ (∀ q, q ∈ packO s ins → q.sat) ∧ pack d s ins objs K = K (Tup.prj _ (packX s ins objs)) := by
  have e : pack d s ins objs K = reqBs (packB s ins objs) d (reqOs (packO s ins) (K (Tup.prj _ (packX s ins objs)))) := rfl
  rw [e] at h ⊢
  obtain ⟨h1, e1⟩ := reqBs_pre h
  rw [e1] at h ⊢
  obtain ⟨h2, e2⟩ := reqOs_pre h
  exact ⟨h1, h2, e2⟩
theorem tup_round : ∀ (hs : List Sh) (xs : List AV), (∀ b, b ∈ Tup.is hs xs → b = true) → xs.length = hs.length → Tup.inj hs (Tup.prj hs xs) = xs
  | [], [], _, _ => rfl
  | [], _ :: _, _, h => by simp at h
  | _ :: _, [], _, h => by simp at h
  | h :: hs, x :: xs, hb, hl => by
    have h1 : h.is x = true := hb _ (by simp [Tup.is, nth_0])
    have h2 := tup_round hs xs (fun b q => hb b (by simp only [Tup.is, List.tail_cons]; exact List.mem_cons_of_mem _ q)) (by simpa using hl)
    show h.inj (h.prj (nth (x :: xs) 0 .junk)) :: Tup.inj hs (Tup.prj hs (x :: xs).tail) = _
    rw [nth_0, List.tail_cons, h2]
    have := nf_spec h1
    simp only [Sh.nf] at this
    rw [this]
theorem packX_is {ins : List IR} {objs : List InO} (hb : ∀ b, b ∈ packB s ins objs → b = true) : (packX s ins objs).length = (LTs ins objs).length ∧ ∀ b, b ∈ Tup.is (LTs ins objs) (packX s ins objs) → b = true := by
  have key : ∀ (ins : List IR) (rest : List AV) (hs : List Sh), (∀ r, r ∈ ins → r.h.is (nth s.env r.t Reg.junk).x = true) → (∀ b, b ∈ Tup.is hs rest → b = true) →
      ∀ b, b ∈ Tup.is (ins.map (·.h) ++ hs) (ins.map (fun r => (nth s.env r.t Reg.junk).x) ++ rest) → b = true := by
    intro ins
    induction ins with
    | nil => intro rest hs _ h; exact h
    | cons r ins ih =>
      intro rest hs h1 h2 b hb
      have e : Tup.is ((r :: ins).map (·.h) ++ hs) ((r :: ins).map (fun r => (nth s.env r.t Reg.junk).x) ++ rest) = r.h.is (nth s.env r.t Reg.junk).x :: Tup.is (ins.map (·.h) ++ hs) (ins.map (fun r => (nth s.env r.t Reg.junk).x) ++ rest) := rfl
      rw [e] at hb
      rcases List.mem_cons.1 hb with q | q
      · rw [q]; exact h1 r List.mem_cons_self
      · exact ih rest hs (fun r hr => h1 r (List.mem_cons_of_mem _ hr)) h2 b q
  have key2 : ∀ (objs : List InO), ∀ b, b ∈ Tup.is (objs.map (fun _ => Sh.ag)) (objs.map (fun o => AV.ag (nth s.loc o.j LO.dead).cs)) → b = true := by
    intro objs
    induction objs with
    | nil => intro b hb; simp [Tup.is] at hb
    | cons o objs ih =>
      intro b hb
      have e : Tup.is ((o :: objs).map (fun _ => Sh.ag)) ((o :: objs).map (fun o => AV.ag (nth s.loc o.j LO.dead).cs)) = true :: Tup.is (objs.map (fun _ => Sh.ag)) (objs.map (fun o => AV.ag (nth s.loc o.j LO.dead).cs)) := rfl
      rw [e] at hb
      rcases List.mem_cons.1 hb with q | q
      · exact q
      · exact ih b q
  refine ⟨by simp [packX, LTs], key ins _ _ (fun r hr => ?_) (key2 objs)⟩
  have := hb _ (List.mem_append_left _ (List.mem_map.2 ⟨r, hr, rfl⟩))
  simp only [Bool.and_eq_true] at this
  exact this.2
/-- A slot of what is unpacked. -/
theorem mkEnv_spec (nt : Nat) : ∀ (ins : List IR) (xs : List AV), (mkEnv nt ins xs).length = nt ∧ ∀ t, (mkEnv nt ins xs).getD t Reg.junk = Reg.junk ∨ ∃ (i : Nat) (r : IR), ins[i]? = some r ∧ r.t = t ∧ (mkEnv nt ins xs).getD t Reg.junk = ⟨xs.getD i .junk, r.k, .yes⟩ := by
  have key : ∀ (ins : List IR) (xs : List AV) (e : List Reg), let m := List.rec (motive := fun _ => List AV → List Reg → List Reg) (fun _ e => e) (fun r _ ih xs e => ih xs.tail (upd e r.t ⟨nth xs 0 .junk, r.k, .yes⟩)) ins xs e
      m.length = e.length ∧ ∀ t, m.getD t Reg.junk = e.getD t Reg.junk ∨ ∃ (i : Nat) (r : IR), ins[i]? = some r ∧ r.t = t ∧ m.getD t Reg.junk = ⟨xs.getD i .junk, r.k, .yes⟩ := by
    intro ins
    induction ins with
    | nil => intro xs e; exact ⟨rfl, fun t => .inl rfl⟩
    | cons r ins ih =>
      intro xs e
      obtain ⟨h1, h2⟩ := ih xs.tail (upd e r.t ⟨nth xs 0 .junk, r.k, .yes⟩)
      rw [upd_len] at h1
      refine ⟨h1, fun t => ?_⟩
      rcases h2 t with h | ⟨i, r', q1, q2, q3⟩
      · rw [upd_getD] at h
        split at h
        · rename_i q
          obtain ⟨rfl, _⟩ := q
          refine .inr ⟨0, r, rfl, rfl, ?_⟩
          refine Eq.trans h ?_
          rw [nth_eq]
        · exact .inl h
      · refine .inr ⟨i + 1, r', q1, q2, ?_⟩
        refine Eq.trans q3 ?_
        cases xs <;> simp
  intro ins xs
  obtain ⟨h1, h2⟩ := key ins xs (List.replicate nt Reg.junk)
  refine ⟨Eq.trans h1 List.length_replicate, fun t => ?_⟩
  rcases h2 t with h | h
  · left; refine Eq.trans h ?_
    rw [List.getD_eq_getElem?_getD, List.getElem?_replicate]; split <;> rfl
  · exact .inr h
theorem mkLoc_spec (nl : Nat) : ∀ (objs : List InO) (xs : List AV), (mkLoc nl objs xs).length = nl ∧ ∀ j, (mkLoc nl objs xs).getD j LO.dead = LO.dead ∨ ∃ (i : Nat) (o : InO), objs[i]? = some o ∧ o.j = j ∧ (mkLoc nl objs xs).getD j LO.dead = ⟨o.n, (xs.getD i .junk).agc, o.own, false, true⟩ := by
  have key : ∀ (objs : List InO) (xs : List AV) (e : List LO), let m := List.rec (motive := fun _ => List AV → List LO → List LO) (fun _ e => e) (fun o _ ih xs e => ih xs.tail (upd e o.j ⟨o.n, (nth xs 0 .junk).agc, o.own, false, true⟩)) objs xs e
      m.length = e.length ∧ ∀ t, m.getD t LO.dead = e.getD t LO.dead ∨ ∃ (i : Nat) (o : InO), objs[i]? = some o ∧ o.j = t ∧ m.getD t LO.dead = ⟨o.n, (xs.getD i .junk).agc, o.own, false, true⟩ := by
    intro objs
    induction objs with
    | nil => intro xs e; exact ⟨rfl, fun t => .inl rfl⟩
    | cons r objs ih =>
      intro xs e
      obtain ⟨h1, h2⟩ := ih xs.tail (upd e r.j ⟨r.n, (nth xs 0 .junk).agc, r.own, false, true⟩)
      rw [upd_len] at h1
      refine ⟨h1, fun t => ?_⟩
      rcases h2 t with h | ⟨i, r', q1, q2, q3⟩
      · rw [upd_getD] at h
        split at h
        · rename_i q
          obtain ⟨rfl, _⟩ := q
          refine .inr ⟨0, r, rfl, rfl, ?_⟩
          refine Eq.trans h ?_
          rw [nth_eq]
        · exact .inl h
      · refine .inr ⟨i + 1, r', q1, q2, ?_⟩
        refine Eq.trans q3 ?_
        cases xs <;> simp
  intro objs xs
  obtain ⟨h1, h2⟩ := key objs xs (List.replicate nl LO.dead)
  refine ⟨Eq.trans h1 List.length_replicate, fun t => ?_⟩
  rcases h2 t with h | h
  · left; refine Eq.trans h ?_
    rw [List.getD_eq_getElem?_getD, List.getElem?_replicate]; split <;> rfl
  · exact .inr h
/-- An object named is alive behind the unpacking. -/
theorem mkLoc_live (nl : Nat) (objs : List InO) (xs : List AV) (j : Nat) (hj : j < nl) (hm : j ∈ objs.map (·.j)) : ((mkLoc nl objs xs).getD j LO.dead).live = true := by
  have key : ∀ (objs : List InO) (xs : List AV) (e : List LO), j < e.length → (j ∈ objs.map (·.j) ∨ (e.getD j LO.dead).live = true) →
      ((List.rec (motive := fun _ => List AV → List LO → List LO) (fun _ e => e) (fun o _ ih xs e => ih xs.tail (upd e o.j ⟨o.n, (nth xs 0 .junk).agc, o.own, false, true⟩)) objs xs e : List LO).getD j LO.dead).live = true := by
    intro objs
    induction objs with
    | nil => intro xs e _ h; simpa using h
    | cons r objs ih =>
      intro xs e hlt h
      refine ih xs.tail (upd e r.j ⟨r.n, (nth xs 0 .junk).agc, r.own, false, true⟩) (by rw [upd_len]; exact hlt) ?_
      rcases h with h | h
      · simp only [List.map_cons, List.mem_cons] at h
        rcases h with h | h
        · right; rw [upd_getD, if_pos ⟨h.symm, by omega⟩]
        · exact .inl h
      · right; rw [upd_getD]; split
        · rfl
        · exact h
  exact key objs xs (List.replicate nl LO.dead) (by simpa using hj) (.inl hm)
end
end Go.Proofs.DenT
end
section
namespace Go.Proofs.DenT
set_option linter.unusedVariables false
set_option linter.unusedSimpArgs false
open Go
section
variable {Pg : Program} {fr : Fr} {pu : Bool} {g : Gh} {s : St} {a : Act} {w : World} {Γ : Env}
theorem eff_loc_len {o : O'} {s : St} (hT : Ts Γ o s) : (nx Γ o s).loc.length = s.loc.length := by
  rw [nx_eff hT]
  show (match (eff Γ o s).loc with | .none => s.loc | .one j lo => upd s.loc j lo | .all l => l).length = _
  cases hl : (eff Γ o s).loc with
  | none => rfl
  | one j lo => exact upd_len _ _ _
  | all l => exact eff_len l hl
theorem runs_loc : ∀ {l : List O'} {s : St}, Tss Γ l s → (runs Γ l s).loc.length = s.loc.length
  | [], s, _ => rfl
  | o :: l, s, hT => (runs_loc hT.2).trans (eff_loc_len hT.1)
theorem packX_ins {ins : List IR} {objs : List InO} {i : Nat} {r : IR} (h : ins[i]? = some r) : (packX s ins objs).getD i .junk = (nth s.env r.t Reg.junk).x := by
  have hlt : i < ins.length := (List.getElem?_eq_some_iff.1 h).1
  simp only [packX]
  rw [List.getD_eq_getElem?_getD, List.getElem?_append_left (by simpa using hlt), List.getElem?_map, h]; rfl
theorem packX_objs {ins : List IR} {objs : List InO} {i : Nat} {o : InO} (h : objs[i]? = some o) : ((packX s ins objs).drop ins.length).getD i .junk = .ag (nth s.loc o.j LO.dead).cs := by
  simp only [packX]
  rw [List.drop_append_of_le_length (by simp), List.drop_of_length_le (by simp)]
  simp only [List.nil_append]
  rw [List.getD_eq_getElem?_getD, List.getElem?_map, h]; rfl
theorem fits_spec {k k' : Kd} (h : k.fits k' = true) : (k' = .glob ∧ k.isG = true) ∨ (k = .loc ∧ k' = .loc) ∨ (k = .own ∧ k' = .own) := by
  cases k <;> cases k' <;> simp [Kd.fits] at h <;> simp [Kd.isG]
theorem pack_rel {nt nl : Nat} {ins : List IR} {objs : List InO} (R : Rel fr pu g s a w) (hnt : s.env.length = nt) (hnl : s.loc.length = nl) (hb : ∀ b, b ∈ packB s ins objs → b = true) (ho : ∀ q, q ∈ packO s ins → q.sat)
    (hok : ins.all (okIR objs) = true) : Rel fr pu g (mkSt nt nl ins objs (Tup.prj _ (packX s ins objs)) s.H) a w := by
  obtain ⟨p1, p2⟩ := packX_is hb
  have hx := tup_round _ _ p2 p1
  have est : mkSt nt nl ins objs (Tup.prj _ (packX s ins objs)) s.H = ⟨mkEnv nt ins (packX s ins objs), mkLoc nl objs ((packX s ins objs).drop ins.length), s.H⟩ := by
    simp only [mkSt]; rw [hx]
  rw [est]
  obtain ⟨e1, e2⟩ := mkEnv_spec nt ins (packX s ins objs)
  obtain ⟨l1, l2⟩ := mkLoc_spec nl objs ((packX s ins objs).drop ins.length)
  have hobj : ∀ (i : Nat) (o : InO), objs[i]? = some o → (nth s.loc o.j LO.dead).live = true ∧ (nth s.loc o.j LO.dead).frz = false ∧ (nth s.loc o.j LO.dead).n = o.n ∧ ∀ k, k ∈ o.own → k ∈ (nth s.loc o.j LO.dead).own := by
    intro i o h
    have := hb _ (List.mem_append_right _ (List.mem_map.2 ⟨o, List.mem_of_getElem? h, rfl⟩))
    simp only [Bool.and_eq_true, Bool.not_eq_true', beq_iff_eq, List.all_eq_true] at this
    exact ⟨this.1.1.1, this.1.1.2, this.1.2, fun k hk => by simpa using this.2 k hk⟩
  refine ⟨R.inv, R.defs, ?_, fun t ht => ?_, fun j => ?_, R.heap, R.γdom, R.nog, R.pud⟩
  · exact e1.trans (hnt ▸ R.len)
  · show RegR g (lives (mkLoc nl objs _)) (.R t) _ ((mkEnv nt ins (packX s ins objs)).getD t Reg.junk)
    rcases e2 t with h | ⟨i, r, q1, q2, q3⟩
    · rw [h]; trivial
    · rw [q3, packX_ins q1]
      subst q2
      have hmem := List.mem_of_getElem? q1
      have hfit := hb _ (List.mem_append_left _ (List.mem_map.2 ⟨r, hmem, rfl⟩))
      simp only [Bool.and_eq_true] at hfit
      have hsat : (nth s.env r.t Reg.junk).ok.sat := ho _ (List.mem_map.2 ⟨r, hmem, rfl⟩)
      have hk := src_ok R (x := .tmp r.t) (y := .t r.t) (by simp [okSrc]) hsat
      simp only [envGet, srcLc] at hk
      show KR g _ (.R r.t) (a.eval (.tmp r.t)) r.k (nth s.env r.t Reg.junk).x
      rcases fits_spec hfit.1 with ⟨k1, k2⟩ | ⟨k1, k2⟩ | ⟨k1, k2⟩
      · rw [k1]; exact hk.rvG k2
      · rw [k2]
        rw [k1] at hk
        have hq := List.all_eq_true.1 hok r hmem
        simp only [okIR, k2] at hq
        split at hq <;> try (simp at hq; done)
        rename_i jj hh
        have his := hfit.2
        rw [hh] at his
        simp only [Sh.is] at his
        generalize (nth s.env r.t Reg.junk).x = x at *
        cases x <;> simp [AV.isLpc] at his
        obtain ⟨rfl, rfl⟩ := his
        obtain ⟨q4, q5⟩ := hk
        refine ⟨?_, q5⟩
        have hj := memN_spec.1 hq
        refine mkLoc_live nl objs _ _ ?_ hj
        rw [← hnl]
        exact loc_lt (by rw [nth_eq]; exact q4)
      · rw [k2]; rw [k1] at hk; exact hk
  · show LOR g j ((mkLoc nl objs ((packX s ins objs).drop ins.length)).getD j LO.dead) w
    rcases l2 j with h | ⟨i, o, q1, q2, q3⟩
    · rw [h]; intro q; simp [LO.dead] at q
    · rw [q3, packX_objs q1]
      subst q2
      obtain ⟨h1, h2, h3, h4⟩ := hobj i o q1
      rw [nth_eq] at h1 h2 h3 h4 ⊢
      obtain ⟨r1, r2, r3, r4⟩ := R.locs o.j h1
      intro _
      refine ⟨by simp only [AV.agc]; omega, fun i hi => ?_, fun _ => by rw [← h3]; exact r3 h2, fun q => by simp at q⟩
      obtain ⟨v, v1, v2⟩ := r2 i (by simp only at hi; omega)
      refine ⟨v, v1, v2.1, v2.2.1, fun hown => v2.2.2 ?_⟩
      rw [h2]
      simp only [Bool.not_false, Bool.true_and] at hown ⊢
      have := h4 i (by simpa using hown)
      simpa using this
end
end Go.Proofs.DenT
end
