/- Drawn regions: one step. -/
import Derived.Test.YtmhajfnfjjbflaaGreatDoorEvthree
import Derived.KernelRfl
namespace Go.Proofs.YtmhajfnfjjbflaaGreatDoor.Ev

variable {E : Env} {π : PM} {w : World}

def OpForm (F : AS → Option (AN × AS)) : Prop := ∃ g : Option AN, (∀ a, F a = match g with | some r => some (r, a) | none => none) ∧ ∀ f l, g ≠ some (.enter f l)

theorem OpForm.none' {F : AS → Option (AN × AS)} (h : ∀ a, F a = none) : OpForm F := ⟨none, h, fun _ _ e => by simp at e⟩
theorem OpForm.val {F : AS → Option (AN × AS)} (m : Option AV) (h : ∀ a, F a = valN a m) : OpForm F := by
  cases m with
  | none => exact ⟨none, h, fun _ _ e => by simp at e⟩
  | some v => exact ⟨some (.val v), h, fun _ _ e => by simp at e⟩
theorem OpForm.one {F : AS → Option (AN × AS)} (r : AN) (hr : ∀ f l, r ≠ .enter f l) (h : ∀ a, F a = some (r, a)) : OpForm F := ⟨some r, h, fun f l e => hr f l (by simpa using e)⟩

theorem still_form {ρ : Operand → Option AV} {o : Oper} (ht : touches o.op = false) : OpForm (opA E ρ o) := by
  obtain ⟨dst, op, type, pos, after, guard⟩ := o
  simp only [] at ht
  unfold opA
  simp only []
  cases op <;> first
    | (simp [touches] at ht; done)
    | skip
  case move x => exact .val (ρ x) fun a => rfl
  case assign x => exact .val (ρ x) fun a => rfl
  case pick c x y =>
    unfold opPick
    simp only []
    split
    · rename_i b _; exact .val (bif b then ρ x else ρ y) fun a => rfl
    · exact .none' fun a => rfl
  case build t ps =>
    unfold opBuild
    simp only []
    split
    · rename_i l _; exact .val (buildA E t l) fun a => rfl
    · exact .none' fun a => rfl
  case nilCheck x =>
    unfold opNilCheck
    simp only []
    split
    · exact .val _ fun a => rfl
    · exact .val _ fun a => rfl
    · exact .val _ fun a => rfl
    · exact .none' fun a => rfl
  case binOp op t x y z =>
    unfold opBinOp
    simp only []
    split
    · rename_i u v _ _; exact .val (binA E op t x y u v) fun a => rfl
    · exact .none' fun a => rfl
  case unOp op t x =>
    unfold opUnOp
    simp only []
    split
    · rename_i u _; exact .val (unA op u) fun a => rfl
    · exact .none' fun a => rfl
  case makeInterface t x =>
    unfold opMakeInterface
    simp only []
    split
    · split
      · exact .none' fun a => rfl
      · exact .none' fun a => rfl
      · exact .val _ fun a => rfl
    · exact .none' fun a => rfl
  case makeFunc fn xs ys =>
    unfold opMakeFunc
    simp only []
    split
    · exact .val _ fun a => rfl
    · exact .none' fun a => rfl
  case fieldAddr t x f =>
    unfold opFieldAddr
    simp only []
    split
    · exact .val _ fun a => rfl
    · exact .none' fun a => rfl
  case field t x f =>
    unfold opField
    simp only []
    split
    · exact .val _ fun a => rfl
    · exact .none' fun a => rfl
  case indexAddr t x y =>
    unfold opIndexAddr
    simp only []
    split
    · exact .val _ fun a => rfl
    · exact .none' fun a => rfl
  case index t x y =>
    unfold opIndex
    simp only []
    split
    · exact .val _ fun a => rfl
    · exact .none' fun a => rfl
  case extract x i =>
    unfold opExtract
    simp only []
    split
    · exact .val _ fun a => rfl
    · exact .none' fun a => rfl
  case defer c =>
    unfold opDefer
    simp only []
    split
    · exact .none' fun a => rfl
    · split
      · split
        · split
          · exact .one _ (by simp) fun a => rfl
          · exact .none' fun a => rfl
        · exact .none' fun a => rfl
      · split
        · exact .one _ (by simp) fun a => rfl
        · exact .none' fun a => rfl
      · exact .none' fun a => rfl

/-- An operation that does not touch the heap: the same in every state. -/
theorem still_stepV {callK : CallK} {ops : Array Oper} {o : Oper} {fr : Fr} {a a' : AS} {v : AV} (ht : touches o.op = false) (h : stepV E callK ops o fr a = some (v, a')) :
    a' = a ∧ ∀ b, stepV E callK ops o fr b = some (v, b) := by
  obtain ⟨g, h1, h2⟩ := still_form (E := E) (ρ := fr.eval E) ht
  unfold stepV at h ⊢
  cases hw : wantedA fr ops o with
  | false =>
    rw [hw] at h
    simp only [Option.some.injEq, Prod.mk.injEq] at h
    obtain ⟨rfl, rfl⟩ := h
    exact ⟨rfl, fun b => rfl⟩
  | true =>
    rw [hw] at h
    simp only [] at h ⊢
    rw [h1] at h
    cases g with
    | none => simp at h
    | some r =>
      cases r with
      | val u =>
        simp only [Option.some.injEq, Prod.mk.injEq] at h
        obtain ⟨rfl, rfl⟩ := h
        exact ⟨rfl, fun b => by rw [h1]⟩
      | skip =>
        simp only [Option.some.injEq, Prod.mk.injEq] at h
        obtain ⟨rfl, rfl⟩ := h
        exact ⟨rfl, fun b => by rw [h1]⟩
      | enter f l => exact absurd rfl (h2 f l)
      | defer d => simp at h

theorem stepV_AF {callK : CallK} (hC : CallOk E callK) {ops : Array Oper} {o : Oper} {fr : Fr} {a a' : AS} {v : AV} (h : stepV E callK ops o fr a = some (v, a')) : AF a a' := by
  unfold stepV at h
  split at h
  · split at h
    · rename_i u a₁ ho
      simp only [Option.some.injEq, Prod.mk.injEq] at h
      rw [← h.2]; exact opA_AF ho
    · rename_i a₁ ho
      simp only [Option.some.injEq, Prod.mk.injEq] at h
      rw [← h.2]; exact opA_AF ho
    · rename_i f l a₁ ho
      exact (opA_AF ho).trans (hC _ _ _ _ _ h).1
    · simp at h
  · simp only [Option.some.injEq, Prod.mk.injEq] at h; exact AF.of_eq h.2.symm

/-- Is the guard met, by the temporaries that the operation looks at? -/
theorem wantedA_ok' {fr : Fr} {ac : Act} {ops : Array Oper} {o : Oper} (h : ∀ t, t ∈ o.looksAt ops → VR π (fr.get t) (ac.tmps.getD t undef)) : Region.wanted o (yielded ops ac.tmps) = wantedA fr ops o := by
  unfold Region.wanted wantedA
  cases hgd : o.guard with
  | none => rfl
  | some jw =>
    obtain ⟨j, want⟩ := jw
    simp only []
    unfold yielded
    cases hx : ops[j]? with
    | none => rw [Array.getElem?_toList, hx]; rfl
    | some x =>
      rw [Array.getElem?_toList, hx]
      simp only [Option.bind_some]
      cases hd : x.dst with
      | none => rfl
      | some t =>
        simp only [Option.bind_some]
        have ht := h t (by
          unfold Oper.looksAt
          rw [hgd]
          simp [hx, hd])
        rw [Array.getD_eq_getD_getElem?] at ht
        cases hv : ac.tmps[t]? with
        | none =>
          rw [hv] at ht
          simp only [Option.getD_none] at ht
          generalize fr.get t = x at ht ⊢
          unfold Go.undef at ht
          cases ht
          simp
        | some v' =>
          rw [hv] at ht
          simp only [Option.getD_some] at ht
          generalize fr.get t = x at ht ⊢
          cases ht <;> simp

theorem stepV_ok (hE : EnvOk E) {callK : CallK} (hC : CallOk E callK) {ops : Array Oper} {o : Oper} {fr : Fr} {a a' : AS} {v : AV} (h : stepV E callK ops o fr a = some (v, a')) {π : PM} {w : World} {ac : Act}
    (hR : R a π w) (hG : GL E π) (hF : ∀ t, t ∈ o.looksAt ops → VR π (fr.get t) (ac.tmps.getD t undef)) {K : Act → World → Prop} {Q : Exit → Act → World → Prop}
    (hK : ∀ π' w' v', Stp a π w a' π' w' → VR π' v v' → K (ac.put o.dst v') w') :
    if Region.wanted o (yielded ops ac.tmps) then o.wp E.P ac w K Q else K (ac.put o.dst undef) w := by
  rw [wantedA_ok' hF]
  unfold stepV at h
  split at h
  · rename_i hw
    rw [hw, if_pos rfl]
    let ρ : Operand → Option AV := fun x => @ite _ (x ∈ o.op.operands.toList) (Classical.propDecidable _) (fr.eval E x) none
    have hρ : ∀ x, x ∈ o.op.operands.toList → fr.eval E x = ρ x := fun x hx => by simp only [ρ, if_pos hx]
    have hev : ∀ x v, ρ x = some v → VR π v (ac.eval x) := by
      intro x v hx
      simp only [ρ] at hx
      split at hx
      · rename_i hm
        cases x with
        | tmp t =>
          simp only [Fr.eval, Option.some.injEq] at hx
          subst hx
          refine hF t ?_
          unfold Oper.looksAt
          simp only [List.mem_append, List.mem_filterMap]
          exact .inl ⟨.tmp t, hm, rfl⟩
        | const c => exact ofC_VR hx
        | global g =>
          simp only [Fr.eval] at hx
          split at hx
          · rename_i u hu
            simp only [Option.some.injEq] at hx
            subst hx
            obtain ⟨lim, hl⟩ := hG g u hu
            exact .ptr g 0 _ hl
          · simp at hx
        | func f =>
          simp only [Fr.eval, Option.some.injEq] at hx
          subst hx
          exact .func (.func f) [] [] #[] #[] rfl rfl (fun i v v' h => by simp at h) (fun i v v' h => by simp at h)
      · simp at hx
    rw [opA_congr hρ] at h
    split at h
    · rename_i u a₁ ho
      simp only [Option.some.injEq, Prod.mk.injEq] at h
      obtain ⟨rfl, rfl⟩ := h
      obtain ⟨π₁, w₁, h1, h2⟩ := opA_ok hE hR hev ho
      obtain ⟨v', hv, he⟩ := h2
      unfold Oper.wp
      have he' : (execOp ac.eval o).run E.P w = .ok (.value v') w₁ := he
      rw [he', Oper.upon_value]
      exact hK π₁ w₁ v' h1 hv
    · rename_i a₁ ho
      simp only [Option.some.injEq, Prod.mk.injEq] at h
      obtain ⟨rfl, rfl⟩ := h
      obtain ⟨π₁, w₁, h1, h2⟩ := opA_ok hE hR hev ho
      unfold Oper.wp
      have he' : (execOp ac.eval o).run E.P w = .ok .skip w₁ := h2
      rw [he', Oper.upon_skip]
      exact hK π₁ w₁ undef h1 VR.undef
    · rename_i f l a₁ ho
      obtain ⟨π₁, w₁, h1, h2⟩ := opA_ok hE hR hev ho
      obtain ⟨args', hl, he⟩ := h2
      unfold Oper.wp
      rw [he]
      rcases (hC _ _ _ _ _ h).2 π₁ w₁ args' h1.r (hG.mono h1.le) hl with ⟨π', w', v', k1, k2, k3⟩ | ⟨k1, k2⟩
      · rw [k1, Oper.upon_value]
        exact hK π' w' v' (h1.trans k2) k3
      · rw [k1, Oper.upon_enter]
        refine Calls.mono k2.calls fun e w' he => ?_
        obtain ⟨v', rfl, π', h3, h4⟩ := he
        exact hK π' w' v' (h1.trans h3) h4
    · simp at h
  · rename_i hw
    rw [hw]
    simp only [Option.some.injEq, Prod.mk.injEq] at h
    obtain ⟨rfl, rfl⟩ := h
    rw [if_neg (by simp)]
    exact hK π w undef (Stp.refl hR) VR.undef

end Go.Proofs.YtmhajfnfjjbflaaGreatDoor.Ev

/- Drawn regions: any order. -/
noncomputable section
namespace Go.Proofs.YtmhajfnfjjbflaaGreatDoor.Ev

variable {E : Env} {π : PM} {w : World}

def PM.cut (π : PM) (n : Nat) : PM := fun β => if β < n then π β else none
theorem PM.cut_some {π : PM} {n β : Nat} {p : Pl} : π.cut n β = some p ↔ β < n ∧ π β = some p := by
  unfold PM.cut
  by_cases h : β < n <;> simp [h]
theorem PM.cut_le (π : PM) (n : Nat) : (π.cut n).le π := fun β p h => (PM.cut_some.1 h).2
theorem PM.cut_mono {π : PM} {n k : Nat} (h : n ≤ k) : (π.cut n).le (π.cut k) := fun β p hp => by
  obtain ⟨h1, h2⟩ := PM.cut_some.1 hp
  exact PM.cut_some.2 ⟨by omega, h2⟩

def PM.plus (π π₁ : PM) : PM := fun β => match π β with | some p => some p | none => π₁ β
theorem PM.le_plus (π π₁ : PM) : π.le (π.plus π₁) := fun β p h => by unfold PM.plus; rw [h]
theorem PM.plus_some {π π₁ : PM} {β : Nat} {p : Pl} (h : π.plus π₁ β = some p) : π β = some p ∨ (π β = none ∧ π₁ β = some p) := by
  unfold PM.plus at h
  cases hp : π β with
  | some q => rw [hp] at h; exact .inl h
  | none => rw [hp] at h; exact .inr ⟨rfl, h⟩

/-! ### What has to come ahead -/
def bef (ops : Array Oper) (i : Nat) : Nat := ((befA ops.toList)[i]?).getD 0

def bv (acc : List Nat) (o : Oper) : Nat := o.after.toList.foldl (fun s e => bif Region.binds .any e then s ||| (1 <<< e.on) ||| (acc[e.on]?).getD 0 else s) 0
theorem befGo_cons (acc : List Nat) (o : Oper) (os : List Oper) : befGo acc (o :: os) = befGo (acc ++ [bv acc o]) os := rfl

theorem befGo_pre : ∀ (os : List Oper) (acc : List Nat), ∃ r, befGo acc os = acc ++ r
  | [], acc => ⟨[], by simp [befGo]⟩
  | o :: os, acc => by
    obtain ⟨r, h⟩ := befGo_pre os (acc ++ [bv acc o])
    exact ⟨bv acc o :: r, by rw [befGo_cons, h, List.append_assoc]; rfl⟩

theorem fold_bits (acc : List Nat) : ∀ (l : List Edge) (s k : Nat), (l.foldl (fun s e => bif Region.binds .any e then s ||| (1 <<< e.on) ||| (acc[e.on]?).getD 0 else s) s).testBit k = true →
    s.testBit k = true ∨ ∃ e, e ∈ l ∧ Region.binds .any e = true ∧ (k = e.on ∨ ((acc[e.on]?).getD 0).testBit k = true)
  | [], s, k, h => .inl h
  | e :: l, s, k, h => by
    rw [List.foldl_cons] at h
    rcases fold_bits acc l _ k h with h1 | ⟨e', h1, h2, h3⟩
    · cases hb : Region.binds .any e with
      | false => rw [hb] at h1; exact .inl h1
      | true =>
        rw [hb] at h1
        simp only [cond_true, Nat.testBit_or, Bool.or_eq_true] at h1
        rcases h1 with (h1 | h1) | h1
        · exact .inl h1
        · refine .inr ⟨e, by simp, hb, .inl ?_⟩
          rw [Nat.one_shiftLeft, Nat.testBit_two_pow] at h1
          exact (of_decide_eq_true h1).symm
        · exact .inr ⟨e, by simp, hb, .inr h1⟩
    · exact .inr ⟨e', by simp [h1], h2, h3⟩

theorem befGo_at : ∀ (os : List Oper) (acc : List Nat) (i : Nat) (o : Oper), os[i]? = some o → ∀ k, (((befGo acc os)[acc.length + i]?).getD 0).testBit k = true →
    ∃ e, e ∈ o.after.toList ∧ Region.binds .any e = true ∧ (k = e.on ∨ (((befGo acc os)[e.on]?).getD 0).testBit k = true)
  | [], acc, i, o, h, k, hk => by simp at h
  | x :: os, acc, 0, o, h, k, hk => by
    simp only [List.getElem?_cons_zero, Option.some.injEq] at h
    subst h
    obtain ⟨r, hr⟩ := befGo_pre os (acc ++ [bv acc x])
    rw [befGo_cons, hr, List.append_assoc] at hk ⊢
    rw [Nat.add_zero, List.getElem?_append_right (Nat.le_refl _), Nat.sub_self] at hk
    have hk' : (bv acc x).testBit k = true := hk
    rcases fold_bits acc _ _ _ hk' with h1 | ⟨e, h1, h2, h3⟩
    · simp at h1
    · refine ⟨e, h1, h2, h3.imp id fun h4 => ?_⟩
      by_cases hl : e.on < acc.length
      · rw [List.getElem?_append_left hl]; exact h4
      · rw [List.getElem?_eq_none (by omega)] at h4; simp at h4
  | x :: os, acc, i + 1, o, h, k, hk => by
    rw [befGo_cons] at hk ⊢
    refine befGo_at os _ i o (by simpa using h) k ?_
    rw [show (acc ++ [bv acc x]).length + i = acc.length + (i + 1) by simp; omega]
    exact hk

theorem bef_step {ops : Array Oper} {i : Nat} {o : Oper} (h : ops[i]? = some o) {k : Nat} (hk : (bef ops i).testBit k = true) :
    ∃ e, e ∈ o.after.toList ∧ Region.binds .any e = true ∧ (k = e.on ∨ (bef ops e.on).testBit k = true) := by
  have := befGo_at ops.toList [] i o (by simpa using h) k (by simpa [bef, befA] using hk)
  simpa [bef, befA] using this

/-- What is asked of a region's own lists. -/
structure RegOk (ops : Array Oper) : Prop where
  edge : ∀ (i : Nat) (o : Oper) (e : Edge), ops[i]? = some o → e ∈ o.after.toList → Region.binds .any e = true → e.on < i
  two : ∀ (i j : Nat) (oi oj : Oper) (d : Tmp), i < j → ops[i]? = some oi → ops[j]? = some oj → oj.dst = some d → (d ∉ oi.looksAt ops ∨ (bef ops j).testBit i = true) ∧ oi.dst ≠ some d
  wait : ∀ (i j : Nat) (oi oj : Oper) (d : Tmp), i < j → ops[i]? = some oi → ops[j]? = some oj → oj.dst = some d → mayWait oi.op = true → d ∉ oi.looksAt ops
  dat : ∀ (i j : Nat) (oi oj : Oper) (d : Tmp), i < j → ops[i]? = some oi → ops[j]? = some oj → oi.dst = some d → d ∈ oj.looksAt ops → (bef ops j).testBit i = true

/-! ### The temporaries -/
def writes (ops : Array Oper) (sz k t : Nat) : Bool := ((ops[k]?).bind (·.dst) == some t) && t.blt sz

def tmV (ops : Array Oper) (fr0 : Fr) (vs : Nat → AV) (L : Nat → Bool) (t : Nat) : Nat → AV
  | 0 => fr0.get t
  | k + 1 => if L k = true ∧ writes ops fr0.sz k t = true then vs k else tmV ops fr0 vs L t k
def tmW (ops : Array Oper) (fr0 : Fr) (L : Nat → Bool) (t : Nat) : Nat → Nat
  | 0 => 0
  | k + 1 => if L k = true ∧ writes ops fr0.sz k t = true then k + 1 else tmW ops fr0 L t k

theorem tmV_succ (ops : Array Oper) (fr0 : Fr) (vs : Nat → AV) (L : Nat → Bool) (t k : Nat) : tmV ops fr0 vs L t (k + 1) = if L k = true ∧ writes ops fr0.sz k t = true then vs k else tmV ops fr0 vs L t k := rfl
theorem tmW_succ (ops : Array Oper) (fr0 : Fr) (L : Nat → Bool) (t k : Nat) : tmW ops fr0 L t (k + 1) = if L k = true ∧ writes ops fr0.sz k t = true then k + 1 else tmW ops fr0 L t k := rfl

theorem put_get (fr : Fr) (d : Option Tmp) (v : AV) (t : Nat) : (fr.put d v).get t = if (d == some t && t.blt fr.sz) = true then v else fr.get t := by
  cases d with
  | none => rfl
  | some d =>
    unfold Fr.put
    simp only []
    cases hb : d.blt fr.sz with
    | false =>
      simp only [cond_false]
      rw [if_neg]
      intro h
      simp only [Bool.and_eq_true, beq_iff_eq, Option.some.injEq] at h
      rw [← h.1, hb] at h
      simp at h
    | true =>
      simp only [cond_true]
      unfold Fr.get
      simp only [T.get_set]
      by_cases e : t = d
      · subst e; simp [hb]
      · rw [if_neg e, if_neg]
        intro h
        simp only [Bool.and_eq_true, beq_iff_eq, Option.some.injEq] at h
        exact e h.1.symm
theorem put_sz (fr : Fr) (d : Option Tmp) (v : AV) : (fr.put d v).sz = fr.sz := by
  cases d with
  | none => rfl
  | some d => unfold Fr.put; simp only []; cases d.blt fr.sz <;> rfl
theorem put_df (fr : Fr) (d : Option Tmp) (v : AV) : (fr.put d v).df = fr.df := by
  cases d with
  | none => rfl
  | some d => unfold Fr.put; simp only []; cases d.blt fr.sz <;> rfl

theorem tmW_le (ops : Array Oper) (fr0 : Fr) (L : Nat → Bool) (t : Nat) : ∀ n, tmW ops fr0 L t n ≤ n
  | 0 => Nat.le_refl _
  | n + 1 => by
    unfold tmW
    split
    · exact Nat.le_refl _
    · exact Nat.le_succ_of_le (tmW_le ops fr0 L t n)

theorem val_ready {ops : Array Oper} (hr : RegOk ops) {fr0 : Fr} {vs : Nat → AV} {L : Nat → Bool} {i : Nat} {o : Oper} (ho : ops[i]? = some o) {t : Nat} (ht : t ∈ o.looksAt ops) (hL : L i = false)
    (hb : ∀ k, (bef ops i).testBit k = true → L k = true) (hcl : ∀ j k, j < ops.size → L j = true → (bef ops j).testBit k = true → L k = true) : ∀ n, i ≤ n → tmV ops fr0 vs L t n = tmV ops fr0 vs (fun _ => true) t i ∧ tmW ops fr0 L t n ≤ i := by
  have hw : ∀ k, writes ops fr0.sz k t = true → ∃ ok, ops[k]? = some ok ∧ ok.dst = some t := by
    intro k h
    unfold writes at h
    simp only [Bool.and_eq_true, beq_iff_eq] at h
    cases hk : ops[k]? with
    | none => rw [hk] at h; simp at h
    | some ok => rw [hk] at h; exact ⟨ok, rfl, by simpa using h.1⟩
  have base : ∀ k, k ≤ i → tmV ops fr0 vs L t k = tmV ops fr0 vs (fun _ => true) t k := by
    intro k
    induction k with
    | zero => intro _; rfl
    | succ k ih =>
      intro hk
      unfold tmV
      rw [ih (by omega)]
      cases hx : writes ops fr0.sz k t with
      | false => simp
      | true =>
        obtain ⟨ok, h1, h2⟩ := hw k hx
        have : L k = true := hb k (hr.dat k i ok o t (by omega) h1 ho h2 ht)
        simp [this]
  intro n
  induction n with
  | zero => intro hn; obtain rfl : i = 0 := by omega
            exact ⟨rfl, Nat.le_refl _⟩
  | succ n ih =>
    intro hn
    by_cases he : i = n + 1
    · subst he; exact ⟨base _ (Nat.le_refl _), tmW_le _ _ _ _ _⟩
    · obtain ⟨h1, h2⟩ := ih (by omega)
      have hno : ¬ (L n = true ∧ writes ops fr0.sz n t = true) := by
        rintro ⟨k1, k2⟩
        obtain ⟨on, k3, k4⟩ := hw n k2
        by_cases e2 : i = n
        · subst e2; rw [hL] at k1; simp at k1
        · rcases (hr.two i n o on t (by omega) ho k3 k4).1 with c | c
          · exact c ht
          · have := hcl n i (Array.getElem?_eq_some_iff.1 k3).1 k1 c
            rw [hL] at this; simp at this
      rw [tmV_succ, tmW_succ ops fr0 L t n, if_neg hno, if_neg hno]
      exact ⟨h1, h2⟩

theorem val_upd {ops : Array Oper} (hr : RegOk ops) {fr0 : Fr} {vs : Nat → AV} {L : Nat → Bool} {i : Nat} {o : Oper} (ho : ops[i]? = some o) (t : Nat) : ∀ n, i < n →
    tmV ops fr0 vs (fun k => k == i || L k) t n = (if writes ops fr0.sz i t = true then vs i else tmV ops fr0 vs L t n) ∧
    tmW ops fr0 (fun k => k == i || L k) t n = (if writes ops fr0.sz i t = true then i + 1 else tmW ops fr0 L t n) := by
  have low : ∀ k, k ≤ i → tmV ops fr0 vs (fun k => k == i || L k) t k = tmV ops fr0 vs L t k ∧ tmW ops fr0 (fun k => k == i || L k) t k = tmW ops fr0 L t k := by
    intro k
    induction k with
    | zero => intro _; exact ⟨rfl, rfl⟩
    | succ k ih =>
      intro hk
      obtain ⟨h1, h2⟩ := ih (by omega)
      have e : (k == i || L k) = L k := by
        have : (k == i) = false := by simp; omega
        simp [this]
      unfold tmV tmW
      rw [h1, h2, e]
      exact ⟨rfl, rfl⟩
  intro n
  induction n with
  | zero => intro h; omega
  | succ n ih =>
    intro hn
    by_cases he : n = i
    · subst he
      obtain ⟨h1, h2⟩ := low n (Nat.le_refl _)
      unfold tmV tmW
      rw [h1, h2]
      cases hx : writes ops fr0.sz n t <;> simp
    · obtain ⟨h1, h2⟩ := ih (by omega)
      have e : (n == i || L n) = L n := by
        have : (n == i) = false := by simpa using he
        simp [this]
      unfold tmV tmW
      rw [h1, h2, e]
      cases hx : writes ops fr0.sz i t with
      | false => simp
      | true =>
        have hno : writes ops fr0.sz n t = false := by
          cases hy : writes ops fr0.sz n t with
          | false => rfl
          | true =>
            unfold writes at hx hy
            simp only [Bool.and_eq_true, beq_iff_eq] at hx hy
            cases hk : ops[n]? with
            | none => rw [hk] at hy; simp at hy
            | some on =>
              rw [hk] at hy
              rw [ho] at hx
              exact absurd (by simpa using hx.1) (hr.two i n o on t (by omega) ho hk (by simpa using hy.1)).2
        simp [hno]

end Go.Proofs.YtmhajfnfjjbflaaGreatDoor.Ev
end

/- Drawn regions: the invariant. -/
namespace Go.Proofs.YtmhajfnfjjbflaaGreatDoor.Ev

variable {E : Env}

/-- What has come about since the region began: without the heap relation; μ: the least block that the whole region turns. -/
structure Acc (n μ : Nat) (π0 : PM) (w0 : World) (π : PM) (w : World) : Prop where
  le : π0.le π
  new : ∀ β p, π β = some p → π0 β = none → n ≤ β ∧ (w0.heap.size ≤ p.b ∨ ∃ β₀ p₀, π0 β₀ = some p₀ ∧ p₀.b = p.b ∧ μ ≤ β₀)
  size : w0.heap.size ≤ w.heap.size
  keep : ∀ b, b < w0.heap.size → (∀ β p, π0 β = some p → p.b = b → β < μ) → w.heap[b]? = w0.heap[b]?
  os : w.os = w0.os
  tape : w.tape = w0.tape
  output : w.output = w0.output

theorem Acc.refl (n μ : Nat) (π : PM) (w : World) : Acc n μ π w π w :=
  ⟨PM.le_refl π, fun β p h1 h2 => by rw [h1] at h2; simp at h2, Nat.le_refl _, fun _ _ _ => rfl, rfl, rfl, rfl⟩

theorem Acc.step {n μ : Nat} {π0 π πc π₁ π' : PM} {w0 w w' : World} {a a₁ : AS} (h : Acc n μ π0 w0 π w) (k : Stp a πc w a₁ π₁ w') (hc : πc.le π) (hμ : ∀ β p, πc β = some p → β < μ → β < a₁.mu) (hle : π.le π')
    (hπ' : ∀ β p, π' β = some p → π β = some p ∨ (π₁ β = some p ∧ πc β = none)) (hn : n ≤ a.nx) : Acc n μ π0 w0 π' w' := by
  have cases0 : ∀ β p, π β = some p → π0 β = some p ∨ (w0.heap.size ≤ p.b ∨ ∃ β₀ p₀, π0 β₀ = some p₀ ∧ p₀.b = p.b ∧ μ ≤ β₀) := by
    intro β p hp
    cases h0 : π0 β with
    | some q =>
      have := h.le _ _ h0
      rw [hp] at this
      obtain rfl : p = q := by simpa using this
      exact .inl rfl
    | none => exact .inr (h.new β p hp h0).2
  refine ⟨PM.le_trans h.le hle, fun β p hp h0 => ?_, Nat.le_trans h.size k.size, fun b hb hm => ?_, k.os.trans h.os, k.tape.trans h.tape, k.output.trans h.output⟩
  · rcases hπ' β p hp with hq | ⟨hq, hz⟩
    · exact h.new β p hq h0
    · obtain ⟨x, y⟩ := k.new β p hq hz
      refine ⟨Nat.le_trans hn x, ?_⟩
      rcases y with y | ⟨β₀, p₀, u, v, z⟩
      · exact .inl (Nat.le_trans h.size y)
      · rcases cases0 β₀ p₀ (hc _ _ u) with c | c | ⟨β₂, p₂, c1, c2, c3⟩
        · refine .inr ⟨β₀, p₀, c, v, ?_⟩
          apply Classical.byContradiction
          intro hlt
          have := hμ β₀ p₀ u (by omega)
          omega
        · exact .inl (by rw [← v]; exact c)
        · exact .inr ⟨β₂, p₂, c1, c2.trans v, c3⟩
  · rw [← h.keep b hb hm]
    refine k.keep b (Nat.lt_of_lt_of_le hb h.size) fun β p hp hpb => ?_
    rcases cases0 β p (hc _ _ hp) with c | c | ⟨β₂, p₂, c1, c2, c3⟩
    · exact hμ β p hp (hm β p c hpb)
    · omega
    · have := hm β₂ p₂ c1 (c2.trans hpb); omega

theorem le_plus_cut {π π₁ : PM} {w w' : World} {a a₁ : AS} {x n : Nat} (k : Stp a (π.cut x) w a₁ π₁ w') (hn : a₁.nx ≤ n) (hfree : ∀ β, x ≤ β → β < a₁.nx → π β = none) : π₁.le ((π.plus π₁).cut n) := by
  intro β r hr
  have g1 := k.r.dom β r hr
  refine PM.cut_some.2 ⟨by omega, ?_⟩
  cases hz : π β with
  | none => unfold PM.plus; rw [hz]; exact hr
  | some z =>
    have hlt : β < x := by
      apply Classical.byContradiction
      intro hge
      have := hfree β (by omega) g1
      rw [hz] at this; simp at this
    have := k.le β z (PM.cut_some.2 ⟨hlt, hz⟩)
    rw [hr] at this
    obtain rfl : r = z := by simpa using this
    unfold PM.plus; rw [hz]

/-- The states of a phase, a benign step put beside them. -/
theorem benign {st : Nat → AS} {p q x : Nat} {π π₁ : PM} {w w' : World} {a a₁ : AS} (hx : p ≤ x ∧ x ≤ q) (ha : a.nx = (st x).nx) (hR : ∀ k, p ≤ k → k ≤ q → R (st k) (π.cut (st k).nx) w)
    (hmono : ∀ k k', p ≤ k → k ≤ k' → k' ≤ q → (st k).nx ≤ (st k').nx)
    (k : Stp a (π.cut (st x).nx) w a₁ π₁ w') (hμ : (st x).nx ≤ a₁.mu)
    (H : ∀ k, x < k → k ≤ q → a₁.nx ≤ (st k).nx ∧ (∀ β, β < a₁.nx → (st k).hp.get β = a₁.hp.get β) ∧ (∀ f, f < a₁.nx → (st k).fam.get f = a₁.fam.get f))
    (hfree : ∀ β, (st x).nx ≤ β → β < a₁.nx → π β = none) :
    ∀ k, p ≤ k → k ≤ q → R (st k) ((π.plus π₁).cut (st k).nx) w' := by
  intro j hj1 hj2
  have hkeep : ∀ b, b < w.heap.size → w'.heap[b]? = w.heap[b]? := fun b hb => k.keep b hb fun β p hp _ => by
    have := (PM.cut_some.1 hp).1
    omega
  have hnew : ∀ β r, π₁ β = some r → π β = none → (st x).nx ≤ β ∧ β < a₁.nx ∧ w.heap.size ≤ r.b := by
    intro β r h1 h2
    have hc : π.cut (st x).nx β = none := by
      cases hz : π.cut (st x).nx β with
      | none => rfl
      | some z => have := (PM.cut_some.1 hz).2; rw [h2] at this; simp at this
    obtain ⟨h3, h4⟩ := k.new β r h1 hc
    refine ⟨by omega, k.r.dom β r h1, ?_⟩
    rcases h4 with h4 | ⟨β₀, p₀, u, v, z⟩
    · exact h4
    · have := (PM.cut_some.1 u).1; omega
  by_cases hxj : j ≤ x
  · have e : (π.plus π₁).cut (st j).nx = π.cut (st j).nx := by
      funext β
      cases hz : (π.plus π₁).cut (st j).nx β with
      | some z =>
        obtain ⟨h1, h2⟩ := PM.cut_some.1 hz
        rcases PM.plus_some h2 with h3 | ⟨h3, h4⟩
        · exact (PM.cut_some.2 ⟨h1, h3⟩).symm
        · have := (hnew β z h4 h3).1
          have := hmono j x hj1 hxj hx.2
          omega
      | none =>
        cases hy : π.cut (st j).nx β with
        | none => rfl
        | some y =>
          obtain ⟨h1, h2⟩ := PM.cut_some.1 hy
          have := PM.cut_some.2 ⟨h1, PM.le_plus π π₁ _ _ h2⟩
          rw [hz] at this; simp at this
    rw [e]
    exact (hR j hj1 hj2).frame fun β r hr => hkeep _ ((hR j hj1 hj2).inb hr)
  · obtain ⟨h1, h2, h3⟩ := H j (by omega) hj2
    refine R.join (hR j hj1 hj2) k.r hkeep h2 h3 h1 (fun β r hr => ?_) (fun β r hr => ?_) (fun β r hr => ?_)
    · obtain ⟨g1, g2⟩ := PM.cut_some.1 hr
      rcases PM.plus_some g2 with g3 | ⟨g3, g4⟩
      · exact .inl (PM.cut_some.2 ⟨g1, g3⟩)
      · exact .inr ⟨g4, (hnew β r g4 g3).2.2⟩
    · obtain ⟨g1, g2⟩ := PM.cut_some.1 hr
      exact PM.cut_some.2 ⟨g1, PM.le_plus π π₁ _ _ g2⟩
    · have g1 := k.r.dom β r hr
      refine PM.cut_some.2 ⟨by omega, ?_⟩
      cases hz : π β with
      | none => unfold PM.plus; rw [hz]; exact hr
      | some z =>
        have hlt : β < (st x).nx := by
          apply Classical.byContradiction
          intro hge
          have := hfree β (by omega) g1
          rw [hz] at this; simp at this
        have := k.le β z (PM.cut_some.2 ⟨hlt, hz⟩)
        rw [hr] at this
        obtain rfl : r = z := by simpa using this
        unfold PM.plus; rw [hz]

/-- After an operation that has turned what was there: the states of the next phase. -/
theorem turned {st : Nat → AS} {p q : Nat} {π₁ : PM} {w' : World} (hR : R (st p) π₁ w') 
    (H : ∀ k, p ≤ k → k ≤ q → (st p).nx ≤ (st k).nx ∧ (∀ β, β < (st p).nx → (st k).hp.get β = (st p).hp.get β) ∧ (∀ f, f < (st p).nx → (st k).fam.get f = (st p).fam.get f) ∧ ∀ f, (st k).nx ≤ f → (st k).fam.get f = none) :
    ∀ k, p ≤ k → k ≤ q → R (st k) (π₁.cut (st k).nx) w' := by
  intro j h1 h2
  obtain ⟨g1, g2, g3, g4⟩ := H j h1 h2
  have e : π₁.cut (st j).nx = π₁ := by
    funext β
    cases hz : π₁ β with
    | none => unfold PM.cut; rw [hz]; simp
    | some z => exact PM.cut_some.2 ⟨Nat.lt_of_lt_of_le (hR.dom β z hz) g1, hz⟩
  rw [e]
  exact hR.later g2 g3 g4 g1

end Go.Proofs.YtmhajfnfjjbflaaGreatDoor.Ev

/- Drawn regions: every order comes to the same. -/
noncomputable section
namespace Go.Proofs.YtmhajfnfjjbflaaGreatDoor.Ev

variable {E : Env}

theorem syncsGo_at {lo : Oper → Bool} {j bj : Nat} : ∀ {os : List Oper} {bs : List Nat} {s : Nat}, syncsGo lo j bj os bs s = true → os.length = bs.length → ∀ i o, os[i]? = some o → touches o.op = true →
    s + i = j ∨ (s + i < j ∧ (bj.testBit (s + i) = true ∨ lo o = true)) ∨ (j < s + i ∧ ((bs[i]?).getD 0).testBit j = true)
  | [], bs, s, h, hl, i, o, ho, ht => by simp at ho
  | x :: os, [], s, h, hl, i, o, ho, ht => by simp at hl
  | x :: os, b :: bs, s, h, hl, i, o, ho, ht => by
    unfold syncsGo at h
    simp only [Bool.and_eq_true, Bool.or_eq_true, Bool.not_eq_true'] at h
    cases i with
    | zero =>
      simp only [List.getElem?_cons_zero, Option.some.injEq] at ho
      subst ho
      rcases h.1 with ((h1 | h1) | h1) | h1
      · rw [ht] at h1; simp at h1
      · exact .inl (Nat.eq_of_beq_eq_true h1)
      · exact .inr (.inl ⟨by simpa using h1.1, h1.2⟩)
      · exact .inr (.inr ⟨by simpa using h1.1, by simpa using h1.2⟩)
    | succ i =>
      have := syncsGo_at h.2 (by simpa using hl) i o (by simpa using ho) ht
      rw [show s + (i + 1) = s + 1 + i by omega]
      simpa using this

theorem befGo_length : ∀ (os : List Oper) (acc : List Nat), (befGo acc os).length = acc.length + os.length
  | [], acc => by simp [befGo]
  | o :: os, acc => by rw [befGo_cons, befGo_length os]; simp; omega

theorem syncs_at {lo : Oper → Bool} {ops : Array Oper} {j : Nat} (h : syncs lo ops.toList (befA ops.toList) j = true) {i : Nat} {o : Oper} (ho : ops[i]? = some o) (ht : touches o.op = true) :
    i = j ∨ (i < j ∧ ((bef ops j).testBit i = true ∨ lo o = true)) ∨ (j < i ∧ (bef ops i).testBit j = true) := by
  have := syncsGo_at h (by rw [befA, befGo_length]; simp) i o (by simpa using ho) ht
  simpa [bef] using this

/-! ### Loads that may come later -/
theorem AV.same_ok : ∀ (n : Nat) (x y : AV), AV.same n x y = true → x = y
  | 0, _, _, h => by simp [AV.same] at h
  | n + 1, x, y, h => by
    unfold AV.same at h
    split at h
    · simpa using h
    · simp only [Bool.and_eq_true, beq_iff_eq] at h
      rw [h.1, h.2]
    · rw [(PS.eq_iff _ _).1 h]
    · rfl
    · simp only [Bool.and_eq_true] at h
      rw [Nat.eq_of_beq_eq_true h.1, Nat.eq_of_beq_eq_true h.2]
    · rfl
    · simp only [Bool.and_eq_true, beq_iff_eq] at h
      obtain ⟨⟨⟨⟨h1, h2⟩, h3⟩, h4⟩, h5⟩ := h
      rw [Nat.eq_of_beq_eq_true h1, Nat.eq_of_beq_eq_true h2, Nat.eq_of_beq_eq_true h3, h4, Nat.eq_of_beq_eq_true h5]
    · rfl
    · rw [Nat.eq_of_beq_eq_true h]
    · rfl
    · rfl
    · simp only [Bool.and_eq_true, beq_iff_eq] at h
      rw [h.1, AV.same_ok n _ _ h.2]
    · rename_i cs ds
      simp only [Bool.and_eq_true, List.all_eq_true] at h
      have hl := Nat.eq_of_beq_eq_true h.1
      congr 1
      refine List.ext_getElem hl fun i h1 h2 => AV.same_ok n _ _ ?_
      refine h.2 (cs[i], ds[i]) ?_
      rw [← List.getElem_zip (h := by simp; omega)]
      exact List.getElem_mem _
    · rfl
    · simp at h

theorem load_still {ρ : Operand → Option AV} {t : TypeId} {x : Operand} {a a' : AS} {r : AN} (h : opLoad E ρ t x a = some (r, a')) : a' = a := by
  unfold opLoad at h
  split at h
  · unfold valM at h
    split at h
    · rename_i v a₁ hv
      simp only [Option.some.injEq, Prod.mk.injEq] at h
      rw [← h.2]
      unfold aLoadVar at hv
      split at hv
      · simp at hv
      · rename_i ti _
        have c1 : ∀ {β : Nat} {y : List AV × TypeId × Nat} {b b' : AS}, aCells β b = some (y, b') → b' = b := by
          intro β y b b' hc
          unfold aCells at hc
          split at hc
          · split at hc
            · simp only [Option.some.injEq, Prod.mk.injEq] at hc; exact hc.2.symm
            · simp at hc
          · simp at hc
        cases hb : ti.kind.isAgg with
        | true =>
          rw [hb] at hv
          simp only [cond_true] at hv
          split at hv
          · rename_i cs a₂ h2
            simp only [Option.some.injEq, Prod.mk.injEq] at hv
            rw [← hv.2]
            unfold aLoadN at h2
            split at h2
            · rename_i hc
              split at h2
              · simp only [Option.some.injEq, Prod.mk.injEq] at h2
                rw [← h2.2]; exact c1 hc
              · simp at h2
            · simp at h2
          · simp at hv
        | false =>
          rw [hb] at hv
          simp only [cond_false] at hv
          unfold aLoad1 at hv
          split at hv
          · rename_i hc
            split at hv
            · simp only [Option.some.injEq, Prod.mk.injEq] at hv
              rw [← hv.2]; exact c1 hc
            · simp at hv
          · simp at hv
    · simp at h
  · simp at h

theorem wait_still {ρ : Operand → Option AV} {o : Oper} {a a' : AS} {r : AN} (hm : mayWait o.op = true) (h : opA E ρ o a = some (r, a')) : a' = a ∧ ∀ f l, r ≠ .enter f l := by
  unfold opA at h
  cases hop : o.op <;> rw [hop] at hm h <;> first
    | (simp [mayWait] at hm; done)
    | skip
  · simp only [] at h
    refine ⟨load_still h, fun f l e => ?_⟩
    subst e
    unfold opLoad at h
    split at h
    · unfold valM at h
      split at h <;> simp at h
    · simp at h
  · rename_i c
    simp only [] at h
    unfold opCall at h
    split at h
    · simp at h
    · rename_i args _
      cases hc : c.callee with
      | value f => simp [mayWait, hc] at hm
      | invoke r n => simp [mayWait, hc] at hm
      | builtin b =>
        rw [hc] at h
        simp only [] at h
        cases b <;> first
          | (simp [mayWait, hc] at hm; done)
          | skip
        unfold valM at h
        split at h
        · rename_i v a₁ hv
          simp only [Option.some.injEq, Prod.mk.injEq] at h
          refine ⟨?_, fun f l e => by rw [← h.1] at e; simp at e⟩
          rw [← h.2]
          unfold aBuiltin at hv
          split at hv <;> first
            | (simp at *; done)
            | skip
          unfold Ev.aLen at hv
          split at hv
          · simp at hv
          · split at hv <;> first
              | (simp at hv; done)
              | (simp only [Option.some.injEq, Prod.mk.injEq] at hv; exact hv.2.symm)
              | skip
            split at hv
            · rename_i es cl a₂ hm
              simp only [Option.some.injEq, Prod.mk.injEq] at hv
              rw [← hv.2]; exact same_aMap hm
            · simp at hv
        · simp at h

theorem stepV_congr {callK : CallK} {ops : Array Oper} {o : Oper} {fr fr' : Fr} {a : AS} (h : ∀ t, t ∈ o.looksAt ops → fr.get t = fr'.get t) : stepV E callK ops o fr a = stepV E callK ops o fr' a := by
  have hw : wantedA fr ops o = wantedA fr' ops o := by
    unfold wantedA
    cases hgd : o.guard with
    | none => rfl
    | some jw =>
      obtain ⟨j, want⟩ := jw
      simp only []
      cases hx : ops.toList[j]? with
      | none => rfl
      | some x =>
        simp only []
        cases hd : x.dst with
        | none => rfl
        | some t =>
          simp only []
          rw [h t (by
            unfold Oper.looksAt
            rw [hgd]
            have : ops[j]? = some x := by simpa using hx
            simp [this, hd])]
  unfold stepV
  rw [hw, opA_congr (ρ := fr.eval E) (σ := fr'.eval E) fun x hx => ?_]
  cases x with
  | tmp t =>
    simp only [Fr.eval]
    rw [h t]
    unfold Oper.looksAt
    simp only [List.mem_append, List.mem_filterMap]
    exact .inl ⟨.tmp t, hx, rfl⟩
  | const c => rfl
  | global g => rfl
  | func f => rfl

theorem act_put_get (ac : Act) (d : Option Tmp) (v : Value) (t : Nat) : (ac.put d v).tmps.getD t undef = if (d == some t && t.blt ac.tmps.size) = true then v else ac.tmps.getD t undef := by
  cases d with
  | none => rfl
  | some d =>
    unfold Act.put
    simp only [Array.getD_eq_getD_getElem?, Array.getElem?_setIfInBounds]
    by_cases e : d = t
    · subst e
      by_cases h : d < ac.tmps.size
      · simp [h]
      · simp [h]
    · have : (some d == some t) = false := by simpa using e
      simp [e]
theorem act_put_size (ac : Act) (d : Option Tmp) (v : Value) : (ac.put d v).tmps.size = ac.tmps.size := by cases d <;> simp [Act.put]
theorem act_put_defers (ac : Act) (d : Option Tmp) (v : Value) : (ac.put d v).defers = ac.defers := by cases d <;> rfl

section
variable {callK : CallK} {ops : Array Oper} {st s1 : Nat → AS} {fs : Nat → Fr} {vs : Nat → AV}

def TraceA (E : Env) (callK : CallK) (ops : Array Oper) (st s1 : Nat → AS) (fs : Nat → Fr) (vs : Nat → AV) : Prop :=
  ∀ i o, ops[i]? = some o → Tr1 E callK ops o i (st i) (fs i) (vs i) (s1 i) (st (i + 1)) (fs (i + 1))

theorem Trace.all (h : Trace E callK ops ops.toList 0 st s1 fs vs) : TraceA E callK ops st s1 fs vs := fun i o ho => by
  have := h i o (by simpa using ho)
  simpa using this

variable (T : TraceA E callK ops st s1 fs vs) (hC : CallOk E callK)

include T hC in
theorem tr_nx {i : Nat} (hi : i < ops.size) : (st i).nx ≤ (s1 i).nx ∧ (st (i + 1)).nx = (s1 i).nx ∧ (st (i + 1)).mu ≤ (st i).mu ∧ (st (i + 1)).mu ≤ (s1 i).mu := by
  have t := T i _ (Array.getElem?_eq_getElem hi)
  have h := stepV_AF hC t.run
  refine ⟨h.nx, by rw [t.st], ?_, ?_⟩
  · rw [t.st]; exact Nat.min_le_left _ _
  · rw [t.st]; exact Nat.min_le_right _ _

include T hC in
theorem tr_mono : ∀ {k k' : Nat}, k ≤ k' → k' ≤ ops.size → (st k).nx ≤ (st k').nx ∧ (st k').mu ≤ (st k).mu := by
  intro k k' h
  induction h with
  | refl => intro _; exact ⟨Nat.le_refl _, Nat.le_refl _⟩
  | @step j h ih =>
    intro hm
    have h1 := ih (by omega)
    obtain ⟨a, b, c, d⟩ := tr_nx T hC (i := j) (Nat.lt_of_succ_le hm)
    show (st k).nx ≤ (st (j + 1)).nx ∧ (st (j + 1)).mu ≤ (st k).mu
    exact ⟨by omega, by omega⟩

include T hC in
theorem tr_wf (h0 : ∀ f, (st 0).nx ≤ f → (st 0).fam.get f = none) : ∀ i, i ≤ ops.size → ∀ f, (st i).nx ≤ f → (st i).fam.get f = none := by
  intro i
  induction i with
  | zero => intro _; exact h0
  | succ i ih =>
    intro hi f hf
    have t := T i _ (Array.getElem?_eq_getElem (show i < ops.size by omega))
    have h := stepV_AF hC t.run
    rw [t.st] at hf ⊢
    exact h.wf (ih (by omega)) f hf

include T hC in
theorem tr_agree {p q : Nat} (hq : q ≤ ops.size) (hb : ∀ i, p ≤ i → i < q → (st i).nx ≤ (s1 i).mu) : ∀ {k k' : Nat}, p ≤ k → k ≤ k' → k' ≤ q →
    (∀ β, β < (st k).nx → (st k').hp.get β = (st k).hp.get β) ∧ (∀ f, f < (st k).nx → (st k').fam.get f = (st k).fam.get f) := by
  intro k k' hp h
  induction h with
  | refl => intro _; exact ⟨fun _ _ => rfl, fun _ _ => rfl⟩
  | @step j h ih =>
    intro hm
    obtain ⟨a1, a2⟩ := ih (by omega)
    have hj : j < ops.size := by omega
    have t := T j _ (Array.getElem?_eq_getElem hj)
    have af := stepV_AF hC t.run
    have hbj := hb j (by have : k ≤ j := h; omega) (by omega)
    have hn := (tr_mono T hC (k := k) (k' := j) h (by omega)).1
    rw [t.st]
    refine ⟨fun β hβ => ?_, fun f hf => ?_⟩
    · rw [← a1 β hβ]; exact af.hp β (by simp only []; omega) (by omega)
    · rw [← a2 f hf]; exact af.fam f (by simp only []; omega) (by omega)

include T in
theorem tr_fs : ∀ i, i ≤ ops.size → (fs i).sz = (fs 0).sz ∧ (fs i).df = (fs 0).df ∧ ∀ t, (fs i).get t = tmV ops (fs 0) vs (fun _ => true) t i := by
  intro i
  induction i with
  | zero => intro _; exact ⟨rfl, rfl, fun _ => rfl⟩
  | succ i ih =>
    intro hi
    obtain ⟨h1, h2, h3⟩ := ih (by omega)
    have hg := Array.getElem?_eq_getElem (show i < ops.size by omega)
    have t := T i _ hg
    rw [t.fs]
    refine ⟨by rw [put_sz, h1], by rw [put_df, h2], fun t' => ?_⟩
    rw [put_get, tmV_succ, h3, h1]
    unfold writes
    rw [hg]
    simp

/-- The next operation that turns what was there. -/
theorem next_mut (st s1 : Nat → AS) (m : Nat) : ∀ d p, p + d = m → ∃ q, p ≤ q ∧ q ≤ m ∧ (∀ i, p ≤ i → i < q → (st i).nx ≤ (s1 i).mu) ∧ (q < m → ¬ (st q).nx ≤ (s1 q).mu)
  | 0, p, h => ⟨p, Nat.le_refl _, by omega, fun i h1 h2 => by omega, fun h1 => by omega⟩
  | d + 1, p, h => by
    by_cases hb : (st p).nx ≤ (s1 p).mu
    · obtain ⟨q, h1, h2, h3, h4⟩ := next_mut st s1 m d (p + 1) (by omega)
      refine ⟨q, by omega, h2, fun i g1 g2 => ?_, h4⟩
      by_cases e : i = p
      · subst e; exact hb
      · exact h3 i (by omega) g2
    · exact ⟨p, Nat.le_refl _, by omega, fun i h1 h2 => by omega, fun _ => hb⟩

end

section
variable {callK : CallK} {ops : Array Oper} {st s1 : Nat → AS} {fs : Nat → Fr} {vs : Nat → AV} (T : TraceA E callK ops st s1 fs vs) (hr : RegOk ops)

include T hr in
theorem fs_look {i : Nat} {o : Oper} (ho : ops[i]? = some o) (hmw : mayWait o.op = true) {t : Nat} (ht : t ∈ o.looksAt ops) (hne : o.dst ≠ some t) : ∀ n, i ≤ n → n ≤ ops.size → (fs n).get t = (fs i).get t := by
  intro n h
  induction h with
  | refl => intro _; rfl
  | @step j h ih =>
    intro hm
    have hj : j < ops.size := hm
    have hg := Array.getElem?_eq_getElem hj
    have hT := T j _ hg
    show (fs (j + 1)).get t = _
    rw [hT.fs, put_get, if_neg, ih (by omega)]
    intro hc
    simp only [Bool.and_eq_true, beq_iff_eq] at hc
    by_cases e : i = j
    · subst e
      rw [hg] at ho
      obtain rfl : ops[i] = o := by simpa using ho
      exact hne hc.1
    · exact hr.wait i j o _ t (by have : i ≤ j := h; omega) ho hg hc.1 hmw ht

include T hr in
theorem fs_val {i : Nat} {o : Oper} (ho : ops[i]? = some o) {d : Nat} (hd : o.dst = some d) (hs : d < (fs 0).sz) : ∀ n, i + 1 ≤ n → n ≤ ops.size → (fs n).get d = vs i := by
  intro n h
  induction h with
  | refl =>
    intro _
    rw [(T i o ho).fs, put_get, if_pos]
    have hi := (Array.getElem?_eq_some_iff.1 ho).1
    rw [(tr_fs T i (by omega)).1, hd]
    simp [hs]
  | @step j h ih =>
    intro hm
    have hj : j < ops.size := hm
    have hg := Array.getElem?_eq_getElem hj
    have hT := T j _ hg
    show (fs (j + 1)).get d = _
    rw [hT.fs, put_get, if_neg, ih (by omega)]
    intro hc
    simp only [Bool.and_eq_true, beq_iff_eq] at hc
    exact (hr.two i j o _ d (by have : i + 1 ≤ j := h; omega) ho hg hc.1).2 hd

include T hr in
/-- A load that may come behind operation j. -/
theorem loose_at {i j : Nat} {o : Oper} (ho : ops[i]? = some o) (hij : i < j) (hj : j < ops.size) (b : AS) (h : looseB E callK ops (fs (j + 1)) b o = true) :
    stepV E callK ops o (fs i) b = some (vs i, b) := by
  unfold looseB at h
  cases hmw : mayWait o.op with
  | false => rw [hmw] at h; simp at h
  | true =>
    rw [hmw] at h
    simp only [cond_true] at h
    split at h
    · rename_i d hd
      split at h
      · rename_i v a₁ hv
        simp only [Bool.and_eq_true, Bool.not_eq_true'] at h
        obtain ⟨⟨h1, h2⟩, h3⟩ := h
        have hsz : (fs (j + 1)).sz = (fs 0).sz := (tr_fs T (j + 1) (by omega)).1
        have h1' : d < (fs 0).sz := by rw [← hsz]; simpa using h1
        have e := AV.same_ok _ _ _ h3
        rw [fs_val T hr ho hd h1' (j + 1) (by omega) (by omega)] at e
        subst e
        have hc : stepV E callK ops o (fs i) b = stepV E callK ops o (fs (j + 1)) b := stepV_congr fun t ht => by
          refine (fs_look T hr ho hmw ht ?_ (j + 1) (by omega) (by omega)).symm
          intro e
          rw [hd] at e
          obtain rfl : d = t := by simpa using e
          simp at h2
          exact h2 ht
        rw [hc, hv]
        congr 2
        unfold stepV at hv
        split at hv
        · split at hv
          · rename_i ho'
            simp only [Option.some.injEq, Prod.mk.injEq] at hv
            rw [← hv.2]; exact (wait_still hmw ho').1
          · rename_i ho'
            simp only [Option.some.injEq, Prod.mk.injEq] at hv
            rw [← hv.2]; exact (wait_still hmw ho').1
          · rename_i f l a₂ ho'
            exact absurd rfl ((wait_still hmw ho').2 f l)
          · simp at hv
        · simp only [Option.some.injEq, Prod.mk.injEq] at hv
          exact hv.2.symm
      · simp at h
    · simp at h
end

end Go.Proofs.YtmhajfnfjjbflaaGreatDoor.Ev
end

/- Drawn regions: the invariant, and a step. -/
noncomputable section
namespace Go.Proofs.YtmhajfnfjjbflaaGreatDoor.Ev

variable {E : Env}

structure Inv (E : Env) (callK : CallK) (ops : Array Oper) (st s1 : Nat → AS) (fs : Nat → Fr) (vs : Nat → AV) (π0 : PM) (w0 : World) (df0 : List Deferred)
    (L : Nat → Bool) (π : PM) (w : World) (ac : Act) (p q : Nat) : Prop where
  pq : p ≤ q
  qm : q ≤ ops.size
  ben : ∀ i, p ≤ i → i < q → (st i).nx ≤ (s1 i).mu
  turns : q < ops.size → ¬ (st q).nx ≤ (s1 q).mu
  past : ∀ i o, i < p → ops[i]? = some o → touches o.op = true → L i = true ∨ stepV E callK ops o (fs i) { st p with mu := (st p).nx } = some (vs i, { st p with mu := (st p).nx })
  fut : ∀ i o, q ≤ i → ops[i]? = some o → L i = true → touches o.op = false
  R : ∀ k, p ≤ k → k ≤ q → R (st k) (π.cut (st k).nx) w
  dom : ∀ β pl, π β = some pl → β < (st p).nx ∨ ∃ i, p ≤ i ∧ i < q ∧ L i = true ∧ (st i).nx ≤ β ∧ β < (st (i + 1)).nx
  tm : ∀ t, VR (π.cut (st (max (tmW ops (fs 0) L t ops.size) p)).nx) (tmV ops (fs 0) vs L t ops.size) (ac.tmps.getD t undef)
  sz : ac.tmps.size = (fs 0).sz
  df : ac.defers = df0
  acc : Acc (st 0).nx (st ops.size).mu π0 w0 π w

section
variable {callK : CallK} {ops : Array Oper} {st s1 : Nat → AS} {fs : Nat → Fr} {vs : Nat → AV} (T : TraceA E callK ops st s1 fs vs) (hE : EnvOk E) (hC : CallOk E callK) (hr : RegOk ops)
  {π0 : PM} {w0 : World} {df0 : List Deferred} {L : Nat → Bool} {π : PM} {w : World} {ac : Act} {p q : Nat}

include T hC in
/-- Nothing lies beyond the phase. -/
theorem Inv.below (I : Inv E callK ops st s1 fs vs π0 w0 df0 L π w ac p q) {β : Nat} {pl : Pl} (h : π β = some pl) : β < (st q).nx := by
  have hqm := I.qm
  rcases I.dom β pl h with h1 | ⟨i, h1, h2, _, _, h3⟩
  · exact Nat.lt_of_lt_of_le h1 (tr_mono T hC I.pq I.qm).1
  · exact Nat.lt_of_lt_of_le h3 (tr_mono T hC (show i + 1 ≤ q by omega) I.qm).1

include T hC hr in
/-- What a ready operation looks at. -/
theorem Inv.looks (I : Inv E callK ops st s1 fs vs π0 w0 df0 L π w ac p q) {i : Nat} {o : Oper} (ho : ops[i]? = some o) (hL : L i = false) (hb : ∀ k, (bef ops i).testBit k = true → L k = true)
    (hcl : ∀ j k, j < ops.size → L j = true → (bef ops j).testBit k = true → L k = true) {x : Nat} (hx : x = if i < p then p else if q < i then q else i) : ∀ t, t ∈ o.looksAt ops → VR (π.cut (st x).nx) ((fs i).get t) (ac.tmps.getD t undef) := by
  intro t ht
  have hi : i < ops.size := (Array.getElem?_eq_some_iff.1 ho).1
  have hqm := I.qm
  have hpq := I.pq
  obtain ⟨h1, h2⟩ := val_ready hr (fr0 := fs 0) (vs := vs) ho ht hL hb hcl ops.size (by omega)
  have h3 := I.tm t
  rw [h1, ← (tr_fs T i (by omega)).2.2 t] at h3
  refine h3.mono fun β pl hp => ?_
  obtain ⟨g1, g2⟩ := PM.cut_some.1 hp
  refine PM.cut_some.2 ⟨?_, g2⟩
  by_cases c1 : i < p
  · rw [if_pos c1] at hx
    rw [hx]
    rw [show max (tmW ops (fs 0) L t ops.size) p = p by omega] at g1
    exact g1
  · rw [if_neg c1] at hx
    by_cases c2 : q < i
    · rw [if_pos c2] at hx
      rw [hx]
      exact I.below T hC g2
    · rw [if_neg c2] at hx
      rw [hx]
      exact Nat.lt_of_lt_of_le g1 (tr_mono T hC (show max (tmW ops (fs 0) L t ops.size) p ≤ i by omega) (by omega)).1

include T hC hr in
/-- The temporaries behind a step. -/
theorem Inv.tms (I : Inv E callK ops st s1 fs vs π0 w0 df0 L π w ac p q) {i : Nat} {o : Oper} (ho : ops[i]? = some o) {v' : Value} {π' : PM} {p' : Nat} (hle : π.le π') (hp : p ≤ p') (hp' : p' ≤ ops.size)
    (hv : VR (π'.cut (st (max (i + 1) p')).nx) (vs i) v') : ∀ t, VR (π'.cut (st (max (tmW ops (fs 0) (fun k => k == i || L k) t ops.size) p')).nx) (tmV ops (fs 0) vs (fun k => k == i || L k) t ops.size)
      ((ac.put o.dst v').tmps.getD t undef) := by
  intro t
  have hi : i < ops.size := (Array.getElem?_eq_some_iff.1 ho).1
  obtain ⟨h1, h2⟩ := val_upd hr (fr0 := fs 0) (vs := vs) (L := L) ho t ops.size hi
  rw [h1, h2, act_put_get, I.sz]
  have e : writes ops (fs 0).sz i t = (o.dst == some t && t.blt (fs 0).sz) := by unfold writes; rw [ho]; rfl
  rw [e]
  cases hw : (o.dst == some t && t.blt (fs 0).sz) with
  | true => simp only [if_true]; exact hv
  | false =>
    simp only [Bool.false_eq_true, if_false]
    refine (I.tm t).mono fun β pl hp1 => ?_
    obtain ⟨g1, g2⟩ := PM.cut_some.1 hp1
    refine PM.cut_some.2 ⟨Nat.lt_of_lt_of_le g1 (tr_mono T hC ?_ ?_).1, hle _ _ g2⟩
    · omega
    · have := tmW_le ops (fs 0) L t ops.size; omega

include T hC hr in
/-- A step that leaves what was there. -/
theorem Inv.quiet (I : Inv E callK ops st s1 fs vs π0 w0 df0 L π w ac p q) {i : Nat} {o : Oper} (ho : ops[i]? = some o) {x : Nat} (hx : x = if i < p then p else if q < i then q else i)
    {a a₁ : AS} (ha : a.nx = (st x).nx) {π₁ : PM} {w' : World} {v' : Value} (k : Stp a (π.cut (st x).nx) w a₁ π₁ w') (hμ : (st x).nx ≤ a₁.mu) (hv : VR π₁ (vs i) v')
    (hc : ((touches o.op = false ∨ i < q) ∧ a₁.nx = (st x).nx ∧ a₁.hp = (st x).hp ∧ a₁.fam = (st x).fam) ∨ (x = i ∧ p ≤ i ∧ i < q ∧ L i = false ∧ a₁ = s1 i)) :
    Inv E callK ops st s1 fs vs π0 w0 df0 (fun k => k == i || L k) (π.plus π₁) w' (ac.put o.dst v') p q := by
  have hi : i < ops.size := (Array.getElem?_eq_some_iff.1 ho).1
  have hpq := I.pq
  have hqm := I.qm
  have hxp : p ≤ x ∧ x ≤ q := by
    by_cases c1 : i < p
    · rw [if_pos c1] at hx; omega
    · rw [if_neg c1] at hx
      by_cases c2 : q < i
      · rw [if_pos c2] at hx; omega
      · rw [if_neg c2] at hx; omega
  have hmono : ∀ k k', p ≤ k → k ≤ k' → k' ≤ q → (st k).nx ≤ (st k').nx := fun k k' _ h1 h2 => (tr_mono T hC h1 (by omega)).1
  have hnx1 : ∀ k, x < k → k ≤ q → a₁.nx ≤ (st k).nx := by
    intro k h1 h2
    rcases hc with ⟨_, h3, _⟩ | ⟨h3, _, _, _, h4⟩
    · rw [h3]; exact hmono x k hxp.1 (by omega) h2
    · rw [h4, ← (tr_nx T hC hi).2.1]; exact hmono (i + 1) k (by omega) (by omega) h2
  have hH : ∀ k, x < k → k ≤ q → a₁.nx ≤ (st k).nx ∧ (∀ β, β < a₁.nx → (st k).hp.get β = a₁.hp.get β) ∧ (∀ f, f < a₁.nx → (st k).fam.get f = a₁.fam.get f) := by
    intro k h1 h2
    refine ⟨hnx1 k h1 h2, ?_⟩
    rcases hc with ⟨_, h3, h4, h5⟩ | ⟨h3, _, _, _, h4⟩
    · rw [h3, h4, h5]
      exact tr_agree T hC hqm I.ben hxp.1 (by omega) h2
    · subst h3
      have t := T x o ho
      have hst : (st (x + 1)).hp = a₁.hp ∧ (st (x + 1)).fam = a₁.fam ∧ (st (x + 1)).nx = a₁.nx := by rw [t.st, h4]; exact ⟨rfl, rfl, rfl⟩
      rw [← hst.1, ← hst.2.1, ← hst.2.2]
      exact tr_agree T hC hqm I.ben (by omega) (by omega) h2
  have hfree : ∀ β, (st x).nx ≤ β → β < a₁.nx → π β = none := by
    intro β h1 h2
    rcases hc with ⟨_, h3, _⟩ | ⟨h3, h4, h5, h6, h7⟩
    · omega
    · subst h3
      cases hz : π β with
      | none => rfl
      | some z =>
        exfalso
        have hn1 : β < (st (x + 1)).nx := by rw [(tr_nx T hC hi).2.1, ← h7]; exact h2
        rcases I.dom β z hz with g | ⟨j, g1, g2, g3, g4, g5⟩
        · have := hmono p x (Nat.le_refl _) hxp.1 hxp.2; omega
        · rcases Nat.lt_trichotomy j x with c | c | c
          · have := hmono (j + 1) x (by omega) (by omega) hxp.2; omega
          · subst c; rw [h6] at g3; simp at g3
          · have := hmono (x + 1) j (by omega) (by omega) (by omega); omega
  refine ⟨hpq, hqm, I.ben, I.turns, fun j oj h1 h2 h3 => ?_, fun j oj h1 h2 h3 => ?_, benign hxp ha I.R hmono k hμ hH hfree, fun β pl hp => ?_, ?_, by rw [act_put_size]; exact I.sz, by rw [act_put_defers]; exact I.df, ?_⟩
  · simp only [Bool.or_eq_true]; exact (I.past j oj h1 h2 h3).imp .inr id
  · simp only [Bool.or_eq_true, beq_iff_eq] at h3
    rcases h3 with h3 | h3
    · subst h3
      rw [ho] at h2
      obtain rfl : o = oj := by simpa using h2
      rcases hc with ⟨h4, _⟩ | ⟨_, _, h5, _⟩
      · rcases h4 with h4 | h4
        · exact h4
        · omega
      · omega
    · exact I.fut j oj h1 h2 h3
  · rcases PM.plus_some hp with g | ⟨g1, g2⟩
    · rcases I.dom β pl g with g3 | ⟨j, g3, g4, g5, g6, g7⟩
      · exact .inl g3
      · exact .inr ⟨j, g3, g4, by simp [g5], g6, g7⟩
    · have hz : π.cut (st x).nx β = none := by unfold PM.cut; rw [g1]; simp
      have g3 := (k.new β pl g2 hz).1
      have g4 := k.r.dom β pl g2
      rcases hc with ⟨_, h3, _⟩ | ⟨h3, h4, h5, h6, h7⟩
      · omega
      · subst h3
        refine .inr ⟨x, h4, h5, by simp, by omega, ?_⟩
        rw [(tr_nx T hC hi).2.1, ← h7]; exact g4
  · refine I.tms T hC hr ho (PM.le_plus _ _) (Nat.le_refl _) (by omega) (hv.mono (le_plus_cut k ?_ hfree))
    rcases hc with ⟨_, h3, _⟩ | ⟨h3, h4, h5, h6, h7⟩
    · rw [h3]
      refine (tr_mono T hC ?_ ?_).1
      · by_cases c1 : i < p
        · rw [if_pos c1] at hx; omega
        · rw [if_neg c1] at hx
          by_cases c2 : q < i
          · rw [if_pos c2] at hx; omega
          · rw [if_neg c2] at hx; omega
      · omega
    · rw [h7, ← (tr_nx T hC hi).2.1]
      exact (tr_mono T hC (by omega) (by omega)).1
  · refine I.acc.step k (PM.cut_le _ _) (fun β pl hp _ => ?_) (PM.le_plus _ _) (fun β pl hp => ?_) (by rw [ha]; exact (tr_mono T hC (Nat.zero_le _) (by omega)).1)
    · have := (PM.cut_some.1 hp).1; omega
    · rcases PM.plus_some hp with g | ⟨g1, g2⟩
      · exact .inl g
      · exact .inr ⟨g2, by unfold PM.cut; rw [g1]; simp⟩

end

end Go.Proofs.YtmhajfnfjjbflaaGreatDoor.Ev
end

/- Drawn regions: the step that turns what was there; every order. -/
noncomputable section
namespace Go.Proofs.YtmhajfnfjjbflaaGreatDoor.Ev

variable {E : Env}

section
variable {callK : CallK} {ops : Array Oper} {st s1 : Nat → AS} {fs : Nat → Fr} {vs : Nat → AV} (T : TraceA E callK ops st s1 fs vs) (hE : EnvOk E) (hC : CallOk E callK) (hr : RegOk ops)
  {π0 : PM} {w0 : World} {df0 : List Deferred} {L : Nat → Bool} {π : PM} {w : World} {ac : Act} {p q : Nat}
  (hwf0 : ∀ f, (st 0).nx ≤ f → (st 0).fam.get f = none)

include T hC hr hwf0 in
theorem Inv.turn (I : Inv E callK ops st s1 fs vs π0 w0 df0 L π w ac p q) {o : Oper} (ho : ops[q]? = some o) (hb : ∀ k, (bef ops q).testBit k = true → L k = true)
    {a : AS} (ha : a.nx = (st q).nx) {π₁ : PM} {w' : World} {v' : Value} (k : Stp a (π.cut (st q).nx) w (s1 q) π₁ w') (hv : VR π₁ (vs q) v') :
    ∃ q', Inv E callK ops st s1 fs vs π0 w0 df0 (fun k => k == q || L k) π₁ w' (ac.put o.dst v') (q + 1) q' := by
  have hq : q < ops.size := (Array.getElem?_eq_some_iff.1 ho).1
  have hpq := I.pq
  have t := T q o ho
  obtain ⟨q', h1, h2, h3, h4⟩ := next_mut st s1 ops.size (ops.size - (q + 1)) (q + 1) (by omega)
  have hsync := t.ok.resolve_left (I.turns hq)
  have hle : π.le π₁ := fun β pl hp => k.le _ _ (PM.cut_some.2 ⟨I.below T hC hp, hp⟩)
  have hst : (st (q + 1)).hp = (s1 q).hp ∧ (st (q + 1)).fam = (s1 q).fam ∧ (st (q + 1)).nx = (s1 q).nx := by rw [t.st]; exact ⟨rfl, rfl, rfl⟩
  have hR1 : Ev.R (st (q + 1)) π₁ w' := by rw [t.st]; exact k.r.mu _
  refine ⟨q', h1, h2, h3, h4, fun j oj g1 g2 g3 => ?_, fun j oj g1 g2 g3 => ?_, turned hR1 fun j g1 g2 => ?_, fun β pl hp => ?_, ?_, by rw [act_put_size]; exact I.sz, by rw [act_put_defers]; exact I.df, ?_⟩
  · simp only [Bool.or_eq_true, beq_iff_eq]
    rcases syncs_at hsync g2 g3 with c | ⟨c, c2⟩ | ⟨c, _⟩
    · exact .inl (.inl c)
    · rcases c2 with c2 | c2
      · exact .inl (.inr (hb j c2))
      · exact .inr (loose_at T hr g2 c hq _ c2)
    · omega
  · simp only [Bool.or_eq_true, beq_iff_eq] at g3
    rcases g3 with g3 | g3
    · omega
    · exact I.fut j oj (by omega) g2 g3
  · obtain ⟨a1, a2⟩ := tr_agree T hC h2 h3 (Nat.le_refl _) g1 g2
    exact ⟨(tr_mono T hC g1 (by omega)).1, a1, a2, tr_wf T hC hwf0 j (by omega)⟩
  · left; rw [hst.2.2]; exact k.r.dom β pl hp
  · refine I.tms T hC hr ho hle (by omega) (by omega) ?_
    rw [Nat.max_self]
    exact hv.mono fun β pl hp => PM.cut_some.2 ⟨by rw [hst.2.2]; exact k.r.dom β pl hp, hp⟩
  · refine I.acc.step k (PM.cut_le _ _) (fun β pl hp g => ?_) hle (fun β pl hp => ?_) (by rw [ha]; exact (tr_mono T hC (Nat.zero_le _) (by omega)).1)
    · have g1 := (tr_nx T hC hq).2.2.2
      have g2 := (tr_mono T hC (show q + 1 ≤ ops.size by omega) (Nat.le_refl _)).2
      omega
    · cases hz : π.cut (st q).nx β with
      | none => exact .inr ⟨hp, rfl⟩
      | some z =>
        have := k.le _ _ hz
        rw [hp] at this
        obtain rfl : pl = z := by simpa using this
        exact .inl (PM.cut_some.1 hz).2

include T hE hC hr hwf0 in
theorem Inv.step (I : Inv E callK ops st s1 fs vs π0 w0 df0 L π w ac p q) (hG : GL E π0) {i : Nat} {o : Oper} (ho : ops[i]? = some o) (hL : L i = false) (hb : ∀ k, (bef ops i).testBit k = true → L k = true)
    (hcl : ∀ j k, j < ops.size → L j = true → (bef ops j).testBit k = true → L k = true) (hg0 : ∀ β pl, π0 β = some pl → β < (st 0).nx) {Q : Exit → Act → World → Prop} {K : Act → World → Prop}
    (hK : ∀ π' w' ac' p' q', Inv E callK ops st s1 fs vs π0 w0 df0 (fun k => k == i || L k) π' w' ac' p' q' → K ac' w') : wpOp E.P ops Q i K ac w := by
  have hi : i < ops.size := (Array.getElem?_eq_some_iff.1 ho).1
  have hpq := I.pq
  have hqm := I.qm
  have t := T i o ho
  have hGx : ∀ x, x ≤ ops.size → GL E (π.cut (st x).nx) := fun x hx g u hu => by
    obtain ⟨lim, hl⟩ := hG g u hu
    exact ⟨lim, PM.cut_some.2 ⟨Nat.lt_of_lt_of_le (hg0 _ _ hl) (tr_mono T hC (Nat.zero_le _) hx).1, I.acc.le _ _ hl⟩⟩
  have fin : (if Region.wanted o (yielded ops ac.tmps) then o.wp E.P ac w K Q else K (ac.put o.dst undef) w) → wpOp E.P ops Q i K ac w := by
    intro h
    unfold wpOp
    rw [ho]
    simp only []
    split at h
    · rename_i hw; rw [if_pos hw]; exact .inl h
    · rename_i hw; rw [if_neg hw]; exact h
  refine fin ?_
  have hxx : ∃ x, x = if i < p then p else if q < i then q else i := ⟨_, rfl⟩
  obtain ⟨x, hx⟩ := hxx
  have hxp : p ≤ x ∧ x ≤ q := by
    by_cases c1 : i < p
    · rw [if_pos c1] at hx; omega
    · rw [if_neg c1] at hx
      by_cases c2 : q < i
      · rw [if_pos c2] at hx; omega
      · rw [if_neg c2] at hx; omega
  have hF := I.looks T hC hr ho hL hb hcl hx
  cases ht : touches o.op with
  | false =>
    obtain ⟨_, h2⟩ := still_stepV ht t.run
    refine stepV_ok hE hC (h2 { st x with mu := (st x).nx }) ((I.R x hxp.1 hxp.2).mu _) (hGx x (by omega)) hF fun π₁ w' v' k hv => ?_
    exact hK _ _ _ _ _ (I.quiet (a := { st x with mu := (st x).nx }) T hC hr ho hx rfl k (Nat.le_refl _) hv (.inl ⟨.inl ht, rfl, rfl, rfl⟩))
  | true =>
    by_cases hlt : i < p
    · have hlo := (I.past i o hlt ho ht).resolve_left (by rw [hL]; simp)
      have hxi : x = p := by rw [hx, if_pos hlt]
      subst hxi
      refine stepV_ok hE hC hlo ((I.R x hxp.1 hxp.2).mu _) (hGx x (by omega)) hF fun π₁ w' v' k hv => ?_
      exact hK _ _ _ _ _ (I.quiet (a := { st x with mu := (st x).nx }) T hC hr ho hx rfl k (Nat.le_refl _) hv (.inl ⟨.inr (by omega), rfl, rfl, rfl⟩))
    have hp : p ≤ i := by omega
    have hiq : i ≤ q := by
      apply Classical.byContradiction
      intro hgt
      have hq : q < ops.size := by omega
      have hoq := Array.getElem?_eq_getElem hq
      have tq := T q _ hoq
      have hsync := tq.ok.resolve_left (I.turns hq)
      have hLq : L q = true := by
        rcases syncs_at hsync ho ht with c | ⟨c, _⟩ | ⟨_, c⟩
        · omega
        · omega
        · exact hb q c
      have hnt := I.fut q _ (Nat.le_refl _) hoq hLq
      have := (still_stepV hnt tq.run).1
      have h3 := I.turns hq
      rw [this] at h3
      exact h3 (Nat.le_refl _)
    have hxi : x = i := by rw [hx, if_neg (by omega), if_neg (by omega)]
    subst hxi
    refine stepV_ok hE hC t.run ((I.R x hp hiq).mu _) (hGx x (by omega)) hF fun π₁ w' v' k hv => ?_
    by_cases hlt : x < q
    · exact hK _ _ _ _ _ (I.quiet (a := { st x with mu := (st x).nx }) T hC hr ho hx rfl k (I.ben x hp hlt) hv (.inr ⟨rfl, hp, hlt, hL, rfl⟩))
    · obtain rfl : x = q := by omega
      obtain ⟨q', h⟩ := I.turn (a := { st x with mu := (st x).nx }) T hC hr hwf0 ho hb rfl k hv
      exact hK _ _ _ _ _ h

end

end Go.Proofs.YtmhajfnfjjbflaaGreatDoor.Ev
end

/- Drawn regions: whatever the order, the evaluator's result. -/
noncomputable section
namespace Go.Proofs.YtmhajfnfjjbflaaGreatDoor.Ev

variable {E : Env}

theorem countP_drop {p p' : Nat → Bool} {i : Nat} : ∀ {l : List Nat}, (∀ x, p' x = true → p x = true) → i ∈ l → p i = true → p' i = false → l.countP p' < l.countP p
  | [], _, h, _, _ => by simp at h
  | x :: l, hp, h, h1, h2 => by
    have hm : l.countP p' ≤ l.countP p := List.countP_mono_left fun x _ hx => hp x hx
    rw [List.countP_cons, List.countP_cons]
    by_cases e : x = i
    · subst e
      rw [h1, h2]; simp; omega
    · have hi : i ∈ l := by
        rcases List.mem_cons.1 h with h | h
        · exact absurd h.symm e
        · exact h
      have := countP_drop hp hi h1 h2
      cases hx : p' x with
      | false => cases p x <;> simp <;> omega
      | true => rw [hp x hx]; simp; omega

section
variable {callK : CallK} {ops : Array Oper} {st s1 : Nat → AS} {fs : Nat → Fr} {vs : Nat → AV} (T : TraceA E callK ops st s1 fs vs) (hE : EnvOk E) (hC : CallOk E callK) (hr : RegOk ops)
  {π0 : PM} {w0 : World} {df0 : List Deferred}
  (hwf0 : ∀ f, (st 0).nx ≤ f → (st 0).fam.get f = none)

include T hE hC hr hwf0 in
theorem any_ok (hG : GL E π0) (hg0 : ∀ β pl, π0 β = some pl → β < (st 0).nx) {Q : Exit → Act → World → Prop}
    (hQ : ∀ π w ac, R (st ops.size) π w → Acc (st 0).nx (st ops.size).mu π0 w0 π w → (∀ t, VR π ((fs ops.size).get t) (ac.tmps.getD t undef)) → ac.tmps.size = (fs 0).sz → ac.defers = df0 → Q .normal ac w) :
    ∀ (fuel : Nat) (listed : Array Bool) (π : PM) (w : World) (ac : Act) (p q : Nat), listed.size = ops.size → (List.range ops.size).countP (fun k => !listed.getD k true) ≤ fuel →
      Inv E callK ops st s1 fs vs π0 w0 df0 (fun k => listed.getD k true) π w ac p q → (∀ i k, i < ops.size → listed.getD i true = true → (bef ops i).testBit k = true → listed.getD k true = true) →
      wpAny E.P .any ops Q fuel listed ac w := by
  -- nothing is ready only when all is listed
  have hdone : ∀ (listed : Array Bool), listed.size = ops.size → Region.ready .any ops listed = [] → ∀ k, k < ops.size → listed.getD k true = true := by
    intro listed hs hrd k
    induction k using Nat.strongRecOn with
    | _ k ih =>
      intro hk
      apply Classical.byContradiction
      intro hn
      have hkr : k ∈ Region.ready .any ops listed := by
        unfold Region.ready
        rw [List.mem_filter]
        refine ⟨by simpa using hk, ?_⟩
        have ho := Array.getElem?_eq_getElem hk
        rw [ho]
        simp only [Option.map_some, Option.getD_some, Bool.and_eq_true, Bool.not_eq_true']
        refine ⟨by simpa using hn, ?_⟩
        rw [← Array.all_toList, List.all_eq_true]
        intro e he
        cases hb : Region.binds .any e with
        | false => rfl
        | true =>
          have hlt := hr.edge k _ e ho he hb
          have := ih e.on hlt (by omega)
          simp only [Bool.not_true, Bool.false_or]
          rw [Array.getD_eq_getD_getElem?] at this ⊢
          rw [Array.getElem?_eq_getElem (by omega)] at this ⊢
          simpa using this
      rw [hrd] at hkr
      simp at hkr
  have hend : ∀ (listed : Array Bool) (π : PM) (w : World) (ac : Act) (p q : Nat), (∀ k, k < ops.size → listed.getD k true = true) → Inv E callK ops st s1 fs vs π0 w0 df0 (fun k => listed.getD k true) π w ac p q → Q .normal ac w := by
    intro listed π w ac p q hall I
    have hqm := I.qm
    have hpq := I.pq
    have hq : q = ops.size := by
      apply Classical.byContradiction
      intro hne
      have hlt : q < ops.size := by omega
      have ho := Array.getElem?_eq_getElem hlt
      have hnt := I.fut q _ (Nat.le_refl _) ho (hall q hlt)
      have := (still_stepV hnt (T q _ ho).run).1
      have h3 := I.turns hlt
      rw [this] at h3
      exact h3 (Nat.le_refl _)
    have hR := I.R q hpq (Nat.le_refl _)
    have hcut : π.cut (st q).nx = π := by
      funext β
      cases hz : π β with
      | none => unfold PM.cut; rw [hz]; simp
      | some z => exact PM.cut_some.2 ⟨I.below T hC hz, hz⟩
    rw [hcut, hq] at hR
    refine hQ π w ac hR I.acc (fun t => ?_) I.sz I.df
    have h1 : tmV ops (fs 0) vs (fun k => listed.getD k true) t ops.size = (fs ops.size).get t := by
      rw [(tr_fs T ops.size (Nat.le_refl _)).2.2 t]
      have : ∀ n, n ≤ ops.size → tmV ops (fs 0) vs (fun k => listed.getD k true) t n = tmV ops (fs 0) vs (fun _ => true) t n := by
        intro n
        induction n with
        | zero => intro _; rfl
        | succ n ih =>
          intro hn
          rw [tmV_succ, tmV_succ, ih (by omega), hall n (by omega)]
      exact this _ (Nat.le_refl _)
    rw [← h1]
    exact (I.tm t).mono (PM.cut_le _ _)
  intro fuel
  induction fuel with
  | zero =>
    intro listed π w ac p q hs hc I hcl
    have hall : ∀ k, k < ops.size → listed.getD k true = true := by
      intro k hk
      apply Classical.byContradiction
      intro hn
      have : 0 < (List.range ops.size).countP (fun k => !listed.getD k true) := List.countP_pos_iff.2 ⟨k, by simpa using hk, by simpa using hn⟩
      omega
    unfold wpAny
    refine ⟨?_, hend listed π w ac p q hall I⟩
    unfold Region.ready
    rw [List.filter_eq_nil_iff]
    intro k hk
    have := hall k (by simpa using hk)
    simp [this]
  | succ fuel ih =>
    intro listed π w ac p q hs hc I hcl
    unfold wpAny
    refine ⟨fun h => hend listed π w ac p q (hdone listed hs h) I, fun i hi => ?_⟩
    unfold Region.ready at hi
    rw [List.mem_filter] at hi
    obtain ⟨hi1, hi2⟩ := hi
    have him : i < ops.size := by simpa using hi1
    have ho := Array.getElem?_eq_getElem him
    rw [ho] at hi2
    simp only [Option.map_some, Option.getD_some, Bool.and_eq_true, Bool.not_eq_true'] at hi2
    obtain ⟨hL, hed⟩ := hi2
    rw [← Array.all_toList, List.all_eq_true] at hed
    have hb : ∀ k, (bef ops i).testBit k = true → listed.getD k true = true := by
      intro k hk
      obtain ⟨e, he, hbe, hor⟩ := bef_step ho hk
      have hlt := hr.edge i _ e ho he hbe
      have h1 := hed e he
      rw [hbe] at h1
      simp only [Bool.not_true, Bool.false_or] at h1
      have h2 : listed.getD e.on true = true := by
        rw [Array.getD_eq_getD_getElem?] at h1 ⊢
        rw [Array.getElem?_eq_getElem (by omega)] at h1 ⊢
        simpa using h1
      rcases hor with rfl | hor
      · exact h2
      · exact hcl e.on k (by omega) h2 hor
    have hset : ∀ k, (listed.setIfInBounds i true).getD k true = (k == i || listed.getD k true) := by
      intro k
      rw [Array.getD_eq_getD_getElem?, Array.getElem?_setIfInBounds]
      by_cases e : i = k
      · subst e
        rw [if_pos rfl, if_pos (by omega)]; simp
      · have e2 : (k == i) = false := by simpa using fun h => e h.symm
        rw [if_neg e, e2, ← Array.getD_eq_getD_getElem?]; simp
    have hfun : (fun k => (listed.setIfInBounds i true).getD k true) = (fun k => k == i || listed.getD k true) := funext hset
    refine I.step T hE hC hr hwf0 hG ho hL hb (fun j k hj h1 h2 => hcl j k hj h1 h2) hg0 fun π' w' ac' p' q' I' => ?_
    refine ih _ π' w' ac' p' q' (by simpa using hs) ?_ (by rw [hfun]; exact I') ?_
    · have := countP_drop (p := fun k => !listed.getD k true) (p' := fun k => !(listed.setIfInBounds i true).getD k true) (i := i) (l := List.range ops.size)
        (fun k hk => by rw [hset] at hk; simp at hk; simp [hk.2]) (by simpa using him) (by simp [hL]) (by rw [hset]; simp)
      omega
    · intro j k hj h1 h2
      rw [hset] at h1 ⊢
      simp only [Bool.or_eq_true, beq_iff_eq] at h1 ⊢
      rcases h1 with rfl | h1
      · exact .inr (hb k h2)
      · exact .inr (hcl j k hj h1 h2)

end

end Go.Proofs.YtmhajfnfjjbflaaGreatDoor.Ev
end

/- Drawn regions: joined. -/
noncomputable section
namespace Go.Proofs.YtmhajfnfjjbflaaGreatDoor.Ev

variable {E : Env}

theorem tm_start {ops : Array Oper} {fr0 : Fr} {vs : Nat → AV} {L : Nat → Bool} {t m : Nat} (hL : ∀ k, k < m → L k = false) : ∀ n, n ≤ m → tmV ops fr0 vs L t n = fr0.get t ∧ tmW ops fr0 L t n = 0 := by
  intro n
  induction n with
  | zero => intro _; exact ⟨rfl, rfl⟩
  | succ n ih =>
    intro hn
    obtain ⟨h1, h2⟩ := ih (by omega)
    have h3 := hL n (by omega)
    rw [tmV_succ, tmW_succ, h3]
    simp [h1, h2]

theorem tr_AF {callK : CallK} {ops : Array Oper} {st s1 : Nat → AS} {fs : Nat → Fr} {vs : Nat → AV} (T : TraceA E callK ops st s1 fs vs) (hC : CallOk E callK) : ∀ i, i ≤ ops.size → AF (st 0) (st i) := by
  intro i
  induction i with
  | zero => intro _; exact AF.refl _
  | succ i ih =>
    intro hi
    have t := T i _ (Array.getElem?_eq_getElem (show i < ops.size by omega))
    have h := stepV_AF hC t.run
    refine (ih (by omega)).trans ?_
    rw [t.st]
    refine ⟨h.nx, Nat.min_le_left _ _, fun β h1 h2 => ?_, fun f h1 h2 => ?_, h.wf⟩
    · have h2' : β < min (st i).mu (s1 i).mu := h2
      exact h.hp β h1 (by omega)
    · have h2' : f < min (st i).mu (s1 i).mu := h2
      exact h.fam f h1 (by omega)

theorem draw_ok (hE : EnvOk E) {callK : CallK} (hC : CallOk E callK) {ops : Array Oper} (hr : RegOk ops) (hm : E.P.follows .mixedOrders = true) {id : Nat} {fr fr' : Fr} {a a' : AS}
    (h : drawA E callK ops ops.toList 0 fr a = some (fr', a')) : AF a a' ∧
    ∀ (π : PM) (w : World) (ac : Act) (Q : Exit → Act → World → Prop), R a π w → GL E π → FR π fr ac → (∀ π' w' ac', Stp a π w a' π' w' → FR π' fr' ac' → Q .normal ac' w') →
      (Code.region id ops true).wp E.P Q ac w := by
  obtain ⟨st, s1, fs, vs, e1, e2, e3, e4, T0⟩ := drawA_trace h
  have T := T0.all
  have e3' : st ops.size = a' := by simpa using e3
  have e4' : fs ops.size = fr' := by simpa using e4
  subst e1
  subst e2
  subst e3'
  subst e4'
  refine ⟨tr_AF T hC ops.size (Nat.le_refl _), fun π w ac Q hR hG hF hQ => wp_region_any hm ?_⟩
  have hR' : R (st 0) π { w with drawn := w.drawn + 1 } := hR.frame fun β p _ => rfl
  obtain ⟨q, h1, h2, h3, h4⟩ := next_mut st s1 ops.size ops.size 0 (by omega)
  have hLf : ∀ k, k < ops.size → (Array.replicate ops.size false).getD k true = false := by
    intro k hk
    rw [Array.getD_eq_getD_getElem?, Array.getElem?_replicate, if_pos hk]; rfl
  have hsz := tr_fs T ops.size (Nat.le_refl _)
  refine any_ok (π0 := π) (w0 := { w with drawn := w.drawn + 1 }) (df0 := ac.defers) T hE hC hr hR.wf hG (fun β pl hp => hR.dom β pl hp) (fun π' w' ac' g1 g2 g3 g4 g5 => ?_) ops.size _ π _ ac 0 q (by simp) ?_ ?_ ?_
  · refine hQ π' w' ac' ⟨g1, g2.le, g2.new, g2.size, g2.keep, g2.os, g2.tape, g2.output, (tr_mono T hC (Nat.zero_le _) (Nat.le_refl _)).1, (tr_mono T hC (Nat.zero_le _) (Nat.le_refl _)).2⟩ ⟨?_, g3, ?_⟩
    · rw [g4, hsz.1]
    · rw [g5, hsz.2.1]; exact hF.df.mono g2.le
  · have := List.countP_le_length (p := fun k => !(Array.replicate ops.size false).getD k true) (l := List.range ops.size)
    simpa using this
  · refine ⟨h1, h2, h3, h4, fun i o hi => by omega, fun i o _ ho hl => ?_, turned hR' fun k g1 g2 => ?_, fun β pl hp => .inl (hR.dom β pl hp), fun t => ?_, hF.sz, rfl, Acc.refl _ _ _ _⟩
    · have hi := (Array.getElem?_eq_some_iff.1 ho).1
      rw [hLf i hi] at hl; simp at hl
    · obtain ⟨a1, a2⟩ := tr_agree T hC h2 h3 (Nat.le_refl _) g1 g2
      exact ⟨(tr_mono T hC g1 (by omega)).1, a1, a2, tr_wf T hC hR.wf k (by omega)⟩
    · obtain ⟨k1, k2⟩ := tm_start (ops := ops) (fr0 := fs 0) (vs := vs) (L := fun k => (Array.replicate ops.size false).getD k true) (t := t) hLf ops.size (Nat.le_refl _)
      rw [k1, k2]
      refine (hF.tm t).mono fun β pl hp => PM.cut_some.2 ⟨?_, hp⟩
      simpa using hR.dom β pl hp
  · intro i k hi hl
    rw [hLf i hi] at hl; simp at hl

/-- What the evaluator finds of a call is so, in every order that the model lets. -/
theorem eval_ok (hE : EnvOk E) (hX : ExtOk E) (hm : E.P.follows .mixedOrders = true) (hRG : ∀ f fn c, E.ft.get f = some fn → fn.body = some c → regsIn RegOk c) (n d : Nat) : CallOk E (callA E n d) :=
  callA_ok hE hX (fun callK hC id ops hr fr a fr' a' h => draw_ok hE hC hr hm h) hRG n d

end Go.Proofs.YtmhajfnfjjbflaaGreatDoor.Ev
end

/- The lists of a region, checked. -/
namespace Go.Proofs.YtmhajfnfjjbflaaGreatDoor.Ev

def regPair (ops : Array Oper) (bj i j : Nat) (oi oj : Oper) : Bool :=
  (match oj.dst with | some d => (!((oi.looksAt ops).contains d) || (bj.testBit i && !mayWait oi.op)) && !(oi.dst == some d) | none => true) &&
  (match oi.dst with | some d => !((oj.looksAt ops).contains d) || bj.testBit i | none => true)

def regB (ops : Array Oper) : Bool :=
  (List.range ops.size).all fun j => match ops[j]? with
    | none => true
    | some oj => oj.after.toList.all (fun e => !Region.binds .any e || e.on.blt j) &&
      (List.range j).all fun i => match ops[i]? with
        | none => true
        | some oi => regPair ops (bef ops j) i j oi oj

theorem regB_ok {ops : Array Oper} (h : regB ops = true) : RegOk ops := by
  unfold regB at h
  rw [List.all_eq_true] at h
  have h' : ∀ j oj, ops[j]? = some oj → (∀ e, e ∈ oj.after.toList → Region.binds .any e = true → e.on < j) ∧ ∀ i oi, i < j → ops[i]? = some oi → regPair ops (bef ops j) i j oi oj = true := by
    intro j oj ho
    have := h j (by simpa using (Array.getElem?_eq_some_iff.1 ho).1)
    rw [ho] at this
    simp only [Bool.and_eq_true, List.all_eq_true] at this
    refine ⟨fun e he hb => ?_, fun i oi hi hoi => ?_⟩
    · have h1 := this.1 e he
      rw [hb] at h1
      simpa using h1
    · have h1 := this.2 i (by simpa using hi)
      rw [hoi] at h1
      exact h1
  refine ⟨fun i o e ho he hb => (h' i o ho).1 e he hb, fun i j oi oj d hij hi hj hd => ?_, fun i j oi oj d hij hi hj hd hm hl => ?_, fun i j oi oj d hij hi hj hd hl => ?_⟩
  · have := (h' j oj hj).2 i oi hij hi
    unfold regPair at this
    rw [hd] at this
    simp only [Bool.and_eq_true, Bool.or_eq_true] at this
    refine ⟨?_, ?_⟩
    · rcases this.1.1 with h1 | h1
      · left; simpa using h1
      · exact .inr h1.1
    · have h1 := this.1.2
      simpa using h1
  · have := (h' j oj hj).2 i oi hij hi
    unfold regPair at this
    rw [hd] at this
    simp only [Bool.and_eq_true, Bool.or_eq_true] at this
    rcases this.1.1 with h1 | h1
    · simp at h1
      exact h1 hl
    · rw [hm] at h1; simp at h1
  · have := (h' j oj hj).2 i oi hij hi
    unfold regPair at this
    rw [hd] at this
    simp only [Bool.and_eq_true] at this
    have h1 := this.2
    simp only [Bool.or_eq_true] at h1
    rcases h1 with h1 | h1
    · exfalso
      simp at h1
      exact h1 hl
    · exact h1

def regsB : Code → Bool
  | .region _ ops true => regB ops
  | .seq a b => regsB a && regsB b
  | .cond _ a b => regsB a && regsB b
  | .block _ a => regsB a
  | .loop a => regsB a
  | _ => true

theorem regsB_ok : ∀ {c : Code}, regsB c = true → regsIn RegOk c := by
  intro c
  induction c with
  | region id ops draw => cases draw with
    | true => intro h; exact regB_ok h
    | false => intro _; trivial
  | seq a b iha ihb => intro h; unfold regsB at h; rw [Bool.and_eq_true] at h; exact ⟨iha h.1, ihb h.2⟩
  | cond c a b iha ihb => intro h; unfold regsB at h; rw [Bool.and_eq_true] at h; exact ⟨iha h.1, ihb h.2⟩
  | block id a ih => intro h; exact ih h
  | loop a ih => intro h; exact ih h
  | _ => intros; trivial

end Go.Proofs.YtmhajfnfjjbflaaGreatDoor.Ev

/- Functions without a body. -/
namespace Go.Proofs.YtmhajfnfjjbflaaGreatDoor.Ev

variable {E : Env} {π : PM} {w : World}

/-- A function that the model itself answers for. -/
structure ExtFn (P : Program) (f : FuncId) (e : Array Value → Sem Value) : Prop where
  ex : ∃ fn, P.funcs[f]? = some fn ∧ fn.name ≠ "runtime.NumGoroutine" ∧ fn.body = none ∧ Extern.findNext fn = none ∧ Extern.find fn = some e

theorem ExtFn.run {P : Program} {f : FuncId} {e : Array Value → Sem Value} (h : ExtFn P f e) {args : Array Value} {v : Value} {w' : World} (hr : (e args).run P w = .ok v w') :
    (callFunc f args).run P w = .ok (.value v) w' := by
  obtain ⟨fn, h1, h2, h3, h4, h5⟩ := h.ex
  unfold callFunc
  simp only [Sem.run_bind, run_program, Result.andThen_ok, h1]
  rw [if_neg (by simpa using h2)]
  simp [h3, h4, h5, hr]

theorem args1 {x : AV} {args' : Array Value} (h : LR π [x] args'.toList) : ∃ y, args' = #[y] ∧ VR π x y := by
  obtain ⟨l⟩ := args'
  have hl := h.1
  match l, h, hl with
  | [y], h, _ => exact ⟨y, rfl, h.head⟩
theorem args2 {x y : AV} {args' : Array Value} (h : LR π [x, y] args'.toList) : ∃ u v, args' = #[u, v] ∧ VR π x u ∧ VR π y v := by
  obtain ⟨l⟩ := args'
  have hl := h.1
  match l, h, hl with
  | [u, v], h, _ => exact ⟨u, v, rfl, h.head, h.tail.head⟩
theorem args0 {args' : Array Value} (h : LR π [] args'.toList) : args' = #[] := by
  obtain ⟨l⟩ := args'
  have hl := h.1
  match l, hl with
  | [], _ => rfl

/-- What a function without a body is, by the evaluator's word for it. -/
def ExtE (P : Program) (f : FuncId) : Ext → Prop
  | .noop => ∃ e, ExtFn P f e ∧ ∀ w, (e #[]).run P w = .ok (.tuple #[]) w
  | .noop1 => ∃ e, ExtFn P f e ∧ ∀ a w, (e #[.pointer (some a)]).run P w = .ok (.tuple #[]) w
  | .noEscape => ExtFn P f Extern.AbiNoEscape.same
  | .indexByteString => ExtFn P f Extern.BytealgIndexByte.indexByte
  | .countString => ExtFn P f Extern.BytealgCount.count
  | .makeNoZero e => ∃ ps rs t, rs[0]? = some t ∧ P.underlying t = some (.slice e) ∧ ExtFn P f (Extern.BytealgMakeNoZero.makeNoZero ps rs)
  | .addI64 => ExtFn P f (Extern.Atomic.update (Op.intArith .add) .i64 true)
  | .addI32 => ExtFn P f (Extern.Atomic.update (Op.intArith .add) .i32 true)
  | .loadU32 => ExtFn P f (Extern.Atomic.loadT (.int .u32))
  | .storeU32 => ExtFn P f Extern.Atomic.storeT
  | .casI32 => ExtFn P f (Extern.Atomic.casT (.int .i32))

end Go.Proofs.YtmhajfnfjjbflaaGreatDoor.Ev

/- Functions without a body: the ones that leave the heap alone. -/
namespace Go.Proofs.YtmhajfnfjjbflaaGreatDoor.Ev

variable {E : Env} {π : PM} {w : World}

/-- What is asked of one. -/
def Ext1 (P : Program) (E : Env) (f : FuncId) (x : Ext) : Prop := ∀ args a v a', extA x args a = some (v, a') → AF a a' ∧
  ∀ (π : PM) (w : World) (args' : Array Value), R a π w → GL E π → LR π args args'.toList → ∃ π' w' v', (callFunc f args').run P w = .ok (.value v') w' ∧ Stp a π w a' π' w' ∧ VR π' v v'

theorem ext_noop {P : Program} {f : FuncId} (h : ExtE P f .noop) : Ext1 P E f .noop := by
  intro args a v a' hx
  unfold extA at hx
  split at hx <;> simp_all
  obtain ⟨rfl, rfl⟩ := hx
  refine ⟨AF.refl _, fun π w args' hR hG hL => ?_⟩
  obtain rfl := args0 hL
  obtain ⟨e, h1, h2⟩ := h
  exact ⟨π, w, _, h1.run (h2 w), Stp.refl hR, VR.undef⟩

theorem ext_noop1 {P : Program} {f : FuncId} (h : ExtE P f .noop1) : Ext1 P E f .noop1 := by
  intro args a v a' hx
  unfold extA at hx
  split at hx <;> simp_all
  obtain ⟨rfl, rfl⟩ := hx
  refine ⟨AF.refl _, fun π w args' hR hG hL => ?_⟩
  obtain ⟨y, rfl, hy⟩ := args1 hL
  obtain ⟨e, h1, h2⟩ := h
  cases hy with
  | ptr _ _ p hp => exact ⟨π, w, _, h1.run (h2 _ w), Stp.refl hR, VR.undef⟩

theorem ext_noEscape {P : Program} {f : FuncId} (h : ExtE P f .noEscape) : Ext1 P E f .noEscape := by
  intro args a v a' hx
  unfold extA at hx
  split at hx <;> simp_all
  obtain ⟨rfl, rfl⟩ := hx
  refine ⟨AF.refl _, fun π w args' hR hG hL => ?_⟩
  obtain ⟨y, rfl, hy⟩ := args1 hL
  exact ⟨π, w, y, ExtFn.run h rfl, Stp.refl hR, hy⟩

theorem findB_eq (c : Nat) : ∀ (n v i : Nat), findB c n v i = ((List.range n).find? fun k => (v / 256 ^ k % 256).beq c).map (i + ·)
  | 0, v, i => rfl
  | n + 1, v, i => by
    have e : findB c (n + 1) v i = cond ((v % 256).beq c) (some i) (findB c n (v / 256) (i + 1)) := rfl
    rw [e, List.range_succ_eq_map, List.find?_cons]
    cases hb : (v % 256).beq c with
    | true => simp [hb]
    | false =>
      simp only [Nat.pow_zero, Nat.div_one, hb, cond_false]
      rw [findB_eq c n, List.find?_map]
      have : (fun k => (v / 256 / 256 ^ k % 256).beq c) = ((fun k => (v / 256 ^ k % 256).beq c) ∘ Nat.succ) := by
        funext k
        simp only [Function.comp]
        rw [Nat.div_div_eq_div_mul, Nat.pow_succ, Nat.mul_comm]
      rw [this]
      cases (List.range n).find? ((fun k => (v / 256 ^ k % 256).beq c) ∘ Nat.succ) with
      | none => rfl
      | some k => simp; omega

theorem find_range_congr {p q : Nat → Bool} : ∀ {l : List Nat}, (∀ i, i ∈ l → p i = q i) → l.find? p = l.find? q
  | [], _ => rfl
  | x :: l, h => by
    rw [List.find?_cons, List.find?_cons, h x (by simp), find_range_congr fun i hi => h i (by simp [hi])]

theorem byte_at (b : ByteArray) (i : Nat) (h : i < b.size) (c : Int) : ((ofB b).val / 256 ^ i % 256).beq (c.toNat % 256) = (b[i]! == c.toNat.toUInt8) := by
  have h1 : (ofB b).val / 256 ^ i % 256 = (b[i]).toNat := by
    rw [← ofB_at b i h]
    unfold PS.at
    rw [show (256 : Nat) = 2 ^ 8 from rfl, ← Nat.pow_mul]
  have h2 : b[i]! = b[i] := getElem!_pos b i h
  rw [h1, h2]
  cases hb : (b[i] == c.toNat.toUInt8) with
  | true =>
    have e : b[i] = c.toNat.toUInt8 := by simpa using hb
    rw [e]
    simp [Nat.toUInt8]
  | false =>
    have e : b[i] ≠ c.toNat.toUInt8 := by simpa using hb
    cases hx : (b[i]).toNat.beq (c.toNat % 256) with
    | false => rfl
    | true =>
      exfalso
      have := Nat.eq_of_beq_eq_true hx
      apply e
      apply UInt8.toNat_inj.1
      rw [this]
      simp [Nat.toUInt8]

theorem ext_indexByte {P : Program} {f : FuncId} (h : ExtE P f .indexByteString) : Ext1 P E f .indexByteString := by
  intro args a v a' hx
  unfold extA at hx
  split at hx <;> first | (simp at *; done) | skip
  rename_i s c _
  rw [findB_eq] at hx
  have hA : a' = a := by split at hx <;> (simp only [Option.some.injEq, Prod.mk.injEq] at hx; exact hx.2.symm)
  subst hA
  refine ⟨AF.refl _, fun π w args' hR hG hL => ?_⟩
  obtain ⟨u, u2, rfl, hu, hu2⟩ := args2 hL
  obtain ⟨b, rfl, rfl⟩ := str_inv hu
  cases hu2
  have hf : (List.range (ofB b).len).find? (fun k => ((ofB b).val / 256 ^ k % 256).beq (c.toNat % 256)) = (List.range b.size).find? (fun i => b[i]! == c.toNat.toUInt8) := by
    rw [ofB_len]
    exact find_range_congr fun i hi => byte_at b i (by simpa using hi) c
  rw [hf] at hx
  have hrun : ∀ r, (match (List.range b.size).find? (fun i => b[i]! == c.toNat.toUInt8) with | some i => goInt i | none => goInt (-1)) = r →
      (Extern.BytealgIndexByte.indexByte #[.string b, .int .u8 c]).run P w = .ok r w := by
    intro r hr
    have e : Extern.BytealgIndexByte.indexByte #[.string b, .int .u8 c] = (match (List.range b.size).find? (fun i => b[i]! == c.toNat.toUInt8) with | some i => pure (goInt i) | none => pure (goInt (-1)) : Sem Value) := rfl
    rw [e, ← hr]
    cases (List.range b.size).find? (fun i => b[i]! == c.toNat.toUInt8) <;> rfl
  cases hk : (List.range b.size).find? (fun i => b[i]! == c.toNat.toUInt8) with
  | none =>
    rw [hk] at hx hrun
    simp only [Option.map_none, Option.some.injEq, Prod.mk.injEq, and_true] at hx
    subst hx
    exact ⟨π, w, _, ExtFn.run h (hrun _ rfl), Stp.refl hR, .int _ _⟩
  | some k =>
    rw [hk] at hx hrun
    simp only [Option.map_some, Option.some.injEq, Prod.mk.injEq, and_true] at hx
    subst hx
    refine ⟨π, w, _, ExtFn.run h (hrun _ rfl), Stp.refl hR, ?_⟩
    rw [Nat.zero_add]; exact .int _ _

end Go.Proofs.YtmhajfnfjjbflaaGreatDoor.Ev

/- Functions without a body: counting, new rows, whole numbers turned in one piece. -/
namespace Go.Proofs.YtmhajfnfjjbflaaGreatDoor.Ev

variable {E : Env} {π : PM} {w : World}

theorem countB_eq (c : Nat) (p : UInt8 → Bool) : ∀ (l : List UInt8) (k : Nat), (∀ b ∈ l, (b.toNat.beq c) = p b) → countB c l.length (valL l) k = l.foldl (fun n x => if p x then n + 1 else n) k
  | [], k, _ => rfl
  | b :: l, k, h => by
    have e : countB c (b :: l).length (valL (b :: l)) k = countB c l.length (valL (b :: l) / 256) (cond ((valL (b :: l) % 256).beq c) (k + 1) k) := rfl
    have hb := b.toNat_lt
    have h1 : valL (b :: l) / 256 = valL l := by simp only [valL]; omega
    have h2 : valL (b :: l) % 256 = b.toNat := by simp only [valL]; omega
    rw [e, h1, h2, h b (by simp), List.foldl_cons, ← countB_eq c p l _ fun x hx => h x (by simp [hx])]
    cases p b <;> rfl

theorem ba_foldl {γ : Type} (f : γ → UInt8 → γ) (x : γ) (b : ByteArray) : b.foldl f x = b.data.toList.foldl f x := by
  have h : ∀ (n i : Nat) (x : γ) (hs : b.size ≤ b.size), b.size - i = n → @ByteArray.foldlM.loop γ _root_.Id _ (fun x y => pure (f x y)) b b.size hs n i x = (b.data.toList.drop i).foldl f x := by
    intro n
    induction n with
    | zero =>
      intro i x hs hn
      have : b.data.toList.drop i = [] := by
        rw [List.drop_eq_nil_iff]; simp; have : b.data.size = b.size := rfl; omega
      rw [this]
      unfold ByteArray.foldlM.loop
      split <;> rfl
    | succ n ih =>
      intro i x hs hn
      have hi : i < b.size := by omega
      have hd : b.data.toList.drop i = b[i] :: b.data.toList.drop (i + 1) := by
        rw [List.drop_eq_getElem_cons (by simpa using hi)]; rfl
      rw [hd, List.foldl_cons]
      unfold ByteArray.foldlM.loop
      rw [dif_pos hi]
      simp only [pure_bind]
      exact ih (i + 1) _ hs (by omega)
  unfold ByteArray.foldl ByteArray.foldlM
  simp only [Nat.le_refl, ↓reduceDIte, Nat.sub_zero]
  have := h b.size 0 x (Nat.le_refl _) (by omega)
  exact this

theorem foldl_cast (p : UInt8 → Bool) : ∀ (l : List UInt8) (k : Nat), l.foldl (fun (n : Int) x => if p x then n + 1 else n) (k : Int) = ((l.foldl (fun n x => if p x then n + 1 else n) k : Nat) : Int)
  | [], k => rfl
  | b :: l, k => by
    rw [List.foldl_cons, List.foldl_cons]
    split
    · exact foldl_cast p l (k + 1)
    · exact foldl_cast p l k

theorem count_def (b : ByteArray) (c : Int) : Extern.BytealgCount.count #[.string b, .int .u8 c] = pure (goInt (b.foldl (fun (n : Int) x => if x == c.toNat.toUInt8 then n + 1 else n) ((0 : Nat) : Int))) := rfl

theorem ext_count {P : Program} {f : FuncId} (h : ExtE P f .countString) : Ext1 P E f .countString := by
  intro args a v a' hx
  unfold extA at hx
  split at hx <;> first | (simp at *; done) | skip
  rename_i s c _
  simp only [Option.some.injEq, Prod.mk.injEq] at hx
  obtain ⟨rfl, rfl⟩ := hx
  refine ⟨AF.refl _, fun π w args' hR hG hL => ?_⟩
  obtain ⟨u, u2, rfl, hu, hu2⟩ := args2 hL
  obtain ⟨b, rfl, rfl⟩ := str_inv hu
  cases hu2
  have hc : countB (c.toNat % 256) (ofB b).len (ofB b).val 0 = b.foldl (fun n x => if x == c.toNat.toUInt8 then n + 1 else n) (0 : Nat) := by
    rw [ba_foldl]
    refine countB_eq _ (fun x => x == c.toNat.toUInt8) _ _ fun x _ => ?_
    cases hb : (x == c.toNat.toUInt8) with
    | true =>
      have e : x = c.toNat.toUInt8 := by simpa using hb
      rw [e]; simp [Nat.toUInt8]
    | false =>
      have e : x ≠ c.toNat.toUInt8 := by simpa using hb
      cases hx : x.toNat.beq (c.toNat % 256) with
      | false => rfl
      | true =>
        exfalso
        have := Nat.eq_of_beq_eq_true hx
        apply e
        apply UInt8.toNat_inj.1
        rw [this]
        simp [Nat.toUInt8]
  refine ⟨π, w, _, ExtFn.run h (w' := w) (by rw [count_def]; rfl), Stp.refl hR, ?_⟩
  rw [hc, ba_foldl, ba_foldl, foldl_cast (fun x => x == c.toNat.toUInt8)]; exact .int _ _

theorem digits_size : ∀ (n t : Nat) (acc : Array Value), (Extern.BytealgMakeNoZero.digits n t acc).size = acc.size + n
  | 0, _, acc => rfl
  | n + 1, t, acc => by
    have e : Extern.BytealgMakeNoZero.digits (n + 1) t acc = Extern.BytealgMakeNoZero.digits n (t / 256) (acc.push (.int .u8 (Int.ofNat (t % 256)))) := rfl
    rw [e, digits_size n]; simp; omega

theorem mnz_def (ps rs : Array TypeId) (n : Int) : Extern.BytealgMakeNoZero.makeNoZero ps rs #[.int .i64 n] = (do
    let some t := rs[0]? | stuck "bytealg.MakeNoZero: no result type"
    let .slice elem ← underlying t | stuck "bytealg.MakeNoZero: slice type expected"
    if n < 0 || n > 2 ^ 48 then runtimePanic (.error "makeslice: len out of range")
    let cap ← choose (.appendCap n.toNat 0 elem)
    askRoom cap
    let bytes ← choose (.extern "internal/bytealg.MakeNoZero.bytes" 0)
    let a ← newRow elem (Extern.BytealgMakeNoZero.digits cap bytes #[])
    pure (.slice (some a) n.toNat cap)) := rfl

theorem ext_makeNoZero {P : Program} {f : FuncId} {e : TypeId} (h : ExtE P f (.makeNoZero e)) : Ext1 P E f (.makeNoZero e) := by
  intro args a v a' hx
  unfold extA at hx
  split at hx <;> first | (simp at *; done) | skip
  rename_i e' n hh
  injection hh with hh; subst hh
  split at hx
  · rename_i hn
    split at hx
    · rename_i β a₁ hrow
      simp only [Option.some.injEq, Prod.mk.injEq] at hx
      obtain ⟨rfl, rfl⟩ := hx
      refine ⟨AF.aRow hrow, fun π w args' hR hG hL => ?_⟩
      obtain ⟨u, rfl, hu⟩ := args1 hL
      cases hu
      obtain ⟨ps, rs, t, h1, h2, h3⟩ := h
      have hn2 : ¬ n < 0 := by omega
      have hn3 : ¬ n > 281474976710656 := by omega
      have hrun : ∃ cap w', n.toNat ≤ cap ∧ (Extern.BytealgMakeNoZero.makeNoZero ps rs #[.int .i64 n]).run P w = .ok (.slice (some ⟨w.heap.size, 0, none⟩) n.toNat cap) w' ∧
          (∃ cc : Array Value, cc.size = cap ∧ w'.heap = w.heap.push (.cells cc e (0, 0))) ∧ w'.os = w.os ∧ w'.tape = w.tape ∧ w'.output = w.output := by
        have hr : (Extern.BytealgMakeNoZero.makeNoZero ps rs #[.int .i64 n]).run P w = .ok (.slice (some ⟨w.heap.size, 0, none⟩) n.toNat (n.toNat + w.tape w.drawn (.appendCap n.toNat 0 e) % (2 ^ 63 - n.toNat)))
            { w with drawn := w.drawn + 2, heap := w.heap.push (.cells (Extern.BytealgMakeNoZero.digits (n.toNat + w.tape w.drawn (.appendCap n.toNat 0 e) % (2 ^ 63 - n.toNat)) (w.tape (w.drawn + 1) (.extern "internal/bytealg.MakeNoZero.bytes" 0)) #[]) e (0, 0)) } := by
          rw [mnz_def]
          simp [h1, run_under h2, Question.forced, Question.cut, hn2, hn3, newRow]
          rfl
        exact ⟨_, _, Nat.le_add_right _ _, hr, ⟨_, by rw [digits_size]; simp, rfl⟩, rfl, rfl, rfl⟩
      obtain ⟨cap, w', hle, hrun, ⟨cc, hsz, hheap⟩, ho, ht, hout⟩ := hrun
      obtain ⟨rfl, hst⟩ := bigRow hR hrow (by simp) (fun k v hv => by simp at hv) hheap ho ht hout
      refine ⟨_, w', _, h3.run hrun, hst, ?_⟩
      have := VR.slice (π := π.upd a.nx ⟨w.heap.size, 0, cc.size⟩) a.nx 0 n.toNat none 1 cap ⟨w.heap.size, 0, cc.size⟩ (PM.upd_same _ _ _) hle (by simp [hsz]) (by simp)
      exact this
    · simp at hx
  · simp at hx

/-! ### Whole numbers, turned in one piece -/
theorem aStore1_ok {P : Program} {a a' : AS} (h : R a π w) {β i : Nat} {v : AV} {v' : Value} {p : Pl} {u : Unit} (hp : π β = some p) (hv : VR π v v')
    (hl : aStoreN β i [v] a = some (u, a')) : ∃ w', (∀ m, (store ⟨p.b, p.o + i, none⟩ v' m).run P w = .ok () w') ∧ Stp a π w a' π w' ∧ w.frozen? ⟨p.b, p.o + i, none⟩ = false ∧ ∃ n e, w.shape? p.b = some (n, e) := by
  obtain ⟨w', h1, h2⟩ := aStoreN_ok (P := P) h hp (LR.cons hv LR.nil) hl
  unfold aStoreN at hl
  split at hl
  · rename_i c e f hg
    split at hl
    · rename_i hb
      simp only [Bool.and_eq_true] at hb
      obtain ⟨⟨⟨⟨⟨b1, b2⟩, b3⟩, b4⟩, b5⟩, _⟩ := hb
      have e4 := Nat.le_of_ble_eq_true b4
      have e3 : (famOf a f).fz = false := by simpa using b3
      have hone : v'.oneCell' = true := by rw [hv.one]; simpa using b5
      obtain ⟨_, _, hlim, cc, lo, hi, hh, hsz, _, hz, _⟩ := h.cells β p c e f hp hg
      simp only [List.length_cons, List.length_nil] at e4
      have hcell : ∃ x, w.cell? ⟨p.b, p.o + i, none⟩ = some x := by
        rw [cell_of hh, Array.getElem?_eq_getElem (by omega)]; exact ⟨_, rfl⟩
      have hfz : w.frozen? ⟨p.b, p.o + i, none⟩ = false := by
        rw [frozen_of hh]
        rcases hz e3 with h1 | ⟨_, h1⟩
        · subst h1
          by_cases h2 : lo ≤ p.o + i
          · simp [h2]
          · simp [h2]
        · have : ¬ lo ≤ p.o + i := by omega
          simp [this]
      obtain ⟨x, hx⟩ := hcell
      have hst : ∀ m, (store ⟨p.b, p.o + i, none⟩ v' m).run P w = .ok () (w.setCell ⟨p.b, p.o + i, none⟩ v') := fun m => by
        rw [run_store _ _ _ _ _ hone, hx]; simp [hfz]
      have hw : w' = w.setCell ⟨p.b, p.o + i, none⟩ v' := by
        have e : (storeCells ⟨p.b, p.o + i, none⟩ [v']).run P w = (do store ((⟨p.b, p.o + i, none⟩ : Addr).add 0) v'; pure () : Sem Unit).run P w := rfl
        rw [e, add_plain, Nat.add_zero, Sem.run_bind, hst] at h1
        simpa using h1.symm
      subst hw
      exact ⟨_, hst, h2, hfz, e, _, h.shape hp hg⟩
    · simp at hl
  · simp at hl

/-- What is read of an integer cell in one piece. -/
theorem atomic_read {P : Program} {k : IntKind} {n : Int} {c : Addr} (hc : w.cell? c = some (.int k n)) : (Extern.Atomic.read (.int k) c).run P w = .ok (.int k n) w := by
  unfold Extern.Atomic.read
  simp [hc]

theorem aLoad1_cell {a a' : AS} (h : R a π w) {β i : Nat} {v : AV} {p : Pl} (hp : π β = some p) (hl : aLoad1 β i a = some (v, a')) :
    ∃ v', w.cell? ⟨p.b, p.o + i, none⟩ = some v' ∧ VR π v v' := by
  unfold aLoad1 at hl
  split at hl
  · rename_i c e f a₁ h1
    unfold aCells at h1
    split at h1
    · rename_i c' e' f' hg
      split at h1
      · rename_i hm
        simp only [Option.some.injEq, Prod.mk.injEq] at h1
        obtain ⟨⟨rfl, rfl, rfl⟩, rfl⟩ := h1
        split at hl
        · rename_i v₁ hv
          simp only [Option.some.injEq, Prod.mk.injEq] at hl
          obtain ⟨rfl, rfl⟩ := hl
          obtain ⟨v', hc, hv'⟩ := h.read hp hg (Nat.le_of_ble_eq_true hm) hv
          exact ⟨v', hc, hv'⟩
        · simp at hl
      · simp at h1
    · simp at h1
  · simp at hl

theorem ptr_inv {β i : Nat} {v' : Value} (h : VR π (.ptr β i) v') : ∃ p, v' = .pointer (some ⟨p.b, p.o + i, none⟩) ∧ π β = some p := by
  cases h with
  | ptr _ _ p hp => exact ⟨p, rfl, hp⟩

theorem update_def (op : IntKind → Int → Int → Sem Value) (k : IntKind) (c : Addr) (y : Value) : Extern.Atomic.update op k true #[.pointer (some c), y] = (do
    let old ← Extern.Atomic.read (.int k) c
    let new ← op k (← asInt old) (← asInt y)
    store c new .atomic
    pure new) := rfl

theorem add_ok {P : Program} {f : FuncId} {k : IntKind} (h : ExtFn P f (Extern.Atomic.update (Op.intArith .add) k true)) {β i : Nat} {k' : IntKind} {y : Int} {a a' : AS} {v : AV}
    (hx : aTurn β i k (fun x => some (k.wrap (x + y), .int k (k.wrap (x + y)))) a = some (v, a')) : AF a a' ∧
    ∀ (π : PM) (w : World) (args' : Array Value), R a π w → GL E π → LR π [.ptr β i, .int k' y] args'.toList → ∃ π' w' v', (callFunc f args').run P w = .ok (.value v') w' ∧ Stp a π w a' π' w' ∧ VR π' v v' := by
  unfold aTurn at hx
  split at hx
  · rename_i k₁ x a₀ h1
    replace hx := bif_some hx
    obtain ⟨hk, hx⟩ := hx
    have hk : k = k₁ := by simpa using hk
    subst hk
    simp only at hx
    split at hx
    · rename_i u a₁ h2
      simp only [Option.some.injEq, Prod.mk.injEq] at hx
      obtain ⟨rfl, rfl⟩ := hx
      refine ⟨AF.aStoreN h2, fun π w args' hR hG hL => ?_⟩
      obtain ⟨c, y', rfl, hc, hy⟩ := args2 hL
      obtain ⟨p, rfl, hp⟩ := ptr_inv hc
      cases hy
      obtain ⟨v', h3, h4⟩ := aLoad1_cell hR hp h1
      cases h4
      obtain ⟨w', h5, h6, _⟩ := aStore1_ok (P := P) hR hp (.int k (k.wrap (x + y))) h2
      refine ⟨π, w', _, h.run (v := .int k (k.wrap (x + y))) ?_, h6, .int _ _⟩
      rw [update_def]
      simp [atomic_read h3, Op.intArith, asInt, asIntOf, h5]
    · simp at hx
  · simp at hx

theorem ext_addI64 {P : Program} {f : FuncId} (h : ExtE P f .addI64) : Ext1 P E f .addI64 := by
  intro args a v a' hx
  unfold extA at hx
  split at hx <;> first | (simp at *; done) | skip
  exact add_ok h hx

theorem ext_addI32 {P : Program} {f : FuncId} (h : ExtE P f .addI32) : Ext1 P E f .addI32 := by
  intro args a v a' hx
  unfold extA at hx
  split at hx <;> first | (simp at *; done) | skip
  exact add_ok h hx

theorem load_def (t : Extern.Atomic.T) (c : Addr) : Extern.Atomic.loadT t #[.pointer (some c)] = Extern.Atomic.read t c := rfl

theorem ext_loadU32 {P : Program} {f : FuncId} (h : ExtE P f .loadU32) : Ext1 P E f .loadU32 := by
  intro args a v a' hx
  unfold extA at hx
  split at hx <;> first | (simp at *; done) | skip
  rename_i β i _
  split at hx
  · rename_i x a₁ h1
    simp only [Option.some.injEq, Prod.mk.injEq] at hx
    obtain ⟨rfl, rfl⟩ := hx
    refine ⟨AF.refl _, fun π w args' hR hG hL => ?_⟩
    obtain ⟨c, rfl, hc⟩ := args1 hL
    obtain ⟨p, rfl, hp⟩ := ptr_inv hc
    obtain ⟨v', h3, h4⟩ := aLoad1_cell hR hp h1
    cases h4
    refine ⟨π, w, _, ExtFn.run h (by rw [load_def]; exact atomic_read h3), Stp.refl hR, .int _ _⟩
  · simp at hx

theorem store_def (c : Addr) (y : Value) : Extern.Atomic.storeT #[.pointer (some c), y] = (do store c y .atomic; pure (.tuple #[])) := rfl

theorem ext_storeU32 {P : Program} {f : FuncId} (h : ExtE P f .storeU32) : Ext1 P E f .storeU32 := by
  intro args a v a' hx
  unfold extA at hx
  split at hx <;> first | (simp at *; done) | skip
  rename_i β i k y _
  split at hx
  · rename_i u a₁ h2
    simp only [Option.some.injEq, Prod.mk.injEq] at hx
    obtain ⟨rfl, rfl⟩ := hx
    refine ⟨AF.aStoreN h2, fun π w args' hR hG hL => ?_⟩
    obtain ⟨c, y', rfl, hc, hy⟩ := args2 hL
    obtain ⟨p, rfl, hp⟩ := ptr_inv hc
    obtain ⟨w', h5, h6, _⟩ := aStore1_ok (P := P) hR hp hy h2
    refine ⟨π, w', _, ExtFn.run h (v := .tuple #[]) (w' := w') ?_, h6, VR.undef⟩
    rw [store_def]
    simp [h5]
  · simp at hx

theorem cas_def (k : IntKind) (c : Addr) (k' : IntKind) (y : Int) (new : Value) : Extern.Atomic.casT (.int k) #[.pointer (some c), .int k' y, new] = (do
    if ← Extern.Atomic.touchesFrozen c then unsupported (.unsafePointer "a write to bytes that a string shares")
    let eq ← match Extern.Atomic.T.int k, ← Extern.Atomic.read (.int k) c, Value.int k' y with
      | _, .int _ x, .int _ y => pure (x == y)
      | .ptr, .pointer x, .pointer y => samePointer x y
      | .int _, .pointer (some _), .int _ 0 | .int _, .int _ 0, .pointer (some _) => pure false
      | .int _, .pointer (some _), _ | .int _, _, .pointer (some _) => unsupported .addressObserved
      | _, _, _ => stuck "atomic.CompareAndSwap: old is no T"
    if eq then store c new .atomic
    pure (.bool eq)) := rfl

theorem touchesFrozen_ok {P : Program} {c : Addr} {x : TypeId × Nat} (h : w.shape? c.block = some x) (hf : w.frozen? c = false) : (Extern.Atomic.touchesFrozen c).run P w = .ok false w := by
  unfold Extern.Atomic.touchesFrozen viewAt
  simp [h, hf]

theorem ext_casI32 {P : Program} {f : FuncId} (h : ExtE P f .casI32) : Ext1 P E f .casI32 := by
  intro args a v a' hx
  unfold extA at hx
  split at hx <;> first | (simp at *; done) | skip
  rename_i β i k₀ x k' y _
  split at hx
  · rename_i z a₁ h1
    replace hx := bif_some hx
    obtain ⟨hz, hx⟩ := hx
    split at hx
    · rename_i u a₂ h2
      simp only [Option.some.injEq, Prod.mk.injEq] at hx
      obtain ⟨rfl, rfl⟩ := hx
      have hz : z = x := by simpa using hz
      subst hz
      refine ⟨AF.aStoreN h2, fun π w args' hR hG hL => ?_⟩
      obtain ⟨l⟩ := args'
      obtain ⟨c, r1, rfl, hc, h3⟩ := LRc hL
      obtain ⟨x', r2, rfl, hx', h4⟩ := LRc h3
      obtain ⟨y', rfl, hy'⟩ := LR1 h4
      obtain ⟨p, rfl, hp⟩ := ptr_inv hc
      cases hx'
      obtain ⟨v', h5, h6⟩ := aLoad1_cell hR hp h1
      cases h6
      obtain ⟨w', h7, h8, h9, n, e, h10⟩ := aStore1_ok (P := P) hR hp hy' h2
      refine ⟨π, w', _, ExtFn.run h (v := .bool true) (w' := w') ?_, h8, .bool _⟩
      show (Extern.Atomic.casT (.int .i32) #[.pointer (some ⟨p.b, p.o + i, none⟩), .int k₀ z, y']).run P w = _
      rw [cas_def]
      simp [touchesFrozen_ok h10 h9, atomic_read h5, h7]
    · simp at hx
  · simp at hx

theorem ext_ok {P : Program} {f : FuncId} : ∀ {x : Ext}, ExtE P f x → Ext1 P E f x
  | .noop, h => ext_noop h
  | .noop1, h => ext_noop1 h
  | .noEscape, h => ext_noEscape h
  | .indexByteString, h => ext_indexByte h
  | .countString, h => ext_count h
  | .makeNoZero _, h => ext_makeNoZero h
  | .addI64, h => ext_addI64 h
  | .loadU32, h => ext_loadU32 h
  | .storeU32, h => ext_storeU32 h
  | .casI32, h => ext_casI32 h
  | .addI32, h => ext_addI32 h

end Go.Proofs.YtmhajfnfjjbflaaGreatDoor.Ev

/- What joins the evaluator to a program's tables, and a call of the evaluator's to a call of the model's. -/
namespace Go.Proofs.YtmhajfnfjjbflaaGreatDoor.Ev
open Go.RowKit (Below)

/-- Every place of a trie. -/
def T.All {α : Type} (p : Nat → α → Prop) : T α → (Nat → Nat) → Prop
  | .e, _ => True
  | .n l v r, f => (match v with | some x => p (f 0) x | none => True) ∧ T.All p l (fun k => f (2 * k + 1)) ∧ T.All p r (fun k => f (2 * k + 2))

theorem T.All.get {α : Type} {p : Nat → α → Prop} : ∀ {t : T α} {f : Nat → Nat}, T.All p t f → ∀ k x, t.get k = some x → p (f k) x
  | .e, f, _, k, x, h => by rw [T.get_e] at h; simp at h
  | .n l v r, f, ha, 0, x, h => by
    rw [T.get_n0] at h
    subst h
    exact ha.1
  | .n l v r, f, ha, k + 1, x, h => by
    rw [T.get_ns] at h
    cases hb : (k % 2).beq 0 with
    | true =>
      rw [hb] at h
      have h1 := T.All.get ha.2.1 (k / 2) x h
      have h2 : k % 2 = 0 := Nat.eq_of_beq_eq_true hb
      rw [show 2 * (k / 2) + 1 = k + 1 by omega] at h1
      exact h1
    | false =>
      rw [hb] at h
      have h1 := T.All.get ha.2.2 (k / 2) x h
      have h2 : k % 2 ≠ 0 := Nat.ne_of_beq_eq_false hb
      rw [show 2 * (k / 2) + 2 = k + 1 by omega] at h1
      exact h1

/-- A function of the table. -/
def FtOk (P : Program) (k : Nat) (fn : Func) : Prop := (P.funcs[k]? = some fn ∧ fn.name ≠ "runtime.NumGoroutine") ∧ ∀ c, fn.body = some c → regsIn RegOk c
def fnB (fn : Func) : Bool := !(fn.name == "runtime.NumGoroutine") && (match fn.body with | some c => regsB c | none => true)
theorem FtOk.of {P : Program} {k : Nat} {fn : Func} (h : P.funcs[k]? = some fn) (hb : fnB fn = true) : FtOk P k fn := by
  unfold fnB at hb
  simp only [Bool.and_eq_true, Bool.not_eq_true', beq_eq_false_iff_ne] at hb
  refine ⟨⟨h, hb.1⟩, fun c hc => regsB_ok ?_⟩
  have h2 := hb.2
  rw [hc] at h2
  exact h2

theorem callOk_of {E : Env} (h1 : T.All (fun t i => mkTI E.P t = some i) E.ti id) (h2 : T.All (FtOk E.P) E.ft id) (h3 : T.All (ExtE E.P) E.xt id) (hm : E.P.follows .mixedOrders = true) (n d : Nat) : CallOk E (callA E n d) :=
  eval_ok ⟨fun t i h => h1.get t i h, fun k fn h => (h2.get k fn h).1⟩ (fun f x hx => ext_ok (h3.get f x hx)) hm (fun f fn c hf hc => (h2.get f fn hf).2 c hc) n d

/-- The state of nothing. -/
def a0 : AS := ⟨.e, .e, 0, 0⟩
theorem R_nil (w : World) : R a0 (fun _ => none) w :=
  ⟨fun _ _ => rfl, fun _ _ h => by simp at h, fun _ _ h => by simp at h, fun _ _ _ _ _ h => by simp at h, fun _ _ _ _ h => by simp at h, fun _ _ _ _ h => by simp at h,
    fun _ _ _ _ h => by simp at h, fun _ _ _ _ _ _ _ _ _ h => by simp at h, fun _ _ _ _ h => by simp at h⟩

/-- Does a call answer true? -/
def isTrue : Option (AV × AS) → Bool
  | some (.bool b, _) => b
  | _ => false

theorem isTrue_some {r : Option (AV × AS)} (h : isTrue r = true) : ∃ a, r = some (.bool true, a) := by
  unfold isTrue at h
  split at h
  · subst h; exact ⟨_, rfl⟩
  · simp at h

theorem below_of {a : AS} {π : PM} {w w' : World} (h : Stp a0 (fun _ => none) w a π w') : Below w.heap.size w w' :=
  ⟨h.os, h.tape, h.output, h.size, fun k hk => h.keep k hk fun β p hp => by simp at hp⟩

/-- A call that the evaluator answers with true, from nothing: so it is, whatever the memory. -/
theorem calls_true {E : Env} (hgl : E.gl = .e) {K : CallK} (hC : CallOk E K) {f : FuncId} {fn : Func} {c : Code} (hf : E.P.funcs[f]? = some fn) (hn : fn.name ≠ "runtime.NumGoroutine") (hb : fn.body = some c)
    {l : List AV} {args : Array Value} (hl : LR (fun _ => none) l args.toList) (h : isTrue (K f l a0) = true) (w : World) :
    Goes E.P f args w fun v w' => v = .bool true ∧ Below w.heap.size w w' := by
  obtain ⟨a, ha⟩ := isTrue_some h
  obtain ⟨_, hW⟩ := hC f l a0 _ a ha
  have hG : GL E (fun _ => none) := fun g u hg => by rw [hgl, T.get_e] at hg; simp at hg
  rcases hW _ w args (R_nil w) hG hl with ⟨π', w', v', h1, _⟩ | ⟨_, h2⟩
  · rw [run_callFunc hf hn hb] at h1; simp at h1
  · intro kind cs
    obtain ⟨v, w', fr, fn', ⟨π', h3, h4⟩, h5⟩ := h2 kind cs
    exact ⟨v, w', fr, fn', ⟨bool_inv h4, below_of h3⟩, h5⟩

theorem LR1_int {π : PM} (k : IntKind) (x : Int) : LR π [.int k x] (#[Value.int k x] : Array Value).toList := LR.cons (.int k x) LR.nil
theorem LR2_int {π : PM} (k : IntKind) (x : Int) (k' : IntKind) (y : Int) : LR π [.int k x, .int k' y] (#[Value.int k x, Value.int k' y] : Array Value).toList := LR.cons (.int k x) (LR.cons (.int k' y) LR.nil)
theorem LR2_ib {π : PM} (k : IntKind) (x : Int) (b : Bool) : LR π [.int k x, .bool b] (#[Value.int k x, Value.bool b] : Array Value).toList := LR.cons (.int k x) (LR.cons (.bool b) LR.nil)

end Go.Proofs.YtmhajfnfjjbflaaGreatDoor.Ev
