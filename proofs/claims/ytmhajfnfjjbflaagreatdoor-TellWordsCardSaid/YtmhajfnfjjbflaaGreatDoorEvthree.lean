/- copy, len, cap, max, min, unsafe.String; conversions. -/
import Derived.Test.YtmhajfnfjjbflaaGreatDoorEvtwo
import Derived.Laws.BytesArg
import Derived.Laws.IdiomStrings
import Derived.Lib.Builder
import Derived.Tactics
import Derived.Laws.Sem
import Derived.Orders
namespace Go.Proofs.YtmhajfnfjjbflaaGreatDoor.Ev

variable {E : Env} {π : PM} {w : World}

theorem first0 {P : Program} {sz : Nat} {x : AV} {x' : Value} {m : Nat} (hx : VR π x x') (h : lenA x = some m) : (Builtin.firstCells sz 0 x').run P w = .ok ([] : List Value).toArray w := by
  cases hx <;> first
    | rfl
    | (simp [Builtin.firstCells, loadCells, loadCellsFrom]; done)
    | (simp [lenA] at h; done)
    | (simp [Builtin.firstCells]; apply Array.ext'; simp; done)

theorem aCopy_ok (hE : EnvOk E) {a a' : AS} (h : R a π w) {ts : Array TypeId} {t ty : TypeId} (h0 : ts[0]? = some t) {d x v : AV} {d' x' : Value} (hd : VR π d d') (hx : VR π x x')
    (hl : aCopy E t d x a = some (v, a')) : ∃ v' w', (Builtin.copy_ ts ty #[d', x']).run E.P w = .ok v' w' ∧ Stp a π w a' π w' ∧ VR π v v' := by
  unfold aCopy at hl
  split at hl
  · rename_i e _ _ _ _ ht
    obtain ⟨tinf, td, tz, hts⟩ := hE.spec ht
    have hu := sl_kind hts rfl
    split at hl
    · rename_i ei m k hei hm hk
      obtain ⟨inf, ed, z, hes⟩ := hE.spec hei
      have hlen := lenA_ok (P := E.P) (w := w) hx hm
      have hf0 := first0 (P := E.P) (w := w) (sz := inf.size) hx hm
      split at hl
      · cases hd
        simp only [Option.some.injEq, Prod.mk.injEq] at hl
        obtain ⟨rfl, rfl⟩ := hl
        refine ⟨goInt 0, w, ?_, Stp.refl h, .int _ _⟩
        have hmin : Nat.min m 0 = 0 := Nat.min_eq_right (Nat.zero_le _)
        simp [Builtin.copy_, h0, run_under hu, run_size hes.info, hlen, hmin, hf0]
      · rename_i β i n cap sz
        have hkn : k = n := by simpa [lenA] using hk.symm
        subst hkn
        split at hl
        · rename_i hmin
          simp only [Option.some.injEq, Prod.mk.injEq] at hl
          obtain ⟨rfl, rfl⟩ := hl
          have hmin' : Nat.min m k = 0 := hmin
          refine ⟨goInt 0, w, ?_, Stp.refl h, .int _ _⟩
          cases hd <;> simp [Builtin.copy_, h0, run_under hu, run_size hes.info, hlen, hmin', hf0, storeCells]
        · rename_i n1 hmin
          have hmin' : Nat.min m k = n1 + 1 := hmin
          replace hl := bif_some hl
          obtain ⟨hb, hl⟩ := hl
          have b1 := Nat.eq_of_beq_eq_true hb
          split at hl
          · simp at hl
          · rename_i new a₁ hnew
            obtain ⟨rfl, new', hn1, hn2⟩ := aFirst_ok (P := E.P) h hx hnew
            split at hl
            · rename_i u a₂ hst
              simp only [Option.some.injEq, Prod.mk.injEq] at hl
              obtain ⟨rfl, rfl⟩ := hl
              cases hd with
              | slice0 _ _ _ p hp ad =>
                have : min m 0 = 0 := Nat.min_eq_right (Nat.zero_le _)
                omega
              | slice _ _ _ _ _ c p hp hn hc hkk =>
                obtain ⟨w', h1, h2⟩ := aStoreN_ok (P := E.P) h hp hn2 hst
                refine ⟨goInt (n1 + 1 : Nat), w', ?_, h2, .int _ _⟩
                rw [hes.size] at hn1
                simp [Builtin.copy_, h0, run_under hu, run_size hes.info, hlen, hmin', hn1, h1]
            · simp at hl
      · simp at hl
    · simp at hl
  · simp at hl

theorem aLen_ok (hE : EnvOk E) {a a' : AS} (h : R a π w) {ts : Array TypeId} {t ty : TypeId} (h0 : ts[0]? = some t) {x v : AV} {x' : Value} (hx : VR π x x') (hl : aLen E t x a = some (v, a')) :
    a' = a ∧ ∃ v', (Builtin.len_ ts ty #[x']).run E.P w = .ok v' w ∧ VR π v v' := by
  unfold aLen at hl
  split at hl
  · simp at hl
  · rename_i i ht
    obtain ⟨inf, d, z, hs⟩ := hE.spec ht
    split at hl
    · rename_i s hk
      have hu := str_kind hs hk
      obtain ⟨b, rfl, rfl⟩ := str_inv hx
      simp only [Option.some.injEq, Prod.mk.injEq] at hl
      obtain ⟨rfl, rfl⟩ := hl
      refine ⟨rfl, goInt b.size, by simp [Builtin.len_, h0, run_under hu], ?_⟩
      rw [ofB_len]; exact .int _ _
    · rename_i e hk
      have hu := sl_kind hs hk
      cases hx
      simp only [Option.some.injEq, Prod.mk.injEq] at hl
      obtain ⟨rfl, rfl⟩ := hl
      exact ⟨rfl, goInt 0, by simp [Builtin.len_, h0, run_under hu], .int _ _⟩
    · rename_i e β j n cap sz hk
      have hu := sl_kind hs hk
      simp only [Option.some.injEq, Prod.mk.injEq] at hl
      obtain ⟨rfl, rfl⟩ := hl
      refine ⟨rfl, goInt n, ?_, .int _ _⟩
      cases hx <;> simp [Builtin.len_, h0, run_under hu]
    · rename_i n e hk
      have hu := arr_kind hs hk
      simp only [Option.some.injEq, Prod.mk.injEq] at hl
      obtain ⟨rfl, rfl⟩ := hl
      exact ⟨rfl, goInt n, by simp [Builtin.len_, h0, run_under hu], .int _ _⟩
    · rename_i k e hk
      have hu := map_kind hs hk
      cases hx
      simp only [Option.some.injEq, Prod.mk.injEq] at hl
      obtain ⟨rfl, rfl⟩ := hl
      exact ⟨rfl, goInt 0, by simp [Builtin.len_, h0, run_under hu], .int _ _⟩
    · rename_i k e β hk
      have hu := map_kind hs hk
      obtain ⟨p, rfl, hp⟩ := map_inv hx
      split at hl
      · rename_i es cl a₂ hmm
        obtain ⟨rfl, hg⟩ := aMap_inv hmm
        obtain ⟨es', h1, h2⟩ := h.mapER hp hg
        simp only [Option.some.injEq, Prod.mk.injEq] at hl
        obtain ⟨rfl, rfl⟩ := hl
        refine ⟨rfl, goInt es'.size, by simp [Builtin.len_, h0, run_under hu, run_getObj h1], ?_⟩
        have : es.length = es'.size := by simpa using h2.1
        rw [this]; exact .int _ _
      · simp at hl
    · simp at hl

theorem capA_ok (hE : EnvOk E) {ts : Array TypeId} {t ty : TypeId} (h0 : ts[0]? = some t) {x v : AV} {x' : Value} (hx : VR π x x') (hl : capA E t x = some v) :
    ∃ v', (Builtin.cap_ ts ty #[x']).run E.P w = .ok v' w ∧ VR π v v' := by
  unfold capA at hl
  split at hl
  · simp at hl
  · rename_i i ht
    obtain ⟨inf, d, z, hs⟩ := hE.spec ht
    split at hl
    · rename_i e hk
      have hu := sl_kind hs hk
      cases hx
      simp only [Option.some.injEq] at hl
      subst hl
      exact ⟨goInt 0, by simp [Builtin.cap_, h0, run_under hu], .int _ _⟩
    · rename_i e β j n c sz hk
      have hu := sl_kind hs hk
      simp only [Option.some.injEq] at hl
      subst hl
      cases hx with
      | slice _ _ _ _ _ c2 p hp hn hc hkk =>
        have := hkk c rfl
        subst this
        exact ⟨goInt c2, by simp [Builtin.cap_, h0, run_under hu], .int _ _⟩
    · rename_i n e hk
      have hu := arr_kind hs hk
      simp only [Option.some.injEq] at hl
      subst hl
      exact ⟨goInt n, by simp [Builtin.cap_, h0, run_under hu], .int _ _⟩
    · simp at hl

theorem foldInt_ok {P : Program} {f : Int → Int → Int} {g : Value → Value → Sem Value} (hg : ∀ k x k' y, (g (.int k x) (.int k' y)).run P w = .ok (.int k (f x y)) w) {k : IntKind} :
    ∀ {l : List AV} {l' : List Value} {x : Int} {v : AV}, LR π l l' → foldInt f k x l = some v → ∃ v', (l'.foldlM g (.int k x)).run P w = .ok v' w ∧ VR π v v'
  | [], l', x, v, hl, h => by
    have : l' = [] := List.eq_nil_of_length_eq_zero (by have := hl.1; simp at this; omega)
    subst this
    simp only [foldInt, Option.some.injEq] at h
    subst h
    exact ⟨_, rfl, .int _ _⟩
  | y :: l, [], x, v, hl, h => by have := hl.1; simp at this
  | y :: l, y' :: l', x, v, hl, h => by
    have hy := hl.head
    cases y <;> simp only [foldInt] at h <;> first | (simp at h; done) | skip
    cases hy
    obtain ⟨v', h1, h2⟩ := foldInt_ok hg hl.tail h
    refine ⟨v', ?_, h2⟩
    simp only [List.foldlM_cons, Sem.run_bind, hg, Result.andThen_ok, h1]

/-! ### Bytes and strings -/
theorem toBytes_ok : ∀ {cs : List AV} {vs : List Value} {l : List UInt8}, LR π cs vs → toBytes cs = some l → ∃ ns : List Int, vs = ns.map (Value.int .u8) ∧ l = ns.map fun n => UInt8.ofNat n.toNat
  | [], vs, l, h, hb => by
    have : vs = [] := List.eq_nil_of_length_eq_zero (by have := h.1; simp at this; omega)
    subst this
    simp [toBytes] at hb
    exact ⟨[], rfl, hb⟩
  | c :: cs, [], l, h, hb => by have := h.1; simp at this
  | c :: cs, v :: vs, l, h, hb => by
    have hc := h.head
    cases c <;> first | (simp [toBytes] at hb; done) | skip
    rename_i k n
    cases k <;> first | (simp [toBytes] at hb; done) | skip
    simp only [toBytes] at hb
    split at hb
    · rename_i r hr
      simp only [Option.some.injEq] at hb
      obtain ⟨ns, h1, h2⟩ := toBytes_ok h.tail hr
      cases hc
      exact ⟨n :: ns, by simp [h1], by simp [← hb, h2]⟩
    · simp at hb

theorem ofB_mk (l : List UInt8) : ofB ⟨l.toArray⟩ = ofL l := by simp [ofB]

theorem uptr_kind {t : TypeId} {ti : TI} {inf : TypeInfo} {d : TypeDesc} {z : Value} {P : Program} (hs : TySpec P t ti inf d z) (hk : ti.kind = .uptr) : P.underlying t = some .unsafePointer := by
  rw [hs.kind] at hk
  cases d <;> simp [kindOf] at hk
  exact hs.under

theorem rowAt_mono {P : Program} (fits : TypeId → Bool) : ∀ (d : Nat) (e count count' off n : Nat), count ≤ count' → rowAt P fits d e count off n = true → rowAt P fits d e count' off n = true := by
  intro d
  cases d with
  | zero => intro e c c' off n _ h; simp [rowAt] at h
  | succ d =>
    intro e c c' off n hc h
    unfold rowAt at h ⊢
    simp only [] at h ⊢
    split at h
    · simp at h
    · rename_i hs
      rw [if_neg hs]
      simp only [Bool.or_eq_true, Bool.and_eq_true, decide_eq_true_eq] at h ⊢
      rcases h with ⟨⟨h1, h2⟩, h3⟩ | ⟨h1, h2⟩
      · exact .inl ⟨⟨h1, Nat.le_trans h2 hc⟩, h3⟩
      · exact .inr ⟨Nat.lt_of_lt_of_le h1 hc, h2⟩

theorem liesAt_mono {P : Program} : ∀ (d : Nat) (e count count' off u n : Nat), count ≤ count' → liesAt P d e count off u n = true → liesAt P d e count' off u n = true := by
  intro d
  induction d with
  | zero => intro e c c' off u n _ h; simp [liesAt] at h
  | succ d ih =>
    intro e c c' off u n hc h
    unfold liesAt at h ⊢
    simp only [Bool.or_eq_true] at h ⊢
    rcases h with h | h
    · exact .inl (rowAt_mono _ _ _ _ _ _ _ hc h)
    · refine .inr ?_
      split at h
      · rename_i m u' hu
        exact ih _ _ _ _ _ _ hc h
      · simp at h

theorem liesAt_self {P : Program} {e : TypeId} {count : Nat} (hc : P.cellsOf e ≠ 0) (hn : 1 ≤ count) : liesAt P P.depth e count 0 e 1 = true := by
  have hd : P.depth = (2 * (P.types.size + Made.depth) + 1) + 1 := rfl
  rw [hd]
  simp only [liesAt, Bool.or_eq_true]
  left
  rw [hd]
  simp [rowAt, hc, hn, sameLayout]

theorem R.shape {a : AS} (h : R a π w) {β : Nat} {p : Pl} {c : List AV} {e f : Nat} (hp : π β = some p) (hg : a.hp.get β = some (.cells c e f)) : w.shape? p.b = some (e, p.o + p.lim) := by
  obtain ⟨_, _, _, cc, lo, hi, h1, h2, _⟩ := h.cells β p c e f hp hg
  simp [World.shape?, h1, h2]

theorem aConvert_ok (hE : EnvOk E) {a a' : AS} (h : R a π w) {src dst : TypeId} {x v : AV} {x' : Value} (hx : VR π x x') (hl : aConvert E src dst x a = some (v, a')) :
    ∃ π' v' w', (convert src dst x').run E.P w = .ok v' w' ∧ Stp a π w a' π' w' ∧ VR π' v v' := by
  unfold aConvert at hl
  split at hl
  · rename_i si di hs0 hd0
    obtain ⟨sinf, sd, sz, hs⟩ := hE.spec hs0
    obtain ⟨dinf, dd, dz, hd⟩ := hE.spec hd0
    split at hl
    · rename_i k k' n hk
      have hud := int_kind hd hk
      cases hx
      simp only [Option.some.injEq, Prod.mk.injEq] at hl
      obtain ⟨rfl, rfl⟩ := hl
      rw [wrapA_eq]
      refine ⟨π, _, w, ?_, Stp.refl h, .int _ _⟩
      simp only [convert, Sem.run_bind, run_under hs.under, run_under hud, Result.andThen_ok]
      cases sd <;> rfl
    · rename_i k n hk
      have hud := str_kind hd hk
      cases hx
      simp only [Option.some.injEq, Prod.mk.injEq] at hl
      obtain ⟨rfl, rfl⟩ := hl
      refine ⟨π, .string (Utf8.encode n), w, ?_, Stp.refl h, .str _⟩
      simp only [convert, Sem.run_bind, run_under hs.under, run_under hud, Result.andThen_ok]
      cases sd <;> rfl
    · rename_i s hk
      have hud := str_kind hd hk
      obtain ⟨b, rfl, rfl⟩ := str_inv hx
      simp only [Option.some.injEq, Prod.mk.injEq] at hl
      obtain ⟨rfl, rfl⟩ := hl
      refine ⟨π, .string b, w, ?_, Stp.refl h, .str _⟩
      simp only [convert, Sem.run_bind, run_under hs.under, run_under hud, Result.andThen_ok]
      cases sd <;> rfl
    · rename_i e s hk1 hk2
      have hus := str_kind hs hk1
      have hud := sl_kind hd hk2
      obtain ⟨b, rfl, rfl⟩ := str_inv hx
      split at hl
      · rename_i esz ezr ezg he0
        obtain ⟨einf, ed, ez, he⟩ := hE.spec he0
        have hue := int_kind he rfl
        replace hl := bif_some hl
        obtain ⟨hb, hl⟩ := hl
        rw [ofB_len] at hl
        unfold aRow aNew at hl
        simp only [Option.some.injEq, Prod.mk.injEq] at hl
        obtain ⟨rfl, rfl⟩ := hl
        have hrun := run_bytes_of_string (P := E.P) w src dst e b hus hud hue
        have hcap := grownCap_ge w b.size 0 e
        have hsz : (bytesRow b (grownCap w b.size 0 e)).size = grownCap w b.size 0 e := by
          simp [bytesRow]; omega
        refine ⟨π.upd a.nx ⟨w.heap.size, 0, grownCap w b.size 0 e⟩, _, _, hrun, ?_, ?_⟩
        · refine stp_new (b := .cells (bytesA (ofB b) b.size) e a.nx) h rfl rfl rfl rfl rfl rfl rfl rfl (fun f hf => ?_) ?_ ?_
          · show (a.fam.set a.nx _).get f = _
            rw [T.get_set, if_neg hf]
          · unfold famOf
            simp only [T.get_set]
            simp
          · have hlr := bytesA_LR (π := π) b b.size (Nat.le_refl _)
            refine ⟨rfl, ?_, _, _, _, rfl, by simp [hsz], fun i v hv => ?_, .inr ⟨?_, Nat.le_refl _⟩⟩
            · rw [hlr.1]; simp; exact hcap
            · obtain ⟨v', h1, h2⟩ := hlr.get hv
              refine ⟨v', ?_, h2.mono (PM.le_upd _ h.fresh)⟩
              have hi := (List.getElem?_eq_some_iff.1 h1).1
              simp at hi
              rw [Nat.zero_add, bytesRow, Array.getElem?_append, if_pos (by simpa using hi)]
              rw [List.take_of_length_le (by simp)] at h1
              rw [← h1]
              simp
            · unfold famOf
              simp only [T.get_set, if_pos]
        · refine .slice a.nx 0 b.size none 1 (grownCap w b.size 0 e) _ (PM.upd_same _ _ _) hcap (by simp) (fun k hk => by simp at hk)
      · simp at hl
    · rename_i e e2 β i n cap sz hk1 hk2
      have hus := sl_kind hs hk1
      have hud := sl_kind hd hk2
      split at hl
      · rename_i esz ebz ezr ezg c ec f he0 hg
        obtain ⟨einf, ed, ez, he⟩ := hE.spec he0
        have hue := int_kind he rfl
        replace hl := bif_some hl
        obtain ⟨hb, hl⟩ := hl
        simp only [Bool.and_eq_true] at hb
        obtain ⟨⟨b1, b2⟩, b3⟩ := hb
        have hsd : src = dst := by simpa using b1
        subst hsd
        have hee : e2 = e := by
          rw [hus] at hud
          simpa using hud.symm
        subst hee
        cases hx with
        | slice _ _ _ _ _ cc p hp hn hc hk =>
          simp only [Option.some.injEq, Prod.mk.injEq] at hl
          obtain ⟨rfl, rfl⟩ := hl
          refine ⟨π, _, _, ?_, stp_sg (n := p.o + p.lim) h hp hg (by simpa using b2) rfl rfl, .slice β i (n + 1) cap sz cc p hp hn hc hk⟩
          simp [convert, run_under hus, run_under hue, markStringish, h.shape hp hg]
      · simp at hl
    · rename_i t hk1 hk2
      have hus := ptr_kind hs hk1
      have hud := uptr_kind hd hk2
      cases hx
      simp only [Option.some.injEq, Prod.mk.injEq] at hl
      obtain ⟨rfl, rfl⟩ := hl
      refine ⟨π, _, w, ?_, Stp.refl h, .nilp⟩
      simp [convert, Conv.unsafePointer, run_under hus, run_under hud]
    · rename_i t β i hk1 hk2
      have hus := ptr_kind hs hk1
      have hud := uptr_kind hd hk2
      split at hl
      · rename_i ti x1 hti hld
        obtain ⟨tinf, td, tz, hts⟩ := hE.spec hti
        cases hsz : ti.size.beq 0 with
        | true => rw [hsz] at hl; simp at hl
        | false =>
          rw [hsz] at hl
          simp only [cond_false, Option.some.injEq, Prod.mk.injEq] at hl
          obtain ⟨rfl, rfl⟩ := hl
          have hne : tinf.size ≠ 0 := by
            rw [← hts.size]; intro e0; rw [e0] at hsz; simp at hsz
          cases hx with
          | ptr _ _ p hp =>
            obtain ⟨u, a₁⟩ := x1
            unfold aLoad1 aCells at hld
            split at hld
            · rename_i c ec f a₂ hc
              split at hc
              · rename_i c2 e2 f2 hg
                split at hc
                · simp only [Option.some.injEq, Prod.mk.injEq] at hc
                  obtain ⟨⟨rfl, rfl, rfl⟩, rfl⟩ := hc
                  split at hld
                  · rename_i v1 hv1
                    have hi := (List.getElem?_eq_some_iff.1 hv1).1
                    have hlim := (h.cells β p _ _ _ hp hg).2.2.1
                    exact ⟨π, _, w, Lib.run_to_unsafe w _ hus hud hts.info hne (h.shape hp hg) (by simp only []; omega), Stp.refl h, .ptr β i p hp⟩
                  · simp at hld
                · simp at hc
              · simp at hc
            · simp at hld
      · simp at hl
    · rename_i t hk1 hk2
      have hus := uptr_kind hs hk1
      have hud := ptr_kind hd hk2
      cases hx
      simp only [Option.some.injEq, Prod.mk.injEq] at hl
      obtain ⟨rfl, rfl⟩ := hl
      refine ⟨π, _, w, ?_, Stp.refl h, .nilp⟩
      simp [convert, Conv.unsafePointer, run_under hus, run_under hud]
    · rename_i u β i hk1 hk2
      have hus := uptr_kind hs hk1
      have hud := ptr_kind hd hk2
      split at hl
      · rename_i ui c e f hui hg
        obtain ⟨uinf, ud, uz, hus'⟩ := hE.spec hui
        replace hl := bif_some hl
        obtain ⟨hb, hl⟩ := hl
        simp only [Bool.and_eq_true, Bool.or_eq_true] at hb
        obtain ⟨b1, b2⟩ := hb
        have hf := Nat.eq_of_beq_eq_true b1
        subst hf
        simp only [Option.some.injEq, Prod.mk.injEq] at hl
        obtain ⟨rfl, rfl⟩ := hl
        cases hx with
        | ptr _ _ p hp =>
          have h0 := h.org _ p c e hp hg
          have hlim := (h.cells _ p _ _ _ hp hg).2.2.1
          refine ⟨π, _, w, Lib.run_from_unsafe w _ hus hud hus'.info (h.shape hp hg) ?_, Stp.refl h, .ptr _ i p hp⟩
          rw [h0, Nat.zero_add, Nat.zero_add]
          rcases b2 with ⟨⟨⟨c1, c2⟩, c3⟩, c4⟩ | b2
          · have e1 : e = u := by simpa using c1
            have e2 := Nat.eq_of_beq_eq_true c2
            have e3 := Nat.eq_of_beq_eq_true c3
            have e4 : 0 < c.length := by simpa using c4
            subst e1; subst e2
            refine liesAt_self (by omega) ?_
            rw [e3]
            exact (Nat.le_div_iff_mul_le (by omega)).2 (by omega)
          · exact liesAt_mono _ _ _ _ _ _ _ (Nat.div_le_div_right hlim) b2
      · simp at hl
    · rename_i e hk1 hk2
      have hus := sl_kind hs hk1
      have hud := str_kind hd hk2
      cases hx
      split at hl
      · rename_i esz ebz ezr ezg he0
        obtain ⟨einf, ed, ez, he⟩ := hE.spec he0
        have hue := int_kind he rfl
        simp only [Option.some.injEq, Prod.mk.injEq] at hl
        obtain ⟨rfl, rfl⟩ := hl
        exact ⟨π, _, w, run_convert_bytes_nil w src e hus hue 0 0 dst hud, Stp.refl h, .str ByteArray.empty⟩
      · simp at hl
    · rename_i e β i n cap hk1 hk2
      have hus := sl_kind hs hk1
      have hud := str_kind hd hk2
      split at hl
      · rename_i esz ebz ezr ezg he0
        obtain ⟨einf, ed, ez, he⟩ := hE.spec he0
        have hue := int_kind he rfl
        split at hl
        · rename_i cs a₁ hld
          split at hl
          · rename_i l hl2
            simp only [Option.some.injEq, Prod.mk.injEq] at hl
            obtain ⟨rfl, rfl⟩ := hl
            have conv : ∀ (ad : Addr) (c : Nat) (vs : List Value), (loadCells ad n).run E.P w = .ok vs.toArray w → LR π cs vs → (convert src dst (.slice (some ad) n c)).run E.P w = .ok (.string ⟨l.toArray⟩) w := by
              intro ad c vs h1 h2
              obtain ⟨ns, rfl, rfl⟩ := toBytes_ok h2 hl2
              rw [run_convert_bytes_string w src dst e _ n c hus hue hud, run_bytesToString w _ n c ns h1, foldl_push_bytes]
              simp [ByteArray.empty, ByteArray.emptyWithCapacity]
              rfl
            cases hx with
            | slice _ _ _ _ _ c p hp hn hc hkk =>
              obtain ⟨rfl, vs, h1, h2, _⟩ := aLoadN_ok (P := E.P) h hp hld
              refine ⟨π, _, w, conv _ c vs h1 h2, Stp.refl h, ?_⟩
              rw [← ofB_mk]; exact .str _
            | slice0 _ _ _ p hp ad =>
              obtain ⟨rfl, vs, h1, h2, h3, _⟩ := aLoadN_ok (P := E.P) h hp hld
              have : vs = [] := List.eq_nil_of_length_eq_zero h3
              subst this
              refine ⟨π, _, w, conv ad 0 [] rfl h2, Stp.refl h, ?_⟩
              rw [← ofB_mk]; exact .str _
          · simp at hl
        · simp at hl
      · simp at hl
    · simp at hl
  · simp at hl

end Go.Proofs.YtmhajfnfjjbflaaGreatDoor.Ev

/- unsafe.String; every builtin; every operation. -/
namespace Go.Proofs.YtmhajfnfjjbflaaGreatDoor.Ev

variable {E : Env} {π : PM} {w : World}

theorem run_loadBytes {P : Program} : ∀ (ns : List Int) (a : Addr) (acc : ByteArray), (∀ (j : Nat) (v : Value), (ns.map (Value.int .u8))[j]? = some v → w.cell? (a.add j) = some v) → a.spot = none →
    (loadBytes a acc ns.length).run P w = .ok ⟨acc.data ++ (ns.map fun n => UInt8.ofNat n.toNat).toArray⟩ w
  | [], a, acc, _, _ => by simp [loadBytes]
  | n :: ns, a, acc, h, hs => by
    have h0 : w.cell? a = some (.int .u8 n) := by
      have := h 0 (.int .u8 n) rfl
      simpa [Addr.add] using this
    obtain ⟨b, o, sp⟩ := a
    simp only at hs
    subst hs
    have ih := run_loadBytes (P := P) ns ⟨b, o + 1, none⟩ (acc.push (UInt8.ofNat n.toNat)) (fun j v hj => by
      have := h (j + 1) v (by simpa using hj)
      rw [add_plain] at this ⊢
      rw [show o + 1 + j = o + (j + 1) by omega]; exact this) rfl
    simp only [List.length_cons, loadBytes, Sem.run_bind, run_load, h0, Result.andThen_ok, add_plain]
    rw [show n.toNat.toUInt8 = UInt8.ofNat n.toNat from rfl, ih]
    simp [ByteArray.push]

theorem uString_def (ts : Array TypeId) (ty : TypeId) (p : Option Addr) (k : IntKind) (len : Int) : Builtin.unsafeString_ ts ty #[.pointer p, .int k len] =
    (do
      let n ← asInt (.int k len)
      let some pt := ts[0]? | stuck "unsafe.String: no argument types"
      if n < 0 then runtimePanic (.error "unsafe.String: len out of range")
      if n > IntKind.i64.max then unsupported (.unsafePointer "String: a length above the largest int")
      match p with
      | none =>
        if n = 0 then pure (.string .empty)
        else runtimePanic (.error "unsafe.String: ptr is nil and len is not zero")
      | some a =>
        if n = 0 then pure (.string .empty)
        else if ← variablesAt a (← elemOf pt) n.toNat then do
          let s ← loadBytes a .empty n.toNat
          freeze a n.toNat
          pure (.string s)
        else unsupported (.unsafePointer "String: not so many bytes at ptr")) := rfl

theorem uSliceData_some {P : Program} (ts : Array TypeId) (ty : TypeId) (a : Addr) (n c : Nat) (hc : c ≠ 0) : (Builtin.unsafeSliceData_ ts ty #[.slice (some a) n c]).run P w = .ok (.pointer (some a)) w := by
  obtain ⟨k, rfl⟩ : ∃ k, c = k + 1 := ⟨c - 1, by omega⟩
  rfl

theorem aUString_ok (hE : EnvOk E) {a a' : AS} (h : R a π w) {ts : Array TypeId} {pt ty : TypeId} (h0 : ts[0]? = some pt) {p v : AV} {p' : Value} {len : Int} {k : IntKind} (hp : VR π p p')
    (hl : aUString E pt p len a = some (v, a')) : ∃ v' w', (Builtin.unsafeString_ ts ty #[p', .int k len]).run E.P w = .ok v' w' ∧ Stp a π w a' π w' ∧ VR π v v' := by
  unfold aUString at hl
  split at hl
  · simp at hl
  · rename_i hneg
    split at hl
    · rename_i u usz ub uz ug hpt
      obtain ⟨pinf, pd, pz, hps⟩ := hE.spec hpt
      have hpu := ptr_kind hps rfl
      have hempty : VR π (.str ⟨0, 0⟩) (.string .empty) := .str ByteArray.empty
      split at hl
      · rename_i h00
        subst h00
        split at hl
        · cases hp
          simp only [Option.some.injEq, Prod.mk.injEq] at hl
          obtain ⟨rfl, rfl⟩ := hl
          refine ⟨_, w, ?_, Stp.refl h, hempty⟩
          rw [uString_def]; simp [asInt, asIntOf, h0, IntKind.max, IntKind.bits, IntKind.signed]
        · cases hp
          simp only [Option.some.injEq, Prod.mk.injEq] at hl
          obtain ⟨rfl, rfl⟩ := hl
          refine ⟨_, w, ?_, Stp.refl h, hempty⟩
          rw [uString_def]; simp [asInt, asIntOf, h0, IntKind.max, IntKind.bits, IntKind.signed]
        · simp at hl
      · rename_i hne
        split at hl
        · rename_i β i
          split at hl
          · rename_i eb ez eg hu8
            obtain ⟨uinf, ud, uz2, hus⟩ := hE.spec hu8
            have huu := int_kind hus rfl
            split at hl
            · rename_i c e f hg
              replace hl := bif_some hl
              obtain ⟨hb, hl⟩ := hl
              simp only [Bool.and_eq_true] at hb
              obtain ⟨⟨⟨⟨⟨⟨b1, b2⟩, b3⟩, b4⟩, b5⟩, b6⟩, _⟩ := hb
              replace b1 := Nat.eq_of_beq_eq_true b1
              replace b2 := Nat.eq_of_beq_eq_true b2
              replace b3 := Nat.le_of_ble_eq_true b3
              replace b5 := Nat.le_of_ble_eq_true b5
              replace b6 := Nat.le_of_ble_eq_true b6
              have b4' : (famOf a f).sg = false := by simpa using b4
              subst b1
              split at hl
              · rename_i l hl2
                simp only [Option.some.injEq, Prod.mk.injEq] at hl
                obtain ⟨rfl, rfl⟩ := hl
                cases hp with
                | ptr _ _ q hq =>
                  obtain ⟨_, _, hlim, cc, lo, hi, hh, hsz, _, _, _⟩ := h.cells β q c e f hq hg
                  obtain ⟨vs, hv1, hv2, hv3⟩ := h.readN hq hg b3 (i := i) (n := len.toNat) b5
                  obtain ⟨ns, rfl, rfl⟩ := toBytes_ok hv2 hl2
                  have hnl : ns.length = len.toNat := by simpa using hv1
                  refine ⟨.string ⟨(ns.map fun n => UInt8.ofNat n.toNat).toArray⟩, _, ?_, stp_freeze h hq hg b2 b4' b5 (n := len.toNat) (by omega) rfl, by rw [← ofB_mk]; exact .str _⟩
                  have hshape : w.shape? q.b = some (e, cc.size) := by simp [World.shape?, hh]
                  have hcells : E.P.cellsOf e = 1 := by simp [Program.cellsOf, hus.info, ← hus.size]
                  have hlies : liesAt E.P E.P.depth e (cc.size / E.P.cellsOf e) (q.o + i) e len.toNat = true := by
                    have hd : ∃ d, E.P.depth = d + 1 := ⟨2 * (E.P.types.size + Made.depth) + 1, rfl⟩
                    obtain ⟨d, hd⟩ := hd
                    have hrow : rowAt E.P (sameLayout E.P E.P.depth · e) E.P.depth e (cc.size / E.P.cellsOf e) (q.o + i) len.toNat = true := by
                      rw [hd]
                      unfold rowAt
                      rw [hcells]
                      simp only [Nat.div_one, Nat.mod_one]
                      rw [if_neg (by omega)]
                      have : sameLayout E.P (d + 1) e e = true := by unfold sameLayout; simp
                      simp [this]
                      left; omega
                    rw [hd] at hrow ⊢
                    unfold liesAt
                    rw [hd, hrow]; rfl
                  have hvar : (variablesAt ⟨q.b, q.o + i, none⟩ e len.toNat).run E.P w = .ok true w := by
                    simp [variablesAt, hshape, hlies]
                  have hlb := run_loadBytes (P := E.P) ns ⟨q.b, q.o + i, none⟩ .empty hv3 rfl
                  rw [hnl] at hlb
                  have hmax : ¬ (len > IntKind.i64.max) := by
                    simp [IntKind.max, IntKind.bits, IntKind.signed]; omega
                  rw [uString_def]
                  simp only [asInt, asIntOf, h0, Sem.run_bind, Sem.run_pure, Result.andThen_ok]
                  rw [if_neg hneg, if_neg hmax, if_neg hne]
                  simp [elemOf, run_under hpu, hvar, hlb]
              · simp at hl
            · simp at hl
          · simp at hl
        · simp at hl
    · simp at hl

theorem LR.of_map {ρ : Operand → Option AV} {ρ' : Operand → Value} (hρ : ∀ x v, ρ x = some v → VR π v (ρ' x)) : ∀ {xs : List Operand} {l : List AV}, mapO ρ xs = some l → LR π l (xs.map ρ')
  | [], l, h => by rw [mapO_nil] at h; simp at h; subst h; exact LR.nil
  | x :: xs, l, h => by
    rw [mapO_cons] at h
    split at h
    · rename_i y hy
      split at h
      · rename_i r hr
        simp only [Option.some.injEq] at h
        subst h
        exact LR.cons (hρ _ _ hy) (LR.of_map hρ hr)
      · simp at h
    · simp at h

theorem LR2 {x y : AV} {l' : List Value} (h : LR π [x, y] l') : ∃ x' y', l' = [x', y'] ∧ VR π x x' ∧ VR π y y' := by
  match l', h with
  | [], h => have := h.1; simp at this
  | [_], h => have := h.1; simp at this
  | [x', y'], h => exact ⟨x', y', rfl, h.head, h.tail.head⟩
  | _ :: _ :: _ :: _, h => have := h.1; simp at this
theorem LR1 {x : AV} {l' : List Value} (h : LR π [x] l') : ∃ x', l' = [x'] ∧ VR π x x' := by
  match l', h with
  | [], h => have := h.1; simp at this
  | [x'], h => exact ⟨x', rfl, h.head⟩
  | _ :: _ :: _, h => have := h.1; simp at this
theorem LRc {x : AV} {l : List AV} {l' : List Value} (h : LR π (x :: l) l') : ∃ x' r, l' = x' :: r ∧ VR π x x' ∧ LR π l r := by
  match l', h with
  | [], h => have := h.1; simp at this
  | x' :: r, h => exact ⟨x', r, rfl, h.head, h.tail⟩

theorem aBuiltin_ok (hE : EnvOk E) {a a' : AS} (h : R a π w) {b : Builtin} {ts : Array TypeId} {ty : TypeId} {cs : Array Bool} {args : List AV} {args' : Array Value} {v : AV} (ha : LR π args args'.toList)
    (hl : aBuiltin E b ts.toList args a = some (v, a')) : ∃ π' v' w', (builtin b ts ty cs args').run E.P w = .ok (.value v') w' ∧ Stp a π w a' π' w' ∧ VR π' v v' := by
  have lift : ∀ {s : Sem Value} {v' : Value} {w' : World}, s.run E.P w = .ok v' w' → (do pure (Next.value (← s)) : Sem Next).run E.P w = .ok (.value v') w' := by
    intro s v' w' hs
    simp [hs]
  have hts0 : ∀ {t : TypeId} {r : List TypeId}, ts.toList = t :: r → ts[0]? = some t := by
    intro t r e
    have : ts.toList[0]? = some t := by rw [e]; rfl
    simpa using this
  have hts1 : ∀ {t u : TypeId} {r : List TypeId}, ts.toList = t :: u :: r → ts[1]? = some u := by
    intro t u r e
    have : ts.toList[1]? = some u := by rw [e]; rfl
    simpa using this
  have harr : ∀ {l : List Value}, args'.toList = l → args' = l.toArray := by
    intro l e; rw [← e]
  unfold aBuiltin at hl
  split at hl
  · rename_i t r x e1
    obtain ⟨x', e2, hx⟩ := LR1 ha
    rw [harr e2]
    obtain ⟨rfl, v', h1, h2⟩ := aLen_ok (ty := ty) hE h (hts0 e1) hx hl
    exact ⟨π, v', w, lift h1, Stp.refl h, h2⟩
  · rename_i t r x e1
    obtain ⟨x', e2, hx⟩ := LR1 ha
    rw [harr e2]
    unfold M.opt at hl
    split at hl
    · rename_i v0 hv
      simp only [Option.some.injEq, Prod.mk.injEq] at hl
      obtain ⟨rfl, rfl⟩ := hl
      obtain ⟨v', h1, h2⟩ := capA_ok (w := w) (ty := ty) hE (hts0 e1) hx hv
      exact ⟨π, v', w, lift h1, Stp.refl h, h2⟩
    · simp at hl
  · rename_i t u r s x e1
    obtain ⟨s', x', e2, hs, hx⟩ := LR2 ha
    rw [harr e2]
    split at hl
    · rename_i ue us ub uz ug hu
      obtain ⟨uinf, ud, uz2, hus⟩ := hE.spec hu
      obtain ⟨π', v', w', h1, h2, h3⟩ := aAppend_ok (ty := ty) hE h (hts0 e1) (hts1 e1) (sl_kind hus rfl) (.inr ⟨_, rfl⟩) hs hx hl
      exact ⟨π', v', w', lift h1, h2, h3⟩
    · rename_i us ub uz ug hu
      obtain ⟨uinf, ud, uz2, hus⟩ := hE.spec hu
      obtain ⟨π', v', w', h1, h2, h3⟩ := aAppend_ok (ty := ty) hE h (hts0 e1) (hts1 e1) (str_kind hus rfl) (.inl rfl) hs hx hl
      exact ⟨π', v', w', lift h1, h2, h3⟩
    · simp at hl
  · rename_i t r d x e1
    obtain ⟨d', x', e2, hd, hx⟩ := LR2 ha
    rw [harr e2]
    obtain ⟨v', w', h1, h2, h3⟩ := aCopy_ok (ty := ty) hE h (hts0 e1) hd hx hl
    exact ⟨π, v', w', lift h1, h2, h3⟩
  · rename_i t r m k e1
    obtain ⟨m', k', e2, hm, hk⟩ := LR2 ha
    rw [harr e2]
    split at hl
    · rename_i u a₁ hdel
      simp only [Option.some.injEq, Prod.mk.injEq] at hl
      obtain ⟨rfl, rfl⟩ := hl
      obtain ⟨w', h1, h2⟩ := aDelete_ok (ty := ty) hE h (hts0 e1) hm hk hdel
      exact ⟨π, _, w', lift h1, h2, TupI LR.nil⟩
    · simp at hl
  · rename_i k x l
    obtain ⟨x', r, e2, hx, hr⟩ := LRc ha
    cases hx
    unfold M.opt at hl
    split at hl
    · rename_i v0 hv
      simp only [Option.some.injEq, Prod.mk.injEq] at hl
      obtain ⟨rfl, rfl⟩ := hl
      obtain ⟨v', h1, h2⟩ := foldInt_ok (P := E.P) (w := w) (g := Builtin.max2) (fun _ _ _ _ => rfl) hr hv
      refine ⟨π, v', w, lift ?_, Stp.refl h, h2⟩
      simp only [Builtin.max_, e2]; exact h1
    · simp at hl
  · rename_i k x l
    obtain ⟨x', r, e2, hx, hr⟩ := LRc ha
    cases hx
    unfold M.opt at hl
    split at hl
    · rename_i v0 hv
      simp only [Option.some.injEq, Prod.mk.injEq] at hl
      obtain ⟨rfl, rfl⟩ := hl
      obtain ⟨v', h1, h2⟩ := foldInt_ok (P := E.P) (w := w) (g := Builtin.min2) (fun _ _ _ _ => rfl) hr hv
      refine ⟨π, v', w, lift ?_, Stp.refl h, h2⟩
      simp only [Builtin.min_, e2]; exact h1
    · simp at hl
  · obtain ⟨x', e2, hx⟩ := LR1 ha
    rw [harr e2]
    cases hx
    simp only [Option.some.injEq, Prod.mk.injEq] at hl
    obtain ⟨rfl, rfl⟩ := hl
    exact ⟨π, _, w, lift rfl, Stp.refl h, .nilp⟩
  · rename_i β i n cap sz
    obtain ⟨x', e2, hx⟩ := LR1 ha
    rw [harr e2]
    simp only [Option.some.injEq, Prod.mk.injEq] at hl
    obtain ⟨rfl, rfl⟩ := hl
    cases hx with
    | slice _ _ _ _ _ c p hp hn hc hk =>
      refine ⟨π, _, w, lift (s := Builtin.unsafeSliceData_ ts ty #[_]) (v' := .pointer (some ⟨p.b, p.o + i, none⟩)) ?_, Stp.refl h, .ptr β i p hp⟩
      exact uSliceData_some ts ty _ _ _ (by omega)
  · rename_i pt r p k n e1
    obtain ⟨p', n', e2, hp, hn⟩ := LR2 ha
    rw [harr e2]
    cases hn
    obtain ⟨v', w', h1, h2, h3⟩ := aUString_ok (ty := ty) (k := k) hE h (hts0 e1) hp hl
    exact ⟨π, v', w', lift h1, h2, h3⟩
  · simp at hl

end Go.Proofs.YtmhajfnfjjbflaaGreatDoor.Ev

/- One operation, whatever it is. -/
namespace Go.Proofs.YtmhajfnfjjbflaaGreatDoor.Ev

variable {E : Env} {π : PM} {w : World}

def DR (π : PM) : AD → Deferred → Prop
  | .fn k l, d => ∃ cap xs, d = { target := .fn (.func k) cap, args := xs } ∧ LR π l (xs ++ cap).toList
  | .del t m k, d => ∃ ts ty cs m' k', d = { target := .builtin .delete ts ty cs, args := #[m', k'] } ∧ ts[0]? = some t ∧ VR π m m' ∧ VR π k k'

def NR (E : Env) (π : PM) (w : World) (r : AN) (res : Result Next) : Prop :=
  match r with
  | .val v => ∃ v', VR π v v' ∧ res = .ok (.value v') w
  | .skip => res = .ok .skip w
  | .enter f l => ∃ args' : Array Value, LR π l args'.toList ∧ res = (callFunc f args').run E.P w
  | .defer d => ∃ d', DR π d d' ∧ res = .ok (.defer d') w

theorem DR.mono {π π' : PM} (hp : π.le π') {d : AD} {d' : Deferred} (h : DR π d d') : DR π' d d' := by
  cases d with
  | fn k l => obtain ⟨cap, xs, h1, h2⟩ := h; exact ⟨cap, xs, h1, h2.mono hp⟩
  | del t m k => obtain ⟨ts, ty, cs, m', k', h1, h2, h3, h4⟩ := h; exact ⟨ts, ty, cs, m', k', h1, h2, h3.mono hp, h4.mono hp⟩

theorem run_value {P : Program} {s : Sem Value} {v' : Value} {w' : World} (h : s.run P w = .ok v' w') : (do pure (Next.value (← s)) : Sem Next).run P w = .ok (.value v') w' := by simp [h]
theorem run_skip {P : Program} {s : Sem Unit} {w' : World} (h : s.run P w = .ok () w') : (do s; pure Next.skip : Sem Next).run P w = .ok .skip w' := by simp [h]

theorem func_inv {fn : Fn} {xs ys : List AV} {v' : Value} (h : VR π (.func fn xs ys) v') : ∃ xs' ys', v' = .func fn xs' ys' ∧ LR π xs xs'.toList ∧ LR π ys ys'.toList := by
  cases h with
  | func _ _ _ xs' ys' hx hy h1 h2 =>
    exact ⟨xs', ys', rfl, ⟨by simpa using hx, fun i x y a b => h1 i x y a (by simpa using b)⟩, ⟨by simpa using hy, fun i x y a b => h2 i x y a (by simpa using b)⟩⟩

theorem callee_ok {ρ' : Operand → Value} {f : Operand} {c : Call} {ty : TypeId} {u : AV} {args : List AV} {k : FuncId} {l : List AV} (hc : c.callee = .value f) (hu : VR π u (ρ' f))
    (ha : LR π args (c.args.map ρ').toList) (h : calleeA u args = some (k, l)) :
    ∃ cap xs, resolve ρ' c ty = pure { target := .fn (.func k) cap, args := xs } ∧ LR π l (xs ++ cap).toList := by
  unfold calleeA at h
  split at h
  · rename_i k' first captured
    simp only [Option.some.injEq, Prod.mk.injEq] at h
    obtain ⟨rfl, rfl⟩ := h
    obtain ⟨xs', ys', e, h1, h2⟩ := func_inv hu
    refine ⟨ys', xs' ++ c.args.map ρ', ?_, ?_⟩
    · simp only [resolve, hc, e, Deferred.ofValue]
    · simp only [Array.toList_append]
      exact (h1.app ha).app h2
  · simp at h

theorem method_ok (hE : EnvOk E) {t : TypeId} {name : String} {k : FuncId} {v : Value} (h : methodA E t name = some k) (n : Nat) : (Go.method (n + 1) t v name).run E.P w = .ok (k, v) w := by
  unfold methodA at h
  split at h
  · rename_i inf hi
    split at h
    · rename_i m hm
      split at h
      · rename_i f p hpath hfunc
        split at h
        · rename_i i ht
          obtain ⟨inf', d, z, hs⟩ := hE.spec ht
          rw [hs.info] at hi
          obtain rfl : inf' = inf := by simpa using hi
          have hu := hs.under
          rw [hs.kind] at h
          have hrun : ∀ (wr : Option String), (kindOf d matches .ptr _) = p → (receiverAt t (.val v) p wr).run E.P w = .ok v w := by
            intro wr hp
            simp only [receiverAt, Sem.run_bind, run_under hu, Result.andThen_ok]
            cases d <;> simp [kindOf] at hp <;> subst hp <;> rfl
          have fin : (kindOf d matches .ptr _) = p → (Go.method (n + 1) t v name).run E.P w = .ok (f, v) w := by
            intro hp
            simp only [Go.method, Sem.run_bind, run_tinfo hs.info, Result.andThen_ok, hm, hpath, follow, Sem.run_pure, hfunc, hrun _ hp]
          cases p with
          | true =>
            split at h <;> first | (simp at h; done) | contradiction | skip
            simp only [Option.some.injEq] at h
            subst h
            rename_i hk _
            exact fin (by rw [hk])
          | false =>
            split at h <;> first | (simp at h; done) | contradiction | skip
            simp only [Option.some.injEq] at h
            subst h
            refine fin ?_
            cases d <;> first | rfl | (exfalso; simp_all [kindOf]; done)
        · simp at h
      · simp at h
    · simp at h
  · simp at h

theorem opA_ok (hE : EnvOk E) {a a' : AS} (h : R a π w) {ρ : Operand → Option AV} {ρ' : Operand → Value} (hρ : ∀ x v, ρ x = some v → VR π v (ρ' x)) {o : Oper} {r : AN} (ho : opA E ρ o a = some (r, a')) :
    ∃ π' w', Stp a π w a' π' w' ∧ NR E π' w' r ((execOp ρ' o).run E.P w) := by
  have pureC : ∀ {m : Option AV} {s : Sem Value}, valN a m = some (r, a') → (∀ v, m = some v → ∃ v', s.run E.P w = .ok v' w ∧ VR π v v') →
      ∃ π' w', Stp a π w a' π' w' ∧ NR E π' w' r ((do pure (Next.value (← s)) : Sem Next).run E.P w) := by
    intro m s h1 h2
    unfold valN at h1
    split at h1
    · rename_i v
      simp only [Option.some.injEq, Prod.mk.injEq] at h1
      obtain ⟨rfl, rfl⟩ := h1
      obtain ⟨v', h3, h4⟩ := h2 v rfl
      exact ⟨π, w, Stp.refl h, v', h4, run_value h3⟩
    · simp at h1
  have valC : ∀ {m : Option (AV × AS)} {s : Sem Value}, valM m = some (r, a') → (∀ v a₁, m = some (v, a₁) → ∃ π' v' w', s.run E.P w = .ok v' w' ∧ Stp a π w a₁ π' w' ∧ VR π' v v') →
      ∃ π' w', Stp a π w a' π' w' ∧ NR E π' w' r ((do pure (Next.value (← s)) : Sem Next).run E.P w) := by
    intro m s h1 h2
    unfold valM at h1
    split at h1
    · rename_i v a₁
      simp only [Option.some.injEq, Prod.mk.injEq] at h1
      obtain ⟨rfl, rfl⟩ := h1
      obtain ⟨π', v', w', h3, h4, h5⟩ := h2 v a₁ rfl
      exact ⟨π', w', h4, v', h5, run_value h3⟩
    · simp at h1
  have unitC : ∀ {m : Option (Unit × AS)} {s : Sem Unit}, unitM m = some (r, a') → (∀ u a₁, m = some (u, a₁) → ∃ w', s.run E.P w = .ok () w' ∧ Stp a π w a₁ π w') →
      ∃ π' w', Stp a π w a' π' w' ∧ NR E π' w' r ((do s; pure Next.skip : Sem Next).run E.P w) := by
    intro m s h1 h2
    unfold unitM at h1
    split at h1
    · rename_i u a₁
      simp only [Option.some.injEq, Prod.mk.injEq] at h1
      obtain ⟨rfl, rfl⟩ := h1
      obtain ⟨w', h3, h4⟩ := h2 _ a₁ rfl
      exact ⟨π, w', h4, run_skip h3⟩
    · simp at h1
  obtain ⟨dst, op, type, pos, after, guard⟩ := o
  unfold opA opMove opPick opAlloc opBox opBuild opBuildSlice opLoad opStore opNilCheck opBinOp opUnOp opConvert opMakeInterface opMakeFunc opMakeMap opMakeSlice opSlice opFieldAddr opField opIndexAddr opIndex opLookup opMapUpdate opInsert opRange opNext opExtract opCall opDefer at ho
  simp only [] at ho
  unfold execOp
  simp only []
  split at ho
  · rename_i x
    unfold valN at ho
    split at ho
    · rename_i v hv
      simp only [Option.some.injEq, Prod.mk.injEq] at ho
      obtain ⟨rfl, rfl⟩ := ho
      exact ⟨π, w, Stp.refl h, _, hρ _ _ hv, rfl⟩
    · simp at ho
  · rename_i x
    unfold valN at ho
    split at ho
    · rename_i v hv
      simp only [Option.some.injEq, Prod.mk.injEq] at ho
      obtain ⟨rfl, rfl⟩ := ho
      exact ⟨π, w, Stp.refl h, _, hρ _ _ hv, rfl⟩
    · simp at ho
  · rename_i c x y
    split at ho
    · rename_i b hb
      have hc := hρ _ _ hb
      generalize hcv : ρ' c = cv at hc
      cases hc
      simp only [hcv]
      cases b <;> simp only [cond_true, cond_false] at ho
      all_goals
        unfold valN at ho
        split at ho
        · rename_i v hv
          simp only [Option.some.injEq, Prod.mk.injEq] at ho
          obtain ⟨rfl, rfl⟩ := ho
          exact ⟨π, w, Stp.refl h, _, hρ _ _ hv, rfl⟩
        · simp at ho
    · simp at ho
  · rename_i t
    split at ho
    · rename_i i ht
      obtain ⟨inf, d, z, hs⟩ := hE.spec ht
      refine valC ho fun v a₁ hv => ?_
      split at hv
      · rename_i β a₂ hrow
        simp only [Option.some.injEq, Prod.mk.injEq] at hv
        obtain ⟨rfl, rfl⟩ := hv
        obtain ⟨rfl, h1, h2⟩ := aRow_ok (P := E.P) (w := w) (cc := z.cells) h (ofCs_LR hs.zs) hrow
        refine ⟨_, _, _, ?_, h2, .ptr a.nx 0 _ (PM.upd_same _ _ _)⟩
        simp only [Instr.alloc, Sem.run_bind, run_zero hs.info hs.zero, Result.andThen_ok, newVar, h1, Sem.run_pure, Nat.add_zero]
      · simp at hv
    · simp at ho
  · rename_i t x
    split at ho
    · rename_i v₀ hv₀
      refine valC ho fun v a₁ hv => ?_
      split at hv
      · rename_i β a₂ hrow
        simp only [Option.some.injEq, Prod.mk.injEq] at hv
        obtain ⟨rfl, rfl⟩ := hv
        obtain ⟨rfl, h1, h2⟩ := aRow_ok (P := E.P) (w := w) (cc := (ρ' x).cells) h (hρ _ _ hv₀).cells hrow
        refine ⟨_, _, _, ?_, h2, .ptr a.nx 0 _ (PM.upd_same _ _ _)⟩
        simp only [Instr.box, Sem.run_bind, Result.andThen_ok, newVar, h1, Sem.run_pure, Nat.add_zero]
      · simp at hv
    · simp at ho
  · rename_i t ps
    split at ho
    · rename_i l hl
      refine pureC ho fun v hv => ?_
      exact buildA_ok (w := w) hE (by simpa using partsA_PR hρ hl) hv
    · simp at ho
  · rename_i t n ps
    split at ho
    · rename_i l hl
      refine valC ho fun v a₁ hv => ?_
      exact aBuildSlice_ok hE h (by simpa using partsA_PR hρ hl) hv
    · simp at ho
  · rename_i t x
    split at ho
    · rename_i β i hx
      have hx' := hρ _ _ hx
      generalize hcv : ρ' x = cv at hx'
      cases hx' with
      | ptr _ _ p hp =>
        refine valC ho fun v a₁ hv => ?_
        obtain ⟨rfl, v', h1, h2⟩ := aLoadVar_ok hE h hp hv
        refine ⟨π, v', w, ?_, Stp.refl h, h2⟩
        simp only [hcv, Instr.loadAt, Instr.sureAddr, Sem.run_bind, Sem.run_pure, Result.andThen_ok, h1]
    · simp at ho
  · rename_i t x y
    split at ho
    · rename_i β i v hx hy
      have hx' := hρ _ _ hx
      generalize hcv : ρ' x = cv at hx'
      cases hx' with
      | ptr _ _ p hp =>
        refine unitC ho fun u a₁ hu => ?_
        obtain ⟨w', h1, h2⟩ := aStoreVar_ok hE h hp (hρ _ _ hy) hu
        refine ⟨w', ?_, h2⟩
        simp only [hcv, Instr.storeAt, Instr.sureAddr, Sem.run_bind, Sem.run_pure, Result.andThen_ok, h1]
    · simp at ho
  · rename_i x
    split at ho
    · rename_i β i hx
      have hx' := hρ _ _ hx
      generalize hcv : ρ' x = cv at hx'
      simp only [valN, Option.some.injEq, Prod.mk.injEq] at ho
      obtain ⟨rfl, rfl⟩ := ho
      have hx2 := hx'
      cases hx' with
      | ptr _ _ p hp => exact ⟨π, w, Stp.refl h, _, hx2, by simp only [hcv]; rfl⟩
    · rename_i k l c hx
      have hx' := hρ _ _ hx
      generalize hcv : ρ' x = cv at hx'
      simp only [valN, Option.some.injEq, Prod.mk.injEq] at ho
      obtain ⟨rfl, rfl⟩ := ho
      obtain ⟨xs', ys', rfl, _, _⟩ := func_inv hx'
      exact ⟨π, w, Stp.refl h, _, hx', by simp only [hcv]; rfl⟩
    · rename_i t v hx
      have hx' := hρ _ _ hx
      generalize hcv : ρ' x = cv at hx'
      simp only [valN, Option.some.injEq, Prod.mk.injEq] at ho
      obtain ⟨rfl, rfl⟩ := ho
      have hx2 := hx'
      cases hx' with
      | iface _ _ v' hv => exact ⟨π, w, Stp.refl h, _, hx2, by simp only [hcv]; rfl⟩
    · simp at ho
  · rename_i op t x y yt
    split at ho
    · rename_i u v hx hy
      refine pureC ho fun z hz => ?_
      exact binA_ok hE (hρ _ _ hx) (hρ _ _ hy) hz
    · simp at ho
  · rename_i op t x
    split at ho
    · rename_i u hx
      refine pureC ho fun z hz => ?_
      exact unA_ok (hρ _ _ hx) hz
    · simp at ho
  · rename_i s d x
    split at ho
    · rename_i u hx
      refine valC ho fun v a₁ hv => ?_
      exact aConvert_ok hE h (hρ _ _ hx) hv
    · simp at ho
  · rename_i t x
    split at ho
    · rename_i u i hx ht
      obtain ⟨inf, d, z, hs⟩ := hE.spec ht
      rw [hs.kind] at ho
      have fin : (∀ ms, d ≠ .interface ms) → valN a (some (.iface t u)) = some (r, a') → ∃ π' w', Stp a π w a' π' w' ∧ NR E π' w' r ((do pure (Next.value (← Instr.makeInterface t (ρ' x))) : Sem Next).run E.P w) := by
        intro hd he
        simp only [valN, Option.some.injEq, Prod.mk.injEq] at he
        obtain ⟨rfl, rfl⟩ := he
        refine ⟨π, w, Stp.refl h, _, .iface t _ _ (hρ _ _ hx), run_value ?_⟩
        simp only [Instr.makeInterface, Sem.run_bind, run_under hs.under, Result.andThen_ok]
        cases d <;> first | rfl | exact absurd rfl (hd _)
      split at ho
      · simp at ho
      · simp at ho
      · rename_i h1 h2
        refine fin (fun ms e => ?_) ho
        subst e
        exact h1 rfl
    · simp at ho
  · rename_i fn xs ys
    split at ho
    · rename_i l m hl hm
      refine pureC ho fun z hz => ?_
      simp only [Option.some.injEq] at hz
      subst hz
      have q1 := LR.of_map (ρ' := ρ') hρ hl
      have q2 := LR.of_map (ρ' := ρ') hρ hm
      exact ⟨_, rfl, .func fn l m (xs.map ρ') (ys.map ρ') (by rw [q1.1]; simp) (by rw [q2.1]; simp) (fun i x y hx hy => q1.2 i x y hx (by simpa using hy)) (fun i x y hx hy => q2.2 i x y hx (by simpa using hy))⟩
    · simp at ho
  · rename_i t rr
    split at ho
    · refine valC ho fun v a₁ hv => ?_
      split at hv
      · rename_i β a₂ hnew
        simp only [Option.some.injEq, Prod.mk.injEq] at hv
        obtain ⟨rfl, rfl⟩ := hv
        unfold aNew at hnew
        simp only [Option.some.injEq, Prod.mk.injEq] at hnew
        obtain ⟨rfl, rfl⟩ := hnew
        refine ⟨_, .map (some w.heap.size), { w with heap := w.heap.push (.map #[] 0) }, ?_, stp_new h (p := ⟨w.heap.size, 0, 0⟩) (b := .map [] 0) rfl rfl rfl rfl rfl rfl rfl rfl (fun _ _ => rfl) ?_ ⟨#[], rfl, rfl, fun i x x' hx => by simp at hx⟩, .map a.nx ⟨w.heap.size, 0, 0⟩ (PM.upd_same _ _ _)⟩
        · simp [Instr.makeMap]
        · have := famOf_none (a := a) (h.wf a.nx (Nat.le_refl _))
          unfold famOf at *
          simp only [] at *
          rw [this]; exact ⟨rfl, rfl⟩
      · simp at hv
    · simp at ho
  · rename_i t x y
    split at ho
    · rename_i k l k' c hx hy
      have hx' := hρ _ _ hx
      have hy' := hρ _ _ hy
      generalize hcx : ρ' x = cx at hx'
      generalize hcy : ρ' y = cy at hy'
      cases hx'
      cases hy'
      refine valC ho fun v a₁ hv => ?_
      rw [hcx, hcy]
      exact aMakeSlice_ok hE h hv
    · simp at ho
  · rename_i t x lo hi mx
    split at ho
    · simp at ho
    · split at ho
      · rename_i u l hh hx hlo hhi
        refine valC ho fun v a₁ hv => ?_
        have q1 : OR π l (lo.map ρ') := by
          cases lo with
          | none => simp only [Option.some.injEq] at hlo; subst hlo; trivial
          | some y =>
            simp only [Option.map_eq_some_iff] at hlo
            obtain ⟨z, hz, rfl⟩ := hlo
            exact hρ _ _ hz
        have q2 : OR π hh (hi.map ρ') := by
          cases hi with
          | none => simp only [Option.some.injEq] at hhi; subst hhi; trivial
          | some y =>
            simp only [Option.map_eq_some_iff] at hhi
            obtain ⟨z, hz, rfl⟩ := hhi
            exact hρ _ _ hz
        obtain ⟨rfl, v', h1, h2⟩ := aSlice_ok hE h (hρ _ _ hx) q1 q2 hv
        exact ⟨π, v', w, h1, Stp.refl h, h2⟩
      · simp at ho
  · rename_i t x f
    split at ho
    · rename_i u hx
      refine pureC ho fun z hz => ?_
      exact fieldAddrA_ok hE (hρ _ _ hx) hz
    · simp at ho
  · rename_i t x f
    split at ho
    · rename_i u hx
      refine pureC ho fun z hz => ?_
      exact fieldA_ok hE (hρ _ _ hx) hz
    · simp at ho
  · rename_i t x y
    split at ho
    · rename_i u v hx hy
      refine pureC ho fun z hz => ?_
      exact indexAddrA_ok hE (hρ _ _ hx) (hρ _ _ hy) hz
    · simp at ho
  · rename_i t x y
    split at ho
    · rename_i u v hx hy
      refine pureC ho fun z hz => ?_
      exact indexA_ok hE (hρ _ _ hx) (hρ _ _ hy) hz
    · simp at ho
  · rename_i t x y ok
    split at ho
    · rename_i u v hx hy
      refine valC ho fun v a₁ hv => ?_
      obtain ⟨rfl, v', h1, h2⟩ := aLookup_ok hE h (hρ _ _ hx) (hρ _ _ hy) hv
      exact ⟨π, v', w, h1, Stp.refl h, h2⟩
    · simp at ho
  · rename_i t x y z
    split at ho
    · rename_i u v ww hx hy hz
      refine unitC ho fun v a₁ hv => ?_
      exact aUpdate_ok hE h (hρ _ _ hx) (hρ _ _ hy) (hρ _ _ hz) hv
    · simp at ho
  · rename_i t x y z
    split at ho
    · rename_i u v ww hx hy hz
      refine unitC ho fun v a₁ hv => ?_
      exact aUpdate_ok hE h (hρ _ _ hx) (hρ _ _ hy) (hρ _ _ hz) hv
    · simp at ho
  · rename_i t x
    split at ho
    · rename_i u hx
      refine valC ho fun v a₁ hv => ?_
      exact aRange_ok hE h (hρ _ _ hx) hv
    · simp at ho
  · rename_i x s
    split at ho
    · rename_i u hx
      refine valC ho fun v a₁ hv => ?_
      obtain ⟨v', w', h1, h2, h3⟩ := aNext_ok (P := E.P) (t := type) h (hρ _ _ hx) hv
      exact ⟨π, v', w', h1, h2, h3⟩
    · simp at ho
  · rename_i x i
    split at ho
    · rename_i vs hx
      refine pureC ho fun z hz => ?_
      obtain ⟨cs', e, hc⟩ := TupR (hρ _ _ hx)
      obtain ⟨v', h1, h2⟩ := hc.get hz
      refine ⟨v', ?_, h2⟩
      have h1' : cs'[i]? = some v' := by simpa using h1
      rw [e]
      simp [Instr.extract, h1']
    · simp at ho
  · rename_i c
    split at ho
    · simp at ho
    · rename_i args hargs
      have ha := LR.of_map (ρ' := ρ') hρ hargs
      have ha' : LR π args (c.args.map ρ').toList := by simpa using ha
      split at ho
      · rename_i b hb
        unfold valM at ho
        split at ho
        · rename_i v a₁ hv
          simp only [Option.some.injEq, Prod.mk.injEq] at ho
          obtain ⟨rfl, rfl⟩ := ho
          obtain ⟨π', v', w', h1, h2, h3⟩ := aBuiltin_ok (ty := type) (cs := c.args.map fun | .const _ => true | _ => false) hE h ha' hv
          refine ⟨π', w', h2, v', h3, ?_⟩
          simp only [resolve, hb, Sem.run_bind, Sem.run_pure, Result.andThen_ok, invoke]
          exact h1
        · simp at ho
      · rename_i f hf
        split at ho
        · rename_i u hu
          split at ho
          · rename_i k l hk
            simp only [Option.some.injEq, Prod.mk.injEq] at ho
            obtain ⟨rfl, rfl⟩ := ho
            obtain ⟨cap, xs, h1, h2⟩ := callee_ok (ty := type) hf (hρ _ _ hu) ha' hk
            refine ⟨π, w, Stp.refl h, xs ++ cap, h2, ?_⟩
            show (do let d ← resolve ρ' c type; invoke d.target d.args : Sem Next).run E.P w = _
            rw [h1]; rfl
          · simp at ho
        · simp at ho
      · rename_i rv name hf
        split at ho
        · rename_i t v hrv
          split at ho
          · rename_i k hk
            simp only [Option.some.injEq, Prod.mk.injEq] at ho
            obtain ⟨rfl, rfl⟩ := ho
            have hr := hρ _ _ hrv
            generalize hcv : ρ' rv = cv at hr
            cases hr with
            | iface _ _ v' hv =>
              refine ⟨π, w, Stp.refl h, #[v'] ++ c.args.map ρ', ?_, ?_⟩
              · simp only [Array.toList_append]
                exact LR.cons hv ha'
              · have hn : ∃ n, E.P.types.size + Made.depth = n + 1 := ⟨E.P.types.size + (Made.depth - 1), rfl⟩
                obtain ⟨n, hn⟩ := hn
                have hm := method_ok (w := w) (v := v') hE hk n
                rw [← hn] at hm
                simp only [resolve, hf, hcv, Sem.run_bind, Sem.run_pure, Result.andThen_ok, invoke]
                have e1 : (#[Value.iface t v'] ++ c.args.map ρ')[0]? = some (.iface t v') := by rw [Array.getElem?_append]; rfl
                have e2 : (#[Value.iface t v'] ++ c.args.map ρ').extract 1 (#[Value.iface t v'] ++ c.args.map ρ').size = c.args.map ρ' := by
                  apply Array.ext'
                  rw [Array.toList_extract, List.extract_eq_take_drop, Array.toList_append]
                  simp
                  exact List.take_of_length_le (by simp)
                rw [e1, e2]
                simp only [callMethod, Sem.run_bind, run_program, Result.andThen_ok, hm]
          · simp at ho
        · simp at ho
  · rename_i c
    split at ho
    · simp at ho
    · rename_i args hargs
      have ha := LR.of_map (ρ' := ρ') hρ hargs
      have ha' : LR π args (c.args.map ρ').toList := by simpa using ha
      split at ho
      · rename_i f hf
        split at ho
        · rename_i u hu
          split at ho
          · rename_i k l hk
            simp only [Option.some.injEq, Prod.mk.injEq] at ho
            obtain ⟨rfl, rfl⟩ := ho
            obtain ⟨cap, xs, h1, h2⟩ := callee_ok (ty := type) hf (hρ _ _ hu) ha' hk
            refine ⟨π, w, Stp.refl h, _, ⟨cap, xs, rfl, h2⟩, ?_⟩
            show (do pure (Next.defer (← resolve ρ' c type)) : Sem Next).run E.P w = _
            rw [h1]; rfl
          · simp at ho
        · simp at ho
      · rename_i hf
        split at ho
        · rename_i t rest m k hts
          simp only [Option.some.injEq, Prod.mk.injEq] at ho
          obtain ⟨rfl, rfl⟩ := ho
          obtain ⟨m', k', e, hm, hk⟩ := LR2 ha'
          have e' : c.args.map ρ' = #[m', k'] := by apply Array.ext'; simpa using e
          refine ⟨π, w, Stp.refl h, _, ⟨c.argTypes, type, c.args.map fun | .const _ => true | _ => false, m', k', rfl, ?_, hm, hk⟩, ?_⟩
          · have : c.argTypes.toList[0]? = some t := by rw [hts]; rfl
            simpa using this
          · show (do pure (Next.defer (← resolve ρ' c type)) : Sem Next).run E.P w = _
            simp only [resolve, hf, e', Sem.run_bind, Sem.run_pure, Result.andThen_ok]
            rfl
        · simp at ho
      · simp at ho
  · simp at ho

end Go.Proofs.YtmhajfnfjjbflaaGreatDoor.Ev

/- What an operation of the evaluator's leaves of the evaluator's own blocks. -/
namespace Go.Proofs.YtmhajfnfjjbflaaGreatDoor.Ev

variable {E : Env}

theorem AF.aNew {a a' : AS} {b : AB} {β : Nat} (h : aNew b a = some (β, a')) : AF a a' := by
  unfold Ev.aNew at h
  simp only [Option.some.injEq, Prod.mk.injEq] at h
  obtain ⟨rfl, rfl⟩ := h
  refine ⟨Nat.le_succ _, Nat.le_refl _, fun β h1 _ => ?_, fun _ _ _ => rfl, fun h f hf => h f (by simp only [] at hf; omega)⟩
  show (a.hp.set a.nx b).get β = _
  rw [T.get_set, if_neg (by omega)]

theorem AF.aRow {a a' : AS} {c : List AV} {e : TypeId} {β : Nat} (h : aRow c e a = some (β, a')) : AF a a' := AF.aNew h

theorem AF.aSet {a a' : AS} {b : AB} {β : Nat} {u : Unit} (h : aSet β b a = some (u, a')) : AF a a' := by
  rw [aSet_ok h]
  refine ⟨Nat.le_refl _, Nat.min_le_left _ _, fun x _ h2 => ?_, fun _ _ _ => rfl, fun h => h⟩
  show (a.hp.set β b).get x = _
  have h2' : x < min a.mu β := h2
  rw [T.get_set, if_neg (by omega)]

theorem AF.aStoreN {a a' : AS} {β i : Nat} {vs : List AV} {u : Unit} (h : aStoreN β i vs a = some (u, a')) : AF a a' := by
  unfold Ev.aStoreN at h
  split at h
  · rename_i c e f hg
    split at h
    · rename_i hb
      simp only [Bool.and_eq_true] at hb
      have hfn : f < a.nx := by simpa using hb.2
      simp only [Option.some.injEq, Prod.mk.injEq, true_and] at h
      subst h
      refine ⟨Nat.le_refl _, Nat.min_le_left _ _, fun x _ h2 => ?_, fun x _ h2 => ?_, fun hw x hx => ?_⟩
      · have h2' : x < min a.mu (min f β) := h2
        show (a.hp.set β _).get x = _
        rw [T.get_set, if_neg (by omega)]
      · have h2' : x < min a.mu (min f β) := h2
        show (a.fam.set f _).get x = _
        rw [T.get_set, if_neg (by omega)]
      · have hx' : a.nx ≤ x := hx
        show (a.fam.set f _).get x = _
        rw [T.get_set, if_neg (by omega)]
        exact hw x hx'
    · simp at h
  · simp at h

theorem same_aCells {a a' : AS} {β : Nat} {x : List AV × TypeId × Nat} (h : aCells β a = some (x, a')) : a' = a := by
  unfold aCells at h
  split at h
  · split at h
    · simp only [Option.some.injEq, Prod.mk.injEq] at h; exact h.2.symm
    · simp at h
  · simp at h
theorem same_aLoadN {a a' : AS} {β i n : Nat} {x : List AV} (h : aLoadN β i n a = some (x, a')) : a' = a := by
  unfold aLoadN at h
  split at h
  · rename_i c e f a₁ h1
    split at h
    · simp only [Option.some.injEq, Prod.mk.injEq] at h; rw [← h.2]; exact same_aCells h1
    · simp at h
  · simp at h
theorem same_aLoad1 {a a' : AS} {β i : Nat} {x : AV} (h : aLoad1 β i a = some (x, a')) : a' = a := by
  unfold aLoad1 at h
  split at h
  · rename_i c e f a₁ h1
    split at h
    · simp only [Option.some.injEq, Prod.mk.injEq] at h; rw [← h.2]; exact same_aCells h1
    · simp at h
  · simp at h
theorem same_aLoadVar {a a' : AS} {t : TypeId} {β i : Nat} {x : AV} (h : aLoadVar E t β i a = some (x, a')) : a' = a := by
  unfold aLoadVar at h
  split at h
  · simp at h
  · rename_i ti ht
    cases hk : ti.kind.isAgg with
    | true =>
      rw [hk] at h
      simp only [cond_true] at h
      split at h
      · rename_i cs a₁ h1
        simp only [Option.some.injEq, Prod.mk.injEq] at h; rw [← h.2]; exact same_aLoadN h1
      · simp at h
    | false => rw [hk] at h; exact same_aLoad1 h
theorem same_aFirst {a a' : AS} {sz n : Nat} {x : AV} {l : List AV} (h : aFirst sz n x a = some (l, a')) : a' = a := by
  unfold aFirst at h
  split at h
  · simp only [Option.some.injEq, Prod.mk.injEq] at h; exact h.2.symm
  · replace h := (bif_some h).2; exact same_aLoadN h
  · replace h := (bif_some h).2
    simp only [Option.some.injEq, Prod.mk.injEq] at h; exact h.2.symm
  · simp at h
theorem same_aMap {a a' : AS} {β : Nat} {x : List AE × Nat} (h : aMap β a = some (x, a')) : a' = a := (aMap_inv (es := x.1) (cl := x.2) h).1

theorem AF.of_eq {a a' : AS} (h : a' = a) : AF a a' := h ▸ AF.refl a

theorem AF.aAppend {a a' : AS} {t : TypeId} {s x v : AV} (h : aAppend E t s x a = some (v, a')) : AF a a' := by
  unfold Ev.aAppend at h
  split at h
  · split at h
    · split at h
      · simp at h
      · rename_i new a₁ hnew
        have e0 := same_aFirst hnew
        subst e0
        split at h
        · split at h
          · simp only [Option.some.injEq, Prod.mk.injEq] at h; exact AF.of_eq h.2.symm
          · replace h := (bif_some h).2
            split at h
            · rename_i β a₂ hr
              simp only [Option.some.injEq, Prod.mk.injEq] at h; rw [← h.2]; exact AF.aRow hr
            · simp at h
        · rename_i β i n cap sz
          split at h
          · simp only [Option.some.injEq, Prod.mk.injEq] at h; exact AF.of_eq h.2.symm
          · replace h := (bif_some h).2
            split at h
            · simp at h
            · rename_i old a₂ hold
              have e1 := same_aLoadN hold
              subst e1
              cases hc : capLess cap (n + _) with
              | true =>
                rw [hc] at h
                simp only [cond_true] at h
                split at h
                · rename_i β' a₃ hr
                  simp only [Option.some.injEq, Prod.mk.injEq] at h; rw [← h.2]; exact AF.aRow hr
                · simp at h
              | false =>
                rw [hc] at h
                simp only [cond_false] at h
                split at h
                · rename_i c eb f hg
                  obtain ⟨hb, h⟩ := bif_some h
                  simp only [Bool.and_eq_true] at hb
                  have hfn : f < a₂.nx := by simpa using hb.2
                  simp only [Option.some.injEq, Prod.mk.injEq] at h
                  rw [← h.2]
                  refine ⟨Nat.le_succ _, Nat.min_le_left _ _, fun x h1 h2 => ?_, fun x h1 h2 => ?_, fun hw x hx => ?_⟩
                  · have h2' : x < min a₂.mu (min f β) := h2
                    show ((a₂.hp.set β _).set a₂.nx _).get x = _
                    rw [T.get_set, if_neg (by omega), T.get_set, if_neg (by omega)]
                  · have h2' : x < min a₂.mu (min f β) := h2
                    show (a₂.fam.set f _).get x = _
                    rw [T.get_set, if_neg (by omega)]
                  · have hx' : a₂.nx + 1 ≤ x := hx
                    show (a₂.fam.set f _).get x = _
                    rw [T.get_set, if_neg (by omega)]
                    exact hw x (by omega)
                · simp at h
        · simp at h
    · simp at h
  · simp at h

theorem AF.aCopy {a a' : AS} {t : TypeId} {d x v : AV} (h : aCopy E t d x a = some (v, a')) : AF a a' := by
  unfold Ev.aCopy at h
  split at h
  · split at h
    · split at h
      · simp only [Option.some.injEq, Prod.mk.injEq] at h; exact AF.of_eq h.2.symm
      · split at h
        · simp only [Option.some.injEq, Prod.mk.injEq] at h; exact AF.of_eq h.2.symm
        · replace h := (bif_some h).2
          split at h
          · simp at h
          · rename_i new a₁ hnew
            have e0 := same_aFirst hnew
            subst e0
            split at h
            · rename_i u a₂ hs
              simp only [Option.some.injEq, Prod.mk.injEq] at h; rw [← h.2]; exact AF.aStoreN hs
            · simp at h
      · simp at h
    · simp at h
  · simp at h

theorem AF.aDelete {a a' : AS} {t : TypeId} {m k : AV} {u : Unit} (h : aDelete E t m k a = some (u, a')) : AF a a' := by
  unfold Ev.aDelete at h
  split at h
  · split at h
    · split at h
      · rename_i es cl a₂ hm
        have e0 := same_aMap hm
        subst e0
        split at h
        · exact AF.aSet h
        · exact AF.aSet h
      · simp at h
    · simp at h
  · simp at h

theorem AF.aUpdate {a a' : AS} {t : TypeId} {m k v : AV} {u : Unit} (h : aUpdate E t m k v a = some (u, a')) : AF a a' := by
  unfold Ev.aUpdate at h
  split at h
  · split at h
    · split at h
      · rename_i es cl a₂ hm
        have e0 := same_aMap hm
        subst e0
        split at h
        · exact AF.aSet h
        · exact AF.aSet h
      · simp at h
    · simp at h
  · simp at h

theorem AF.family (a : AS) (f : Nat) (F : Fam) (hf : f < a.nx) : AF a { a with fam := a.fam.set f F, mu := min a.mu f } := by
  refine ⟨Nat.le_refl _, Nat.min_le_left _ _, fun x _ _ => rfl, fun x _ h2 => ?_, fun hw x hx => ?_⟩
  · have h2' : x < min a.mu f := h2
    show (a.fam.set f _).get x = _
    rw [T.get_set, if_neg (by omega)]
  · have hx' : a.nx ≤ x := hx
    show (a.fam.set f _).get x = _
    rw [T.get_set, if_neg (by omega)]
    exact hw x hx'

theorem AF.aUString {a a' : AS} {t : TypeId} {p v : AV} {n : Int} (h : aUString E t p n a = some (v, a')) : AF a a' := by
  unfold Ev.aUString at h
  split at h
  · simp at h
  · split at h
    · split at h
      · split at h <;> first | (simp at h; done) | (simp only [Option.some.injEq, Prod.mk.injEq] at h; exact AF.of_eq h.2.symm)
      · split at h
        · split at h
          · split at h
            · rename_i c e f hg
              obtain ⟨hb, h⟩ := bif_some h
              simp only [Bool.and_eq_true] at hb
              have hfn : f < a.nx := by simpa using hb.2
              split at h
              · simp only [Option.some.injEq, Prod.mk.injEq] at h
                rw [← h.2]
                exact AF.family a f _ hfn
              · simp at h
            · simp at h
          · simp at h
        · simp at h
    · simp at h

theorem AF.opt {α : Type} {a a' : AS} {o : Option α} {v : α} (h : M.opt o a = some (v, a')) : AF a a' := by
  unfold M.opt at h
  split at h
  · simp only [Option.some.injEq, Prod.mk.injEq] at h; exact AF.of_eq h.2.symm
  · simp at h

theorem AF.aLen {a a' : AS} {t : TypeId} {x v : AV} (h : aLen E t x a = some (v, a')) : AF a a' := by
  unfold Ev.aLen at h
  split at h
  · simp at h
  · split at h <;> first
      | (simp at h; done)
      | (simp only [Option.some.injEq, Prod.mk.injEq] at h; exact AF.of_eq h.2.symm)
      | skip
    split at h
    · rename_i es cl a₂ hm
      simp only [Option.some.injEq, Prod.mk.injEq] at h
      rw [← h.2]; exact AF.of_eq (same_aMap hm)
    · simp at h

theorem AF.aBuiltin {a a' : AS} {b : Builtin} {ts : List TypeId} {args : List AV} {v : AV} (h : aBuiltin E b ts args a = some (v, a')) : AF a a' := by
  unfold Ev.aBuiltin at h
  split at h
  · exact AF.aLen h
  · exact AF.opt h
  · split at h <;> first | (simp at h; done) | exact AF.aAppend h
  · exact AF.aCopy h
  · split at h
    · rename_i u a₁ hd
      simp only [Option.some.injEq, Prod.mk.injEq] at h
      rw [← h.2]; exact AF.aDelete hd
    · simp at h
  · exact AF.opt h
  · exact AF.opt h
  · simp only [Option.some.injEq, Prod.mk.injEq] at h; exact AF.of_eq h.2.symm
  · simp only [Option.some.injEq, Prod.mk.injEq] at h; exact AF.of_eq h.2.symm
  · exact AF.aUString h
  · simp at h

theorem AF.aConvert {a a' : AS} {s d : TypeId} {x v : AV} (h : aConvert E s d x a = some (v, a')) : AF a a' := by
  unfold Ev.aConvert at h
  split at h
  · split at h
    · simp only [Option.some.injEq, Prod.mk.injEq] at h; exact AF.of_eq h.2.symm
    · simp only [Option.some.injEq, Prod.mk.injEq] at h; exact AF.of_eq h.2.symm
    · simp only [Option.some.injEq, Prod.mk.injEq] at h; exact AF.of_eq h.2.symm
    · split at h
      · replace h := (bif_some h).2
        split at h
        · rename_i β a₁ hr
          simp only [Option.some.injEq, Prod.mk.injEq] at h
          have hA := AF.aRow hr
          unfold Ev.aRow Ev.aNew at hr
          simp only [Option.some.injEq, Prod.mk.injEq] at hr
          rw [← h.2]
          refine ⟨hA.nx, hA.mu, hA.hp, fun x h1 h2 => ?_, fun hw x hx => ?_⟩
          · show (a₁.fam.set β _).get x = _
            rw [T.get_set, if_neg (by omega)]
            exact hA.fam x h1 h2
          · have hx' : a₁.nx ≤ x := hx
            have hn : a₁.nx = a.nx + 1 := by rw [← hr.2]
            show (a₁.fam.set β _).get x = _
            rw [T.get_set, if_neg (by omega)]
            exact hA.wf hw x hx'
        · simp at h
      · simp at h
    · split at h
      · obtain ⟨hb, h⟩ := bif_some h
        simp only [Bool.and_eq_true] at hb
        simp only [Option.some.injEq, Prod.mk.injEq] at h
        rw [← h.2]
        exact AF.family a _ _ (by simpa using hb.2)
      · simp at h
    · simp only [Option.some.injEq, Prod.mk.injEq] at h; exact AF.of_eq h.2.symm
    · split at h
      · rename_i ti x1 _ _
        cases hsz : ti.size.beq 0 with
        | true => rw [hsz] at h; simp at h
        | false =>
          rw [hsz] at h
          simp only [cond_false, Option.some.injEq, Prod.mk.injEq] at h
          exact AF.of_eq h.2.symm
      · simp at h
    · simp only [Option.some.injEq, Prod.mk.injEq] at h; exact AF.of_eq h.2.symm
    · split at h
      · replace h := (bif_some h).2
        simp only [Option.some.injEq, Prod.mk.injEq] at h; exact AF.of_eq h.2.symm
      · simp at h
    · split at h
      · simp only [Option.some.injEq, Prod.mk.injEq] at h; exact AF.of_eq h.2.symm
      · simp at h
    · split at h
      · split at h
        · rename_i cs a₁ hl
          split at h
          · simp only [Option.some.injEq, Prod.mk.injEq] at h
            rw [← h.2]; exact AF.of_eq (same_aLoadN hl)
          · simp at h
        · simp at h
      · simp at h
    · simp at h
  · simp at h

theorem AF.aLookup {a a' : AS} {t : TypeId} {m k v : AV} {ok : Bool} (h : aLookup E t m k ok a = some (v, a')) : AF a a' := by
  unfold Ev.aLookup at h
  split at h
  · split at h
    · split at h
      · rename_i es a₁ hen
        have e0 : a₁ = a := by
          unfold aEntries at hen
          split at hen
          · simp only [Option.some.injEq, Prod.mk.injEq] at hen; exact hen.2.symm
          · split at hen
            · rename_i es2 cl a₂ hm
              simp only [Option.some.injEq, Prod.mk.injEq] at hen
              rw [← hen.2]; exact same_aMap hm
            · simp at hen
          · simp at hen
        split at h
        · simp only [Option.some.injEq, Prod.mk.injEq] at h; exact AF.of_eq (h.2.symm.trans e0)
        · split at h
          · simp only [Option.some.injEq, Prod.mk.injEq] at h; exact AF.of_eq (h.2.symm.trans e0)
          · simp at h
      · simp at h
    · simp at h
  · simp at h

theorem AF.aNext {a a' : AS} {x v : AV} {s : Bool} (h : aNext x s a = some (v, a')) : AF a a' := by
  unfold Ev.aNext at h
  split at h
  · split at h
    · rename_i s' pos hg
      cases hb : pos.blt s'.len with
      | true =>
        rw [hb] at h
        simp only [cond_true] at h
        obtain ⟨c, wd, hd⟩ : ∃ c wd, decodeA s' pos = (c, wd) := ⟨_, _, rfl⟩
        rw [hd] at h
        unfold Ev.aSet at h
        simp only [Option.some.injEq, Prod.mk.injEq] at h
        rw [← h.2]
        exact AF.aSet (u := ()) rfl
      | false =>
        rw [hb] at h
        simp only [cond_false, Option.some.injEq, Prod.mk.injEq] at h
        exact AF.of_eq h.2.symm
    · simp at h
  · simp at h

theorem AF.aSlice {a a' : AS} {t : TypeId} {x v : AV} {lo hi : Option AV} (h : aSlice E t x lo hi a = some (v, a')) : AF a a' := by
  unfold Ev.aSlice at h
  split at h
  · split at h
    · split at h
      · simp at h
      · split at h
        · replace h := (bif_some h).2
          split at h
          · simp at h
          · rename_i vs a₁ hl
            have e0 := same_aLoadN hl
            rename_i n _ _ _ _ _ _ _ _ _ _ _ l _ _ _
            have : a' = a₁ := by
              revert h
              cases (Nat.beq _ _) <;> intro h <;> (simp only [cond_true, cond_false, Option.some.injEq, Prod.mk.injEq] at h; exact h.2.symm)
            exact AF.of_eq (this.trans e0)
        · simp at h
    · simp at h
  · exact AF.opt h

theorem AF.valN {a a' : AS} {m : Option AV} {r : AN} (h : valN a m = some (r, a')) : AF a a' := by
  unfold Ev.valN at h
  split at h
  · simp only [Option.some.injEq, Prod.mk.injEq] at h; exact AF.of_eq h.2.symm
  · simp at h
theorem AF.valM {a a' : AS} {m : Option (AV × AS)} {r : AN} (h : valM m = some (r, a')) (hm : ∀ v a₁, m = some (v, a₁) → AF a a₁) : AF a a' := by
  unfold Ev.valM at h
  split at h
  · simp only [Option.some.injEq, Prod.mk.injEq] at h; rw [← h.2]; exact hm _ _ rfl
  · simp at h
theorem AF.unitM {a a' : AS} {m : Option (Unit × AS)} {r : AN} (h : unitM m = some (r, a')) (hm : ∀ v a₁, m = some (v, a₁) → AF a a₁) : AF a a' := by
  unfold Ev.unitM at h
  split at h
  · simp only [Option.some.injEq, Prod.mk.injEq] at h; rw [← h.2]; exact hm _ _ rfl
  · simp at h

theorem opA_AF {a a' : AS} {ρ : Operand → Option AV} {o : Oper} {r : AN} (h : opA E ρ o a = some (r, a')) : AF a a' := by
  obtain ⟨dst, op, type, pos, after, guard⟩ := o
  unfold opA opMove opPick opAlloc opBox opBuild opBuildSlice opLoad opStore opNilCheck opBinOp opUnOp opConvert opMakeInterface opMakeFunc opMakeMap opMakeSlice opSlice opFieldAddr opField opIndexAddr opIndex opLookup opMapUpdate opInsert opRange opNext opExtract opCall opDefer at h
  simp only [] at h
  split at h
  · exact AF.valN h
  · exact AF.valN h
  · split at h
    · exact AF.valN h
    · simp at h
  · split at h
    · refine AF.valM h fun v a₁ hv => ?_
      split at hv
      · rename_i β a₂ hr
        simp only [Option.some.injEq, Prod.mk.injEq] at hv; rw [← hv.2]; exact AF.aRow hr
      · simp at hv
    · simp at h
  · split at h
    · refine AF.valM h fun v a₁ hv => ?_
      split at hv
      · rename_i β a₂ hr
        simp only [Option.some.injEq, Prod.mk.injEq] at hv; rw [← hv.2]; exact AF.aRow hr
      · simp at hv
    · simp at h
  · split at h
    · exact AF.valN h
    · simp at h
  · split at h
    · refine AF.valM h fun v a₁ hv => ?_
      unfold aBuildSlice at hv
      split at hv
      · split at hv
        · replace hv := (bif_some hv).2
          split at hv
          · split at hv
            · rename_i β a₂ hr
              simp only [Option.some.injEq, Prod.mk.injEq] at hv; rw [← hv.2]; exact AF.aRow hr
            · simp at hv
          · simp at hv
        · simp at hv
      · simp at hv
    · simp at h
  · split at h
    · exact AF.valM h fun v a₁ hv => AF.of_eq (same_aLoadVar hv)
    · simp at h
  · split at h
    · refine AF.unitM h fun v a₁ hv => ?_
      unfold aStoreVar at hv
      split at hv
      · simp at hv
      · replace hv := (bif_some hv).2
        exact AF.aStoreN hv
    · simp at h
  · split at h <;> first | (simp at h; done) | exact AF.valN h
  · split at h
    · exact AF.valN h
    · simp at h
  · split at h
    · exact AF.valN h
    · simp at h
  · split at h
    · exact AF.valM h fun v a₁ hv => AF.aConvert hv
    · simp at h
  · split at h
    · split at h <;> first | (simp at h; done) | exact AF.valN h
    · simp at h
  · split at h
    · exact AF.valN h
    · simp at h
  · split at h
    · refine AF.valM h fun v a₁ hv => ?_
      split at hv
      · rename_i β a₂ hr
        simp only [Option.some.injEq, Prod.mk.injEq] at hv; rw [← hv.2]; exact AF.aNew hr
      · simp at hv
    · simp at h
  · split at h
    · refine AF.valM h fun v a₁ hv => ?_
      unfold aMakeSlice at hv
      split at hv
      · split at hv
        · split at hv
          · split at hv
            · rename_i β a₂ hr
              simp only [Option.some.injEq, Prod.mk.injEq] at hv; rw [← hv.2]; exact AF.aRow hr
            · simp at hv
          · simp at hv
        · simp at hv
      · simp at hv
    · simp at h
  · split at h
    · simp at h
    · split at h
      · exact AF.valM h fun v a₁ hv => AF.aSlice hv
      · simp at h
  · split at h
    · exact AF.valN h
    · simp at h
  · split at h
    · exact AF.valN h
    · simp at h
  · split at h
    · exact AF.valN h
    · simp at h
  · split at h
    · exact AF.valN h
    · simp at h
  · split at h
    · exact AF.valM h fun v a₁ hv => AF.aLookup hv
    · simp at h
  · split at h
    · exact AF.unitM h fun v a₁ hv => AF.aUpdate hv
    · simp at h
  · split at h
    · exact AF.unitM h fun v a₁ hv => AF.aUpdate hv
    · simp at h
  · split at h
    · refine AF.valM h fun v a₁ hv => ?_
      unfold aRange at hv
      split at hv
      · split at hv
        · rename_i β a₂ hr
          simp only [Option.some.injEq, Prod.mk.injEq] at hv; rw [← hv.2]; exact AF.aNew hr
        · simp at hv
      · simp at hv
    · simp at h
  · split at h
    · exact AF.valM h fun v a₁ hv => AF.aNext hv
    · simp at h
  · split at h
    · exact AF.valN h
    · simp at h
  · split at h
    · simp at h
    · split at h
      · exact AF.valM h fun v a₁ hv => AF.aBuiltin hv
      · split at h
        · split at h
          · simp only [Option.some.injEq, Prod.mk.injEq] at h; exact AF.of_eq h.2.symm
          · simp at h
        · simp at h
      · split at h
        · split at h
          · simp only [Option.some.injEq, Prod.mk.injEq] at h; exact AF.of_eq h.2.symm
          · simp at h
        · simp at h
  · split at h
    · simp at h
    · split at h
      · split at h
        · split at h
          · simp only [Option.some.injEq, Prod.mk.injEq] at h; exact AF.of_eq h.2.symm
          · simp at h
        · simp at h
      · split at h
        · simp only [Option.some.injEq, Prod.mk.injEq] at h; exact AF.of_eq h.2.symm
        · simp at h
      · simp at h
  · simp at h

end Go.Proofs.YtmhajfnfjjbflaaGreatDoor.Ev

/- Frames, and a list of operations in its own order. -/
namespace Go.Proofs.YtmhajfnfjjbflaaGreatDoor.Ev

variable {E : Env} {π : PM} {w : World}

/-- The package-level variables that the evaluator may name: each begins its block. -/
def GL (E : Env) (π : PM) : Prop := ∀ g u, E.gl.get g = some u → ∃ lim, π g = some ⟨g, 0, lim⟩
theorem GL.mono {π π' : PM} (hp : π.le π') (h : GL E π) : GL E π' := fun g u hg => let ⟨lim, hl⟩ := h g u hg; ⟨lim, hp _ _ hl⟩

def DfR (π : PM) : List AD → List Deferred → Prop
  | [], [] => True
  | d :: ds, d' :: ds' => DR π d d' ∧ DfR π ds ds'
  | _, _ => False
theorem DfR.mono {π π' : PM} (hp : π.le π') : ∀ {l : List AD} {l' : List Deferred}, DfR π l l' → DfR π' l l'
  | [], [], _ => trivial
  | _ :: _, _ :: _, h => ⟨h.1.mono hp, DfR.mono hp h.2⟩
  | [], _ :: _, h => h.elim
  | _ :: _, [], h => h.elim

structure FR (π : PM) (fr : Fr) (ac : Act) : Prop where
  sz : ac.tmps.size = fr.sz
  tm : ∀ t, VR π (fr.get t) (ac.tmps.getD t undef)
  df : DfR π fr.df ac.defers

theorem VR.undef : VR π (.tuple []) undef := .tuple [] #[] rfl (fun i v v' h => by simp at h)

theorem FR.mono {π π' : PM} (hp : π.le π') {fr : Fr} {ac : Act} (h : FR π fr ac) : FR π' fr ac := ⟨h.sz, fun t => (h.tm t).mono hp, h.df.mono hp⟩

theorem FR.eval {fr : Fr} {ac : Act} (hG : GL E π) (h : FR π fr ac) : ∀ x v, fr.eval E x = some v → VR π v (ac.eval x) := by
  intro x v hx
  cases x with
  | tmp t =>
    simp only [Fr.eval, Option.some.injEq] at hx
    subst hx
    exact h.tm t
  | const c => exact ofC_VR hx
  | global g =>
    simp only [Fr.eval] at hx
    split at hx
    · rename_i u hu
      simp only [Option.some.injEq] at hx
      subst hx
      obtain ⟨lim, hl⟩ := hG g u hu
      exact .ptr g 0 _ hl
    · simp at hx
  | func f =>
    simp only [Fr.eval, Option.some.injEq] at hx
    subst hx
    exact .func (.func f) [] [] #[] #[] rfl rfl (fun i v v' h => by simp at h) (fun i v v' h => by simp at h)

theorem FR.put {fr : Fr} {ac : Act} (h : FR π fr ac) (d : Option Tmp) {v : AV} {v' : Value} (hv : VR π v v') : FR π (fr.put d v) (ac.put d v') := by
  cases d with
  | none => exact h
  | some d =>
    unfold Fr.put Act.put
    simp only []
    cases hb : d.blt fr.sz with
    | false =>
      simp only [cond_false]
      have hd : ¬ d < ac.tmps.size := by
        rw [h.sz]; intro hlt
        have : d.blt fr.sz = true := by simpa using hlt
        rw [hb] at this; simp at this
      have e : ac.tmps.setIfInBounds d v' = ac.tmps := by
        unfold Array.setIfInBounds; rw [dif_neg hd]
      rw [e]; exact h
    | true =>
      simp only [cond_true]
      have hd : d < ac.tmps.size := by rw [h.sz]; simpa using hb
      refine ⟨by simpa using h.sz, fun t => ?_, h.df⟩
      have hg : ({ fr with tm := fr.tm.set d v } : Fr).get t = if t = d then v else fr.get t := by
        unfold Fr.get
        simp only [T.get_set]
        by_cases e : t = d <;> simp [e]
      rw [hg]
      by_cases e : t = d
      · subst e
        rw [if_pos rfl, Array.getD_eq_getD_getElem?, Array.getElem?_setIfInBounds, if_pos rfl, if_pos hd]
        exact hv
      · rw [if_neg e, Array.getD_eq_getD_getElem?, Array.getElem?_setIfInBounds, if_neg (fun x => e x.symm), ← Array.getD_eq_getD_getElem?]
        exact h.tm t

theorem wantedA_ok {fr : Fr} {ac : Act} (h : FR π fr ac) (ops : Array Oper) (o : Oper) : Region.wanted o (yielded ops ac.tmps) = wantedA fr ops o := by
  unfold Region.wanted wantedA
  cases hgd : o.guard with
  | none => rfl
  | some jw =>
    obtain ⟨j, want⟩ := jw
    simp only []
    unfold yielded
    rw [← Array.getElem?_toList]
    cases hx : ops.toList[j]? with
    | none => rfl
    | some x =>
      simp only [Option.bind_some]
      cases hd : x.dst with
      | none => rfl
      | some t =>
        simp only [Option.bind_some]
        have ht := h.tm t
        rw [Array.getD_eq_getD_getElem?] at ht
        cases hv : ac.tmps[t]? with
        | none =>
          rw [hv] at ht
          simp only [Option.getD_none] at ht
          cases hf : fr.get t <;> simp
          rw [hf] at ht
          unfold Go.undef at ht
          cases ht
        | some v' =>
          rw [hv] at ht
          simp only [Option.getD_some] at ht
          generalize fr.get t = x at ht ⊢
          cases ht <;> simp

/-- A call of a function, from whatever frame it is made: it returns. -/
def Goes (P : Program) (f : FuncId) (args : Array Value) (w : World) (S : Value → World → Prop) : Prop :=
  ∀ kind cs, ∃ v w' fr fn, S v w' ∧ Steps P (lone (Frame.enter P f args kind) cs w) (lone fr cs w') ∧ fr.fn = f ∧ fr.kind = kind ∧ fr.mode = .returning ∧ fr.defers = [] ∧
    P.funcs[f]? = some fn ∧ (results fn fr.tmps).run P w' = .ok v w'

theorem Goes.calls {P : Program} {f : FuncId} {args : Array Value} {w : World} {S : Value → World → Prop} (h : Goes P f args w S) : Calls P f args w fun e w' => ∃ v, e = .returned v ∧ S v w' := by
  intro cs
  obtain ⟨v, w', fr, fn, h1, h2, h3, h4, h5, h6, h7, h8⟩ := h .normal cs
  exact ⟨.returned v, w', fr, ⟨v, rfl, h1⟩, h2, h3, h5, h6, h4, fn, by rw [h3]; exact h7, h8⟩

/-- What holds of a call by the evaluator's. -/
def CallOk (E : Env) (callK : CallK) : Prop := ∀ f l a v a', callK f l a = some (v, a') → AF a a' ∧
  ∀ (π : PM) (w : World) (args' : Array Value), R a π w → GL E π → LR π l args'.toList →
    (∃ π' w' v', (callFunc f args').run E.P w = .ok (.value v') w' ∧ Stp a π w a' π' w' ∧ VR π' v v') ∨
    ((callFunc f args').run E.P w = .ok (.enter f args') w ∧ Goes E.P f args' w fun v' w' => ∃ π', Stp a π w a' π' w' ∧ VR π' v v')

theorem contA_ok {callK : CallK} (hC : CallOk E callK) {fr fr' : Fr} {a a' : AS} {d : Option Tmp} {r : AN} (h : contA callK fr d r a = some (fr', a')) {π : PM} {w : World} {ac : Act}
    (hR : R a π w) (hG : GL E π) (hF : FR π fr ac) {o : Oper} (hd : o.dst = d) {res : Result Next} (hN : NR E π w r res) {K : Act → World → Prop} {Q : Exit → Act → World → Prop}
    (hK : ∀ π' w' ac', Stp a π w a' π' w' → FR π' fr' ac' → K ac' w') : o.upon E.P ac K Q res := by
  subst hd
  unfold contA at h
  split at h
  · simp only [Option.some.injEq, Prod.mk.injEq] at h
    obtain ⟨rfl, rfl⟩ := h
    obtain ⟨v', hv, rfl⟩ := hN
    rw [Oper.upon_value]
    exact hK π w _ (Stp.refl hR) (hF.put _ hv)
  · simp only [Option.some.injEq, Prod.mk.injEq] at h
    obtain ⟨rfl, rfl⟩ := h
    obtain rfl := hN
    rw [Oper.upon_skip]
    exact hK π w _ (Stp.refl hR) (hF.put _ VR.undef)
  · simp only [Option.some.injEq, Prod.mk.injEq] at h
    obtain ⟨rfl, rfl⟩ := h
    obtain ⟨d', hd, rfl⟩ := hN
    rw [Oper.upon_defer]
    rename_i x
    have hF2 : FR π { fr with df := x :: fr.df } { ac with defers := d' :: ac.defers } := ⟨hF.sz, hF.tm, And.intro hd hF.df⟩
    exact hK π w _ (Stp.refl hR) (hF2.put _ VR.undef)
  · rename_i f l
    split at h
    · rename_i v a₁ hc
      simp only [Option.some.injEq, Prod.mk.injEq] at h
      obtain ⟨rfl, rfl⟩ := h
      obtain ⟨args', hl, rfl⟩ := hN
      rcases (hC _ _ _ _ _ hc).2 π w args' hR hG hl with ⟨π', w', v', h1, h2, h3⟩ | ⟨h1, h2⟩
      · rw [h1, Oper.upon_value]
        exact hK π' w' _ h2 ((hF.mono h2.le).put _ h3)
      · rw [h1, Oper.upon_enter]
        refine Calls.mono h2.calls fun e w' he => ?_
        obtain ⟨v', rfl, π', h3, h4⟩ := he
        exact hK π' w' _ h3 ((hF.mono h3.le).put _ h4)
    · simp at h

theorem contA_AF {callK : CallK} (hC : CallOk E callK) {fr fr' : Fr} {a a' : AS} {d : Option Tmp} {r : AN} (h : contA callK fr d r a = some (fr', a')) : AF a a' := by
  unfold contA at h
  split at h
  · simp only [Option.some.injEq, Prod.mk.injEq] at h; exact AF.of_eq h.2.symm
  · simp only [Option.some.injEq, Prod.mk.injEq] at h; exact AF.of_eq h.2.symm
  · simp only [Option.some.injEq, Prod.mk.injEq] at h; exact AF.of_eq h.2.symm
  · split at h
    · rename_i v a₁ hc
      simp only [Option.some.injEq, Prod.mk.injEq] at h
      rw [← h.2]; exact (hC _ _ _ _ _ hc).1
    · simp at h

theorem stepA_AF {callK : CallK} (hC : CallOk E callK) {ops : Array Oper} {o : Oper} {fr fr' : Fr} {a a' : AS} (h : stepA E callK ops o fr a = some (fr', a')) : AF a a' := by
  unfold stepA at h
  split at h
  · split at h
    · rename_i r a₁ ho
      exact (opA_AF ho).trans (contA_AF hC h)
    · simp at h
  · simp only [Option.some.injEq, Prod.mk.injEq] at h; exact AF.of_eq h.2.symm

theorem opsA_AF {callK : CallK} (hC : CallOk E callK) {ops : Array Oper} : ∀ {l : List Oper} {fr fr' : Fr} {a a' : AS}, opsA E callK ops l fr a = some (fr', a') → AF a a'
  | [], fr, fr', a, a', h => by
    rw [opsA_nil] at h
    simp only [Option.some.injEq, Prod.mk.injEq] at h; exact AF.of_eq h.2.symm
  | o :: l, fr, fr', a, a', h => by
    rw [opsA_cons] at h
    split at h
    · rename_i fr₁ a₁ h1
      exact (stepA_AF hC h1).trans (opsA_AF hC h)
    · simp at h

theorem stepA_ok (hE : EnvOk E) {callK : CallK} (hC : CallOk E callK) {ops : Array Oper} {o : Oper} {fr fr' : Fr} {a a' : AS} (h : stepA E callK ops o fr a = some (fr', a')) {π : PM} {w : World} {ac : Act}
    (hR : R a π w) (hG : GL E π) (hF : FR π fr ac) {K : Act → World → Prop} {Q : Exit → Act → World → Prop} (hK : ∀ π' w' ac', Stp a π w a' π' w' → FR π' fr' ac' → K ac' w') :
    if Region.wanted o (yielded ops ac.tmps) then o.wp E.P ac w K Q else K (ac.put o.dst undef) w := by
  rw [wantedA_ok hF]
  unfold stepA at h
  split at h
  · rename_i hw
    rw [hw, if_pos rfl]
    split at h
    · rename_i r a₁ ho
      obtain ⟨π₁, w₁, h1, h2⟩ := opA_ok hE hR (hF.eval hG) ho
      exact contA_ok hC h h1.r (hG.mono h1.le) (hF.mono h1.le) rfl h2 fun π' w' ac' h3 h4 => hK π' w' ac' (h1.trans h3) h4
    · simp at h
  · rename_i hw
    rw [hw]
    simp only [Option.some.injEq, Prod.mk.injEq] at h
    obtain ⟨rfl, rfl⟩ := h
    rw [if_neg (by simp)]
    exact hK π w _ (Stp.refl hR) (hF.put _ VR.undef)

theorem opsA_ok (hE : EnvOk E) {callK : CallK} (hC : CallOk E callK) {ops : Array Oper} {Q : Exit → Act → World → Prop} : ∀ {l : List Oper} {fr fr' : Fr} {a a' : AS}, opsA E callK ops l fr a = some (fr', a') →
    ∀ {π : PM} {w : World} {ac : Act}, R a π w → GL E π → FR π fr ac → (∀ π' w' ac', Stp a π w a' π' w' → FR π' fr' ac' → Q .normal ac' w') → wpList E.P ops Q l ac w
  | [], fr, fr', a, a', h, π, w, ac, hR, hG, hF, hQ => by
    rw [opsA_nil] at h
    simp only [Option.some.injEq, Prod.mk.injEq] at h
    obtain ⟨rfl, rfl⟩ := h
    exact hQ π w ac (Stp.refl hR) hF
  | o :: l, fr, fr', a, a', h, π, w, ac, hR, hG, hF, hQ => by
    rw [opsA_cons] at h
    split at h
    · rename_i fr₁ a₁ h1
      refine wpList_step fun K hK => stepA_ok hE hC h1 hR hG hF fun π₁ w₁ ac₁ h2 h3 => hK _ _ ?_
      exact opsA_ok hE hC h h2.r (hG.mono h2.le) h3 fun π' w' ac' h4 h5 => hQ π' w' ac' (h2.trans h4) h5
    · simp at h

end Go.Proofs.YtmhajfnfjjbflaaGreatDoor.Ev

/- Code, its drawn regions given. -/
namespace Go.Proofs.YtmhajfnfjjbflaaGreatDoor.Ev

variable {E : Env} {π : PM} {w : World}

/-- What holds of a region whose order is drawn. -/
def DrawOk (RG : Array Oper → Prop) (E : Env) (callK : CallK) : Prop := ∀ id (ops : Array Oper), RG ops → ∀ fr a fr' a', drawA E callK ops ops.toList 0 fr a = some (fr', a') → AF a a' ∧
  ∀ (π : PM) (w : World) (ac : Act) (Q : Exit → Act → World → Prop), R a π w → GL E π → FR π fr ac → (∀ π' w' ac', Stp a π w a' π' w' → FR π' fr' ac' → Q .normal ac' w') →
    (Code.region id ops true).wp E.P Q ac w

def regsIn (RG : Array Oper → Prop) : Code → Prop
  | .region _ ops true => RG ops
  | .seq a b => regsIn RG a ∧ regsIn RG b
  | .cond _ a b => regsIn RG a ∧ regsIn RG b
  | .block _ a => regsIn RG a
  | .loop a => regsIn RG a
  | _ => True

def XR : AX → Exit
  | .normal => .normal
  | .exit id => .exit id
  | .ret => .ret

section
variable (E) (callK : CallK) (n : Nat) (fr : Fr) (a : AS)
theorem codeA_skip : codeA E callK n .skip fr a = some ((.normal, fr), a) := rfl
theorem codeA_region (id : Nat) (ops : Array Oper) (draw : Bool) : codeA E callK n (.region id ops draw) fr a =
    match (bif draw then drawA E callK ops ops.toList 0 fr a else opsA E callK ops ops.toList fr a) with
      | some (fr, a) => some ((.normal, fr), a)
      | none => none := rfl
theorem codeA_seq (x y : Code) : codeA E callK n (.seq x y) fr a = match codeA E callK n x fr a with
      | some ((.normal, fr), a) => codeA E callK n y fr a
      | r => r := rfl
theorem codeA_cond (c : Operand) (x y : Code) : codeA E callK n (.cond c x y) fr a = match fr.eval E c with
      | some (.bool b) => cond b (codeA E callK n x fr a) (codeA E callK n y fr a)
      | _ => none := rfl
theorem codeA_block (id : Nat) (x : Code) : codeA E callK n (.block id x) fr a = match codeA E callK n x fr a with
      | some ((.exit id', fr), a) => bif id'.beq id then some ((.normal, fr), a) else some ((.exit id', fr), a)
      | r => r := rfl
theorem codeA_loop (x : Code) : codeA E callK n (.loop x) fr a = loopA (codeA E callK n x) n fr a := rfl
theorem codeA_rangeFunc (f : Operand) (ps : Array Tmp) (x y : Code) : codeA E callK n (.rangeFunc f ps x y) fr a = none := rfl
theorem codeA_exit (id : Nat) : codeA E callK n (.exit id) fr a = some ((.exit id, fr), a) := rfl
theorem codeA_scope (x : Code) : codeA E callK n (.scope x) fr a = none := rfl
theorem codeA_label (l : Nat) : codeA E callK n (.label l) fr a = some ((.normal, fr), a) := rfl
theorem codeA_goto (l : Nat) : codeA E callK n (.goto l) fr a = none := rfl
theorem codeA_ret : codeA E callK n .ret fr a = some ((.ret, fr), a) := rfl
end

def CodeOk (E : Env) (m : Fr → M (AX × Fr)) (c : Code) : Prop := ∀ fr a x fr' a', m fr a = some ((x, fr'), a') → AF a a' ∧
  ∀ (π : PM) (w : World) (ac : Act) (Q : Exit → Act → World → Prop), R a π w → GL E π → FR π fr ac → (∀ π' w' ac', Stp a π w a' π' w' → FR π' fr' ac' → Q (XR x) ac' w') → c.wp E.P Q ac w

theorem loopA_ok {m : Fr → M (AX × Fr)} {c : Code} (h : CodeOk E m c) : ∀ (n : Nat) (fr : Fr) (a : AS) (x : AX) (fr' : Fr) (a' : AS), loopA m n fr a = some ((x, fr'), a') → AF a a' ∧
    ∀ (π : PM) (w : World) (ac : Act) (Q : Exit → Act → World → Prop), R a π w → GL E π → FR π fr ac → (∀ π' w' ac', Stp a π w a' π' w' → FR π' fr' ac' → Q (XR x) ac' w') → Code.rounds E.P c Q n ac w := by
  intro n
  induction n with
  | zero => intro fr a x fr' a' hl; simp [loopA] at hl
  | succ n ih =>
    intro fr a x fr' a' hl
    rw [loopA_succ] at hl
    cases hm : m fr a with
    | none => rw [hm] at hl; simp at hl
    | some r =>
      obtain ⟨⟨y, fr₁⟩, a₁⟩ := r
      rw [hm] at hl
      obtain ⟨hA, hW⟩ := h _ _ _ _ _ hm
      cases y with
      | normal =>
        obtain ⟨hA2, hW2⟩ := ih _ _ _ _ _ hl
        refine ⟨hA.trans hA2, fun π w ac Q hR hG hF hQ => ?_⟩
        rw [rounds_succ]
        refine hW π w ac _ hR hG hF fun π₁ w₁ ac₁ h1 h2 => ?_
        exact hW2 π₁ w₁ ac₁ Q h1.r (hG.mono h1.le) h2 fun π' w' ac' h3 h4 => hQ π' w' ac' (h1.trans h3) h4
      | exit id =>
        simp only [Option.some.injEq, Prod.mk.injEq] at hl
        obtain ⟨⟨rfl, rfl⟩, rfl⟩ := hl
        refine ⟨hA, fun π w ac Q hR hG hF hQ => ?_⟩
        rw [rounds_succ]
        exact hW π w ac _ hR hG hF fun π₁ w₁ ac₁ h1 h2 => hQ π₁ w₁ ac₁ h1 h2
      | ret =>
        simp only [Option.some.injEq, Prod.mk.injEq] at hl
        obtain ⟨⟨rfl, rfl⟩, rfl⟩ := hl
        refine ⟨hA, fun π w ac Q hR hG hF hQ => ?_⟩
        rw [rounds_succ]
        exact hW π w ac _ hR hG hF fun π₁ w₁ ac₁ h1 h2 => hQ π₁ w₁ ac₁ h1 h2

theorem bool_inv {b : Bool} {v' : Value} (h : VR π (.bool b) v') : v' = .bool b := by cases h; rfl

theorem codeA_ok (hE : EnvOk E) {callK : CallK} (hC : CallOk E callK) {RG : Array Oper → Prop} (hD : DrawOk RG E callK) (n : Nat) : ∀ c : Code, regsIn RG c → CodeOk E (codeA E callK n c) c := by
  intro c
  induction c with
  | skip =>
    intro hg fr a x fr' a' h
    rw [codeA_skip] at h
    simp only [Option.some.injEq, Prod.mk.injEq] at h
    obtain ⟨⟨rfl, rfl⟩, rfl⟩ := h
    exact ⟨AF.refl a, fun π w ac Q hR hG hF hQ => wp_skip (hQ π w ac (Stp.refl hR) hF)⟩
  | region id ops draw =>
    intro hg fr a x fr' a' h
    rw [codeA_region] at h
    cases draw with
    | true =>
      simp only [cond_true] at h
      split at h
      · rename_i fr₁ a₁ h1
        simp only [Option.some.injEq, Prod.mk.injEq] at h
        obtain ⟨⟨rfl, rfl⟩, rfl⟩ := h
        obtain ⟨hA, hW⟩ := hD id _ hg _ _ _ _ h1
        exact ⟨hA, fun π w ac Q hR hG hF hQ => hW π w ac Q hR hG hF hQ⟩
      · simp at h
    | false =>
      simp only [cond_false] at h
      split at h
      · rename_i fr₁ a₁ h1
        simp only [Option.some.injEq, Prod.mk.injEq] at h
        obtain ⟨⟨rfl, rfl⟩, rfl⟩ := h
        exact ⟨opsA_AF hC h1, fun π w ac Q hR hG hF hQ => wp_region_list (opsA_ok hE hC h1 hR hG hF hQ)⟩
      · simp at h
  | seq c d ihc ihd =>
    intro hg fr a x fr' a' h
    rw [codeA_seq] at h
    cases hm : codeA E callK n c fr a with
    | none => rw [hm] at h; simp at h
    | some r =>
      obtain ⟨⟨y, fr₁⟩, a₁⟩ := r
      rw [hm] at h
      obtain ⟨hA, hW⟩ := ihc hg.1 _ _ _ _ _ hm
      cases y with
      | normal =>
        obtain ⟨hA2, hW2⟩ := ihd hg.2 _ _ _ _ _ h
        refine ⟨hA.trans hA2, fun π w ac Q hR hG hF hQ => wp_seq ?_⟩
        refine hW π w ac _ hR hG hF fun π₁ w₁ ac₁ h1 h2 => ?_
        exact hW2 π₁ w₁ ac₁ Q h1.r (hG.mono h1.le) h2 fun π' w' ac' h3 h4 => hQ π' w' ac' (h1.trans h3) h4
      | exit id =>
        simp only [Option.some.injEq, Prod.mk.injEq] at h
        obtain ⟨⟨rfl, rfl⟩, rfl⟩ := h
        exact ⟨hA, fun π w ac Q hR hG hF hQ => wp_seq (hW π w ac _ hR hG hF fun π₁ w₁ ac₁ h1 h2 => hQ π₁ w₁ ac₁ h1 h2)⟩
      | ret =>
        simp only [Option.some.injEq, Prod.mk.injEq] at h
        obtain ⟨⟨rfl, rfl⟩, rfl⟩ := h
        exact ⟨hA, fun π w ac Q hR hG hF hQ => wp_seq (hW π w ac _ hR hG hF fun π₁ w₁ ac₁ h1 h2 => hQ π₁ w₁ ac₁ h1 h2)⟩
  | cond c x y ihx ihy =>
    intro hg fr a z fr' a' h
    rw [codeA_cond] at h
    split at h
    · rename_i b hb
      cases b with
      | true =>
        obtain ⟨hA, hW⟩ := ihx hg.1 _ _ _ _ _ h
        exact ⟨hA, fun π w ac Q hR hG hF hQ => wp_cond_true (bool_inv (hF.eval hG _ _ hb)) (hW π w ac Q hR hG hF hQ)⟩
      | false =>
        obtain ⟨hA, hW⟩ := ihy hg.2 _ _ _ _ _ h
        exact ⟨hA, fun π w ac Q hR hG hF hQ => wp_cond_false (bool_inv (hF.eval hG _ _ hb)) (hW π w ac Q hR hG hF hQ)⟩
    · simp at h
  | block id c ih =>
    intro hg fr a x fr' a' h
    rw [codeA_block] at h
    cases hm : codeA E callK n c fr a with
    | none => rw [hm] at h; simp at h
    | some r =>
      obtain ⟨⟨y, fr₁⟩, a₁⟩ := r
      rw [hm] at h
      obtain ⟨hA, hW⟩ := ih hg _ _ _ _ _ hm
      cases y with
      | normal =>
        simp only [Option.some.injEq, Prod.mk.injEq] at h
        obtain ⟨⟨rfl, rfl⟩, rfl⟩ := h
        exact ⟨hA, fun π w ac Q hR hG hF hQ => wp_block (hW π w ac _ hR hG hF fun π₁ w₁ ac₁ h1 h2 => hQ π₁ w₁ ac₁ h1 h2)⟩
      | ret =>
        simp only [Option.some.injEq, Prod.mk.injEq] at h
        obtain ⟨⟨rfl, rfl⟩, rfl⟩ := h
        exact ⟨hA, fun π w ac Q hR hG hF hQ => wp_block (hW π w ac _ hR hG hF fun π₁ w₁ ac₁ h1 h2 => hQ π₁ w₁ ac₁ h1 h2)⟩
      | exit id' =>
        simp only [] at h
        cases hb : id'.beq id with
        | true =>
          rw [hb] at h
          simp only [cond_true, Option.some.injEq, Prod.mk.injEq] at h
          obtain ⟨⟨rfl, rfl⟩, rfl⟩ := h
          refine ⟨hA, fun π w ac Q hR hG hF hQ => wp_block (hW π w ac _ hR hG hF fun π₁ w₁ ac₁ h1 h2 => ?_)⟩
          show if id' = id then Q .normal ac₁ w₁ else Q (.exit id') ac₁ w₁
          rw [if_pos (Nat.eq_of_beq_eq_true hb)]
          exact hQ π₁ w₁ ac₁ h1 h2
        | false =>
          rw [hb] at h
          simp only [cond_false, Option.some.injEq, Prod.mk.injEq] at h
          obtain ⟨⟨rfl, rfl⟩, rfl⟩ := h
          refine ⟨hA, fun π w ac Q hR hG hF hQ => wp_block (hW π w ac _ hR hG hF fun π₁ w₁ ac₁ h1 h2 => ?_)⟩
          show if id' = id then Q .normal ac₁ w₁ else Q (.exit id') ac₁ w₁
          rw [if_neg (fun e => by subst e; simp at hb)]
          exact hQ π₁ w₁ ac₁ h1 h2
  | loop c ih =>
    intro hg fr a x fr' a' h
    rw [codeA_loop] at h
    obtain ⟨hA, hW⟩ := loopA_ok (ih hg) n _ _ _ _ _ h
    exact ⟨hA, fun π w ac Q hR hG hF hQ => wp_loop_rounds n (hW π w ac Q hR hG hF hQ)⟩
  | rangeFunc f ps x y ihx ihy => intro hg fr a z fr' a' h; rw [codeA_rangeFunc] at h; simp at h
  | exit id =>
    intro hg fr a x fr' a' h
    rw [codeA_exit] at h
    simp only [Option.some.injEq, Prod.mk.injEq] at h
    obtain ⟨⟨rfl, rfl⟩, rfl⟩ := h
    exact ⟨AF.refl a, fun π w ac Q hR hG hF hQ => wp_exit (hQ π w ac (Stp.refl hR) hF)⟩
  | scope x ih => intro hg fr a z fr' a' h; rw [codeA_scope] at h; simp at h
  | label l =>
    intro hg fr a x fr' a' h
    rw [codeA_label] at h
    simp only [Option.some.injEq, Prod.mk.injEq] at h
    obtain ⟨⟨rfl, rfl⟩, rfl⟩ := h
    exact ⟨AF.refl a, fun π w ac Q hR hG hF hQ => wp_label (hQ π w ac (Stp.refl hR) hF)⟩
  | goto l => intro hg fr a z fr' a' h; rw [codeA_goto] at h; simp at h
  | ret =>
    intro hg fr a x fr' a' h
    rw [codeA_ret] at h
    simp only [Option.some.injEq, Prod.mk.injEq] at h
    obtain ⟨⟨rfl, rfl⟩, rfl⟩ := h
    exact ⟨AF.refl a, fun π w ac Q hR hG hF hQ => wp_ret (hQ π w ac (Stp.refl hR) hF)⟩
  | refuse u => intro hg fr a z fr' a' h; have h' : (none : Option ((AX × Fr) × AS)) = some _ := h; simp at h'

end Go.Proofs.YtmhajfnfjjbflaaGreatDoor.Ev

/- Deferred calls, results, a function's body, calls. -/
namespace Go.Proofs.YtmhajfnfjjbflaaGreatDoor.Ev

variable {E : Env} {π : PM} {w : World}

theorem step_defer_value {P : Program} {fr : Frame} {cs : List Frame} {w w' : World} {d : Deferred} {ds : List Deferred} {v : Value} (hm : fr.mode = .returning) (hd : fr.defers = d :: ds)
    (ht : ∀ b, d.target ≠ .collected b) (hi : (invoke d.target d.args).run P w = .ok (.value v) w') :
    step P (lone fr cs w) = .next (lone { fr with defers := ds } cs w') := by
  obtain ⟨t, a⟩ := d
  refine step_lone_go ?_
  cases t <;> first
    | exact absurd rfl (ht _)
    | simp [stepG, unwind, callDeferred, hm, hd, hi]

theorem settle_returning : settle .returning = .returning := rfl

/-- The deferred calls of a frame, one after the other. -/
theorem defersA_ok (hE : EnvOk E) {callK : CallK} (hC : CallOk E callK) : ∀ {l : List AD} {a a' : AS} {u : Unit}, defersA E callK l a = some (u, a') → AF a a' ∧
    ∀ (π : PM) (w : World) (ds : List Deferred), R a π w → GL E π → DfR π l ds → ∀ (fr : Frame) (cs : List Frame), fr.mode = .returning → fr.defers = ds →
      ∃ π' w', Stp a π w a' π' w' ∧ Steps E.P (lone fr cs w) (lone { fr with defers := [] } cs w')
  | [], a, a', u, h => by
    simp only [defersA, Option.some.injEq, Prod.mk.injEq, true_and] at h
    subst h
    refine ⟨AF.refl a, fun π w ds hR hG hd fr cs hm hf => ?_⟩
    cases ds with
    | cons d ds => exact hd.elim
    | nil =>
      refine ⟨π, w, Stp.refl hR, ?_⟩
      have : ({ fr with defers := [] } : Frame) = fr := by rw [← hf]
      rw [this]; exact Steps.refl _ _
  | .fn f l :: xs, a, a', u, h => by
    simp only [defersA] at h
    split at h
    · rename_i v a₁ hc
      obtain ⟨hA, hW⟩ := hC _ _ _ _ _ hc
      obtain ⟨hA2, hW2⟩ := defersA_ok hE hC h
      refine ⟨hA.trans hA2, fun π w ds hR hG hd fr cs hm hf => ?_⟩
      cases ds with
      | nil => exact hd.elim
      | cons d ds =>
        obtain ⟨⟨cap, args, rfl, hl⟩, hds⟩ := hd
        rcases hW π w (args ++ cap) hR hG hl with ⟨π₁, w₁, v', h1, h2, h3⟩ | ⟨h1, h2⟩
        · have hs := step_defer_value (P := E.P) (cs := cs) (w := w) (w' := w₁) (v := v') hm hf (by simp) (by simpa [invoke] using h1)
          obtain ⟨π₂, w₂, k1, k2⟩ := hW2 π₁ w₁ ds h2.r (hG.mono h2.le) (hds.mono h2.le) { fr with defers := ds } cs hm rfl
          exact ⟨π₂, w₂, h2.trans k1, .head hs k2⟩
        · have hs := step_defer (P := E.P) (cs := cs) (w := w) (fv := .func f) (cap := cap) (f := f) (args := args ++ cap) (by rw [hm]; simp) hf rfl (by simpa [invoke] using h1)
          obtain ⟨v', w₁, frX, fn, ⟨π₁, q1, q2⟩, q3, q4, q5, q6, q7, q8, q9⟩ := h2 .deferred ({ fr with defers := ds } :: cs)
          have hs2 := step_going_returned (P := E.P) (fr := frX) (c := { fr with defers := ds }) (cs := cs) (w := w₁) (v := v') q5 ⟨q6, q7, fn, by rw [q4]; exact q8, q9⟩
          have e : ({ ({ fr with defers := ds } : Frame) with mode := settle ({ fr with defers := ds } : Frame).mode } : Frame) = { fr with defers := ds } := by
            simp [hm, settle_returning]
          rw [e] at hs2
          obtain ⟨π₂, w₂, k1, k2⟩ := hW2 π₁ w₁ ds q1.r (hG.mono q1.le) (hds.mono q1.le) { fr with defers := ds } cs hm rfl
          exact ⟨π₂, w₂, q1.trans k1, .head hs (Steps.trans q3 (.head hs2 k2))⟩
    · simp at h
  | .del t m k :: xs, a, a', u, h => by
    simp only [defersA] at h
    split at h
    · rename_i v a₁ hc
      obtain ⟨hA2, hW2⟩ := defersA_ok hE hC h
      refine ⟨(AF.aDelete hc).trans hA2, fun π w ds hR hG hd fr cs hm hf => ?_⟩
      cases ds with
      | nil => exact hd.elim
      | cons d ds =>
        obtain ⟨⟨ts, ty, cns, m', k', rfl, h0, h1, h2⟩, hds⟩ := hd
        obtain ⟨w₁, h3, h4⟩ := aDelete_ok (ty := ty) hE hR h0 h1 h2 hc
        have hs := step_defer_value (P := E.P) (cs := cs) (w := w) (w' := w₁) (v := noResult) hm hf (by simp) (by simp [invoke, builtin, h3, noResult])
        obtain ⟨π₂, w₂, k1, k2⟩ := hW2 π w₁ ds h4.r (hG.mono h4.le) (hds.mono h4.le) { fr with defers := ds } cs hm rfl
        exact ⟨π₂, w₂, h4.trans k1, .head hs k2⟩
    · simp at h

end Go.Proofs.YtmhajfnfjjbflaaGreatDoor.Ev

/- Results, a function's body, calls. -/
namespace Go.Proofs.YtmhajfnfjjbflaaGreatDoor.Ev

variable {E : Env} {π : PM} {w : World}

theorem setAll_get : ∀ (l : List AV) (t : T AV) (i k : Nat), (setAll t i l).get k = if i ≤ k ∧ k < i + l.length then l[k - i]? else t.get k
  | [], t, i, k => by
    have e : setAll t i [] = t := rfl
    rw [e, if_neg (by simp only [List.length_nil]; omega)]
  | v :: l, t, i, k => by
    have e : setAll t i (v :: l) = setAll (t.set i v) (i + 1) l := rfl
    rw [e, setAll_get l]
    simp only [List.length_cons]
    by_cases h1 : k = i
    · subst h1
      rw [if_neg (by omega), if_pos (by omega), T.get_set, if_pos rfl]; simp
    · by_cases h2 : i + 1 ≤ k ∧ k < i + 1 + l.length
      · rw [if_pos h2, if_pos (by omega), show k - i = (k - (i + 1)) + 1 by omega]; simp
      · rw [if_neg h2, if_neg (by omega), T.get_set, if_neg h1]

theorem FR.start {args : List AV} {args' : Array Value} (h : LR π args args'.toList) {m : Nat} (hm : args.length ≤ m) :
    FR π { tm := setAll .e 0 args, sz := m, df := [] } { tmps := args' ++ Array.replicate (m - args'.size) undef, defers := [] } := by
  have hl : args.length = args'.size := by rw [h.1]; simp
  refine ⟨by simp; omega, fun t => ?_, trivial⟩
  unfold Fr.get
  simp only []
  rw [setAll_get, Array.getD_eq_getD_getElem?, Array.getElem?_append]
  by_cases h1 : t < args.length
  · rw [if_pos (by omega), if_pos (by omega)]
    obtain ⟨v', h2, h3⟩ := h.get (List.getElem?_eq_getElem h1)
    have h4 : args'[t]? = some v' := by simpa using h2
    rw [Nat.sub_zero, List.getElem?_eq_getElem h1, h4]
    exact h3
  · rw [if_neg (by omega), if_neg (by omega), T.get_e, Array.getElem?_replicate]
    have e : ((if t - args'.size < m - args'.size then some undef else none : Option Value).getD undef) = undef := by split <;> rfl
    rw [e]
    exact VR.undef

/-- One result. -/
def oneResult (tmps : Array Value) : ResultVar → Sem Value
  | .tmp t => pure (tmps.getD t undef)
  | .cell a t => do loadVar t (← asAddr (tmps.getD a undef))

theorem resultA_ok (hE : EnvOk E) {fr : Fr} {ac : Act} {a a' : AS} (hR : R a π w) (hF : FR π fr ac) {r : ResultVar} {v : AV} (h : resultA E fr r a = some (v, a')) :
    a' = a ∧ ∃ v', (oneResult ac.tmps r).run E.P w = .ok v' w ∧ VR π v v' := by
  cases r with
  | tmp t =>
    simp only [resultA, Option.some.injEq, Prod.mk.injEq] at h
    obtain ⟨rfl, rfl⟩ := h
    exact ⟨rfl, _, rfl, hF.tm t⟩
  | cell s t =>
    simp only [resultA] at h
    split at h
    · rename_i β i hs
      have hv := hF.tm s
      rw [hs] at hv
      generalize hx : ac.tmps.getD s undef = x at hv
      cases hv with
      | ptr _ _ p hp =>
        obtain ⟨e, v', h1, h2⟩ := aLoadVar_ok hE hR hp h
        exact ⟨e, v', by simp only [oneResult, hx, asAddr, Sem.run_bind, Sem.run_pure, Result.andThen_ok, h1], h2⟩
    · simp at h

theorem resultsA_cons (fr : Fr) (r : ResultVar) (l : List ResultVar) (a : AS) : resultsA E fr (r :: l) a = match resultA E fr r a with
    | some (v, a) => match resultsA E fr l a with
      | some (vs, a) => some (v :: vs, a)
      | none => none
    | none => none := rfl

theorem resultsA_ok (hE : EnvOk E) {fr : Fr} {ac : Act} : ∀ {l : List ResultVar} {a a' : AS} {vs : List AV}, R a π w → FR π fr ac → resultsA E fr l a = some (vs, a') →
    a' = a ∧ ∃ vs', (l.mapM (oneResult ac.tmps)).run E.P w = .ok vs' w ∧ LR π vs vs'
  | [], a, a', vs, hR, hF, h => by
    have h' : some (([] : List AV), a) = some (vs, a') := h
    simp only [Option.some.injEq, Prod.mk.injEq] at h'
    obtain ⟨rfl, rfl⟩ := h'
    exact ⟨rfl, [], by simp, LR.nil⟩
  | r :: l, a, a', vs, hR, hF, h => by
    rw [resultsA_cons] at h
    split at h
    · rename_i v a₁ h1
      split at h
      · rename_i vs₁ a₂ h2
        simp only [Option.some.injEq, Prod.mk.injEq] at h
        obtain ⟨rfl, rfl⟩ := h
        obtain ⟨rfl, v', k1, k2⟩ := resultA_ok hE hR hF h1
        obtain ⟨rfl, vs', k3, k4⟩ := resultsA_ok hE hR hF h2
        refine ⟨rfl, v' :: vs', ?_, LR.cons k2 k4⟩
        rw [List.mapM_cons]
        simp only [Sem.run_bind, k1, k3, Result.andThen_ok, Sem.run_pure]
      · simp at h
    · simp at h

theorem results_run {P : Program} {fn : Func} {tmps : Array Value} {vs' : List Value} (h : (fn.results.toList.mapM (oneResult tmps)).run P w = .ok vs' w) :
    (results fn tmps).run P w = .ok (if h : vs'.toArray.size = 1 then vs'.toArray[0] else .tuple vs'.toArray) w := by
  have e : results fn tmps = (do let vs ← fn.results.mapM (oneResult tmps); pure (if h : vs.size = 1 then vs[0] else .tuple vs) : Sem Value) := by
    unfold results
    congr 1
  rw [e, Array.mapM_eq_mapM_toList]
  simp only [Sem.run_bind, Sem.run_pure, Sem.run_map, h, Result.andThen_ok]

theorem codeA_goes (hE : EnvOk E) {callK : CallK} (hC : CallOk E callK) {RG : Array Oper → Prop} (hD : DrawOk RG E callK) {n : Nat} {f : FuncId} {fn : Func} {c : Code} {args : List AV} {a a' : AS} {v : AV}
    (hf : E.P.funcs[f]? = some fn) (hb : fn.body = some c) (hg : regsIn RG c) (hl : args.length ≤ fn.ntmps) (h : bodyA E callK n fn c args a = some (v, a')) :
    AF a a' ∧ ∀ (π : PM) (w : World) (args' : Array Value), R a π w → GL E π → LR π args args'.toList → Goes E.P f args' w fun v' w' => ∃ π', Stp a π w a' π' w' ∧ VR π' v v' := by
  unfold bodyA at h
  cases hm : codeA E callK n c { tm := setAll .e 0 args, sz := fn.ntmps, df := [] } a with
  | none => rw [hm] at h; simp at h
  | some r =>
    obtain ⟨⟨x, fr⟩, a₁⟩ := r
    rw [hm] at h
    obtain ⟨hA1, hW1⟩ := codeA_ok hE hC hD n c hg _ _ _ _ _ hm
    have main : ∀ (hx : x = .normal ∨ x = .ret) (a₂ : AS) (u : Unit) (hd : defersA E callK fr.df a₁ = some (u, a₂)) (vs : List AV) (a₃ : AS) (hr : resultsA E fr fn.results.toList a₂ = some (vs, a₃))
        (hv : (∃ y, vs = [y] ∧ v = y) ∨ ((∀ y, vs ≠ [y]) ∧ v = .tuple vs)) (ha : a' = a₃), AF a a' ∧ ∀ (π : PM) (w : World) (args' : Array Value), R a π w → GL E π → LR π args args'.toList →
          Goes E.P f args' w fun v' w' => ∃ π', Stp a π w a' π' w' ∧ VR π' v v' := by
      intro hx a₂ u hd vs a₃ hr hv ha
      obtain ⟨hA2, hW2⟩ := defersA_ok hE hC hd
      have hA3 : AF a₂ a₃ := by
        have : ∀ (l : List ResultVar) (vs : List AV) (a₃ : AS), resultsA E fr l a₂ = some (vs, a₃) → a₃ = a₂ := by
          intro l
          induction l with
          | nil => intro vs a₃ h; have h' : some (([] : List AV), a₂) = some (vs, a₃) := h; simp only [Option.some.injEq, Prod.mk.injEq] at h'; exact h'.2.symm
          | cons r l ih =>
            intro vs a₃ h
            rw [resultsA_cons] at h
            split at h
            · rename_i v₁ a₄ h1
              have e4 : a₄ = a₂ := by
                cases r with
                | tmp t => simp only [resultA, Option.some.injEq, Prod.mk.injEq] at h1; exact h1.2.symm
                | cell s t =>
                  simp only [resultA] at h1
                  split at h1
                  · exact same_aLoadVar h1
                  · simp at h1
              subst e4
              split at h
              · rename_i vs₁ a₅ h2
                simp only [Option.some.injEq, Prod.mk.injEq] at h
                rw [← h.2]; exact ih _ _ h2
              · simp at h
            · simp at h
        exact AF.of_eq (this _ _ _ hr)
      subst ha
      refine ⟨(hA1.trans hA2).trans hA3, fun π w args' hR hG hL => ?_⟩
      intro kind cs
      have hF0 := FR.start hL hl
      have hwp := hW1 π w { tmps := args' ++ Array.replicate (fn.ntmps - args'.size) undef, defers := [] }
        (fun e ac w' => e = XR x ∧ ∃ π', Stp a π w a₁ π' w' ∧ FR π' fr ac) hR hG hF0 (fun π' w' ac' h1 h2 => ⟨rfl, π', h1, h2⟩)
      let b : Frame := { (default : Frame) with fn := f, kind := kind }
      have henter : Frame.enter E.P f args' kind = b.at { tmps := args' ++ Array.replicate (fn.ntmps - args'.size) undef, defers := [] } [.code c] := by
        simp [Frame.enter, Frame.at, hf, hb, b]
      obtain ⟨e, ac, w₁, ⟨he, π₁, h1, h2⟩, harr⟩ := hwp b [] cs
      rw [← henter] at harr
      have hsteps : ∃ todo, Steps E.P (lone (Frame.enter E.P f args' kind) cs w) (lone { b.at ac todo with mode := .returning } cs w₁) := by
        rcases hx with rfl | rfl
        · subst he
          exact ⟨[], Steps.trans harr (.one step_end)⟩
        · subst he
          exact harr
      obtain ⟨todo, hs⟩ := hsteps
      obtain ⟨π₂, w₂, k1, k2⟩ := hW2 π₁ w₁ ac.defers h1.r (hG.mono h1.le) h2.df { b.at ac todo with mode := .returning } cs rfl rfl
      obtain ⟨e3, vs', k3, k4⟩ := resultsA_ok hE k1.r (h2.mono k1.le) hr
      subst e3
      refine ⟨_, w₂, _, fn, ⟨π₂, h1.trans k1, ?_⟩, Steps.trans hs k2, rfl, rfl, rfl, rfl, hf, results_run k3⟩
      rcases hv with ⟨y, rfl, rfl⟩ | ⟨hv, rfl⟩
      · have hl1 := k4.1
        cases vs' with
        | nil => simp at hl1
        | cons y' ys' =>
          cases ys' with
          | nil => simpa using k4.head
          | cons _ _ => simp at hl1
      · have hne : ¬ vs'.toArray.size = 1 := by
          intro h1
          have hl1 := k4.1
          have : vs.length = 1 := by rw [hl1]; simpa using h1
          match vs, this with
          | [y], _ => exact hv y rfl
        rw [dif_neg hne]
        exact .tuple vs vs'.toArray (by simpa using k4.1) (fun i y y' h1 h2 => k4.2 i y y' h1 (by simpa using h2))
    have fin : ∀ (hx : x = .normal ∨ x = .ret), (match defersA E callK fr.df a₁ with
        | some (_, a) => match resultsA E fr fn.results.toList a with
          | some ([v], a) => some (v, a)
          | some (vs, a) => some (.tuple vs, a)
          | none => none
        | none => none) = some (v, a') → AF a a' ∧ ∀ (π : PM) (w : World) (args' : Array Value), R a π w → GL E π → LR π args args'.toList →
          Goes E.P f args' w fun v' w' => ∃ π', Stp a π w a' π' w' ∧ VR π' v v' := by
      intro hx h
      split at h
      · rename_i u a₂ hd
        split at h
        · rename_i y a₃ hr
          simp only [Option.some.injEq, Prod.mk.injEq] at h
          exact main hx a₂ u hd _ _ hr (.inl ⟨y, rfl, h.1.symm⟩) h.2.symm
        · rename_i vs a₃ hne hr
          simp only [Option.some.injEq, Prod.mk.injEq] at h
          exact main hx a₂ u hd _ _ hr (.inr ⟨fun y e => hne y e, h.1.symm⟩) h.2.symm
        · simp at h
      · simp at h
    cases x with
    | normal => exact fin (.inl rfl) h
    | ret => exact fin (.inr rfl) h
    | exit id => simp at h

/-- What holds of the functions without a body. -/
def ExtOk (E : Env) : Prop := ∀ f x, E.xt.get f = some x → ∀ args a v a', extA x args a = some (v, a') → AF a a' ∧
  ∀ (π : PM) (w : World) (args' : Array Value), R a π w → GL E π → LR π args args'.toList → ∃ π' w' v', (callFunc f args').run E.P w = .ok (.value v') w' ∧ Stp a π w a' π' w' ∧ VR π' v v'

theorem run_callFunc {P : Program} {f : FuncId} {fn : Func} {c : Code} {args : Array Value} (hf : P.funcs[f]? = some fn) (hn : fn.name ≠ "runtime.NumGoroutine") (hb : fn.body = some c) :
    (callFunc f args).run P w = .ok (.enter f args) w := by
  unfold callFunc
  simp only [Sem.run_bind, run_program, Result.andThen_ok, hf]
  rw [if_neg (by simpa using hn)]
  simp [hb]

theorem callA_succ (n d : Nat) (f : FuncId) (args : List AV) (a : AS) : callA E n (d + 1) f args a = match E.xt.get f with
    | some x => extA x args a
    | none =>
      match E.ft.get f with
      | none => none
      | some fn =>
        match fn.body with
        | none => none
        | some c => bif args.length.ble fn.ntmps then bodyA E (callA E n d) n fn c args a else none := rfl

/-- Every call of the evaluator's. -/
theorem callA_ok (hE : EnvOk E) (hX : ExtOk E) {RG : Array Oper → Prop} (hD : ∀ callK, CallOk E callK → DrawOk RG E callK) (hRG : ∀ f fn c, E.ft.get f = some fn → fn.body = some c → regsIn RG c) (n : Nat) : ∀ d, CallOk E (callA E n d) := by
  intro d
  induction d with
  | zero => intro f l a v a' h; have h' : (none : Option (AV × AS)) = some (v, a') := h; simp at h'
  | succ d ih =>
    intro f l a v a' h
    rw [callA_succ] at h
    split at h
    · rename_i x hx
      obtain ⟨hA, hW⟩ := hX f x hx l a v a' h
      exact ⟨hA, fun π w args' hR hG hL => .inl (hW π w args' hR hG hL)⟩
    · split at h
      · simp at h
      · rename_i fn hfn
        split at h
        · simp at h
        · rename_i c hb
          obtain ⟨hl, h⟩ := bif_some h
          obtain ⟨hf, hn⟩ := hE.ft f fn hfn
          obtain ⟨hA, hW⟩ := codeA_goes hE ih (hD _ ih) hf hb (hRG f fn c hfn hb) (Nat.le_of_ble_eq_true hl) h
          exact ⟨hA, fun π w args' hR hG hL => .inr ⟨run_callFunc hf hn hb, hW π w args' hR hG hL⟩⟩

end Go.Proofs.YtmhajfnfjjbflaaGreatDoor.Ev

/- Drawn regions: what an operation looks at, and what it leaves. -/
namespace Go.Proofs.YtmhajfnfjjbflaaGreatDoor.Ev

variable {E : Env} {π : PM} {w : World}

theorem mapO_congr {α β : Type} {f g : α → Option β} : ∀ {l : List α}, (∀ x, x ∈ l → f x = g x) → mapO f l = mapO g l
  | [], _ => rfl
  | x :: l, h => by
    rw [mapO_cons, mapO_cons, h x (by simp), mapO_congr fun y hy => h y (by simp [hy])]

theorem partsA_congr {ρ σ : Operand → Option AV} {l : List (Nat × Operand)} (h : ∀ x, x ∈ l.map (·.2) → ρ x = σ x) : partsA ρ l = partsA σ l := by
  unfold partsA
  refine mapO_congr fun x hx => ?_
  obtain ⟨i, y⟩ := x
  simp only []
  rw [h y (by simp; exact ⟨i, hx⟩)]

theorem opA_congr {ρ σ : Operand → Option AV} {o : Oper} {a : AS} (h : ∀ x, x ∈ o.op.operands.toList → ρ x = σ x) : opA E ρ o a = opA E σ o a := by
  obtain ⟨dst, op, type, pos, after, guard⟩ := o
  simp only [] at h
  cases op <;> simp only [Op.operands, Call.operands] at h <;> unfold opA <;> simp only []
  case makeFunc fn xs ys =>
    unfold opMakeFunc
    rw [mapO_congr (l := xs.toList) fun x hx => h x (by simp; exact .inl (by simpa using hx)), mapO_congr (l := ys.toList) fun x hx => h x (by simp; exact .inr (by simpa using hx))]
  case build t ps => unfold opBuild; rw [partsA_congr fun x hx => h x (by simpa using hx)]
  case buildSlice t n ps => unfold opBuildSlice; rw [partsA_congr fun x hx => h x (by simpa using hx)]
  case call c =>
    unfold opCall
    have h1 : mapO ρ c.args.toList = mapO σ c.args.toList := mapO_congr fun x hx => h x (by cases c.callee <;> simp_all)
    rw [h1]
    cases hc : c.callee with
    | builtin b => simp
    | value f => rw [hc] at h; simp [h f (by simp)]
    | invoke r n => rw [hc] at h; simp [h r (by simp)]
  case defer c =>
    unfold opDefer
    have h1 : mapO ρ c.args.toList = mapO σ c.args.toList := mapO_congr fun x hx => h x (by cases c.callee <;> simp_all)
    rw [h1]
    cases mapO σ c.args.toList with
    | none => rfl
    | some args =>
      simp only []
      cases hc : c.callee with
      | builtin b => cases b <;> rfl
      | value f => rw [hc] at h; simp only [h f (by simp)]
      | invoke r n => rfl
  case slice t x lo hi mx =>
    unfold opSlice
    cases mx with
    | some _ => rfl
    | none =>
      rw [h x (by simp)]
      cases lo <;> cases hi <;> simp [h]
  all_goals first
    | rfl
    | (simp only [opMove, opPick, opAlloc, opBox, opLoad, opStore, opNilCheck, opBinOp, opUnOp, opConvert, opMakeInterface, opMakeMap, opMakeSlice, opFieldAddr, opField, opIndexAddr, opIndex, opLookup, opMapUpdate, opInsert, opRange, opNext, opExtract]
       simp [h])

end Go.Proofs.YtmhajfnfjjbflaaGreatDoor.Ev

/- Drawn regions: states side by side. -/
namespace Go.Proofs.YtmhajfnfjjbflaaGreatDoor.Ev

variable {E : Env} {π : PM} {w : World}

theorem touches_still {ρ : Operand → Option AV} {o : Oper} {a a' : AS} {r : AN} (ht : touches o.op = false) (h : opA E ρ o a = some (r, a')) : a' = a := by
  have vN : ∀ {m : Option AV}, valN a m = some (r, a') → a' = a := by
    intro m h
    unfold valN at h
    split at h
    · simp only [Option.some.injEq, Prod.mk.injEq] at h; exact h.2.symm
    · simp at h
  obtain ⟨dst, op, type, pos, after, guard⟩ := o
  simp only [] at ht
  unfold opA at h
  simp only [] at h
  split at h <;> first
    | (simp [touches] at ht; done)
    | skip
  · exact vN h
  · exact vN h
  · unfold opPick at h
    split at h
    · exact vN h
    · simp at h
  · unfold opBuild at h
    split at h
    · exact vN h
    · simp at h
  · unfold opNilCheck at h
    split at h <;> first | (simp at h; done) | exact vN h
  · unfold opBinOp at h
    split at h
    · exact vN h
    · simp at h
  · unfold opUnOp at h
    split at h
    · exact vN h
    · simp at h
  · unfold opMakeInterface at h
    split at h
    · split at h <;> first | (simp at h; done) | exact vN h
    · simp at h
  · unfold opMakeFunc at h
    split at h
    · exact vN h
    · simp at h
  · unfold opFieldAddr at h
    split at h
    · exact vN h
    · simp at h
  · unfold opField at h
    split at h
    · exact vN h
    · simp at h
  · unfold opIndexAddr at h
    split at h
    · exact vN h
    · simp at h
  · unfold opIndex at h
    split at h
    · exact vN h
    · simp at h
  · unfold opExtract at h
    split at h
    · exact vN h
    · simp at h
  · unfold opDefer at h
    split at h
    · simp at h
    · split at h
      · split at h
        · split at h
          · simp only [Option.some.injEq, Prod.mk.injEq] at h; exact h.2.symm
          · simp at h
        · simp at h
      · split at h
        · simp only [Option.some.injEq, Prod.mk.injEq] at h; exact h.2.symm
        · simp at h
      · simp at h

theorem R.mu {a : AS} (h : R a π w) (k : Nat) : R { a with mu := k } π w := ⟨h.wf, h.dom, h.has, h.cells, h.maps, h.siter, h.sep, h.chain, h.org⟩

/-- A later state that agrees on the blocks of an earlier one. -/
theorem R.later {a b : AS} (h : R a π w) (hhp : ∀ β, β < a.nx → b.hp.get β = a.hp.get β) (hfam : ∀ f, f < a.nx → b.fam.get f = a.fam.get f) (hwf : ∀ f, b.nx ≤ f → b.fam.get f = none) (hnx : a.nx ≤ b.nx) : R b π w := by
  have hfo : ∀ {β p c e f}, π β = some p → a.hp.get β = some (.cells c e f) → famOf b f = famOf a f := fun {β p c e f} hp hg => by
    have := (h.cells β p c e f hp hg).1
    have := h.dom β p hp
    exact famOf_eq (hfam f (by omega))
  have hg : ∀ {β p}, π β = some p → b.hp.get β = a.hp.get β := fun {β p} hp => hhp β (h.dom β p hp)
  have hroot : ∀ {β p}, π β = some p → root b β = root a β := fun {β p} hp => by unfold root; rw [hg hp]
  refine ⟨hwf, fun β p hp => Nat.lt_of_lt_of_le (h.dom β p hp) hnx, fun β p hp => by rw [hg hp]; exact h.has β p hp, fun β p c e f hp hx => ?_, fun β p es cl hp hx => ?_, fun β p s pos hp hx => ?_,
    fun x y p q hx hy hpq => ?_, fun x y p q c₁ c₂ e₁ e₂ f hx hy hpq h1 h2 hlt hml => ?_, fun β p c e hp hx => ?_⟩
  · rw [hg hp] at hx
    rw [hfo hp hx]
    exact h.cells β p c e f hp hx
  · rw [hg hp] at hx; exact h.maps β p es cl hp hx
  · rw [hg hp] at hx; exact h.siter β p s pos hp hx
  · rw [hroot hx, hroot hy]; exact h.sep x y p q hx hy hpq
  · rw [hg hx] at h1
    rw [hg hy] at h2
    rw [hfo hx h1] at hml
    exact h.chain x y p q c₁ c₂ e₁ e₂ f hx hy hpq h1 h2 hlt hml
  · rw [hg hp] at hx; exact h.org β p c e hp hx

/-- What another operation has added beside. -/
theorem R.join {a a₁ : AS} {π π₁ π' : PM} {w w' : World} (h : R a π w) (h1 : R a₁ π₁ w') (hw : ∀ b, b < w.heap.size → w'.heap[b]? = w.heap[b]?)
    (hhp : ∀ β, β < a₁.nx → a.hp.get β = a₁.hp.get β) (hfam : ∀ f, f < a₁.nx → a.fam.get f = a₁.fam.get f) (hnx : a₁.nx ≤ a.nx)
    (hπ' : ∀ β p, π' β = some p → π β = some p ∨ (π₁ β = some p ∧ w.heap.size ≤ p.b)) (hle : π.le π') (hle1 : π₁.le π') : R a π' w' := by
  have hA : R a π₁ w' := h1.later hhp hfam h.wf hnx
  have hB : R a π w' := h.frame fun β p hp => hw _ (h.inb hp)
  refine ⟨h.wf, fun β p hp => ?_, fun β p hp => ?_, fun β p c e f hp hx => ?_, fun β p es cl hp hx => ?_, fun β p s pos hp hx => ?_,
    fun x y p q hx hy hpq => ?_, fun x y p q c₁ c₂ e₁ e₂ f hx hy hpq g1 g2 hlt hml => ?_, fun β p c e hp hx => ?_⟩
  · rcases hπ' β p hp with k | ⟨k, _⟩
    · exact hB.dom β p k
    · exact hA.dom β p k
  · rcases hπ' β p hp with k | ⟨k, _⟩
    · exact hB.has β p k
    · exact hA.has β p k
  · rcases hπ' β p hp with k | ⟨k, _⟩
    · obtain ⟨x1, x2, x3, cc, lo, hi, x4, x5, x6, x7, x8⟩ := hB.cells β p c e f k hx
      exact ⟨x1, x2, x3, cc, lo, hi, x4, x5, fun hm i v hv => let ⟨v', y1, y2⟩ := x6 hm i v hv; ⟨v', y1, y2.mono hle⟩, x7, x8⟩
    · obtain ⟨x1, x2, x3, cc, lo, hi, x4, x5, x6, x7, x8⟩ := hA.cells β p c e f k hx
      exact ⟨x1, x2, x3, cc, lo, hi, x4, x5, fun hm i v hv => let ⟨v', y1, y2⟩ := x6 hm i v hv; ⟨v', y1, y2.mono hle1⟩, x7, x8⟩
  · rcases hπ' β p hp with k | ⟨k, _⟩
    · obtain ⟨es', x1, x2, x3⟩ := hB.maps β p es cl k hx
      exact ⟨es', x1, x2, fun i x x' g1 g2 => let ⟨q, y1, y2, y3, y4⟩ := x3 i x x' g1 g2; ⟨q, y1, y2, y3.mono hle, y4⟩⟩
    · obtain ⟨es', x1, x2, x3⟩ := hA.maps β p es cl k hx
      exact ⟨es', x1, x2, fun i x x' g1 g2 => let ⟨q, y1, y2, y3, y4⟩ := x3 i x x' g1 g2; ⟨q, y1, y2, y3.mono hle1, y4⟩⟩
  · rcases hπ' β p hp with k | ⟨k, _⟩
    · exact hB.siter β p s pos k hx
    · exact hA.siter β p s pos k hx
  · rcases hπ' x p hx with k | ⟨k, kk⟩ <;> rcases hπ' y q hy with l | ⟨l, ll⟩
    · exact hB.sep x y p q k l hpq
    · have := h.inb k; omega
    · have := h.inb l; omega
    · exact hA.sep x y p q k l hpq
  · rcases hπ' x p hx with k | ⟨k, kk⟩ <;> rcases hπ' y q hy with l | ⟨l, ll⟩
    · exact hB.chain x y p q c₁ c₂ e₁ e₂ f k l hpq g1 g2 hlt hml
    · have := h.inb k; omega
    · have := h.inb l; omega
    · exact hA.chain x y p q c₁ c₂ e₁ e₂ f k l hpq g1 g2 hlt hml
  · rcases hπ' β p hp with k | ⟨k, _⟩
    · exact hB.org β p c e k hx
    · exact hA.org β p c e k hx

/-! ### The evaluator's own run of a drawn region -/

/-- One operation of the run. -/
structure Tr1 (E : Env) (callK : CallK) (ops : Array Oper) (o : Oper) (i : Nat) (a : AS) (fr : Fr) (v : AV) (a₁ b : AS) (fr' : Fr) : Prop where
  run : stepV E callK ops o fr { a with mu := a.nx } = some (v, a₁)
  fs : fr' = fr.put o.dst v
  st : b = { a₁ with mu := min a.mu a₁.mu }
  ok : a.nx ≤ a₁.mu ∨ syncs (looseB E callK ops fr' { b with mu := b.nx }) ops.toList (befA ops.toList) i = true

def Trace (E : Env) (callK : CallK) (ops : Array Oper) (l : List Oper) (j : Nat) (st s1 : Nat → AS) (fs : Nat → Fr) (vs : Nat → AV) : Prop :=
  ∀ i o, l[i]? = some o → Tr1 E callK ops o (j + i) (st (j + i)) (fs (j + i)) (vs (j + i)) (s1 (j + i)) (st (j + i + 1)) (fs (j + i + 1))

theorem drawA_trace {callK : CallK} {ops : Array Oper} : ∀ {l : List Oper} {j : Nat} {fr fr' : Fr} {a a' : AS}, drawA E callK ops l j fr a = some (fr', a') →
    ∃ st s1 fs vs, st j = a ∧ fs j = fr ∧ st (j + l.length) = a' ∧ fs (j + l.length) = fr' ∧ Trace E callK ops l j st s1 fs vs
  | [], j, fr, fr', a, a', h => by
    rw [drawA_nil] at h
    simp only [Option.some.injEq, Prod.mk.injEq] at h
    obtain ⟨rfl, rfl⟩ := h
    exact ⟨fun _ => a, fun _ => a, fun _ => fr, fun _ => .nilp, rfl, rfl, rfl, rfl, fun i o h => by simp at h⟩
  | o :: l, j, fr, fr', a, a', h => by
    rw [drawA_cons] at h
    split at h
    · rename_i v a₁ hv
      obtain ⟨hb, h⟩ := bif_some h
      obtain ⟨st, s1, fs, vs, e1, e2, e3, e4, T⟩ := drawA_trace h
      refine ⟨fun k => if k = j then a else st k, fun k => if k = j then a₁ else s1 k, fun k => if k = j then fr else fs k, fun k => if k = j then v else vs k, by simp, by simp, ?_, ?_, ?_⟩
      · simp only [List.length_cons]
        rw [if_neg (by omega), show j + (l.length + 1) = j + 1 + l.length by omega]; exact e3
      · simp only [List.length_cons]
        rw [if_neg (by omega), show j + (l.length + 1) = j + 1 + l.length by omega]; exact e4
      · intro i o' ho
        cases i with
        | zero =>
          simp only [List.getElem?_cons_zero, Option.some.injEq] at ho
          subst ho
          simp only [Nat.add_zero, if_pos, if_neg (show ¬ j + 1 = j by omega)]
          refine ⟨hv, e2, e1, ?_⟩
          simp only [Bool.or_eq_true] at hb
          rw [e1, e2]
          exact hb.imp (fun x => Nat.le_of_ble_eq_true x) id
        | succ i =>
          simp only [List.getElem?_cons_succ] at ho
          have hT := T i o' ho
          simp only [if_neg (show ¬ j + (i + 1) = j by omega), if_neg (show ¬ j + (i + 1) + 1 = j by omega)]
          rw [show j + (i + 1) = j + 1 + i by omega]
          exact hT
    · simp at h

end Go.Proofs.YtmhajfnfjjbflaaGreatDoor.Ev
