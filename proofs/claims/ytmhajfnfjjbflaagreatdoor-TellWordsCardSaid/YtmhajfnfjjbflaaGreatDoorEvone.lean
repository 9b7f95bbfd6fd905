/- Data of a small deterministic evaluator of the model's code: a trie, packed byte strings, values, a heap. -/
import Derived.Calls
import Derived.LoopN
import Derived.Orders
import Derived.Defers
import Derived.Below
import Derived.Laws.Strings
import Derived.Laws.IdiomCopy
import Derived.Laws.AppendOwn
namespace Go.Proofs.YtmhajfnfjjbflaaGreatDoor.Ev

/-! ### A trie over the naturals -/
inductive T (α : Type) where
  | e : T α
  | n (l : T α) (v : Option α) (r : T α) : T α

namespace T
variable {α : Type}
noncomputable def get (t : T α) : Nat → Option α :=
  T.rec (fun _ => none) (fun _ v _ gl gr k => Nat.casesOn k v fun k' => cond ((k' % 2).beq 0) (gl (k' / 2)) (gr (k' / 2))) t

/-- A trie of one place. -/
noncomputable def one (x : α) (f : Nat) : Nat → T α :=
  Nat.rec (fun _ => .n .e (some x) .e) (fun _ ih k => Nat.casesOn k (.n .e (some x) .e) fun k' => cond ((k' % 2).beq 0) (.n (ih (k' / 2)) none .e) (.n .e none (ih (k' / 2)))) f

noncomputable def set (t : T α) (k : Nat) (x : α) : T α :=
  T.rec (motive := fun _ => Nat → T α) (fun k => one x k k) (fun l v r sl sr k => Nat.casesOn k (.n l (some x) r) fun k' => cond ((k' % 2).beq 0) (.n (sl (k' / 2)) v r) (.n l v (sr (k' / 2)))) t k

theorem get_n0 (l : T α) (v : Option α) (r : T α) : (T.n l v r).get 0 = v := rfl
theorem get_ns (l : T α) (v : Option α) (r : T α) (k : Nat) : (T.n l v r).get (k + 1) = cond ((k % 2).beq 0) (l.get (k / 2)) (r.get (k / 2)) := rfl
theorem get_e (k : Nat) : (T.e : T α).get k = none := rfl

theorem get_one (x : α) : ∀ (f k j : Nat), k ≤ f → (one x f k).get j = if j = k then some x else none := by
  intro f
  induction f with
  | zero =>
    intro k j h
    obtain rfl : k = 0 := by omega
    cases j with
    | zero => rfl
    | succ j => show (cond _ _ _) = _; simp [get_e]
  | succ f ih =>
    intro k j h
    cases k with
    | zero =>
      cases j with
      | zero => rfl
      | succ j => show (cond _ _ _) = _; simp [get_e]
    | succ k =>
      have hu : one x (f + 1) (k + 1) = cond ((k % 2).beq 0) (.n (one x f (k / 2)) none .e) (.n .e none (one x f (k / 2))) := rfl
      rw [hu]
      cases hb : (k % 2).beq 0 with
      | true =>
        have hb' : k % 2 = 0 := Nat.eq_of_beq_eq_true hb
        simp only [cond_true]
        cases j with
        | zero => simp [get_n0]
        | succ j =>
          rw [get_ns, ih _ _ (by omega)]
          cases hc : (j % 2).beq 0 with
          | true =>
            have hc' : j % 2 = 0 := Nat.eq_of_beq_eq_true hc
            simp only [cond_true]
            by_cases e : j = k
            · subst e; simp
            · rw [if_neg (by omega), if_neg (by omega)]
          | false =>
            have hc' : j % 2 ≠ 0 := Nat.ne_of_beq_eq_false hc
            simp only [cond_false, get_e]
            rw [if_neg (by omega)]
      | false =>
        have hb' : k % 2 ≠ 0 := Nat.ne_of_beq_eq_false hb
        simp only [cond_false]
        cases j with
        | zero => simp [get_n0]
        | succ j =>
          rw [get_ns, ih _ _ (by omega)]
          cases hc : (j % 2).beq 0 with
          | true =>
            have hc' : j % 2 = 0 := Nat.eq_of_beq_eq_true hc
            simp only [cond_true, get_e]
            rw [if_neg (by omega)]
          | false =>
            have hc' : j % 2 ≠ 0 := Nat.ne_of_beq_eq_false hc
            simp only [cond_false]
            by_cases e : j = k
            · subst e; simp
            · rw [if_neg (by omega), if_neg (by omega)]

theorem get_set (t : T α) (k j : Nat) (x : α) : (t.set k x).get j = if j = k then some x else t.get j := by
  induction t generalizing k j with
  | e =>
    have : (T.e : T α).set k x = one x k k := rfl
    rw [this, get_one x k k j (Nat.le_refl k), get_e]
  | n l v r ihl ihr =>
    cases k with
    | zero =>
      have : (T.n l v r).set 0 x = .n l (some x) r := rfl
      rw [this]
      cases j with
      | zero => rfl
      | succ j => rw [get_ns, get_ns, if_neg (by omega)]
    | succ k =>
      have hu : (T.n l v r).set (k + 1) x = cond ((k % 2).beq 0) (.n (l.set (k / 2) x) v r) (.n l v (r.set (k / 2) x)) := rfl
      rw [hu]
      cases hb : (k % 2).beq 0 with
      | true =>
        have hb' : k % 2 = 0 := Nat.eq_of_beq_eq_true hb
        simp only [cond_true]
        cases j with
        | zero => simp [get_n0]
        | succ j =>
          rw [get_ns, get_ns, ihl]
          cases hc : (j % 2).beq 0 with
          | true =>
            have hc' : j % 2 = 0 := Nat.eq_of_beq_eq_true hc
            simp only [cond_true]
            by_cases e : j = k
            · subst e; simp
            · rw [if_neg (by omega), if_neg (by omega)]
          | false =>
            have hc' : j % 2 ≠ 0 := Nat.ne_of_beq_eq_false hc
            simp only [cond_false]
            rw [if_neg (by omega)]
      | false =>
        have hb' : k % 2 ≠ 0 := Nat.ne_of_beq_eq_false hb
        simp only [cond_false]
        cases j with
        | zero => simp [get_n0]
        | succ j =>
          rw [get_ns, get_ns, ihr]
          cases hc : (j % 2).beq 0 with
          | true =>
            have hc' : j % 2 = 0 := Nat.eq_of_beq_eq_true hc
            simp only [cond_true]
            rw [if_neg (by omega)]
          | false =>
            have hc' : j % 2 ≠ 0 := Nat.ne_of_beq_eq_false hc
            simp only [cond_false]
            by_cases e : j = k
            · subst e; simp
            · rw [if_neg (by omega), if_neg (by omega)]
end T

/-! ### Byte strings, packed -/
structure PS where
  len : Nat
  val : Nat
  deriving DecidableEq

def valL : List UInt8 → Nat
  | [] => 0
  | b :: l => b.toNat + 256 * valL l
def ofL (l : List UInt8) : PS := ⟨l.length, valL l⟩
def ofB (b : ByteArray) : PS := ofL b.data.toList
def PS.app (s t : PS) : PS := ⟨s.len + t.len, s.val + 2 ^ (8 * s.len) * t.val⟩
def PS.at (s : PS) (i : Nat) : Nat := s.val / 2 ^ (8 * i) % 256
def PS.ext (s : PS) (l h : Nat) : PS := ⟨h - l, s.val / 2 ^ (8 * l) % 2 ^ (8 * (h - l))⟩
def PS.eq (s t : PS) : Bool := s.len.beq t.len && s.val.beq t.val

theorem pow8 (n : Nat) : (2 : Nat) ^ (8 * (n + 1)) = 256 * 2 ^ (8 * n) := by
  rw [show 8 * (n + 1) = 8 * n + 8 by omega, Nat.pow_add]; omega
theorem valL_lt (l : List UInt8) : valL l < 2 ^ (8 * l.length) := by
  induction l with
  | nil => simp [valL]
  | cons b l ih =>
    have := b.toNat_lt
    simp only [valL, List.length_cons, pow8]
    omega
theorem ofL_app (l m : List UInt8) : ofL (l ++ m) = (ofL l).app (ofL m) := by
  simp only [ofL, PS.app, List.length_append, PS.mk.injEq, true_and]
  induction l with
  | nil => simp [valL]
  | cons b l ih =>
    simp only [List.cons_append, valL, List.length_cons, pow8, ih]
    rw [Nat.mul_add, Nat.mul_assoc]; omega
theorem valL_div (l : List UInt8) (i : Nat) : valL l / 2 ^ (8 * i) = valL (l.drop i) := by
  induction l generalizing i with
  | nil => simp [valL]
  | cons b l ih =>
    cases i with
    | zero => simp
    | succ i =>
      rw [pow8, List.drop_succ_cons, ← ih, ← Nat.div_div_eq_div_mul]
      congr 1
      have := b.toNat_lt
      simp only [valL]; omega
theorem valL_mod (l : List UInt8) (i : Nat) : valL l % 2 ^ (8 * i) = valL (l.take i) := by
  induction l generalizing i with
  | nil => simp [valL]
  | cons b l ih =>
    cases i with
    | zero => simp [valL, Nat.mod_one]
    | succ i =>
      rw [pow8, List.take_succ_cons]
      simp only [valL]
      rw [← ih]
      have h1 := b.toNat_lt
      have h2 : (b.toNat + 256 * valL l) % (256 * 2 ^ (8 * i)) = (b.toNat + 256 * valL l) % 256 + 256 * ((b.toNat + 256 * valL l) / 256 % 2 ^ (8 * i)) := Nat.mod_mul
      rw [h2]
      have h3 : (b.toNat + 256 * valL l) / 256 = valL l := by omega
      have h4 : (b.toNat + 256 * valL l) % 256 = b.toNat := by omega
      rw [h3, h4]
theorem at_ofL (l : List UInt8) (i : Nat) (h : i < l.length) : (ofL l).at i = (l[i]).toNat := by
  simp only [ofL, PS.at, valL_div]
  rw [List.drop_eq_getElem_cons h]
  have := (l[i]).toNat_lt
  simp only [valL]; omega
theorem ext_ofL (L : List UInt8) (l h : Nat) (h1 : l ≤ h) (h2 : h ≤ L.length) : (ofL L).ext l h = ofL ((L.drop l).take (h - l)) := by
  simp only [ofL, PS.ext, valL_div, valL_mod, List.length_take, List.length_drop, PS.mk.injEq, and_true]
  omega
theorem valL_inj : ∀ (l m : List UInt8), l.length = m.length → valL l = valL m → l = m := by
  intro l
  induction l with
  | nil => intro m h _; cases m with | nil => rfl | cons _ _ => simp at h
  | cons b l ih =>
    intro m h hv
    cases m with
    | nil => simp at h
    | cons c m =>
      simp only [valL] at hv
      have h1 := b.toNat_lt
      have h2 := c.toNat_lt
      have hb : b = c := UInt8.toNat_inj.1 (by omega)
      rw [hb, ih m (by simpa using h) (by omega)]
theorem ofL_inj {l m : List UInt8} (h : ofL l = ofL m) : l = m := by
  simp only [ofL, PS.mk.injEq] at h
  exact valL_inj l m h.1 h.2
theorem ofB_inj {a b : ByteArray} (h : ofB a = ofB b) : a = b := by
  have := ofL_inj h
  cases a; cases b; simp at this; simp [this]
theorem ofB_len (b : ByteArray) : (ofB b).len = b.size := by
  show b.data.toList.length = b.size
  rfl
theorem PS.eq_iff (s t : PS) : s.eq t = true ↔ s = t := by
  cases s; cases t
  simp [PS.eq]
theorem beq_bytes (a b : ByteArray) : (a == b) = true ↔ a = b := by
  show (a.data == b.data) = true ↔ _
  rw [beq_iff_eq]
  exact ⟨fun h => by cases a; cases b; simp at h; rw [h], fun h => by rw [h]⟩
theorem eq_ofB (a b : ByteArray) : (ofB a).eq (ofB b) = (a == b) := by
  rw [Bool.eq_iff_iff, PS.eq_iff, beq_bytes]
  exact ⟨ofB_inj, fun h => by rw [h]⟩
theorem ofB_app (a b : ByteArray) : ofB (a ++ b) = (ofB a).app (ofB b) := by
  rw [ofB, ofB, ofB, ← ofL_app]; simp [ByteArray.data_append]
theorem ofB_at (b : ByteArray) (i : Nat) (h : i < b.size) : (ofB b).at i = (b[i]).toNat := by
  rw [ofB, at_ofL _ _ (by simpa using h)]; rfl
theorem ofB_ext (b : ByteArray) (l h : Nat) (h1 : l ≤ h) (h2 : h ≤ b.size) : ofB (b.extract l h) = (ofB b).ext l h := by
  rw [ofB, ofB, ext_ofL _ _ _ h1 (by simpa using h2)]
  simp [ByteArray.data_extract, List.extract_eq_take_drop]

end Go.Proofs.YtmhajfnfjjbflaaGreatDoor.Ev

/- Values, heap and operations of the evaluator. -/
noncomputable section
namespace Go.Proofs.YtmhajfnfjjbflaaGreatDoor.Ev

/-! ### Values -/
inductive AV where
  | bool (b : Bool)
  | int (k : IntKind) (n : Int)
  | str (s : PS)
  | nilp
  | ptr (β i : Nat)
  | nils
  | slice (β i n : Nat) (cap : Option Nat) (sz : Nat)
  | nilm
  | map (β : Nat)
  | nilf
  | func (fn : Fn) (first captured : List AV)
  | nili
  | iface (t : TypeId) (v : AV)
  | agg (cs : List AV)
  | tuple (vs : List AV)

def AV.cells : AV → List AV
  | .agg cs => cs
  | v => [v]
def AV.one : AV → Bool
  | .agg _ | .tuple _ => false
  | _ => true

/-- A constant of the code. -/
def ofC : Value → Option AV
  | .bool b => some (.bool b)
  | .int k n => some (.int k n)
  | .string s => some (.str (ofB s))
  | .pointer none => some .nilp
  | .slice none 0 0 => some .nils
  | .map none => some .nilm
  | .nilFunc => some .nilf
  | .nilIface => some .nili
  | _ => none
def ofCs : List Value → Option (List AV)
  | [] => some []
  | v :: l => match ofC v with
    | some x => match ofCs l with
      | some r => some (x :: r)
      | none => none
    | none => none

/-! ### The heap -/
structure AE where
  key : PS
  val : AV
  born : Nat

inductive AB where
  | cells (c : List AV) (e : TypeId) (f : Nat)
  | map (es : List AE) (clock : Nat)
  | siter (s : PS) (pos : Nat)

structure Fam where
  leaf : Nat
  ml : Nat
  fz : Bool
  sg : Bool

structure AS where
  hp : T AB
  fam : T Fam
  nx : Nat
  mu : Nat

def famOf (a : AS) (f : Nat) : Fam := match a.fam.get f with | some F => F | none => ⟨f, 0, false, false⟩

abbrev M (α : Type) := AS → Option (α × AS)
@[inline] def M.pure {α : Type} (x : α) : M α := fun a => some (x, a)
@[inline] def M.bind {α β : Type} (m : M α) (f : α → M β) : M β := fun a => match m a with | some (x, a') => f x a' | none => none
@[inline] def M.fail {α : Type} : M α := fun _ => none
@[inline] def M.opt {α : Type} (o : Option α) : M α := fun a => match o with | some x => some (x, a) | none => none
@[inline] def M.guard (b : Bool) : M Unit := fun a => match b with | true => some ((), a) | false => none
instance : Monad M where
  pure := M.pure
  bind := M.bind

def aNew (b : AB) : M Nat := fun a => some (a.nx, { a with hp := a.hp.set a.nx b, nx := a.nx + 1 })
/-- A new row of cells. -/
def aRow (c : List AV) (e : TypeId) : M Nat := fun a => aNew (.cells c e a.nx) a
/-- The cells of a block that still holds what was written. -/
def aCells (β : Nat) : M (List AV × TypeId × Nat) := fun a =>
  match a.hp.get β with
  | some (.cells c e f) => match (famOf a f).ml.ble β with | true => some ((c, e, f), a) | false => none
  | _ => none
def aLoadN (β i n : Nat) : M (List AV) := fun a =>
  match aCells β a with
  | some ((c, _, _), a) => match (i + n).ble c.length with | true => some ((c.drop i).take n, a) | false => none
  | none => none
def aLoad1 (β i : Nat) : M AV := fun a =>
  match aCells β a with
  | some ((c, _, _), a) => match c[i]? with | some v => some (v, a) | none => none
  | none => none
def splice (c : List AV) (i : Nat) (vs : List AV) : List AV := c.take i ++ vs ++ c.drop (i + vs.length)
def aStoreN (β i : Nat) (vs : List AV) : M Unit := fun a =>
  match a.hp.get β with
  | some (.cells c e f) =>
    match ((famOf a f).leaf.beq β && (famOf a f).ml.ble β && !(famOf a f).fz && (i + vs.length).ble c.length && vs.all AV.one && f.blt a.nx) with
    | true => some ((), { a with hp := a.hp.set β (.cells (splice c i vs) e f), fam := a.fam.set f { famOf a f with ml := β }, mu := min a.mu (min f β) })
    | false => none
  | _ => none
def aSet (β : Nat) (b : AB) : M Unit := fun a => some ((), { a with hp := a.hp.set β b, mu := min a.mu β })

/-! ### Types -/
inductive TK where
  | bool | int (k : IntKind) | str | uptr | ptr (e : TypeId) | sl (e : TypeId) | arr (n : Nat) (e : TypeId) | map (k e : TypeId)
  | st (fs : List (Nat × TypeId)) | fn | ifc | other

def kindOf : TypeDesc → TK
  | .bool => .bool
  | .int k => .int k
  | .string => .str
  | .unsafePointer => .uptr
  | .pointer e => .ptr e
  | .slice e => .sl e
  | .array n e => .arr n e
  | .map k e => .map k e
  | .struct fs => .st (fs.toList.map fun f => (f.offset, f.type))
  | .func _ _ _ => .fn
  | .interface _ => .ifc
  | _ => .other

structure TI where
  kind : TK
  size : Nat
  bytes : Nat
  zero : List AV
  zg : Bool

def isAggV : Value → Bool
  | .agg _ => true
  | _ => false

def mkTI (P : Program) (t : TypeId) : Option TI :=
  match P.info? t with
  | some inf => match P.underlying t with
    | some d => match inf.zero with
      | some z => match ofCs z.cells.toList with
        | some zs => some ⟨kindOf d, inf.size, inf.bytes, zs, isAggV z⟩
        | none => none
      | none => none
    | none => none
  | none => none

inductive Ext where
  | noop | noop1 | noEscape | indexByteString | countString | makeNoZero (e : TypeId) | addI64 | loadU32 | storeU32 | casI32 | addI32

structure Env where
  P : Program
  ti : T TI
  ft : T Func
  xt : T Ext
  gl : T Unit

inductive AD where
  | fn (f : FuncId) (args : List AV)
  | del (t : TypeId) (m k : AV)

inductive AN where
  | val (v : AV)
  | skip
  | enter (f : FuncId) (args : List AV)
  | defer (d : AD)

/-! ### Operations that leave the heap alone -/
def TK.isAgg : TK → Bool
  | .st _ | .arr _ _ => true
  | _ => false

def pureSem (P : Program) {α : Type} : Sem α → Option α
  | .pure a => some a
  | .program k => pureSem P (k P)
  | .mark _ k => pureSem P k
  | _ => none

def psBytes : Nat → Nat → List UInt8
  | 0, _ => []
  | n + 1, v => UInt8.ofNat (v % 256) :: psBytes n (v / 256)
def PS.toB (s : PS) : ByteArray := ⟨(psBytes s.len s.val).toArray⟩

/-- A value without addresses, as the model has it (one cell). -/
def toC : AV → Option Value
  | .bool b => some (.bool b)
  | .int k n => some (.int k n)
  | .str s => some (.string s.toB)
  | .nilp => some (.pointer none)
  | .nils => some (.slice none 0 0)
  | .nilm => some (.map none)
  | .nilf => some .nilFunc
  | .nili => some .nilIface
  | _ => none
def toCs : List AV → Option (List Value)
  | [] => some []
  | v :: l => match toC v with
    | some x => match toCs l with
      | some r => some (x :: r)
      | none => none
    | none => none
def toG : AV → Option Value
  | .agg cs => match toCs cs with
    | some l => some (.agg l.toArray)
    | none => none
  | v => toC v

def isNil : AV → Option Bool
  | .nilp => some true
  | .ptr _ _ => some false
  | .nils => some true
  | .slice _ _ _ _ _ => some false
  | .nilm => some true
  | .map _ => some false
  | .nilf => some true
  | .func _ _ _ => some false
  | .nili => some true
  | .iface _ _ => some false
  | _ => none

def ltL : List UInt8 → List UInt8 → Bool
  | _, [] => false
  | [], _ :: _ => true
  | a :: x, b :: y => bif a.toNat.blt b.toNat then true else bif a.toNat.beq b.toNat then ltL x y else false
def PS.lt (s t : PS) : Bool := ltL (psBytes s.len s.val) (psBytes t.len t.val)

/-! ### Whole numbers: roads that are short for the kernel -/
def ltI : Int → Int → Bool
  | .ofNat a, .ofNat b => a.blt b
  | .ofNat _, .negSucc _ => false
  | .negSucc _, .ofNat _ => true
  | .negSucc a, .negSucc b => b.blt a
def eqI : Int → Int → Bool
  | .ofNat a, .ofNat b => a.beq b
  | .negSucc a, .negSucc b => a.beq b
  | _, _ => false
theorem ltI_eq (x y : Int) : ltI x y = decide (x < y) := by
  rw [Bool.eq_iff_iff, decide_eq_true_iff]
  cases x <;> cases y <;> simp [ltI] <;> omega
theorem eqI_eq (x y : Int) : eqI x y = (x == y) := by
  rw [Bool.eq_iff_iff, beq_iff_eq]
  cases x <;> cases y <;> simp [eqI] <;> omega
theorem nltI (x y : Int) : (!ltI y x) = decide (x ≤ y) := by
  rw [ltI_eq, Bool.eq_iff_iff]; simp
theorem neI (x y : Int) : (!eqI x y) = (x != y) := by rw [eqI_eq]; rfl
def limK : IntKind → Nat
  | .i8 => 128
  | .i16 => 32768
  | .i32 => 2147483648
  | .i64 => 9223372036854775808
  | .u8 => 256
  | .u16 => 65536
  | .u32 => 4294967296
  | .u64 => 18446744073709551616
/-- An integer that fits is itself. -/
def wrapA (k : IntKind) (x : Int) : Int :=
  match x with
  | .ofNat n => bif n.blt (limK k) then .ofNat n else k.wrap x
  | .negSucc n => bif k.signed && n.blt (limK k) then .negSucc n else k.wrap x
theorem wrapA_eq (k : IntKind) (x : Int) : wrapA k x = k.wrap x := by
  have p7 : (2 : Int) ^ 7 = 128 := rfl
  have p8 : (2 : Int) ^ 8 = 256 := rfl
  have p15 : (2 : Int) ^ 15 = 32768 := rfl
  have p16 : (2 : Int) ^ 16 = 65536 := rfl
  have p31 : (2 : Int) ^ 31 = 2147483648 := rfl
  have p32 : (2 : Int) ^ 32 = 4294967296 := rfl
  have p63 : (2 : Int) ^ 63 = 9223372036854775808 := rfl
  have p64 : (2 : Int) ^ 64 = 18446744073709551616 := rfl
  unfold wrapA
  cases x with
  | ofNat n =>
    simp only []
    cases h : n.blt (limK k) with
    | false => rfl
    | true =>
      have h' : n < limK k := by simpa using h
      simp only [cond_true, IntKind.wrap, Int.ofNat_eq_natCast]
      cases k <;> simp only [limK, IntKind.bits, IntKind.signed, Bool.true_and, Bool.false_and, Nat.add_one_sub_one, Nat.reduceSub, p7, p8, p15, p16, p31, p32, p63, p64] at h' ⊢ <;>
        first
        | (rw [if_neg (by simp only [decide_eq_true_eq]; omega)]; omega)
        | (rw [if_neg (by simp)]; omega)
  | negSucc n =>
    simp only []
    cases h : k.signed && n.blt (limK k) with
    | false => rfl
    | true =>
      simp only [Bool.and_eq_true] at h
      have h' : n < limK k := by simpa using h.2
      have hs := h.1
      simp only [cond_true, IntKind.wrap, Int.negSucc_eq]
      cases k <;> simp only [limK, IntKind.bits, IntKind.signed, Bool.true_and, Bool.false_and, Nat.reduceSub, p7, p8, p15, p16, p31, p32, p63, p64, Bool.false_eq_true] at h' hs ⊢ <;>
        (rw [if_pos (by simp only [decide_eq_true_eq]; omega)]; omega)
def inB : Int → Nat → Bool
  | .ofNat i, n => i.blt n
  | .negSucc _, _ => false
theorem inB_eq (i : Int) (n : Nat) : inB i n = true ↔ 0 ≤ i ∧ i < n := by
  cases i <;> simp [inB] <;> omega
@[reducible] def decIn (i : Int) (n : Nat) : Decidable (0 ≤ i ∧ i < n) :=
  Bool.rec (motive := fun b => inB i n = b → Decidable (0 ≤ i ∧ i < n)) (fun h => isFalse fun k => by rw [(inB_eq i n).2 k] at h; simp at h) (fun h => isTrue ((inB_eq i n).1 h)) (inB i n) rfl

def intOp (op : BinOp) (k : IntKind) (x y : Int) : Option AV :=
  match op with
  | .add => some (.int k (wrapA k (x + y)))
  | .sub => some (.int k (wrapA k (x - y)))
  | .mul => some (.int k (wrapA k (x * y)))
  | .quo => if y = 0 then none else some (.int k (wrapA k (x.tdiv y)))
  | .rem => if y = 0 then none else some (.int k (x.tmod y))
  | .eql => some (.bool (eqI x y))
  | .neq => some (.bool !(eqI x y))
  | .lss => some (.bool (ltI x y))
  | .leq => some (.bool !(ltI y x))
  | .gtr => some (.bool (ltI y x))
  | .geq => some (.bool !(ltI x y))
  | .and => some (.int k (k.wrap (BitVec.ofInt k.bits x &&& BitVec.ofInt k.bits y).toNat))
  | .or => some (.int k (k.wrap (BitVec.ofInt k.bits x ||| BitVec.ofInt k.bits y).toNat))
  | .xor => some (.int k (k.wrap (BitVec.ofInt k.bits x ^^^ BitVec.ofInt k.bits y).toNat))
  | .andNot => some (.int k (k.wrap (BitVec.ofInt k.bits x &&& ~~~BitVec.ofInt k.bits y).toNat))
  | _ => none

def strOp (op : BinOp) (x y : PS) : Option AV :=
  match op with
  | .add => match (x.len + y.len).ble 4294967296 with
    | true => some (.str (x.app y))
    | false => none
  | .eql => some (.bool (x.eq y))
  | .neq => some (.bool !(x.eq y))
  | .lss => some (.bool (x.lt y))
  | .leq => some (.bool (x.lt y || x.eq y))
  | .gtr => some (.bool !(x.lt y || x.eq y))
  | .geq => some (.bool !(x.lt y))
  | _ => none

/-- Equality of other values: nil against what is no aggregate; one block's addresses; values without addresses. -/
def eqOp (E : Env) (t : TypeId) (x y : AV) : Option Bool :=
  match E.ti.get t with
  | none => none
  | some i =>
    match i.kind, x, y with
    | .bool, .bool a, .bool b => some (a == b)
    | .ptr t, .ptr β i, .ptr β' j => match E.ti.get t with
      | some ti => bif ti.size.beq 0 then none else bif β.beq β' then some (i.beq j) else none
      | none => none
    | .ptr _, .nilp, .nilp => some true
    | .ptr _, .nilp, .ptr _ _ => some false
    | .ptr _, .ptr _ _, .nilp => some false
    | .sl _, .nils, .nils => some true
    | .sl _, .nils, .slice _ _ _ _ _ => some false
    | .sl _, .slice _ _ _ _ _, .nils => some false
    | .map _ _, .nilm, .nilm => some true
    | .map _ _, .nilm, .map _ => some false
    | .map _ _, .map _, .nilm => some false
    | .fn, .nilf, .nilf => some true
    | .fn, .nilf, .func _ _ _ => some false
    | .fn, .func _ _ _, .nilf => some false
    | .ifc, .nili, .iface _ _ => some false
    | .ifc, .iface _ _, .nili => some false
    | .st _, .agg cs, .agg ds =>
      match toCs cs with
      | some u => match toCs ds with
        | some v =>
          match pureSem E.P (do Op.eqGuardIn Op.maxDepth t (.agg u.toArray) (.agg v.toArray)) with
          | some false => pureSem E.P (Op.equal t (.agg u.toArray) (.agg v.toArray))
          | _ => none
        | none => none
      | none => none
    | _, _, _ => none

/-- nil against nil of an interface, one of them the literal. -/
def isConst : Operand → Bool
  | .const _ => true
  | _ => false

def binA (E : Env) (op : BinOp) (t : TypeId) (ox oy : Operand) (x y : AV) : Option AV :=
  match x, y with
  | .int k a, .int k' b =>
    match op with
    | .shl => if b < 0 then none else some (.int k (wrapA k (a * 2 ^ (min b.toNat k.bits))))
    | .shr => if b < 0 then none else some (.int k (a.fdiv (2 ^ (min b.toNat k.bits))))
    | _ => if k = k' then intOp op k a b else none
  | .str a, .str b => strOp op a b
  | .nili, .nili =>
    match E.ti.get t with
    | some i => match i.kind with
      | .ifc => bif isConst ox || isConst oy then (match op with | .eql => some (.bool true) | .neq => some (.bool false) | _ => none) else none
      | _ => none
    | none => none
  | x, y =>
    match op with
    | .eql => match eqOp E t x y with | some b => some (.bool b) | none => none
    | .neq => match eqOp E t x y with | some b => some (.bool !b) | none => none
    | _ => none

def unA (op : UnOp) (x : AV) : Option AV :=
  match op, x with
  | .neg, .int k n => some (.int k (wrapA k (0 - n)))
  | .xor, .int k n => some (.int k (k.wrap (BitVec.ofInt k.bits (if k.signed then -1 else k.max) ^^^ BitVec.ofInt k.bits n).toNat))
  | .not, .bool b => some (.bool !b)
  | _, _ => none

end Go.Proofs.YtmhajfnfjjbflaaGreatDoor.Ev
end

/- Operations on the heap, and the evaluator. -/
noncomputable section
namespace Go.Proofs.YtmhajfnfjjbflaaGreatDoor.Ev

variable (E : Env)

def zeroA (i : TI) : Option AV := if i.zg then some (.agg i.zero) else match i.zero with | [v] => some v | _ => none

def aLoadVar (t : TypeId) (β i : Nat) : M AV := fun a =>
  match E.ti.get t with
  | none => none
  | some ti =>
    bif ti.kind.isAgg then
      match aLoadN β i ti.size a with
      | some (cs, a) => some (.agg cs, a)
      | none => none
    else aLoad1 β i a

def aStoreVar (t : TypeId) (β i : Nat) (v : AV) : M Unit := fun a =>
  match E.ti.get t with
  | none => none
  | some ti => bif v.cells.length.beq ti.size then aStoreN β i v.cells a else none

def partA (t : TypeId) (cs : List AV) (off : Nat) : Option AV :=
  match E.ti.get t with
  | none => none
  | some ti =>
    bif ti.kind.isAgg then (bif (off + ti.size).ble cs.length then some (.agg ((cs.drop off).take ti.size)) else none)
    else cs[off]?

def fillA (place : Nat → Option (Nat × Nat)) (cells : List AV) : List (Nat × AV) → Option (List AV)
  | [] => some cells
  | (i, v) :: rest =>
    match place i with
    | none => none
    | some (off, size) =>
      bif v.cells.length.beq size && (off + size).ble cells.length then fillA place (splice cells off v.cells) rest else none

def mapO {α β : Type} (f : α → Option β) (l : List α) : Option (List β) :=
  List.rec (some []) (fun x _ ih => match f x with
    | some y => match ih with
      | some r => some (y :: r)
      | none => none
    | none => none) l
theorem mapO_nil {α β : Type} (f : α → Option β) : mapO f [] = some [] := rfl
theorem mapO_cons {α β : Type} (f : α → Option β) (x : α) (l : List α) : mapO f (x :: l) = match f x with
    | some y => match mapO f l with
      | some r => some (y :: r)
      | none => none
    | none => none := rfl

def partsA (ρ : Operand → Option AV) : List (Nat × Operand) → Option (List (Nat × AV)) := mapO fun (i, x) => match ρ x with | some v => some (i, v) | none => none

def repZ (z : List AV) : Nat → List AV
  | 0 => []
  | n + 1 => z ++ repZ z n

/-- The fields' places of a struct. -/
def placesA (fs : List (Nat × TypeId)) : Option (List (Nat × Nat)) :=
  mapO (fun (o, t) => match E.ti.get t with | some i => some (o, i.size) | none => none) fs

def buildA (t : TypeId) (parts : List (Nat × AV)) : Option AV :=
  match E.ti.get t with
  | none => none
  | some i =>
    match i.kind with
    | .st fs => match placesA E fs with
      | some ps => match fillA (fun j => ps[j]?) i.zero parts with | some cs => some (.agg cs) | none => none
      | none => none
    | .arr _ e => match E.ti.get e with
      | some ei => match fillA (fun j => some (j * ei.size, ei.size)) i.zero parts with | some cs => some (.agg cs) | none => none
      | none => none
    | _ => none

def aBuildSlice (t : TypeId) (len : Nat) (parts : List (Nat × AV)) : M AV := fun a =>
  match E.ti.get t with
  | some { kind := .sl e, .. } =>
    match E.ti.get e with
    | some ei =>
      bif (len * ei.size).ble 16777216 && ei.zero.length.beq ei.size then
        match fillA (fun j => some (j * ei.size, ei.size)) (repZ ei.zero len) parts with
        | some cs => match aRow cs e a with
          | some (β, a) => some (.slice β 0 len (some len) ei.size, a)
          | none => none
        | none => none
      else none
    | none => none
  | _ => none

def aMakeSlice (t : TypeId) (len cap : Int) : M AV := fun a =>
  match E.ti.get t with
  | some { kind := .sl e, .. } =>
    match E.ti.get e with
    | some ei =>
      if 0 ≤ len ∧ len ≤ cap ∧ cap ≤ 1048576 ∧ ei.bytes ≤ 1048576 ∧ ei.zero.length = ei.size then
        match aRow (repZ ei.zero cap.toNat) e a with
        | some (β, a) => some (.slice β 0 len.toNat (some cap.toNat) ei.size, a)
        | none => none
      else none
    | none => none
  | _ => none

def bound (x : Option AV) (d : Nat) : Option Nat :=
  match x with
  | none => some d
  | some (.int _ (.ofNat n)) => some n
  | some _ => none

theorem bound_int (k : IntKind) (n : Int) (d : Nat) : bound (some (.int k n)) d = if 0 ≤ n then some n.toNat else none := by
  cases n with
  | ofNat n => simp [bound]
  | negSucc n => rw [if_neg (by omega)]; rfl

/-- x[l:h] -/
def sliceA (t : TypeId) (x : AV) (lo hi : Option AV) : Option AV :=
  match E.ti.get t with
  | none => none
  | some i =>
    match i.kind, x with
    | .str, .str s =>
      match bound lo 0, bound hi s.len with
      | some l, some h => bif l.ble h && h.ble s.len then some (.str (s.ext l h)) else none
      | _, _ => none
    | .sl e, .nils =>
      match E.ti.get e with
      | none => none
      | some _ =>
        match bound lo 0, bound hi 0 with
        | some 0, some 0 => some .nils
        | _, _ => none
    | .sl e, .slice β j n cap sz =>
      match E.ti.get e with
      | none => none
      | some ei =>
        match bound lo 0, bound hi n with
        | some l, some h =>
          bif ei.size.beq sz && l.ble h && h.ble (cap.getD n) then
            match cap with
            | some c => bif c.beq l then some (.slice β j (h - l) (some (c - l)) sz) else some (.slice β (j + l * sz) (h - l) (some (c - l)) sz)
            | none => some (.slice β (j + l * sz) (h - l) none sz)
          else none
        | _, _ => none
    | _, _ => none

/-- A slice of an array's variable, else of a slice or a string. -/
def aSlice (t : TypeId) (x : AV) (lo hi : Option AV) : M AV := fun a =>
  match E.ti.get t with
  | some { kind := .arr n e, .. } =>
    match x with
    | .ptr β j =>
      match E.ti.get e with
      | none => none
      | some ei =>
        match bound lo 0, bound hi n with
        | some l, some h =>
          bif l.ble h && h.ble n then
            match aLoadN β j (n * ei.size) a with
            | none => none
            | some (_, a) =>
              bif n.beq l then some (.slice β j (h - l) (some (n - l)) ei.size, a) else some (.slice β (j + l * ei.size) (h - l) (some (n - l)) ei.size, a)
          else none
        | _, _ => none
    | _ => none
  | _ => M.opt (sliceA E t x lo hi) a

def fieldAddrA (s : TypeId) (x : AV) (f : Nat) : Option AV :=
  match E.ti.get s, x with
  | some { kind := .st fs, .. }, .ptr β i =>
    match fs[f]? with
    | some (o, t) => match E.ti.get t with
      | some ti => bif ti.size.beq 0 then none else some (.ptr β (i + o))
      | none => none
    | none => none
  | _, _ => none

def fieldA (s : TypeId) (x : AV) (f : Nat) : Option AV :=
  match E.ti.get s, x with
  | some { kind := .st fs, .. }, .agg cs =>
    match fs[f]? with
    | some (o, t) => partA E t cs o
    | none => none
  | _, _ => none

def indexAddrA (t : TypeId) (x ix : AV) : Option AV :=
  match E.ti.get t, ix with
  | some ti, .int _ i =>
    match ti.kind, x with
    | .arr n e, .ptr β j =>
      match E.ti.get e with
      | some ei => @ite _ (0 ≤ i ∧ i < n) (decIn i n) (some (.ptr β (j + i.toNat * ei.size))) none
      | none => none
    | .sl e, .slice β j n _ sz =>
      match E.ti.get e with
      | some ei => bif ei.size.beq sz then (@ite _ (0 ≤ i ∧ i < n) (decIn i n) (some (.ptr β (j + i.toNat * sz))) none) else none
      | none => none
    | _, _ => none
  | _, _ => none

def indexA (t : TypeId) (x ix : AV) : Option AV :=
  match E.ti.get t, ix with
  | some ti, .int _ i =>
    match ti.kind, x with
    | .str, .str s => @ite _ (0 ≤ i ∧ i < s.len) (decIn i s.len) (some (.int .u8 (s.at i.toNat))) none
    | .arr n e, .agg cs =>
      match E.ti.get e with
      | some ei => @ite _ (0 ≤ i ∧ i < n) (decIn i n) (partA E e cs (i.toNat * ei.size)) none
      | none => none
    | _, _ => none
  | _, _ => none

/-! ### Maps with string keys -/
def findE (k : PS) : List AE → Nat → Option (Nat × AE)
  | [], _ => none
  | e :: es, i => bif k.eq e.key then some (i, e) else findE k es (i + 1)

def aMap (β : Nat) : M (List AE × Nat) := fun a => match a.hp.get β with | some (.map es cl) => some ((es, cl), a) | _ => none

def aEntries (m : AV) : M (List AE) := fun a =>
  match m with
  | .nilm => some ([], a)
  | .map β => match aMap β a with | some ((es, _), a) => some (es, a) | none => none
  | _ => none

def aLookup (t : TypeId) (m k : AV) (ok : Bool) : M AV := fun a =>
  match E.ti.get t, k with
  | some { kind := .map kt et, .. }, .str s =>
    match E.ti.get kt, E.ti.get et with
    | some { kind := .str, .. }, some ei =>
      match aEntries m a with
      | some (es, a) =>
        match findE s es 0 with
        | some (_, e) => some (bif ok then .tuple [e.val, .bool true] else e.val, a)
        | none => match zeroA ei with
          | some z => some (bif ok then .tuple [z, .bool false] else z, a)
          | none => none
      | none => none
    | _, _ => none
  | _, _ => none

def aUpdate (t : TypeId) (m k v : AV) : M Unit := fun a =>
  match E.ti.get t, m, k with
  | some { kind := .map kt _, .. }, .map β, .str s =>
    match E.ti.get kt with
    | some { kind := .str, .. } =>
      match aMap β a with
      | some ((es, cl), a) =>
        match findE s es 0 with
        | some (i, e) => aSet β (.map (es.set i { e with val := v }) cl) a
        | none => aSet β (.map (es ++ [⟨s, v, cl⟩]) (cl + 1)) a
      | none => none
    | _ => none
  | _, _, _ => none

def aDelete (t : TypeId) (m k : AV) : M Unit := fun a =>
  match E.ti.get t, m, k with
  | some { kind := .map kt _, .. }, .map β, .str s =>
    match E.ti.get kt with
    | some { kind := .str, .. } =>
      match aMap β a with
      | some ((es, cl), a) =>
        match findE s es 0 with
        | some (i, _) => aSet β (.map (es.eraseIdx i) cl) a
        | none => aSet β (.map es cl) a
      | none => none
    | _ => none
  | _, _, _ => none

def aRange (t : TypeId) (x : AV) : M AV := fun a =>
  match E.ti.get t, x with
  | some { kind := .str, .. }, .str s => match aNew (.siter s 0) a with | some (β, a) => some (.ptr β 0, a) | none => none
  | _, _ => none

/-- The sign at a place of a string, as the model decodes it. -/
def decodeA (s : PS) (pos : Nat) : Nat × Nat :=
  let b := s.at pos
  bif b.blt 128 then (b, 1) else Utf8.decode (s.ext pos (min (pos + 4) s.len)).toB 0

def aNext (x : AV) (isString : Bool) : M AV := fun a =>
  match x, isString with
  | .ptr β 0, true =>
    match a.hp.get β with
    | some (.siter s pos) =>
      bif pos.blt s.len then
        match decodeA s pos with
        | (c, w) => match aSet β (.siter s (pos + w)) a with
          | some (_, a) => some (.tuple [.bool true, .int .i64 pos, .int .i32 c], a)
          | none => none
      else some (.tuple [.bool false], a)
    | _ => none
  | _, _ => none

/-! ### Builtins -/
def bytesA (s : PS) (n : Nat) : List AV := (psBytes n s.val).map fun b => .int .u8 b.toNat

/-- The cells that are appended or copied, of n elements of sz cells. -/
def aFirst (sz : Nat) (n : Nat) (x : AV) : M (List AV) := fun a =>
  match x with
  | .nils => some ([], a)
  | .slice β i m _ sz' => bif sz.beq sz' && n.ble m then aLoadN β i (n * sz) a else none
  | .str s => bif n.ble s.len then some (bytesA s n, a) else none
  | _ => none
def lenA : AV → Option Nat
  | .nils => some 0
  | .slice _ _ n _ _ => some n
  | .str s => some s.len
  | _ => none

def capLess : Option Nat → Nat → Bool
  | some c, k => c.blt k
  | none, _ => false

def aAppend (t : TypeId) (s x : AV) : M AV := fun a =>
  match E.ti.get t with
  | some { kind := .sl e, .. } =>
    match E.ti.get e, lenA x with
    | some ei, some m =>
      match aFirst ei.size m x a with
      | none => none
      | some (new, a) =>
        match s with
        | .nils =>
          match m with
          | 0 => some (.nils, a)
          | _ =>
            bif (m * ei.bytes).ble 1099511627776 && m.ble 1099511627776 && ei.zero.length.beq ei.size && new.length.beq (m * ei.size) then
              match aRow new e a with
              | some (β, a) => some (.slice β 0 m none ei.size, a)
              | none => none
            else none
        | .slice β i n cap sz =>
          match m with
          | 0 => some (s, a)
          | _ =>
            bif sz.beq ei.size && ((n + m) * ei.bytes).ble 1099511627776 && (n + m).ble 1099511627776 && ei.zero.length.beq ei.size && new.length.beq (m * ei.size) then
              match aLoadN β i (n * sz) a with
              | none => none
              | some (old, a) =>
                bif capLess cap (n + m) then
                  match aRow (old ++ new) e a with
                  | some (β', a) => some (.slice β' 0 (n + m) none sz, a)
                  | none => none
                else
                  match a.hp.get β with
                  | some (.cells c eb f) =>
                    bif eb.beq e && (famOf a f).leaf.beq β && (famOf a f).ml.ble β && ((i + n * sz).beq c.length || !(famOf a f).fz) && new.all AV.one && f.blt a.nx then
                      some (.slice a.nx 0 (n + m) none sz,
                        { hp := (a.hp.set β (.cells (c.take (i + n * sz)) eb f)).set a.nx (.cells (old ++ new) e f)
                          fam := a.fam.set f { famOf a f with leaf := a.nx, ml := bif (i + n * sz).beq c.length then (famOf a f).ml else β }
                          nx := a.nx + 1
                          mu := min a.mu (min f β) })
                    else none
                  | _ => none
            else none
        | _ => none
    | _, _ => none
  | _ => none

def aCopy (t : TypeId) (d x : AV) : M AV := fun a =>
  match E.ti.get t with
  | some { kind := .sl e, .. } =>
    match E.ti.get e, lenA x, lenA d with
    | some ei, some m, some k =>
      match d with
      | .nils => some (.int .i64 0, a)
      | .slice β i _ _ sz =>
        match min m k with
        | 0 => some (.int .i64 0, a)
        | n + 1 =>
          bif sz.beq ei.size then
            match aFirst ei.size (n + 1) x a with
            | none => none
            | some (new, a) => match aStoreN β i new a with
              | some (_, a) => some (.int .i64 (n + 1 : Nat), a)
              | none => none
          else none
      | _ => none
    | _, _, _ => none
  | _ => none

def aLen (t : TypeId) (x : AV) : M AV := fun a =>
  match E.ti.get t with
  | none => none
  | some i =>
    match i.kind, x with
    | .str, .str s => some (.int .i64 s.len, a)
    | .sl _, .nils => some (.int .i64 0, a)
    | .sl _, .slice _ _ n _ _ => some (.int .i64 n, a)
    | .arr n _, _ => some (.int .i64 n, a)
    | .map _ _, .nilm => some (.int .i64 0, a)
    | .map _ _, .map β => match aMap β a with | some ((es, _), a) => some (.int .i64 es.length, a) | none => none
    | _, _ => none

def capA (t : TypeId) (x : AV) : Option AV :=
  match E.ti.get t with
  | none => none
  | some i =>
    match i.kind, x with
    | .sl _, .nils => some (.int .i64 0)
    | .sl _, .slice _ _ _ (some c) _ => some (.int .i64 c)
    | .arr n _, _ => some (.int .i64 n)
    | _, _ => none

def foldInt (f : Int → Int → Int) (k : IntKind) : Int → List AV → Option AV
  | x, [] => some (.int k x)
  | x, .int _ y :: l => foldInt f k (f x y) l
  | _, _ :: _ => none

def toBytes : List AV → Option (List UInt8)
  | [] => some []
  | .int .u8 n :: l => match toBytes l with | some r => some (UInt8.ofNat n.toNat :: r) | none => none
  | _ :: _ => none

def aUString (pt : TypeId) (p : AV) (len : Int) : M AV := fun a =>
  if len < 0 then none else
  match E.ti.get pt with
  | some { kind := .ptr u, .. } =>
    if len = 0 then (match p with | .nilp => some (.str ⟨0, 0⟩, a) | .ptr _ _ => some (.str ⟨0, 0⟩, a) | _ => none) else
    match p with
    | .ptr β i =>
      match E.ti.get u with
      | some { kind := .int .u8, size := 1, .. } =>
        match a.hp.get β with
        | some (.cells c e f) =>
          bif e.beq u && (famOf a f).leaf.beq β && (famOf a f).ml.ble β && !(famOf a f).sg && (i + len.toNat).ble c.length && len.toNat.ble 1099511627776 && f.blt a.nx then
            match toBytes ((c.drop i).take len.toNat) with
            | some l => some (.str (ofL l), { a with fam := a.fam.set f { famOf a f with fz := true }, mu := min a.mu f })
            | none => none
          else none
        | _ => none
      | _ => none
    | _ => none
  | _ => none

def aBuiltin (b : Builtin) (ts : List TypeId) (args : List AV) : M AV := fun a =>
  match b, ts, args with
  | .len, t :: _, [x] => aLen E t x a
  | .cap, t :: _, [x] => M.opt (capA E t x) a
  | .append, t :: u :: _, [s, x] =>
    match E.ti.get u with
    | some { kind := .sl _, .. } => aAppend E t s x a
    | some { kind := .str, .. } => aAppend E t s x a
    | _ => none
  | .copy, t :: _, [d, x] => aCopy E t d x a
  | .delete, t :: _, [m, k] => match aDelete E t m k a with | some (_, a) => some (.tuple [], a) | none => none
  | .max, _, .int k x :: l => M.opt (foldInt (fun x y => if y > x then y else x) k x l) a
  | .min, _, .int k x :: l => M.opt (foldInt (fun x y => if y < x then y else x) k x l) a
  | .unsafeSliceData, _, [.nils] => some (.nilp, a)
  | .unsafeSliceData, _, [.slice β i (_ + 1) _ _] => some (.ptr β i, a)
  | .unsafeString, pt :: _, [p, .int _ n] => aUString E pt p n a
  | _, _, _ => none

/-! ### Conversions -/
def aConvert (src dst : TypeId) (x : AV) : M AV := fun a =>
  match E.ti.get src, E.ti.get dst with
  | some si, some di =>
    match si.kind, di.kind, x with
    | _, .int k, .int _ n => some (.int k (wrapA k n), a)
    | _, .str, .int _ n => some (.str (ofB (Utf8.encode n)), a)
    | _, .str, .str s => some (.str s, a)
    | .str, .sl e, .str s =>
      match E.ti.get e with
      | some { kind := .int .u8, bytes := 1, .. } =>
        bif s.len.ble 1099511627776 then
          match aRow (bytesA s s.len) e a with
          | some (β, a) => some (.slice β 0 s.len none 1, { a with fam := a.fam.set β ⟨β, 0, false, true⟩ })
          | none => none
        else none
      | _ => none
    | .sl e, .sl _, .slice β i (n + 1) cap sz =>
      match E.ti.get e, a.hp.get β with
      | some { kind := .int .u8, .. }, some (.cells _ _ f) =>
        bif src.beq dst && !(famOf a f).fz && f.blt a.nx then
          some (.slice β i (n + 1) cap sz, { a with fam := a.fam.set f { famOf a f with sg := true }, mu := min a.mu f })
        else none
      | _, _ => none
    | .ptr _, .uptr, .nilp => some (.nilp, a)
    | .ptr t, .uptr, .ptr β i =>
      match E.ti.get t, aLoad1 β i a with
      | some ti, some _ => bif ti.size.beq 0 then none else some (.ptr β i, a)
      | _, _ => none
    | .uptr, .ptr _, .nilp => some (.nilp, a)
    | .uptr, .ptr u, .ptr β i =>
      match E.ti.get u, a.hp.get β with
      | some _, some (.cells c e f) =>
        bif f.beq β && ((e.beq u && i.beq 0 && (E.P.cellsOf e).beq c.length && Nat.blt 0 c.length) || liesAt E.P E.P.depth e (c.length / E.P.cellsOf e) i u 1) then some (.ptr β i, a) else none
      | _, _ => none
    | .sl e, .str, .nils => match E.ti.get e with | some { kind := .int .u8, .. } => some (.str ⟨0, 0⟩, a) | _ => none
    | .sl e, .str, .slice β i n _ 1 =>
      match E.ti.get e with
      | some { kind := .int .u8, .. } =>
        match aLoadN β i n a with
        | some (cs, a) => match toBytes cs with | some l => some (.str (ofL l), a) | none => none
        | none => none
      | _ => none
    | _, _, _ => none
  | _, _ => none

/-! ### One operation -/
def calleeA (f : AV) (args : List AV) : Option (FuncId × List AV) :=
  match f with
  | .func (.func k) first captured => some (k, first ++ args ++ captured)
  | _ => none

/-- The method of a value behind an interface: declared on the value's own type, the receiver handed over as it is. -/
def methodA (t : TypeId) (name : String) : Option FuncId :=
  match E.P.info? t with
  | some inf =>
    match inf.methods.find? (·.name == name) with
    | some m =>
      match m.path.toList, m.func with
      | [], some (f, p) =>
        match E.ti.get t with
        | some i => match i.kind, p with
          | .ptr _, true => some f
          | .ptr _, false => none
          | _, true => none
          | _, false => some f
        | none => none
      | _, _ => none
    | none => none
  | none => none

def valN (a : AS) : Option AV → Option (AN × AS)
  | some v => some (.val v, a)
  | none => none
def valM : Option (AV × AS) → Option (AN × AS)
  | some (v, a) => some (.val v, a)
  | none => none
def unitM : Option (Unit × AS) → Option (AN × AS)
  | some (_, a) => some (.skip, a)
  | none => none

def opMove (ρ : Operand → Option AV) (x : Operand) : M AN := fun a =>
  valN a (ρ x)

def opPick (ρ : Operand → Option AV) (c : Operand) (x : Operand) (y : Operand) : M AN := fun a =>
  match ρ c with | some (.bool b) => valN a (bif b then ρ x else ρ y) | _ => none

def opAlloc (ρ : Operand → Option AV) (t : TypeId) : M AN := fun a =>
  match E.ti.get t with | some i => valM (match aRow i.zero t a with | some (β, a) => some (.ptr β 0, a) | none => none) | none => none

def opBox (ρ : Operand → Option AV) (t : TypeId) (x : Operand) : M AN := fun a =>
  match ρ x with | some v => valM (match aRow v.cells t a with | some (β, a) => some (.ptr β 0, a) | none => none) | none => none

def opBuild (ρ : Operand → Option AV) (t : TypeId) (ps : Array (Nat × Operand)) : M AN := fun a =>
  match partsA ρ ps.toList with | some l => valN a (buildA E t l) | none => none

def opBuildSlice (ρ : Operand → Option AV) (t : TypeId) (n : Nat) (ps : Array (Nat × Operand)) : M AN := fun a =>
  match partsA ρ ps.toList with | some l => valM ((aBuildSlice E t n l) a) | none => none

def opLoad (ρ : Operand → Option AV) (t : TypeId) (x : Operand) : M AN := fun a =>
  match ρ x with | some (.ptr β i) => valM ((aLoadVar E t β i) a) | _ => none

def opStore (ρ : Operand → Option AV) (t : TypeId) (x : Operand) (y : Operand) : M AN := fun a =>
  match ρ x, ρ y with | some (.ptr β i), some v => unitM ((aStoreVar E t β i v) a) | _, _ => none

def opNilCheck (ρ : Operand → Option AV) (x : Operand) : M AN := fun a =>
  match ρ x with
    | some (.ptr β i) => valN a (some (.ptr β i))
    | some (.func (.func k) l c) => valN a (some (.func (.func k) l c))
    | some (.iface t v) => valN a (some (.iface t v))
    | _ => none

def opBinOp (ρ : Operand → Option AV) (op : BinOp) (t : TypeId) (x : Operand) (y : Operand) : M AN := fun a =>
  match ρ x, ρ y with | some u, some v => valN a (binA E op t x y u v) | _, _ => none

def opUnOp (ρ : Operand → Option AV) (op : UnOp) (x : Operand) : M AN := fun a =>
  match ρ x with | some u => valN a (unA op u) | none => none

def opConvert (ρ : Operand → Option AV) (s : TypeId) (d : TypeId) (x : Operand) : M AN := fun a =>
  match ρ x with | some u => valM ((aConvert E s d u) a) | none => none

def opMakeInterface (ρ : Operand → Option AV) (t : TypeId) (x : Operand) : M AN := fun a =>
  match ρ x, E.ti.get t with
    | some u, some i => match i.kind with | .ifc => none | .other => none | _ => valN a (some (.iface t u))
    | _, _ => none

def opMakeFunc (ρ : Operand → Option AV) (fn : Fn) (xs : Array Operand) (ys : Array Operand) : M AN := fun a =>
  match mapO ρ xs.toList, mapO ρ ys.toList with | some l, some m => valN a (some (.func fn l m)) | _, _ => none

def opMakeMap (ρ : Operand → Option AV) (r : Option Operand) : M AN := fun a =>
  match r with
    | none => valM (match aNew (.map [] 0) a with | some (β, a) => some (.map β, a) | none => none)
    | some _ => none

def opMakeSlice (ρ : Operand → Option AV) (t : TypeId) (x : Operand) (y : Operand) : M AN := fun a =>
  match ρ x, ρ y with | some (.int _ l), some (.int _ c) => valM ((aMakeSlice E t l c) a) | _, _ => none

def opSlice (ρ : Operand → Option AV) (t : TypeId) (x : Operand) (lo : Option Operand) (hi : Option Operand) (mx : Option Operand) : M AN := fun a =>
    match mx with
    | some _ => none
    | none =>
      match ρ x, (match lo with | none => some none | some y => (ρ y).map some), (match hi with | none => some none | some y => (ρ y).map some) with
      | some u, some l, some h => valM ((aSlice E t u l h) a)
      | _, _, _ => none

def opFieldAddr (ρ : Operand → Option AV) (t : TypeId) (x : Operand) (f : Nat) : M AN := fun a =>
  match ρ x with | some u => valN a (fieldAddrA E t u f) | none => none

def opField (ρ : Operand → Option AV) (t : TypeId) (x : Operand) (f : Nat) : M AN := fun a =>
  match ρ x with | some u => valN a (fieldA E t u f) | none => none

def opIndexAddr (ρ : Operand → Option AV) (t : TypeId) (x : Operand) (y : Operand) : M AN := fun a =>
  match ρ x, ρ y with | some u, some v => valN a (indexAddrA E t u v) | _, _ => none

def opIndex (ρ : Operand → Option AV) (t : TypeId) (x : Operand) (y : Operand) : M AN := fun a =>
  match ρ x, ρ y with | some u, some v => valN a (indexA E t u v) | _, _ => none

def opLookup (ρ : Operand → Option AV) (t : TypeId) (x : Operand) (y : Operand) (ok : Bool) : M AN := fun a =>
  match ρ x, ρ y with | some u, some v => valM ((aLookup E t u v ok) a) | _, _ => none

def opMapUpdate (ρ : Operand → Option AV) (t : TypeId) (x : Operand) (y : Operand) (z : Operand) : M AN := fun a =>
  match ρ x, ρ y, ρ z with | some u, some v, some w => unitM ((aUpdate E t u v w) a) | _, _, _ => none

def opInsert (ρ : Operand → Option AV) (t : TypeId) (x : Operand) (y : Operand) (z : Operand) : M AN := fun a =>
  match ρ x, ρ y, ρ z with | some u, some v, some w => unitM ((aUpdate E t u v w) a) | _, _, _ => none

def opRange (ρ : Operand → Option AV) (t : TypeId) (x : Operand) : M AN := fun a =>
  match ρ x with | some u => valM ((aRange E t u) a) | none => none

def opNext (ρ : Operand → Option AV) (x : Operand) (s : Bool) : M AN := fun a =>
  match ρ x with | some u => valM ((aNext u s) a) | none => none

def opExtract (ρ : Operand → Option AV) (x : Operand) (i : Nat) : M AN := fun a =>
  match ρ x with | some (.tuple vs) => valN a vs[i]? | _ => none

def opCall (ρ : Operand → Option AV) (c : Call) : M AN := fun a =>
    match mapO ρ c.args.toList with
    | none => none
    | some args =>
      match c.callee with
      | .builtin b => valM ((aBuiltin E b c.argTypes.toList args) a)
      | .value f => match ρ f with
        | some u => match calleeA u args with | some (k, l) => some (.enter k l, a) | none => none
        | none => none
      | .invoke r name => match ρ r with
        | some (.iface t v) => match methodA E t name with | some k => some (.enter k (v :: args), a) | none => none
        | _ => none

def opDefer (ρ : Operand → Option AV) (c : Call) : M AN := fun a =>
    match mapO ρ c.args.toList with
    | none => none
    | some args =>
      match c.callee with
      | .value f => match ρ f with
        | some u => match calleeA u args with | some (k, l) => some (.defer (.fn k l), a) | none => none
        | none => none
      | .builtin .delete => match c.argTypes.toList, args with
        | t :: _, [m, k] => some (.defer (.del t m k), a)
        | _, _ => none
      | _ => none

def opA (ρ : Operand → Option AV) (o : Oper) : M AN := fun a =>
  match o.op with
  | .move x | .assign x => opMove ρ x a
  | .pick c x y => opPick ρ c x y a
  | .alloc t => opAlloc E ρ t a
  | .box t x => opBox ρ t x a
  | .build t ps => opBuild E ρ t ps a
  | .buildSlice t n ps => opBuildSlice E ρ t n ps a
  | .load t x => opLoad E ρ t x a
  | .store t x y => opStore E ρ t x y a
  | .nilCheck x => opNilCheck ρ x a
  | .binOp op t x y _ => opBinOp E ρ op t x y a
  | .unOp op _ x => opUnOp ρ op x a
  | .convert s d x => opConvert E ρ s d x a
  | .makeInterface t x => opMakeInterface E ρ t x a
  | .makeFunc fn xs ys => opMakeFunc ρ fn xs ys a
  | .makeMap _ r => opMakeMap ρ r a
  | .makeSlice t x y => opMakeSlice E ρ t x y a
  | .slice t x lo hi mx => opSlice E ρ t x lo hi mx a
  | .fieldAddr t x f => opFieldAddr E ρ t x f a
  | .field t x f => opField E ρ t x f a
  | .indexAddr t x y => opIndexAddr E ρ t x y a
  | .index t x y => opIndex E ρ t x y a
  | .lookup t x y ok => opLookup E ρ t x y ok a
  | .mapUpdate t x y z => opMapUpdate E ρ t x y z a
  | .insert t x y z => opInsert E ρ t x y z a
  | .range t x => opRange E ρ t x a
  | .next x s => opNext ρ x s a
  | .extract x i => opExtract ρ x i a
  | .call c => opCall E ρ c a
  | .defer c => opDefer ρ c a
  | _ => none

/-! ### Frames, regions, code, calls -/
structure Fr where
  tm : T AV
  sz : Nat
  df : List AD

def Fr.get (fr : Fr) (t : Nat) : AV := match fr.tm.get t with | some v => v | none => .tuple []
def Fr.put (fr : Fr) (d : Option Tmp) (v : AV) : Fr :=
  match d with
  | none => fr
  | some d => bif d.blt fr.sz then { fr with tm := fr.tm.set d v } else fr
def Fr.eval (fr : Fr) : Operand → Option AV
  | .tmp t => some (fr.get t)
  | .const v => ofC v
  | .global g => match E.gl.get g with | some _ => some (.ptr g 0) | none => none
  | .func f => some (.func (.func f) [] [])

/-- Is the operation's guard met? -/
def wantedA (fr : Fr) (ops : Array Oper) (o : Oper) : Bool :=
  match o.guard with
  | none => true
  | some (j, want) =>
    match ops.toList[j]? with
    | some x => match x.dst with
      | some t => match fr.get t with | .bool b => b == want | _ => false
      | none => false
    | none => false

/-- May an operation read or write the heap? -/
def touches : Op → Bool
  | .move _ | .assign _ | .pick _ _ _ | .build _ _ | .nilCheck _ | .binOp _ _ _ _ _ | .unOp _ _ _ | .makeInterface _ _ | .makeFunc _ _ _
  | .fieldAddr _ _ _ | .field _ _ _ | .indexAddr _ _ _ | .index _ _ _ | .extract _ _ | .defer _ => false
  | _ => true

/-- Which operations come ahead of each, whatever order is drawn. -/
def befGo (acc : List Nat) : List Oper → List Nat
  | [] => acc
  | o :: os => befGo (acc ++ [o.after.toList.foldl (fun s e => bif Region.binds .any e then s ||| (1 <<< e.on) ||| (acc[e.on]?).getD 0 else s) 0]) os
def befA (ops : List Oper) : List Nat := befGo [] ops

/-- Every operation that touches the heap stands in a fixed order against operation j, or is an earlier one that may as well come later. -/
def syncsGo (lo : Oper → Bool) (j bj : Nat) : List Oper → List Nat → Nat → Bool
  | o :: os, b :: bs, i => (!touches o.op || i.beq j || (i.blt j && (bj.testBit i || lo o)) || (j.blt i && b.testBit j)) && syncsGo lo j bj os bs (i + 1)
  | _, _, _ => true
def syncs (lo : Oper → Bool) (ops : List Oper) (bf : List Nat) (j : Nat) : Bool := syncsGo lo j ((bf[j]?).getD 0) ops bf 0

/-- The same value, as far as n levels show it. -/
def AV.same : Nat → AV → AV → Bool
  | 0, _, _ => false
  | n + 1, x, y => match x, y with
    | .bool a, .bool b => a == b
    | .int k a, .int k' b => k == k' && a == b
    | .str a, .str b => a.eq b
    | .nilp, .nilp => true
    | .ptr β i, .ptr β' i' => β.beq β' && i.beq i'
    | .nils, .nils => true
    | .slice β i m c s, .slice β' i' m' c' s' => β.beq β' && i.beq i' && m.beq m' && c == c' && s.beq s'
    | .nilm, .nilm => true
    | .map β, .map β' => β.beq β'
    | .nilf, .nilf => true
    | .nili, .nili => true
    | .iface t v, .iface t' v' => t == t' && AV.same n v v'
    | .agg cs, .agg ds => cs.length.beq ds.length && (cs.zip ds).all fun p => AV.same n p.1 p.2
    | .tuple [], .tuple [] => true
    | _, _ => false

abbrev CallK := FuncId → List AV → M AV

def contA (callK : CallK) (fr : Fr) (d : Option Tmp) (r : AN) : M Fr := fun a =>
  match r with
  | .val v => some (fr.put d v, a)
  | .skip => some (fr.put d (.tuple []), a)
  | .defer x => some (({ fr with df := x :: fr.df }).put d (.tuple []), a)
  | .enter f l => match callK f l a with
    | some (v, a) => some (fr.put d v, a)
    | none => none

/-- One operation, its guard asked. -/
def stepA (callK : CallK) (ops : Array Oper) (o : Oper) (fr : Fr) : M Fr := fun a =>
  match wantedA fr ops o with
  | true => match opA E (fr.eval E) o a with
    | some (r, a) => contA callK fr o.dst r a
    | none => none
  | false => some (fr.put o.dst (.tuple []), a)

def opsA (callK : CallK) (ops : Array Oper) (l : List Oper) : Fr → M Fr :=
  List.rec (fun fr a => some (fr, a)) (fun o _ ih fr a => match stepA E callK ops o fr a with
    | some (fr, a) => ih fr a
    | none => none) l
theorem opsA_nil (callK : CallK) (ops : Array Oper) (fr : Fr) (a : AS) : opsA E callK ops [] fr a = some (fr, a) := rfl
theorem opsA_cons (callK : CallK) (ops : Array Oper) (o : Oper) (l : List Oper) (fr : Fr) (a : AS) : opsA E callK ops (o :: l) fr a = match stepA E callK ops o fr a with
    | some (fr, a) => opsA E callK ops l fr a
    | none => none := rfl

/-- One operation of a region whose order is drawn: the value that it leaves. -/
def stepV (callK : CallK) (ops : Array Oper) (o : Oper) (fr : Fr) : M AV := fun a =>
  match wantedA fr ops o with
  | true => match opA E (fr.eval E) o a with
    | some (.val v, a) => some (v, a)
    | some (.skip, a) => some (.tuple [], a)
    | some (.enter f l, a) => callK f l a
    | _ => none
  | false => some (.tuple [], a)

/-- Operations that only read. -/
def mayWait : Op → Bool
  | .load _ _ => true
  | .call c => match c.callee with
    | .builtin .len => true
    | _ => false
  | _ => false

/-- One that only reads, and gives behind a later operation what it gave: it may come behind it. -/
def looseB (callK : CallK) (ops : Array Oper) (fr : Fr) (a : AS) (o : Oper) : Bool :=
  bif mayWait o.op then
    match o.dst with
    | some d => match stepV E callK ops o fr a with
      | some (v, _) => d.blt fr.sz && !(o.looksAt ops).contains d && AV.same 4 v (fr.get d)
      | none => false
    | none => false
  else false

/-- A region whose order is drawn: an operation that turns what was there must be in a fixed order against all that touch the heap. -/
def drawA (callK : CallK) (ops : Array Oper) (l : List Oper) : Nat → Fr → M Fr :=
  List.rec (fun _ fr a => some (fr, a)) (fun o _ ih j fr a =>
    match stepV E callK ops o fr { a with mu := a.nx } with
    | some (v, a') =>
      bif a.nx.ble a'.mu || syncs (looseB E callK ops (fr.put o.dst v) { a' with mu := a'.nx }) ops.toList (befA ops.toList) j then
        ih (j + 1) (fr.put o.dst v) { a' with mu := min a.mu a'.mu }
      else none
    | none => none) l
theorem drawA_nil (callK : CallK) (ops : Array Oper) (j : Nat) (fr : Fr) (a : AS) : drawA E callK ops [] j fr a = some (fr, a) := rfl
theorem drawA_cons (callK : CallK) (ops : Array Oper) (o : Oper) (l : List Oper) (j : Nat) (fr : Fr) (a : AS) : drawA E callK ops (o :: l) j fr a =
    match stepV E callK ops o fr { a with mu := a.nx } with
    | some (v, a') =>
      bif a.nx.ble a'.mu || syncs (looseB E callK ops (fr.put o.dst v) { a' with mu := a'.nx }) ops.toList (befA ops.toList) j then
        drawA E callK ops l (j + 1) (fr.put o.dst v) { a' with mu := min a.mu a'.mu }
      else none
    | none => none := rfl

inductive AX where
  | normal
  | exit (id : Nat)
  | ret

def loopA (body : Fr → M (AX × Fr)) (n : Nat) : Fr → M (AX × Fr) :=
  Nat.rec (fun _ _ => none) (fun _ ih fr a => match body fr a with
    | some ((.normal, fr), a) => ih fr a
    | r => r) n
theorem loopA_succ (body : Fr → M (AX × Fr)) (n : Nat) (fr : Fr) (a : AS) : loopA body (n + 1) fr a = match body fr a with
    | some ((.normal, fr), a) => loopA body n fr a
    | r => r := rfl

/-- Code: loops run n rounds at most. -/
def codeA (callK : CallK) (n : Nat) (c : Code) : Fr → M (AX × Fr) :=
  Code.rec
    (fun fr a => some ((.normal, fr), a))
    (fun _ ops draw fr a => match (bif draw then drawA E callK ops ops.toList 0 fr a else opsA E callK ops ops.toList fr a) with
      | some (fr, a) => some ((.normal, fr), a)
      | none => none)
    (fun _ _ x y fr a => match x fr a with
      | some ((.normal, fr), a) => y fr a
      | r => r)
    (fun c _ _ x y fr a => match fr.eval E c with
      | some (.bool b) => cond b (x fr a) (y fr a)
      | _ => none)
    (fun id _ x fr a => match x fr a with
      | some ((.exit id', fr), a) => bif id'.beq id then some ((.normal, fr), a) else some ((.exit id', fr), a)
      | r => r)
    (fun _ x => loopA x n)
    (fun _ _ _ _ _ _ _ _ => none)
    (fun id fr a => some ((.exit id, fr), a))
    (fun _ _ _ _ => none)
    (fun _ fr a => some ((.normal, fr), a))
    (fun _ _ _ => none)
    (fun fr a => some ((.ret, fr), a))
    (fun _ _ _ => none) c

def resultA (fr : Fr) : ResultVar → M AV
  | .tmp t => fun a => some (fr.get t, a)
  | .cell s t => fun a => match fr.get s with | .ptr β i => aLoadVar E t β i a | _ => none
def resultsA (fr : Fr) (l : List ResultVar) : M (List AV) :=
  List.rec (fun a => some ([], a)) (fun r _ ih a => match resultA E fr r a with
    | some (v, a) => match ih a with
      | some (vs, a) => some (v :: vs, a)
      | none => none
    | none => none) l

def defersA (callK : CallK) : List AD → M Unit
  | [] => fun a => some ((), a)
  | .fn f l :: ds => fun a => match callK f l a with
    | some (_, a) => defersA callK ds a
    | none => none
  | .del t m k :: ds => fun a => match aDelete E t m k a with
    | some (_, a) => defersA callK ds a
    | none => none

def setAll (t : T AV) (i : Nat) (l : List AV) : T AV :=
  List.rec (fun t _ => t) (fun v _ ih t i => ih (t.set i v) (i + 1)) l t i

def findB (c : Nat) (n : Nat) : Nat → Nat → Option Nat :=
  Nat.rec (fun _ _ => none) (fun _ ih v i => cond ((v % 256).beq c) (some i) (ih (v / 256) (i + 1))) n
def countB (c : Nat) (n : Nat) : Nat → Nat → Nat :=
  Nat.rec (fun _ k => k) (fun _ ih v k => ih (v / 256) (cond ((v % 256).beq c) (k + 1) k)) n

/-- An integer cell, turned. -/
def aTurn (β i : Nat) (k : IntKind) (f : Int → Option (Int × AV)) : M AV := fun a =>
  match aLoad1 β i a with
  | some (.int k' x, _) => bif k == k' then
      match f x with
      | some (y, r) => match aStoreN β i [.int k y] a with
        | some (_, a) => some (r, a)
        | none => none
      | none => none
    else none
  | _ => none

def extA (x : Ext) (args : List AV) : M AV := fun a =>
  match x, args with
  | .noop, [] => some (.tuple [], a)
  | .noop1, [.ptr _ _] => some (.tuple [], a)
  | .noEscape, [p] => some (p, a)
  | .indexByteString, [.str s, .int .u8 c] => match findB (c.toNat % 256) s.len s.val 0 with
    | some i => some (.int .i64 i, a)
    | none => some (.int .i64 (-1), a)
  | .countString, [.str s, .int .u8 c] => some (.int .i64 (countB (c.toNat % 256) s.len s.val 0), a)
  | .makeNoZero e, [.int .i64 n] => if 0 ≤ n ∧ n ≤ 1099511627776 then
      match aRow [] e a with
      | some (β, a) => some (.slice β 0 n.toNat none 1, a)
      | none => none
    else none
  | .addI64, [.ptr β i, .int _ y] => aTurn β i .i64 (fun x => some (IntKind.i64.wrap (x + y), .int .i64 (IntKind.i64.wrap (x + y)))) a
  | .addI32, [.ptr β i, .int _ y] => aTurn β i .i32 (fun x => some (IntKind.i32.wrap (x + y), .int .i32 (IntKind.i32.wrap (x + y)))) a
  | .loadU32, [.ptr β i] => match aLoad1 β i a with
    | some (.int .u32 x, _) => some (.int .u32 x, a)
    | _ => none
  | .storeU32, [.ptr β i, .int k y] => match aStoreN β i [.int k y] a with
    | some (_, a) => some (.tuple [], a)
    | none => none
  | .casI32, [.ptr β i, .int _ x, .int k' y] => match aLoad1 β i a with
    | some (.int .i32 z, _) => bif z == x then (match aStoreN β i [.int k' y] a with
        | some (_, a) => some (.bool true, a)
        | none => none) else none
    | _ => none
  | _, _ => none

/-- A function's body, its deferred calls, its results. -/
def bodyA (callK : CallK) (n : Nat) (fn : Func) (c : Code) (args : List AV) : M AV := fun a =>
  match codeA E callK n c { tm := setAll .e 0 args, sz := fn.ntmps, df := [] } a with
  | some ((.exit _, _), _) => none
  | some ((_, fr), a) =>
    match defersA E callK fr.df a with
    | some (_, a) =>
      match resultsA E fr fn.results.toList a with
      | some ([v], a) => some (v, a)
      | some (vs, a) => some (.tuple vs, a)
      | none => none
    | none => none
  | none => none

/-- What a call of function f comes to: d bounds the depth of calls, n the rounds of each loop. -/
def callA (n d : Nat) : CallK :=
  Nat.rec (fun _ _ _ => none) (fun _ ih f args a =>
    match E.xt.get f with
    | some x => extA x args a
    | none =>
      match E.ft.get f with
      | none => none
      | some fn =>
        match fn.body with
        | none => none
        | some c => bif args.length.ble fn.ntmps then bodyA E ih n fn c args a else none) d

end Go.Proofs.YtmhajfnfjjbflaaGreatDoor.Ev
end

/- The relation between the evaluator's state and the model's world, and what a step may turn. -/
namespace Go.Proofs.YtmhajfnfjjbflaaGreatDoor.Ev
open Go.RowKit (Below)

/-- Where a block of the evaluator's lies: a block of the world's, the cell at which it begins, the cells from there to the block's end. -/
structure Pl where
  b : Nat
  o : Nat
  lim : Nat
abbrev PM := Nat → Option Pl

inductive VR (π : PM) : AV → Value → Prop where
  | bool (b : Bool) : VR π (.bool b) (.bool b)
  | int (k : IntKind) (n : Int) : VR π (.int k n) (.int k n)
  | str (s : ByteArray) : VR π (.str (ofB s)) (.string s)
  | nilp : VR π .nilp (.pointer none)
  | ptr (β i : Nat) (p : Pl) (h : π β = some p) : VR π (.ptr β i) (.pointer (some ⟨p.b, p.o + i, none⟩))
  | nils : VR π .nils (.slice none 0 0)
  | slice (β i n : Nat) (cap : Option Nat) (sz c : Nat) (p : Pl) (h : π β = some p) (hn : n ≤ c) (hc : i + c * sz ≤ p.lim) (hk : ∀ k, cap = some k → c = k) :
      VR π (.slice β i n cap sz) (.slice (some ⟨p.b, p.o + i, none⟩) n c)
  | slice0 (β i : Nat) (sz : Nat) (p : Pl) (h : π β = some p) (a : Addr) : VR π (.slice β i 0 none sz) (.slice (some a) 0 0)
  | nilm : VR π .nilm (.map none)
  | map (β : Nat) (p : Pl) (h : π β = some p) : VR π (.map β) (.map (some p.b))
  | nilf : VR π .nilf .nilFunc
  | func (fn : Fn) (xs ys : List AV) (xs' ys' : Array Value) (hx : xs.length = xs'.size) (hy : ys.length = ys'.size)
      (h1 : ∀ (i : Nat) (v : AV) (v' : Value), xs[i]? = some v → xs'[i]? = some v' → VR π v v') (h2 : ∀ (i : Nat) (v : AV) (v' : Value), ys[i]? = some v → ys'[i]? = some v' → VR π v v') :
      VR π (.func fn xs ys) (.func fn xs' ys')
  | nili : VR π .nili .nilIface
  | iface (t : TypeId) (v : AV) (v' : Value) (h : VR π v v') : VR π (.iface t v) (.iface t v')
  | agg (cs : List AV) (cs' : Array Value) (hl : cs.length = cs'.size) (h : ∀ (i : Nat) (v : AV) (v' : Value), cs[i]? = some v → cs'[i]? = some v' → VR π v v') : VR π (.agg cs) (.agg cs')
  | tuple (cs : List AV) (cs' : Array Value) (hl : cs.length = cs'.size) (h : ∀ (i : Nat) (v : AV) (v' : Value), cs[i]? = some v → cs'[i]? = some v' → VR π v v') : VR π (.tuple cs) (.tuple cs')

/-- Lists of values. -/
def LR (π : PM) (xs : List AV) (ys : List Value) : Prop := xs.length = ys.length ∧ ∀ (i : Nat) (v : AV) (v' : Value), xs[i]? = some v → ys[i]? = some v' → VR π v v'

def PM.le (π π' : PM) : Prop := ∀ β p, π β = some p → π' β = some p

theorem VR.mono {π π' : PM} (hp : π.le π') {v : AV} {v' : Value} (h : VR π v v') : VR π' v v' := by
  induction h with
  | bool b => exact .bool b
  | int k n => exact .int k n
  | str s => exact .str s
  | nilp => exact .nilp
  | ptr β i p h => exact .ptr β i p (hp _ _ h)
  | nils => exact .nils
  | slice β i n cap sz c p h hn hc hk => exact .slice β i n cap sz c p (hp _ _ h) hn hc hk
  | slice0 β i sz p h a => exact .slice0 β i sz p (hp _ _ h) a
  | nilm => exact .nilm
  | map β p h => exact .map β p (hp _ _ h)
  | nilf => exact .nilf
  | func fn xs ys xs' ys' hx hy _ _ ih1 ih2 => exact .func fn xs ys xs' ys' hx hy ih1 ih2
  | nili => exact .nili
  | iface t v v' _ ih => exact .iface t v v' ih
  | agg cs cs' hl _ ih => exact .agg cs cs' hl ih
  | tuple cs cs' hl _ ih => exact .tuple cs cs' hl ih

theorem LR.mono {π π' : PM} (hp : π.le π') {xs : List AV} {ys : List Value} (h : LR π xs ys) : LR π' xs ys := ⟨h.1, fun i v v' a b => (h.2 i v v' a b).mono hp⟩
theorem LR.nil {π : PM} : LR π [] [] := ⟨rfl, fun i v v' h => by simp at h⟩
theorem LR.cons {π : PM} {x : AV} {y : Value} {xs : List AV} {ys : List Value} (h : VR π x y) (hs : LR π xs ys) : LR π (x :: xs) (y :: ys) :=
  ⟨by simp [hs.1], fun i v v' a b => by
    cases i with
    | zero => simp at a b; subst a; subst b; exact h
    | succ i => simp at a b; exact hs.2 i v v' a b⟩
theorem LR.head {π : PM} {x : AV} {y : Value} {xs : List AV} {ys : List Value} (h : LR π (x :: xs) (y :: ys)) : VR π x y := h.2 0 x y rfl rfl
theorem LR.tail {π : PM} {x : AV} {y : Value} {xs : List AV} {ys : List Value} (h : LR π (x :: xs) (y :: ys)) : LR π xs ys :=
  ⟨by simpa using h.1, fun i v v' a b => h.2 (i + 1) v v' (by simpa using a) (by simpa using b)⟩
theorem LR.app {π : PM} {xs us : List AV} {ys vs : List Value} (h : LR π xs ys) (k : LR π us vs) : LR π (xs ++ us) (ys ++ vs) := by
  refine ⟨by simp [h.1, k.1], fun i v v' a b => ?_⟩
  rw [List.getElem?_append] at a b
  rw [← h.1] at b
  split at a
  · rename_i hi; rw [if_pos hi] at b; exact h.2 i v v' a b
  · rename_i hi; rw [if_neg hi] at b; exact k.2 _ v v' a b
theorem LR.drop {π : PM} {xs : List AV} {ys : List Value} (h : LR π xs ys) (n : Nat) : LR π (xs.drop n) (ys.drop n) :=
  ⟨by simp [h.1], fun i v v' a b => h.2 (n + i) v v' (by simpa using a) (by simpa using b)⟩
theorem LR.take {π : PM} {xs : List AV} {ys : List Value} (h : LR π xs ys) (n : Nat) : LR π (xs.take n) (ys.take n) :=
  ⟨by simp [h.1], fun i v v' a b => by
    rw [List.getElem?_take] at a b
    split at a
    · rename_i hi; rw [if_pos hi] at b; exact h.2 i v v' a b
    · simp at a⟩
theorem LR.get {π : PM} {xs : List AV} {ys : List Value} (h : LR π xs ys) {i : Nat} {v : AV} (hv : xs[i]? = some v) : ∃ v', ys[i]? = some v' ∧ VR π v v' := by
  have hi : i < xs.length := (List.getElem?_eq_some_iff.1 hv).1
  have hj : i < ys.length := by rw [← h.1]; exact hi
  exact ⟨ys[i], List.getElem?_eq_getElem hj, h.2 i v _ hv (List.getElem?_eq_getElem hj)⟩

noncomputable def root (a : AS) (β : Nat) : Nat := match a.hp.get β with | some (.cells _ _ f) => f | _ => β

structure R (a : AS) (π : PM) (w : World) : Prop where
  wf : ∀ f, a.nx ≤ f → a.fam.get f = none
  dom : ∀ β p, π β = some p → β < a.nx
  has : ∀ β p, π β = some p → ∃ o, a.hp.get β = some o
  cells : ∀ β p c e f, π β = some p → a.hp.get β = some (.cells c e f) →
    f ≤ β ∧ β ≤ (famOf a f).leaf ∧ c.length ≤ p.lim ∧ ∃ cc lo hi, w.heap[p.b]? = some (.cells cc e (lo, hi)) ∧ cc.size = p.o + p.lim ∧
      ((famOf a f).ml ≤ β → ∀ (i : Nat) v, c[i]? = some v → ∃ v', cc[p.o + i]? = some v' ∧ VR π v v') ∧
      ((famOf a f).fz = false → lo = hi ∨ ((famOf a f).sg = true ∧ cc.size ≤ lo)) ∧
      ((famOf a f).fz = true → (famOf a f).leaf = β → lo = hi ∨ hi ≤ p.o + c.length)
  maps : ∀ β p es cl, π β = some p → a.hp.get β = some (.map es cl) →
    ∃ es', w.heap[p.b]? = some (.map es' cl) ∧ es.length = es'.size ∧
      ∀ (i : Nat) (x : AE) (x' : MapEntry), es[i]? = some x → es'[i]? = some x' → ∃ k, x'.key = .string k ∧ x.key = ofB k ∧ VR π x.val x'.val ∧ x'.born = x.born
  siter : ∀ β p s pos, π β = some p → a.hp.get β = some (.siter s pos) → p.o = 0 ∧ ∃ b, s = ofB b ∧ w.heap[p.b]? = some (.stringIter b pos)
  sep : ∀ β₁ β₂ p₁ p₂, π β₁ = some p₁ → π β₂ = some p₂ → p₁.b = p₂.b → root a β₁ = root a β₂
  chain : ∀ β₁ β₂ p₁ p₂ c₁ c₂ e₁ e₂ f, π β₁ = some p₁ → π β₂ = some p₂ → p₁.b = p₂.b → a.hp.get β₁ = some (.cells c₁ e₁ f) → a.hp.get β₂ = some (.cells c₂ e₂ f) →
    β₁ < β₂ → (famOf a f).ml ≤ β₁ → p₁.o + c₁.length ≤ p₂.o + c₂.length
  org : ∀ β p c e, π β = some p → a.hp.get β = some (.cells c e β) → p.o = 0

/-- One step: the state goes from a to a', the world from w to w'. -/
structure Stp (a : AS) (π : PM) (w : World) (a' : AS) (π' : PM) (w' : World) : Prop where
  r : R a' π' w'
  le : π.le π'
  new : ∀ β p, π' β = some p → π β = none → a.nx ≤ β ∧ (w.heap.size ≤ p.b ∨ ∃ β₀ p₀, π β₀ = some p₀ ∧ p₀.b = p.b ∧ a'.mu ≤ β₀)
  size : w.heap.size ≤ w'.heap.size
  keep : ∀ b, b < w.heap.size → (∀ β p, π β = some p → p.b = b → β < a'.mu) → w'.heap[b]? = w.heap[b]?
  os : w'.os = w.os
  tape : w'.tape = w.tape
  output : w'.output = w.output
  nx : a.nx ≤ a'.nx
  mu : a'.mu ≤ a.mu

theorem PM.le_refl (π : PM) : π.le π := fun _ _ h => h
theorem PM.le_trans {a b c : PM} (h : a.le b) (k : b.le c) : a.le c := fun β p x => k _ _ (h _ _ x)

theorem Stp.refl {a : AS} {π : PM} {w : World} (h : R a π w) : Stp a π w a π w :=
  ⟨h, PM.le_refl π, fun β p h1 h2 => by rw [h1] at h2; simp at h2, Nat.le_refl _, fun _ _ _ => rfl, rfl, rfl, rfl, Nat.le_refl _, Nat.le_refl _⟩

theorem Stp.trans {a a₁ a₂ : AS} {π π₁ π₂ : PM} {w w₁ w₂ : World} (h : Stp a π w a₁ π₁ w₁) (k : Stp a₁ π₁ w₁ a₂ π₂ w₂) : Stp a π w a₂ π₂ w₂ where
  r := k.r
  le := PM.le_trans h.le k.le
  new := fun β p h2 h0 => by
    cases h1 : π₁ β with
    | some q =>
      have := k.le _ _ h1
      rw [h2] at this
      obtain rfl : p = q := by simpa using this
      obtain ⟨x, y⟩ := h.new β p h1 h0
      refine ⟨x, y.imp_right ?_⟩
      rintro ⟨β₀, p₀, u, v, z⟩
      exact ⟨β₀, p₀, u, v, Nat.le_trans k.mu z⟩
    | none =>
      obtain ⟨x, y⟩ := k.new β p h2 h1
      refine ⟨Nat.le_trans h.nx x, ?_⟩
      rcases y with y | ⟨β₀, p₀, u, v, z⟩
      · exact .inl (Nat.le_trans h.size y)
      · cases h3 : π β₀ with
        | some q =>
          have := h.le _ _ h3
          rw [u] at this
          obtain rfl : p₀ = q := by simpa using this
          exact .inr ⟨β₀, p₀, h3, v, z⟩
        | none =>
          obtain ⟨_, y⟩ := h.new β₀ p₀ u h3
          rcases y with y | ⟨β₁, p₁, u₁, v₁, z₁⟩
          · exact .inl (by rw [← v]; exact y)
          · exact .inr ⟨β₁, p₁, u₁, v₁.trans v, Nat.le_trans k.mu z₁⟩
  size := Nat.le_trans h.size k.size
  keep := fun b hb hm => by
    have h1 := h.keep b hb fun β p x y => Nat.lt_of_lt_of_le (hm β p x y) k.mu
    rw [← h1]
    refine k.keep b (Nat.lt_of_lt_of_le hb h.size) fun β p x y => ?_
    cases h3 : π β with
    | some q =>
      have := h.le _ _ h3
      rw [x] at this
      obtain rfl : p = q := by simpa using this
      exact hm β p h3 y
    | none =>
      obtain ⟨_, z⟩ := h.new β p x h3
      rcases z with z | ⟨β₁, p₁, u₁, v₁, z₁⟩
      · omega
      · have := hm β₁ p₁ u₁ (v₁.trans y)
        have := k.mu
        omega
  os := k.os.trans h.os
  tape := k.tape.trans h.tape
  output := k.output.trans h.output
  nx := Nat.le_trans h.nx k.nx
  mu := Nat.le_trans k.mu h.mu

/-- What the evaluator itself leaves of its own blocks. -/
structure AF (a a' : AS) : Prop where
  nx : a.nx ≤ a'.nx
  mu : a'.mu ≤ a.mu
  hp : ∀ β, β < a.nx → β < a'.mu → a'.hp.get β = a.hp.get β
  fam : ∀ f, f < a.nx → f < a'.mu → a'.fam.get f = a.fam.get f
  wf : (∀ f, a.nx ≤ f → a.fam.get f = none) → ∀ f, a'.nx ≤ f → a'.fam.get f = none

theorem AF.refl (a : AS) : AF a a := ⟨Nat.le_refl _, Nat.le_refl _, fun _ _ _ => rfl, fun _ _ _ => rfl, fun h => h⟩
theorem AF.trans {a b c : AS} (h : AF a b) (k : AF b c) : AF a c :=
  ⟨Nat.le_trans h.nx k.nx, Nat.le_trans k.mu h.mu,
    fun β x y => (k.hp β (Nat.lt_of_lt_of_le x h.nx) y).trans (h.hp β x (Nat.lt_of_lt_of_le y k.mu)),
    fun β x y => (k.fam β (Nat.lt_of_lt_of_le x h.nx) y).trans (h.fam β x (Nat.lt_of_lt_of_le y k.mu)), fun x => k.wf (h.wf x)⟩

end Go.Proofs.YtmhajfnfjjbflaaGreatDoor.Ev

/- The heap's primitive steps, each against the world. -/
namespace Go.Proofs.YtmhajfnfjjbflaaGreatDoor.Ev

theorem add_plain (b o j : Nat) : (⟨b, o, none⟩ : Addr).add j = ⟨b, o + j, none⟩ := by unfold Addr.add; split <;> simp_all
theorem cell_of {w : World} {b : Nat} {cc : Array Value} {e : TypeId} {fz : Nat × Nat} (h : w.heap[b]? = some (.cells cc e fz)) (k : Nat) : w.cell? ⟨b, k, none⟩ = cc[k]? := by
  simp [World.cell?, h]
theorem frozen_of {w : World} {b : Nat} {cc : Array Value} {e : TypeId} {lo hi : Nat} (h : w.heap[b]? = some (.cells cc e (lo, hi))) (k : Nat) : w.frozen? ⟨b, k, none⟩ = (decide (lo ≤ k) && decide (k < hi)) := by
  simp [World.frozen?, h]

def PM.upd (π : PM) (β : Nat) (p : Pl) : PM := fun x => if x = β then some p else π x
theorem PM.upd_same (π : PM) (β : Nat) (p : Pl) : π.upd β p β = some p := by simp [PM.upd]
theorem PM.upd_other (π : PM) {β x : Nat} (p : Pl) (h : x ≠ β) : π.upd β p x = π x := by simp [PM.upd, h]
theorem PM.le_upd {π : PM} {β : Nat} (p : Pl) (h : π β = none) : π.le (π.upd β p) := by
  intro x q hx
  have : x ≠ β := by intro e; subst e; rw [h] at hx; simp at hx
  rw [PM.upd_other _ _ this]; exact hx

theorem R.fresh {a : AS} {π : PM} {w : World} (h : R a π w) : π a.nx = none := by
  cases hp : π a.nx with
  | none => rfl
  | some p => have := h.dom _ _ hp; omega

/-- Every mapped block is one that the evaluator has; its block of the world's is there. -/
theorem R.inb {a : AS} {π : PM} {w : World} (h : R a π w) {β : Nat} {p : Pl} (hp : π β = some p) : p.b < w.heap.size := by
  obtain ⟨o, ho⟩ := h.has β p hp
  cases o with
  | cells c e f =>
    obtain ⟨_, _, _, cc, lo, hi, hg, _⟩ := h.cells β p c e f hp ho
    exact (Array.getElem?_eq_some_iff.1 hg).1
  | map es cl =>
    obtain ⟨es', hg, _⟩ := h.maps β p es cl hp ho
    exact (Array.getElem?_eq_some_iff.1 hg).1
  | siter s pos =>
    obtain ⟨_, b, _, hg⟩ := h.siter β p s pos hp ho
    exact (Array.getElem?_eq_some_iff.1 hg).1

/-- The world has turned elsewhere alone. -/
theorem R.frame {a : AS} {π : PM} {w w' : World} (h : R a π w) (hf : ∀ β p, π β = some p → w'.heap[p.b]? = w.heap[p.b]?) : R a π w' where
  wf := h.wf
  dom := h.dom
  has := h.has
  cells := fun β p c e f hp hg => by rw [hf β p hp]; exact h.cells β p c e f hp hg
  maps := fun β p es cl hp hg => by rw [hf β p hp]; exact h.maps β p es cl hp hg
  siter := fun β p s pos hp hg => by rw [hf β p hp]; exact h.siter β p s pos hp hg
  sep := h.sep
  chain := h.chain
  org := h.org


/-- What a new block of the evaluator's says of the world's new block. -/
def NewRep (a' : AS) (π' : PM) (n : Nat) (b : AB) (p : Pl) (obj : Obj) : Prop :=
  match b with
  | .cells c e f => f = n ∧ c.length ≤ p.lim ∧ ∃ cc lo hi, obj = .cells cc e (lo, hi) ∧ cc.size = p.o + p.lim ∧
      (∀ (i : Nat) (v : AV), c[i]? = some v → ∃ v', cc[p.o + i]? = some v' ∧ VR π' v v') ∧ (lo = hi ∨ ((famOf a' n).sg = true ∧ cc.size ≤ lo))
  | .map es cl => ∃ es', obj = .map es' cl ∧ es.length = es'.size ∧
      ∀ (i : Nat) (x : AE) (x' : MapEntry), es[i]? = some x → es'[i]? = some x' → ∃ k, x'.key = .string k ∧ x.key = ofB k ∧ VR π' x.val x'.val ∧ x'.born = x.born
  | .siter s pos => p.o = 0 ∧ ∃ b, s = ofB b ∧ obj = .stringIter b pos

theorem famOf_eq {a a' : AS} {f : Nat} (h : a'.fam.get f = a.fam.get f) : famOf a' f = famOf a f := by unfold famOf; rw [h]
theorem famOf_none {a : AS} {f : Nat} (h : a.fam.get f = none) : famOf a f = ⟨f, 0, false, false⟩ := by unfold famOf; rw [h]

theorem stp_new {a a' : AS} {π : PM} {w w' : World} {b : AB} {p : Pl} {obj : Obj} (h : R a π w)
    (hh : w'.heap = w.heap.push obj) (hos : w'.os = w.os) (htp : w'.tape = w.tape) (hout : w'.output = w.output) (hb : p.b = w.heap.size)
    (hhp : a'.hp = a.hp.set a.nx b) (hnx : a'.nx = a.nx + 1) (hmu : a'.mu = a.mu) (hfam : ∀ f, f ≠ a.nx → a'.fam.get f = a.fam.get f)
    (hF : (famOf a' a.nx).leaf = a.nx ∧ (famOf a' a.nx).fz = false)
    (rep : NewRep a' (π.upd a.nx p) a.nx b p obj) (ho : p.o = 0 := by first | rfl | assumption) : Stp a π w a' (π.upd a.nx p) w' := by
  have hle := PM.le_upd p h.fresh
  have hget : ∀ x, a'.hp.get x = if x = a.nx then some b else a.hp.get x := fun x => by rw [hhp, T.get_set]
  have hold : ∀ k, k < w.heap.size → w'.heap[k]? = w.heap[k]? := fun k hk => by rw [hh, Array.getElem?_push, if_neg (by omega)]
  have hnew : w'.heap[w.heap.size]? = some obj := by rw [hh]; simp
  have hroot : ∀ x, π x ≠ none → root a' x = root a x := fun x hx => by
    have : x ≠ a.nx := fun e => hx (by rw [e]; exact h.fresh)
    unfold root; rw [hget, if_neg this]
  have hcase : ∀ x q, π.upd a.nx p x = some q → (x = a.nx ∧ q = p) ∨ (x ≠ a.nx ∧ π x = some q) := fun x q hx => by
    by_cases e : x = a.nx
    · subst e; rw [PM.upd_same] at hx; exact .inl ⟨rfl, by simpa using hx.symm⟩
    · rw [PM.upd_other _ _ e] at hx; exact .inr ⟨e, hx⟩
  have hfne : ∀ x q c e f, π x = some q → a.hp.get x = some (.cells c e f) → f ≠ a.nx := fun x q c e f hx hg => by
    have := (h.cells x q c e f hx hg).1
    have := h.dom x q hx
    omega
  refine ⟨⟨?_, ?_, ?_, ?_, ?_, ?_, ?_, ?_, ?_⟩, hle, ?_, by rw [hh]; simp, fun k hk _ => hold k hk, hos, htp, hout, by omega, by omega⟩
  · intro f hf
    rw [hfam f (by omega)]; exact h.wf f (by omega)
  · intro x q hx
    rcases hcase x q hx with ⟨rfl, rfl⟩ | ⟨_, hx⟩
    · omega
    · have := h.dom x q hx; omega
  · intro x q hx
    rw [hget]
    rcases hcase x q hx with ⟨rfl, rfl⟩ | ⟨e, hx⟩
    · exact ⟨b, by simp⟩
    · rw [if_neg e]; exact h.has x q hx
  · intro x q c e f hx hg
    rw [hget] at hg
    rcases hcase x q hx with ⟨rfl, rfl⟩ | ⟨e', hx⟩
    · rw [if_pos rfl] at hg
      obtain rfl : b = .cells c e f := by simpa using hg
      obtain ⟨rfl, h2, cc, lo, hi, rfl, h4, h5, h6⟩ := rep
      refine ⟨Nat.le_refl _, by rw [hF.1]; omega, h2, cc, lo, hi, by rw [hb]; exact hnew, h4, fun _ => h5, fun _ => h6, fun hz => ?_⟩
      rw [hF.2] at hz; simp at hz
    · rw [if_neg e'] at hg
      obtain ⟨h1, h2, h3, cc, lo, hi, h4, h5, h6, h7, h8⟩ := h.cells x q c e f hx hg
      have hfe := famOf_eq (hfam f (hfne x q c e f hx hg))
      rw [hfe]
      refine ⟨h1, h2, h3, cc, lo, hi, by rw [hold _ (h.inb hx)]; exact h4, h5, fun hm i v hv => ?_, h7, h8⟩
      obtain ⟨v', u1, u2⟩ := h6 hm i v hv
      exact ⟨v', u1, u2.mono hle⟩
  · intro x q es cl hx hg
    rw [hget] at hg
    rcases hcase x q hx with ⟨rfl, rfl⟩ | ⟨e', hx⟩
    · rw [if_pos rfl] at hg
      obtain rfl : b = .map es cl := by simpa using hg
      obtain ⟨es', rfl, h2, h3⟩ := rep
      exact ⟨es', by rw [hb]; exact hnew, h2, h3⟩
    · rw [if_neg e'] at hg
      obtain ⟨es', h2, h3, h4⟩ := h.maps x q es cl hx hg
      refine ⟨es', by rw [hold _ (h.inb hx)]; exact h2, h3, fun i y y' hy hy' => ?_⟩
      obtain ⟨k, u1, u2, u3, u4⟩ := h4 i y y' hy hy'
      exact ⟨k, u1, u2, u3.mono hle, u4⟩
  · intro x q s pos hx hg
    rw [hget] at hg
    rcases hcase x q hx with ⟨rfl, rfl⟩ | ⟨e', hx⟩
    · rw [if_pos rfl] at hg
      obtain rfl : b = .siter s pos := by simpa using hg
      obtain ⟨h1, bb, h2, rfl⟩ := rep
      exact ⟨h1, bb, h2, by rw [hb]; exact hnew⟩
    · rw [if_neg e'] at hg
      obtain ⟨h1, bb, h2, h3⟩ := h.siter x q s pos hx hg
      exact ⟨h1, bb, h2, by rw [hold _ (h.inb hx)]; exact h3⟩
  · intro x y q r hx hy hqr
    rcases hcase x q hx with ⟨rfl, rfl⟩ | ⟨e, hx'⟩ <;> rcases hcase y r hy with ⟨rfl, rfl⟩ | ⟨e', hy'⟩
    · rfl
    · have := h.inb hy'; omega
    · have := h.inb hx'; omega
    · rw [hroot x (by rw [hx']; simp), hroot y (by rw [hy']; simp)]
      exact h.sep x y q r hx' hy' hqr
  · intro x y q r c₁ c₂ e₁ e₂ f hx hy hqr hg1 hg2 hlt hml
    rw [hget] at hg1 hg2
    rcases hcase x q hx with ⟨rfl, rfl⟩ | ⟨e, hx'⟩ <;> rcases hcase y r hy with ⟨rfl, rfl⟩ | ⟨e', hy'⟩
    · omega
    · have := h.inb hy'; omega
    · have := h.inb hx'; omega
    · rw [if_neg e] at hg1
      rw [if_neg e'] at hg2
      have hfe := famOf_eq (hfam f (hfne x q c₁ e₁ f hx' hg1))
      rw [hfe] at hml
      exact h.chain x y q r c₁ c₂ e₁ e₂ f hx' hy' hqr hg1 hg2 hlt hml
  · intro x q c e hx hg
    rw [hget] at hg
    rcases hcase x q hx with ⟨rfl, rfl⟩ | ⟨e', hx'⟩
    · exact ho
    · rw [if_neg e'] at hg
      exact h.org x q c e hx' hg
  · intro x q hx h0
    rcases hcase x q hx with ⟨rfl, rfl⟩ | ⟨e, hx⟩
    · exact ⟨Nat.le_refl _, .inl (by omega)⟩
    · rw [hx] at h0; simp at h0

end Go.Proofs.YtmhajfnfjjbflaaGreatDoor.Ev

/- Reading and writing cells of a block that is mapped. -/
namespace Go.Proofs.YtmhajfnfjjbflaaGreatDoor.Ev

theorem famOf_set {a a' : AS} {f g : Nat} {F : Fam} (h : a'.fam = a.fam.set f F) : famOf a' g = if g = f then F else famOf a g := by
  unfold famOf
  rw [h, T.get_set]
  by_cases e : g = f <;> simp [e]

theorem R.read {a : AS} {π : PM} {w : World} (h : R a π w) {β : Nat} {p : Pl} {c : List AV} {e f : Nat} (hp : π β = some p) (hg : a.hp.get β = some (.cells c e f))
    (hm : (famOf a f).ml ≤ β) {i : Nat} {v : AV} (hv : c[i]? = some v) : ∃ v', w.cell? ⟨p.b, p.o + i, none⟩ = some v' ∧ VR π v v' := by
  obtain ⟨_, _, _, cc, lo, hi, h1, _, h2, _, _⟩ := h.cells β p c e f hp hg
  rw [cell_of h1]
  exact h2 hm i v hv

theorem R.readN {a : AS} {π : PM} {w : World} (h : R a π w) {β : Nat} {p : Pl} {c : List AV} {e f : Nat} (hp : π β = some p) (hg : a.hp.get β = some (.cells c e f))
    (hm : (famOf a f).ml ≤ β) {i n : Nat} (hn : i + n ≤ c.length) :
    ∃ vs : List Value, vs.length = n ∧ LR π ((c.drop i).take n) vs ∧ ∀ (j : Nat) (v : Value), vs[j]? = some v → w.cell? ((⟨p.b, p.o + i, none⟩ : Addr).add j) = some v := by
  obtain ⟨_, _, hl, cc, lo, hi, h1, hsz, h2, _, _⟩ := h.cells β p c e f hp hg
  have hlen : ((cc.toList.drop (p.o + i)).take n).length = n := by simp; omega
  refine ⟨(cc.toList.drop (p.o + i)).take n, hlen, ⟨by simp; omega, fun j v v' hv hv' => ?_⟩, fun j v hv => ?_⟩
  · rw [List.getElem?_take] at hv hv'
    split at hv
    · rename_i hj
      rw [if_pos hj] at hv'
      rw [List.getElem?_drop] at hv hv'
      obtain ⟨u, hu, hvu⟩ := h2 hm (i + j) v hv
      have : u = v' := by
        rw [show p.o + (i + j) = p.o + i + j by omega] at hu
        simp at hv'
        rw [hu] at hv'; simpa using hv'
      rw [← this]; exact hvu
    · simp at hv
  · rw [add_plain, cell_of h1]
    rw [List.getElem?_take] at hv
    split at hv
    · rw [List.getElem?_drop] at hv; simpa using hv
    · simp at hv

theorem setCells_heap (b : Nat) {cc : Array Value} {e : TypeId} {fz : Nat × Nat} : ∀ (vs : List Value) (o : Nat) (w : World) (cc : Array Value), w.heap[b]? = some (.cells cc e fz) → o + vs.length ≤ cc.size →
    ∃ cc' : Array Value, (w.setCells b o vs).heap[b]? = some (.cells cc' e fz) ∧ cc'.size = cc.size ∧ ∀ k, cc'[k]? = if o ≤ k ∧ k < o + vs.length then vs[k - o]? else cc[k]?
  | [], o, w, cc, h, _ => ⟨cc, h, rfl, fun k => by rw [if_neg (by simp only [List.length_nil]; omega)]⟩
  | v :: r, o, w, cc, h, hl => by
    have h1 : (w.setCell ⟨b, o, none⟩ v).heap[b]? = some (.cells (cc.setIfInBounds o v) e fz) := by
      simp [World.setCell, Array.getElem?_modify, h]
    simp only [List.length_cons] at hl
    obtain ⟨cc', h2, h3, h4⟩ := setCells_heap b (cc := cc) r (o + 1) (w.setCell ⟨b, o, none⟩ v) _ h1 (by simp; omega)
    refine ⟨cc', h2, by simpa using h3, fun k => ?_⟩
    rw [h4 k]
    simp only [List.length_cons]
    by_cases e1 : k = o
    · subst e1
      rw [if_neg (by omega), if_pos (by omega)]
      simp [show k < cc.size by omega]
    · by_cases e2 : o + 1 ≤ k ∧ k < o + 1 + r.length
      · rw [if_pos e2, if_pos (by omega), show k - o = (k - (o + 1)) + 1 by omega]; simp
      · rw [if_neg e2, if_neg (by omega), Array.getElem?_setIfInBounds, if_neg (by omega)]

theorem setCells_other (b : Nat) {k : Nat} (hk : k ≠ b) : ∀ (vs : List Value) (o : Nat) (w : World), (w.setCells b o vs).heap[k]? = w.heap[k]?
  | [], _, _ => rfl
  | v :: r, o, w => by
    rw [World.setCells, setCells_other b hk r (o + 1)]
    simp only [World.setCell, Array.getElem?_modify]
    rw [if_neg (by omega)]

theorem setCells_rest (b : Nat) : ∀ (vs : List Value) (o : Nat) (w : World), (w.setCells b o vs).os = w.os ∧ (w.setCells b o vs).tape = w.tape ∧ (w.setCells b o vs).output = w.output ∧ (w.setCells b o vs).heap.size = w.heap.size
  | [], _, _ => ⟨rfl, rfl, rfl, rfl⟩
  | v :: r, o, w => by
    rw [World.setCells]
    obtain ⟨h1, h2, h3, h4⟩ := setCells_rest b r (o + 1) (w.setCell ⟨b, o, none⟩ v)
    exact ⟨h1, h2, h3, by rw [h4]; simp [World.setCell]⟩

theorem splice_get (c : List AV) (i : Nat) (vs : List AV) (h : i + vs.length ≤ c.length) (k : Nat) : (splice c i vs)[k]? = if i ≤ k ∧ k < i + vs.length then vs[k - i]? else c[k]? := by
  unfold splice
  rw [List.getElem?_append, List.getElem?_append]
  simp only [List.length_append, List.length_take]
  rw [show min i c.length = i by omega]
  by_cases h1 : k < i
  · rw [if_pos (by omega), if_pos h1, if_neg (by omega), List.getElem?_take, if_pos h1]
  · by_cases h2 : k < i + vs.length
    · rw [if_pos h2, if_neg h1, if_pos (by omega)]
    · rw [if_neg h2, if_neg (by omega), List.getElem?_drop]
      congr 1; omega
theorem splice_length (c : List AV) (i : Nat) (vs : List AV) (h : i + vs.length ≤ c.length) : (splice c i vs).length = c.length := by
  unfold splice; simp; omega

/-- A store into the newest block of its family. -/
theorem stp_store {a a' : AS} {π : PM} {w : World} {β : Nat} {p : Pl} {c : List AV} {e f i : Nat} {vs : List AV} {vs' : List Value} (h : R a π w) (hp : π β = some p)
    (hg : a.hp.get β = some (.cells c e f)) (hleaf : (famOf a f).leaf = β) (hml : (famOf a f).ml ≤ β) (hfz : (famOf a f).fz = false) (hi : i + vs.length ≤ c.length) (hv : LR π vs vs')
    (ha : a' = { a with hp := a.hp.set β (.cells (splice c i vs) e f), fam := a.fam.set f { famOf a f with ml := β }, mu := min a.mu (min f β) }) :
    Stp a π w a' π (w.setCells p.b (p.o + i) vs') := by
  have hget : ∀ x, a'.hp.get x = if x = β then some (.cells (splice c i vs) e f) else a.hp.get x := fun x => by rw [ha]; exact T.get_set _ _ _ _
  have hfam : ∀ g, famOf a' g = if g = f then { famOf a f with ml := β } else famOf a g := fun g => famOf_set (by rw [ha])
  obtain ⟨hfβ, _, hlim, cc, lo, hi', hh, hsz, hcont, hz, hz'⟩ := h.cells β p c e f hp hg
  obtain ⟨hfβ2⟩ : Nonempty (f ≤ β) := ⟨hfβ⟩
  have hβ := h.dom β p hp
  have hroot : ∀ x, root a' x = root a x := fun x => by
    unfold root; rw [hget]
    by_cases e1 : x = β
    · rw [if_pos e1, e1, hg]
    · rw [if_neg e1]
  obtain ⟨cc', hc1, hc2, hc3⟩ := setCells_heap p.b (cc := cc) vs' (p.o + i) w cc hh (by rw [← hv.1]; omega)
  have hoth : ∀ k, k ≠ p.b → (w.setCells p.b (p.o + i) vs').heap[k]? = w.heap[k]? := fun k hk => setCells_other p.b hk _ _ _
  obtain ⟨r1, r2, r3, r4⟩ := setCells_rest p.b vs' (p.o + i) w
  have hsame : ∀ x q, π x = some q → q.b = p.b → x ≠ β → ∃ c2 e2, a.hp.get x = some (.cells c2 e2 f) ∧ x < β := fun x q hx hq hne => by
    obtain ⟨o, ho⟩ := h.has x q hx
    cases o with
    | cells c2 e2 f2 =>
      have hr := h.sep x β q p hx hp hq
      unfold root at hr; rw [ho, hg] at hr
      obtain rfl : f2 = f := hr
      have := (h.cells x q c2 e2 f2 hx ho).2.1
      exact ⟨c2, e2, ho, by omega⟩
    | map es cl =>
      obtain ⟨es', h2, _⟩ := h.maps x q es cl hx ho
      rw [hq, hh] at h2; simp at h2
    | siter s pos =>
      obtain ⟨_, b, _, h2⟩ := h.siter x q s pos hx ho
      rw [hq, hh] at h2; simp at h2
  refine ⟨⟨?_, ?_, ?_, ?_, ?_, ?_, ?_, ?_, ?_⟩, PM.le_refl π, fun x q h1 h2 => by rw [h1] at h2; simp at h2, by omega, ?_, r1, r2, r3, by rw [ha]; exact Nat.le_refl _, by rw [ha]; exact Nat.min_le_left _ _⟩
  · intro g hg'
    rw [ha] at hg' ⊢
    simp only [] at hg' ⊢
    rw [T.get_set, if_neg (by omega)]; exact h.wf g hg'
  · intro x q hx; rw [ha]; exact h.dom x q hx
  · intro x q hx; rw [hget]; split
    · exact ⟨_, rfl⟩
    · exact h.has x q hx
  · intro x q c2 e2 f2 hx hx2
    rw [hget] at hx2
    by_cases e1 : x = β
    · subst e1
      rw [if_pos rfl] at hx2
      simp only [Option.some.injEq, AB.cells.injEq] at hx2
      obtain ⟨rfl, rfl, rfl⟩ := hx2
      have hq : q = p := by rw [hp] at hx; simpa using hx.symm
      subst hq
      rw [hfam, if_pos rfl]
      refine ⟨hfβ, by simp [hleaf], by rw [splice_length _ _ _ hi]; exact hlim, cc', lo, hi', hc1, by rw [hc2]; exact hsz, fun _ k v hk => ?_, fun hzz => by rw [hc2]; exact hz hzz, fun hzz => ?_⟩
      · rw [splice_get _ _ _ hi] at hk
        rw [hc3]
        by_cases e2 : i ≤ k ∧ k < i + vs.length
        · rw [if_pos e2] at hk
          rw [if_pos (by rw [← hv.1]; omega), show q.o + k - (q.o + i) = k - i by omega]
          exact hv.get hk
        · rw [if_neg e2] at hk
          rw [if_neg (by rw [← hv.1]; omega)]
          exact hcont hml k v hk
      · simp at hzz; rw [hfz] at hzz; simp at hzz
    · rw [if_neg e1] at hx2
      obtain ⟨h1, h2, h3, cc2, lo2, hi2, h4, h5, h6, h7, h8⟩ := h.cells x q c2 e2 f2 hx hx2
      by_cases e2 : q.b = p.b
      · obtain ⟨c3, e3, hx3, hlt⟩ := hsame x q hx e2 e1
        rw [hx2] at hx3
        simp only [Option.some.injEq, AB.cells.injEq] at hx3
        obtain ⟨rfl, rfl, rfl⟩ := hx3
        rw [e2, hh] at h4
        simp only [Option.some.injEq, Obj.cells.injEq, Prod.mk.injEq] at h4
        obtain ⟨rfl, rfl, rfl, rfl⟩ := h4
        rw [hfam, if_pos rfl]
        refine ⟨h1, by simp; omega, h3, cc', lo, hi', by rw [e2]; exact hc1, by rw [hc2]; exact h5, fun hm => ?_, fun hzz => by rw [hc2]; exact h7 hzz, fun hzz hl => ?_⟩
        · simp at hm; omega
        · simp at hl; omega
      · rw [hoth _ e2]
        rw [hfam]
        by_cases e3 : f2 = f
        · subst e3
          rw [if_pos rfl]
          refine ⟨h1, h2, h3, cc2, lo2, hi2, h4, h5, fun hm => ?_, h7, h8⟩
          simp at hm; omega
        · rw [if_neg e3]
          exact ⟨h1, h2, h3, cc2, lo2, hi2, h4, h5, h6, h7, h8⟩
  · intro x q es cl hx hx2
    rw [hget] at hx2
    by_cases e1 : x = β
    · rw [if_pos e1] at hx2; simp at hx2
    · rw [if_neg e1] at hx2
      have e2 : q.b ≠ p.b := fun e2 => by
        obtain ⟨c2, e3, hx3, _⟩ := hsame x q hx e2 e1
        rw [hx2] at hx3; simp at hx3
      rw [hoth _ e2]
      exact h.maps x q es cl hx hx2
  · intro x q s pos hx hx2
    rw [hget] at hx2
    by_cases e1 : x = β
    · rw [if_pos e1] at hx2; simp at hx2
    · rw [if_neg e1] at hx2
      have e2 : q.b ≠ p.b := fun e2 => by
        obtain ⟨c2, e3, hx3, _⟩ := hsame x q hx e2 e1
        rw [hx2] at hx3; simp at hx3
      rw [hoth _ e2]
      exact h.siter x q s pos hx hx2
  · intro x y q r hx hy hqr
    rw [hroot, hroot]; exact h.sep x y q r hx hy hqr
  · intro x y q r c₁ c₂ e₁ e₂ f₂ hx hy hqr hg1 hg2 hlt hm
    rw [hfam] at hm
    by_cases e3 : f₂ = f
    · subst e3
      rw [if_pos rfl] at hm
      simp at hm
      rw [hget] at hg2
      by_cases e4 : y = β
      · omega
      · rw [if_neg e4] at hg2
        have := (h.cells y r c₂ e₂ f₂ hy hg2).2.1
        omega
    · rw [if_neg e3] at hm
      rw [hget] at hg1 hg2
      by_cases e4 : x = β
      · rw [if_pos e4] at hg1
        simp only [Option.some.injEq, AB.cells.injEq] at hg1
        exact absurd hg1.2.2.symm e3
      · by_cases e5 : y = β
        · rw [if_pos e5] at hg2
          simp only [Option.some.injEq, AB.cells.injEq] at hg2
          exact absurd hg2.2.2.symm e3
        · rw [if_neg e4] at hg1
          rw [if_neg e5] at hg2
          exact h.chain x y q r c₁ c₂ e₁ e₂ f₂ hx hy hqr hg1 hg2 hlt hm
  · intro x q c2 e2 hx hx2
    rw [hget] at hx2
    by_cases e1 : x = β
    · rw [if_pos e1] at hx2
      simp only [Option.some.injEq, AB.cells.injEq] at hx2
      obtain ⟨rfl, rfl, h3⟩ := hx2
      subst e1
      exact h.org x q c _ hx (by rw [hg, h3])
    · rw [if_neg e1] at hx2
      exact h.org x q c2 e2 hx hx2
  · intro k hk hm
    refine hoth k fun e1 => ?_
    have := hm β p hp e1.symm
    rw [ha] at this
    simp only [] at this
    have := Nat.le_trans (Nat.min_le_right a.mu (min f β)) (Nat.min_le_left f β)
    omega

end Go.Proofs.YtmhajfnfjjbflaaGreatDoor.Ev

/- Appending in place, and growing; maps, iterators, frozen bytes. -/
namespace Go.Proofs.YtmhajfnfjjbflaaGreatDoor.Ev

theorem R.mates {a : AS} {π : PM} {w : World} (h : R a π w) {β : Nat} {p : Pl} {c : List AV} {e f : Nat} (hp : π β = some p) (hg : a.hp.get β = some (.cells c e f)) :
    ∀ x q, π x = some q → q.b = p.b → ∃ c2 e2, a.hp.get x = some (.cells c2 e2 f) ∧ x ≤ (famOf a f).leaf := by
  intro x q hx hq
  obtain ⟨_, _, _, cc, lo, hi, hh, _⟩ := h.cells β p c e f hp hg
  obtain ⟨o, ho⟩ := h.has x q hx
  cases o with
  | cells c2 e2 f2 =>
    have hr := h.sep x β q p hx hp hq
    unfold root at hr; rw [ho, hg] at hr
    obtain rfl : f2 = f := hr
    exact ⟨c2, e2, ho, (h.cells x q c2 e2 f2 hx ho).2.1⟩
  | map es cl =>
    obtain ⟨es', h2, _⟩ := h.maps x q es cl hx ho
    rw [hq, hh] at h2; simp at h2
  | siter s pos =>
    obtain ⟨_, b, _, h2⟩ := h.siter x q s pos hx ho
    rw [hq, hh] at h2; simp at h2

/-- What the evaluator's append makes of its state. -/
noncomputable def apSt (a : AS) (β f i L : Nat) (c : List AV) (e : TypeId) (new : List AV) : AS :=
  { hp := (a.hp.set β (.cells (c.take (i + L)) e f)).set a.nx (.cells ((c.drop i).take L ++ new) e f)
    fam := a.fam.set f { famOf a f with leaf := a.nx, ml := bif (i + L).beq c.length then (famOf a f).ml else β }
    nx := a.nx + 1
    mu := min a.mu (min f β) }

section
variable {a : AS} {π : PM} {w : World} {β : Nat} {p : Pl} {c : List AV} {e f i L : Nat} {vs : List AV}

theorem apSt_get (hβ : β < a.nx) (x : Nat) : (apSt a β f i L c e vs).hp.get x = if x = a.nx then some (.cells ((c.drop i).take L ++ vs) e f) else if x = β then some (.cells (c.take (i + L)) e f) else a.hp.get x := by
  unfold apSt
  simp only [T.get_set]

theorem apSt_fam (g : Nat) : famOf (apSt a β f i L c e vs) g = if g = f then { famOf a f with leaf := a.nx, ml := if i + L = c.length then (famOf a f).ml else β } else famOf a g := by
  rw [famOf_set (a := a) (a' := apSt a β f i L c e vs) (F := { famOf a f with leaf := a.nx, ml := bif (i + L).beq c.length then (famOf a f).ml else β }) rfl]
  by_cases e1 : g = f
  · rw [if_pos e1, if_pos e1]
    by_cases e2 : i + L = c.length
    · simp [e2]
    · have : (i + L).beq c.length = false := by
        cases hb : (i + L).beq c.length with
        | false => rfl
        | true => exact absurd (Nat.eq_of_beq_eq_true hb) e2
      simp [e2, this]
  · rw [if_neg e1, if_neg e1]

/-- The parts that do not ask whether there was room. -/
theorem ap_common (h : R a π w) (hp : π β = some p) (hg : a.hp.get β = some (.cells c e f)) (hleaf : (famOf a f).leaf = β) (hml : (famOf a f).ml ≤ β)
    (hiL : i + L ≤ c.length) (htr : i + L = c.length ∨ (famOf a f).fz = false)
    {w' : World} {pn : Pl} (cc' : Array Value) (lo hi : Nat)
    (hnewb : w'.heap[pn.b]? = some (.cells cc' e (lo, hi))) (hsz : cc'.size = pn.o + pn.lim) (hlim : L + vs.length ≤ pn.lim)
    (hcont : ∀ (k : Nat) (v : AV), ((c.drop i).take L ++ vs)[k]? = some v → ∃ v', cc'[pn.o + k]? = some v' ∧ VR (π.upd a.nx pn) v v')
    (hfz0 : (famOf a f).fz = false → lo = hi ∨ ((famOf a f).sg = true ∧ cc'.size ≤ lo))
    (hfz1 : (famOf a f).fz = true → lo = hi ∨ hi ≤ pn.o + (L + vs.length))
    (hold : ∀ x q, π x = some q → ∃ o, a.hp.get x = some o ∧ match o with
      | .cells c2 e2 f2 => ∃ cc2 cc3 lo2 hi2, w.heap[q.b]? = some (.cells cc2 e2 (lo2, hi2)) ∧ w'.heap[q.b]? = some (.cells cc3 e2 (lo2, hi2)) ∧ cc3.size = cc2.size ∧
          (∀ k, k < q.o + c2.length → (f2 = f → (if i + L = c.length then (famOf a f).ml else β) ≤ x) → (x = β → k < q.o + (i + L)) → cc3[k]? = cc2[k]?)
      | _ => w'.heap[q.b]? = w.heap[q.b]?)
    (hsep : ∀ x q, π x = some q → q.b = pn.b → root a x = f ∧ pn.b = p.b ∧ pn.o = p.o + i)
    (hbig : w.heap.size ≤ w'.heap.size) (hkeep : ∀ k, k < w.heap.size → k ≠ p.b → w'.heap[k]? = w.heap[k]?)
    (hpn : w.heap.size ≤ pn.b ∨ pn.b = p.b)
    (hkeep2 : ∀ k, k < w.heap.size → (∀ x q, π x = some q → q.b = k → x < min a.mu (min f β)) → w'.heap[k]? = w.heap[k]?)
    (hos : w'.os = w.os) (htp : w'.tape = w.tape) (hout : w'.output = w.output) :
    Stp a π w (apSt a β f i L c e vs) (π.upd a.nx pn) w' := by
  obtain ⟨hfβ, _, hlimp, ccp, lop, hip, hhp, hszp, hcontp, hzp, hzp'⟩ := h.cells β p c e f hp hg
  have hβ := h.dom β p hp
  have hget := apSt_get (a := a) (f := f) (i := i) (L := L) (c := c) (e := e) (vs := vs) hβ
  have hfam := apSt_fam (a := a) (β := β) (f := f) (i := i) (L := L) (c := c) (e := e) (vs := vs)
  have hle := PM.le_upd pn h.fresh
  have hnxβ : a.nx ≠ β := by omega
  have hcase : ∀ x q, π.upd a.nx pn x = some q → (x = a.nx ∧ q = pn) ∨ (x ≠ a.nx ∧ π x = some q) := fun x q hx => by
    by_cases e1 : x = a.nx
    · subst e1; rw [PM.upd_same] at hx; exact .inl ⟨rfl, by simpa using hx.symm⟩
    · rw [PM.upd_other _ _ e1] at hx; exact .inr ⟨e1, hx⟩
  have hroot : ∀ x, x ≠ a.nx → root (apSt a β f i L c e vs) x = root a x := fun x hx => by
    unfold root; rw [hget, if_neg hx]
    by_cases e1 : x = β
    · rw [if_pos e1, e1, hg]
    · rw [if_neg e1]
  have hrootn : root (apSt a β f i L c e vs) a.nx = f := by unfold root; rw [hget, if_pos rfl]
  have hrootβ : root a β = f := by unfold root; rw [hg]
  refine ⟨⟨?_, ?_, ?_, ?_, ?_, ?_, ?_, ?_, ?_⟩, hle, ?_, hbig, hkeep2, hos, htp, hout, by show a.nx ≤ a.nx + 1; omega, Nat.min_le_left _ _⟩
  · intro g hg'
    have hg'' : a.nx + 1 ≤ g := hg'
    show (a.fam.set f _).get g = none
    rw [T.get_set, if_neg (by omega)]; exact h.wf g (by omega)
  · intro x q hx
    show x < a.nx + 1
    rcases hcase x q hx with ⟨rfl, rfl⟩ | ⟨_, hx'⟩
    · omega
    · have := h.dom x q hx'; omega
  · intro x q hx
    rw [hget]
    rcases hcase x q hx with ⟨rfl, rfl⟩ | ⟨e1, hx'⟩
    · rw [if_pos rfl]; exact ⟨_, rfl⟩
    · rw [if_neg e1]
      by_cases e2 : x = β
      · rw [if_pos e2]; exact ⟨_, rfl⟩
      · rw [if_neg e2]; exact h.has x q hx'
  · intro x q c2 e2 f2 hx hx2
    rw [hget] at hx2
    rcases hcase x q hx with ⟨rfl, rfl⟩ | ⟨e1, hx'⟩
    · rw [if_pos rfl] at hx2
      simp only [Option.some.injEq, AB.cells.injEq] at hx2
      obtain ⟨rfl, rfl, rfl⟩ := hx2
      rw [hfam, if_pos rfl]
      refine ⟨by omega, Nat.le_refl _, ?_, cc', lo, hi, hnewb, hsz, fun _ => hcont, hfz0, fun hzz _ => ?_⟩
      · simp only [List.length_append, List.length_take, List.length_drop]; omega
      · simp only [List.length_append, List.length_take, List.length_drop]
        rw [show min L (c.length - i) = L by omega]
        exact hfz1 hzz
    · rw [if_neg e1] at hx2
      obtain ⟨o, ho, hrest⟩ := hold x q hx'
      by_cases e2' : x = β
      · rw [if_pos e2'] at hx2
        simp only [Option.some.injEq, AB.cells.injEq] at hx2
        obtain ⟨rfl, rfl, rfl⟩ := hx2
        have hqp : q = p := by rw [e2', hp] at hx'; simpa using hx'.symm
        rw [e2', hg] at ho
        obtain rfl : o = .cells c e f := by simpa using ho.symm
        obtain ⟨cc2, cc3, lo2, hi2, u1, u2, u3, u4⟩ := hrest
        rw [hqp, hhp] at u1
        simp only [Option.some.injEq, Obj.cells.injEq, Prod.mk.injEq] at u1
        obtain ⟨rfl, _, rfl, rfl⟩ := u1
        rw [hfam, if_pos rfl]
        refine ⟨by omega, by show x ≤ a.nx; omega, by rw [hqp]; simp; omega, cc3, lop, hip, u2, by rw [u3, hqp]; exact hszp, fun hm k v hk => ?_, fun hzz => by rw [u3]; exact hzp hzz, fun _ hl => ?_⟩
        · rw [List.getElem?_take] at hk
          split at hk
          · rename_i hk2
            obtain ⟨v', v1, v2⟩ := hcontp hml k v hk
            refine ⟨v', ?_, v2.mono hle⟩
            rw [u4 (q.o + k) (by omega) (fun _ => by rw [e2']; split <;> omega) (fun _ => by omega), hqp]; exact v1
          · simp at hk
        · have : a.nx = x := hl
          omega
      · rw [if_neg e2'] at hx2
        rw [hx2] at ho
        obtain rfl : o = .cells c2 e2 f2 := by simpa using ho.symm
        obtain ⟨h1, h2, h3, cc2', lo2', hi2', h4, h5, h6, h7, h8⟩ := h.cells x q c2 e2 f2 hx' hx2
        obtain ⟨cc2, cc3, lo2, hi2, u1, u2, u3, u4⟩ := hrest
        rw [h4] at u1
        simp only [Option.some.injEq, Obj.cells.injEq, Prod.mk.injEq] at u1
        obtain ⟨rfl, _, rfl, rfl⟩ := u1
        rw [hfam]
        by_cases e3 : f2 = f
        · subst e3
          rw [if_pos rfl]
          refine ⟨h1, by show x ≤ a.nx; have := h.dom x q hx'; omega, h3, cc3, lo2', hi2', u2, by rw [u3]; exact h5, fun hm k v hk => ?_, fun hzz => by rw [u3]; exact h7 hzz, fun _ hl => ?_⟩
          · have hm' : (if i + L = c.length then (famOf a f2).ml else β) ≤ x := hm
            have hml2 : (famOf a f2).ml ≤ x := by split at hm' <;> omega
            obtain ⟨v', v1, v2⟩ := h6 hml2 k v hk
            refine ⟨v', ?_, v2.mono hle⟩
            have hkl := (List.getElem?_eq_some_iff.1 hk).1
            rw [u4 (q.o + k) (by omega) (fun _ => hm') (fun e5 => absurd e5 e2')]; exact v1
          · have : a.nx = x := hl
            omega
        · rw [if_neg e3]
          refine ⟨h1, h2, h3, cc3, lo2', hi2', u2, by rw [u3]; exact h5, fun hm k v hk => ?_, fun hzz => by rw [u3]; exact h7 hzz, h8⟩
          obtain ⟨v', v1, v2⟩ := h6 hm k v hk
          refine ⟨v', ?_, v2.mono hle⟩
          have hkl := (List.getElem?_eq_some_iff.1 hk).1
          rw [u4 (q.o + k) (by omega) (fun e4 => absurd e4 e3) (fun e5 => absurd e5 e2')]; exact v1
  · intro x q es cl hx hx2
    rw [hget] at hx2
    rcases hcase x q hx with ⟨rfl, rfl⟩ | ⟨e1, hx'⟩
    · rw [if_pos rfl] at hx2; simp at hx2
    · rw [if_neg e1] at hx2
      by_cases e2 : x = β
      · rw [if_pos e2] at hx2; simp at hx2
      · rw [if_neg e2] at hx2
        obtain ⟨o, ho, hrest⟩ := hold x q hx'
        rw [hx2] at ho
        obtain rfl : o = .map es cl := by simpa using ho.symm
        have hrest' : w'.heap[q.b]? = w.heap[q.b]? := hrest
        rw [hrest']
        obtain ⟨es', h2, h3, h4⟩ := h.maps x q es cl hx' hx2
        refine ⟨es', h2, h3, fun j y y' hy hy' => ?_⟩
        obtain ⟨k, u1, u2, u3, u4⟩ := h4 j y y' hy hy'
        exact ⟨k, u1, u2, u3.mono hle, u4⟩
  · intro x q s pos hx hx2
    rw [hget] at hx2
    rcases hcase x q hx with ⟨rfl, rfl⟩ | ⟨e1, hx'⟩
    · rw [if_pos rfl] at hx2; simp at hx2
    · rw [if_neg e1] at hx2
      by_cases e2 : x = β
      · rw [if_pos e2] at hx2; simp at hx2
      · rw [if_neg e2] at hx2
        obtain ⟨o, ho, hrest⟩ := hold x q hx'
        rw [hx2] at ho
        obtain rfl : o = .siter s pos := by simpa using ho.symm
        have hrest' : w'.heap[q.b]? = w.heap[q.b]? := hrest
        rw [hrest']
        exact h.siter x q s pos hx' hx2
  · intro x y q r hx hy hqr
    rcases hcase x q hx with ⟨rfl, rfl⟩ | ⟨e1, hx'⟩ <;> rcases hcase y r hy with ⟨rfl, rfl⟩ | ⟨e2, hy'⟩
    · rfl
    · rw [hrootn, hroot y e2]; exact (hsep y r hy' hqr.symm).1.symm
    · rw [hrootn, hroot x e1]; exact (hsep x q hx' hqr).1
    · rw [hroot x e1, hroot y e2]; exact h.sep x y q r hx' hy' hqr
  · intro x y q r c₁ c₂ e₁ e₂ f₂ hx hy hqr hg1 hg2 hlt hm
    rw [hget] at hg1 hg2
    rw [hfam] at hm
    rcases hcase x q hx with ⟨rfl, rfl⟩ | ⟨e1, hx'⟩
    · rcases hcase y r hy with ⟨rfl, rfl⟩ | ⟨e2, hy'⟩
      · omega
      · have := h.dom y r hy'; omega
    · rw [if_neg e1] at hg1
      rcases hcase y r hy with ⟨rfl, rfl⟩ | ⟨e2, hy'⟩
      · rw [if_pos rfl] at hg2
        simp only [Option.some.injEq, AB.cells.injEq] at hg2
        obtain ⟨rfl, rfl, rfl⟩ := hg2
        obtain ⟨_, hb, ho⟩ := hsep x q hx' hqr
        rw [if_pos rfl] at hm
        have hm' : (if i + L = c.length then (famOf a f).ml else β) ≤ x := hm
        simp only [List.length_append, List.length_take, List.length_drop]
        rw [show min L (c.length - i) = L by omega]
        by_cases e3 : x = β
        · rw [if_pos e3] at hg1
          simp only [Option.some.injEq, AB.cells.injEq] at hg1
          obtain ⟨rfl, _, _⟩ := hg1
          have hqp : q = p := by rw [e3, hp] at hx'; simpa using hx'.symm
          rw [hqp, ho]; simp; omega
        · rw [if_neg e3] at hg1
          obtain ⟨_, _, _, hx4⟩ := h.mates hp hg x q hx' (hqr.trans hb)
          have hx5 : x < β := by omega
          by_cases e4 : i + L = c.length
          · rw [if_pos e4] at hm'
            have := h.chain x β q p c₁ c e₁ e f hx' hp (hqr.trans hb) hg1 hg hx5 hm'
            omega
          · rw [if_neg e4] at hm'; omega
      · rw [if_neg e2] at hg2
        by_cases e3 : f₂ = f
        · subst e3
          rw [if_pos rfl] at hm
          have hm' : (if i + L = c.length then (famOf a f₂).ml else β) ≤ x := hm
          by_cases e4 : y = β
          · rw [if_pos e4] at hg2
            simp only [Option.some.injEq, AB.cells.injEq] at hg2
            obtain ⟨rfl, _, _⟩ := hg2
            have e5 : x ≠ β := by omega
            rw [if_neg e5] at hg1
            have hrp : r = p := by rw [e4, hp] at hy'; simpa using hy'.symm
            by_cases e6 : i + L = c.length
            · rw [if_pos e6] at hm'
              have := h.chain x β q p c₁ c e₁ e f₂ hx' hp (by rw [hqr, hrp]) hg1 hg (by omega) hm'
              rw [hrp]; simp; omega
            · rw [if_neg e6] at hm'; omega
          · rw [if_neg e4] at hg2
            have hy5 := (h.cells y r c₂ e₂ f₂ hy' hg2).2.1
            by_cases e5 : x = β
            · omega
            · rw [if_neg e5] at hg1
              have hml2 : (famOf a f₂).ml ≤ x := by split at hm' <;> omega
              exact h.chain x y q r c₁ c₂ e₁ e₂ f₂ hx' hy' hqr hg1 hg2 hlt hml2
        · rw [if_neg e3] at hm
          by_cases e4 : x = β
          · rw [if_pos e4] at hg1
            simp only [Option.some.injEq, AB.cells.injEq] at hg1
            exact absurd hg1.2.2.symm e3
          · by_cases e5 : y = β
            · rw [if_pos e5] at hg2
              simp only [Option.some.injEq, AB.cells.injEq] at hg2
              exact absurd hg2.2.2.symm e3
            · rw [if_neg e4] at hg1
              rw [if_neg e5] at hg2
              exact h.chain x y q r c₁ c₂ e₁ e₂ f₂ hx' hy' hqr hg1 hg2 hlt hm
  · intro x q c2 e2 hx hx2
    rw [hget] at hx2
    rcases hcase x q hx with ⟨rfl, rfl⟩ | ⟨e1, hx'⟩
    · rw [if_pos rfl] at hx2
      simp only [Option.some.injEq, AB.cells.injEq] at hx2
      omega
    · rw [if_neg e1] at hx2
      by_cases e2' : x = β
      · rw [if_pos e2'] at hx2
        simp only [Option.some.injEq, AB.cells.injEq] at hx2
        exact h.org x q c e hx' (by rw [e2', hg, hx2.2.2, e2'])
      · rw [if_neg e2'] at hx2
        exact h.org x q c2 e2 hx' hx2
  · intro x q hx h0
    rcases hcase x q hx with ⟨rfl, rfl⟩ | ⟨e1, hx'⟩
    · refine ⟨Nat.le_refl _, ?_⟩
      rcases hpn with hb | hb
      · exact .inl hb
      · exact .inr ⟨β, p, hp, hb.symm, by show min a.mu (min f β) ≤ β; have := Nat.le_trans (Nat.min_le_right a.mu (min f β)) (Nat.min_le_left f β); omega⟩
    · rw [hx'] at h0; simp at h0

/-- There was room: the new elements lie behind the old ones. -/
theorem stp_append_room {vs' : List Value} (h : R a π w) (hp : π β = some p) (hg : a.hp.get β = some (.cells c e f)) (hleaf : (famOf a f).leaf = β) (hml : (famOf a f).ml ≤ β)
    (hiL : i + L ≤ c.length) (htr : i + L = c.length ∨ (famOf a f).fz = false) (hv : LR π vs vs') (hroom : i + L + vs.length ≤ p.lim) :
    Stp a π w (apSt a β f i L c e vs) (π.upd a.nx ⟨p.b, p.o + i, p.lim - i⟩) (w.setCells p.b (p.o + i + L) vs') := by
  obtain ⟨hfβ, _, hlim, cc, lo, hi', hh, hsz, hcont, hz, hz'⟩ := h.cells β p c e f hp hg
  obtain ⟨cc', hc1, hc2, hc3⟩ := setCells_heap p.b (cc := cc) vs' (p.o + i + L) w cc hh (by rw [← hv.1]; omega)
  have hoth : ∀ k, k ≠ p.b → (w.setCells p.b (p.o + i + L) vs').heap[k]? = w.heap[k]? := fun k hk => setCells_other p.b hk _ _ _
  obtain ⟨r1, r2, r3, r4⟩ := setCells_rest p.b vs' (p.o + i + L) w
  have hle := PM.le_upd (⟨p.b, p.o + i, p.lim - i⟩ : Pl) h.fresh
  refine ap_common h hp hg hleaf hml hiL htr cc' lo hi' hc1 (by rw [hc2]; simp only []; omega) (by simp only []; omega) ?_ (by rw [hc2]; exact hz) ?_ ?_ ?_ (by omega) (fun k _ hk => hoth k hk) (.inr rfl) ?_ r1 r2 r3
  · intro k v hk
    rw [List.getElem?_append] at hk
    simp only [List.length_take, List.length_drop] at hk
    rw [show min L (c.length - i) = L by omega] at hk
    rw [hc3]
    simp only []
    split at hk
    · rename_i hk2
      rw [List.getElem?_take, if_pos hk2, List.getElem?_drop] at hk
      rw [if_neg (by omega)]
      obtain ⟨v', u1, u2⟩ := hcont hml (i + k) v hk
      exact ⟨v', by rw [← u1]; congr 1; omega, u2.mono hle⟩
    · rename_i hk2
      have hk3 := (List.getElem?_eq_some_iff.1 hk).1
      rw [if_pos (by rw [← hv.1]; omega)]
      obtain ⟨v', u1, u2⟩ := hv.get hk
      exact ⟨v', by rw [← u1]; congr 1; omega, u2.mono hle⟩
  · intro hzz
    simp only []
    rcases htr with h1 | h1
    · rcases hz' hzz hleaf with h2 | h2
      · exact .inl h2
      · right; omega
    · rw [hzz] at h1; simp at h1
  · intro x q hx
    obtain ⟨o, ho⟩ := h.has x q hx
    refine ⟨o, ho, ?_⟩
    cases o with
    | cells c2 e2 f2 =>
      obtain ⟨h1, h2, h3, cc2, lo2, hi2, h4, h5, h6, h7, h8⟩ := h.cells x q c2 e2 f2 hx ho
      by_cases e1 : q.b = p.b
      · obtain ⟨c3, e3, hx3, hx4⟩ := h.mates hp hg x q hx e1
        rw [ho] at hx3
        simp only [Option.some.injEq, AB.cells.injEq] at hx3
        obtain ⟨rfl, rfl, rfl⟩ := hx3
        rw [e1, hh] at h4
        simp only [Option.some.injEq, Obj.cells.injEq, Prod.mk.injEq] at h4
        obtain ⟨rfl, rfl, rfl, rfl⟩ := h4
        refine ⟨cc, cc', lo, hi', by rw [e1]; exact hh, by rw [e1]; exact hc1, hc2, fun k hk hm hkβ => ?_⟩
        rw [hc3]
        by_cases e5 : x = β
        · have hqp : q = p := by rw [e5, hp] at hx; simpa using hx.symm
          have := hkβ e5
          rw [hqp] at this
          rw [if_neg (by omega)]
        · have hm' := hm rfl
          by_cases e6 : i + L = c.length
          · rw [if_pos e6] at hm'
            have := h.chain x β q p _ _ _ _ _ hx hp e1 ho hg (by omega) hm'
            rw [if_neg (by omega)]
          · rw [if_neg e6] at hm'; omega
      · exact ⟨cc2, cc2, lo2, hi2, h4, by rw [hoth _ e1]; exact h4, rfl, fun _ _ _ _ => rfl⟩
    | map es cl =>
      have e1 : q.b ≠ p.b := fun e1 => by
        obtain ⟨c3, e3, hx3, _⟩ := h.mates hp hg x q hx e1
        rw [ho] at hx3; simp at hx3
      exact hoth _ e1
    | siter s pos =>
      have e1 : q.b ≠ p.b := fun e1 => by
        obtain ⟨c3, e3, hx3, _⟩ := h.mates hp hg x q hx e1
        rw [ho] at hx3; simp at hx3
      exact hoth _ e1
  · intro x q hx hq
    have hr := h.sep x β q p hx hp hq
    refine ⟨?_, rfl, rfl⟩
    rw [hr]; unfold root; rw [hg]
  · intro k hk hm
    refine hoth k fun e1 => ?_
    have := hm β p hp e1.symm
    have := Nat.le_trans (Nat.min_le_right a.mu (min f β)) (Nat.min_le_left f β)
    omega

/-- A new row was made: the evaluator's state is the same as if there had been room. -/
theorem stp_append_grow {vs' : List Value} (h : R a π w) (hp : π β = some p) (hg : a.hp.get β = some (.cells c e f)) (hleaf : (famOf a f).leaf = β) (hml : (famOf a f).ml ≤ β)
    (hiL : i + L ≤ c.length) (htr : i + L = c.length ∨ (famOf a f).fz = false) {w' : World} (cc : Array Value)
    (hh : w'.heap = w.heap.push (.cells cc e (0, 0))) (hos : w'.os = w.os) (htp : w'.tape = w.tape) (hout : w'.output = w.output) (hsz : L + vs.length ≤ cc.size)
    (hcont : ∀ (k : Nat) (v : AV), ((c.drop i).take L ++ vs)[k]? = some v → ∃ v', cc[k]? = some v' ∧ VR π v v') :
    Stp a π w (apSt a β f i L c e vs) (π.upd a.nx ⟨w.heap.size, 0, cc.size⟩) w' := by
  obtain ⟨hfβ, _, hlim, cc0, lo, hi', hh0, hsz0, hcont0, hz, hz'⟩ := h.cells β p c e f hp hg
  have hle := PM.le_upd (⟨w.heap.size, 0, cc.size⟩ : Pl) h.fresh
  have hold : ∀ k, k < w.heap.size → w'.heap[k]? = w.heap[k]? := fun k hk => by rw [hh, Array.getElem?_push, if_neg (by omega)]
  refine ap_common h hp hg hleaf hml hiL htr cc 0 0 (by rw [hh]; simp) (by simp) (by simpa using hsz) ?_ (fun _ => .inl rfl) (fun _ => .inl rfl) ?_ ?_ (by rw [hh]; simp) (fun k hk _ => hold k hk) (.inl (Nat.le_refl _)) (fun k hk _ => hold k hk) hos htp hout
  · intro k v hk
    obtain ⟨v', u1, u2⟩ := hcont k v hk
    exact ⟨v', by simpa using u1, u2.mono hle⟩
  · intro x q hx
    obtain ⟨o, ho⟩ := h.has x q hx
    refine ⟨o, ho, ?_⟩
    cases o with
    | cells c2 e2 f2 =>
      obtain ⟨h1, h2, h3, cc2, lo2, hi2, h4, h5, h6, h7, h8⟩ := h.cells x q c2 e2 f2 hx ho
      exact ⟨cc2, cc2, lo2, hi2, h4, by rw [hold _ (h.inb hx)]; exact h4, rfl, fun _ _ _ _ => rfl⟩
    | map es cl => exact hold _ (h.inb hx)
    | siter s pos => exact hold _ (h.inb hx)
  · intro x q hx hq
    have := h.inb hx
    simp only [] at hq
    omega
end

def sameKind : AB → AB → Bool
  | .map _ _, .map _ _ => true
  | .siter _ _, .siter _ _ => true
  | _, _ => false
def SetRep (π : PM) (p : Pl) (obj : Obj) : AB → Prop
  | .map es cl => ∃ es', obj = .map es' cl ∧ es.length = es'.size ∧
      ∀ (i : Nat) (x : AE) (x' : MapEntry), es[i]? = some x → es'[i]? = some x' → ∃ k, x'.key = .string k ∧ x.key = ofB k ∧ VR π x.val x'.val ∧ x'.born = x.born
  | .siter s pos => p.o = 0 ∧ ∃ b, s = ofB b ∧ obj = .stringIter b pos
  | _ => False

/-- A map, or an iterator, is another one. -/
theorem stp_set {a a' : AS} {π : PM} {w w' : World} {β : Nat} {p : Pl} {b b' : AB} {obj : Obj} (h : R a π w) (hp : π β = some p) (hg : a.hp.get β = some b)
    (hk : sameKind b b' = true)
    (ha : a' = { a with hp := a.hp.set β b', mu := min a.mu β }) (hh : w'.heap = w.heap.setIfInBounds p.b obj) (hos : w'.os = w.os) (htp : w'.tape = w.tape) (hout : w'.output = w.output)
    (rep : SetRep π p obj b') : Stp a π w a' π w' := by
  have hget : ∀ x, a'.hp.get x = if x = β then some b' else a.hp.get x := fun x => by rw [ha]; exact T.get_set _ _ _ _
  have hfam : ∀ g, famOf a' g = famOf a g := fun g => by unfold famOf; rw [ha]
  have hin := h.inb hp
  have hoth : ∀ k, k ≠ p.b → w'.heap[k]? = w.heap[k]? := fun k hk => by rw [hh, Array.getElem?_setIfInBounds, if_neg (fun e => hk e.symm)]
  have hnew : w'.heap[p.b]? = some obj := by rw [hh]; simp [hin]
  have hroot : ∀ x, root a' x = root a x := fun x => by
    unfold root; rw [hget]
    by_cases e1 : x = β
    · rw [if_pos e1, e1, hg]
      cases b <;> cases b' <;> simp_all [sameKind]
    · rw [if_neg e1]
  have hrβ : root a β = β := by unfold root; rw [hg]; cases b <;> cases b' <;> simp_all [sameKind]
  have halone : ∀ x q, π x = some q → q.b = p.b → x = β := fun x q hx hq => by
    have hr := h.sep x β q p hx hp hq
    rw [hrβ] at hr
    obtain ⟨o, ho⟩ := h.has x q hx
    cases o with
    | cells c2 e2 f2 =>
      obtain ⟨_, _, _, cc2, lo2, hi2, h4, _⟩ := h.cells x q c2 e2 f2 hx ho
      rw [hq] at h4
      cases b with
      | cells => cases b' <;> simp [sameKind] at hk
      | map es cl => obtain ⟨es', h5, _⟩ := h.maps β p es cl hp hg; rw [h4] at h5; simp at h5
      | siter s pos => obtain ⟨_, _, _, h5⟩ := h.siter β p s pos hp hg; rw [h4] at h5; simp at h5
    | map es cl => unfold root at hr; rw [ho] at hr; exact hr
    | siter s pos => unfold root at hr; rw [ho] at hr; exact hr
  refine ⟨⟨?_, ?_, ?_, ?_, ?_, ?_, ?_, ?_, ?_⟩, PM.le_refl π, fun x q h1 h2 => by rw [h1] at h2; simp at h2, by rw [hh]; simp, ?_, hos, htp, hout, by rw [ha]; exact Nat.le_refl _, by rw [ha]; exact Nat.min_le_left _ _⟩
  · intro g hg'; rw [ha] at hg' ⊢; exact h.wf g hg'
  · intro x q hx; rw [ha]; exact h.dom x q hx
  · intro x q hx; rw [hget]; split
    · exact ⟨_, rfl⟩
    · exact h.has x q hx
  · intro x q c2 e2 f2 hx hx2
    rw [hget] at hx2
    by_cases e1 : x = β
    · rw [if_pos e1] at hx2
      obtain rfl : b' = .cells c2 e2 f2 := by simpa using hx2
      exact rep.elim
    · rw [if_neg e1] at hx2
      rw [hfam, hoth _ (fun e2 => e1 (halone x q hx e2))]
      exact h.cells x q c2 e2 f2 hx hx2
  · intro x q es cl hx hx2
    rw [hget] at hx2
    by_cases e1 : x = β
    · rw [if_pos e1] at hx2
      obtain rfl : b' = .map es cl := by simpa using hx2
      obtain rfl : q = p := by rw [e1, hp] at hx; simpa using hx.symm
      obtain ⟨es', rfl, h2, h3⟩ := rep
      exact ⟨es', hnew, h2, h3⟩
    · rw [if_neg e1] at hx2
      rw [hoth _ (fun e2 => e1 (halone x q hx e2))]
      exact h.maps x q es cl hx hx2
  · intro x q s pos hx hx2
    rw [hget] at hx2
    by_cases e1 : x = β
    · rw [if_pos e1] at hx2
      obtain rfl : b' = .siter s pos := by simpa using hx2
      obtain rfl : q = p := by rw [e1, hp] at hx; simpa using hx.symm
      obtain ⟨h1, bb, h2, rfl⟩ := rep
      exact ⟨h1, bb, h2, hnew⟩
    · rw [if_neg e1] at hx2
      rw [hoth _ (fun e2 => e1 (halone x q hx e2))]
      exact h.siter x q s pos hx hx2
  · intro x y q r hx hy hqr
    rw [hroot, hroot]; exact h.sep x y q r hx hy hqr
  · intro x y q r c₁ c₂ e₁ e₂ f hx hy hqr hg1 hg2 hlt hm
    rw [hget] at hg1 hg2
    rw [hfam] at hm
    by_cases e1 : x = β
    · rw [if_pos e1] at hg1
      obtain rfl : b' = .cells c₁ e₁ f := by simpa using hg1
      exact rep.elim
    · by_cases e2 : y = β
      · rw [if_pos e2] at hg2
        obtain rfl : b' = .cells c₂ e₂ f := by simpa using hg2
        exact rep.elim
      · rw [if_neg e1] at hg1
        rw [if_neg e2] at hg2
        exact h.chain x y q r c₁ c₂ e₁ e₂ f hx hy hqr hg1 hg2 hlt hm
  · intro x q c2 e2 hx hx2
    rw [hget] at hx2
    by_cases e1 : x = β
    · rw [if_pos e1] at hx2
      obtain rfl : b' = .cells c2 e2 x := by simpa using hx2
      exact rep.elim
    · rw [if_neg e1] at hx2
      exact h.org x q c2 e2 hx hx2
  · intro k hk hm
    refine hoth k fun e1 => ?_
    have := hm β p hp e1.symm
    rw [ha] at this
    simp only [] at this
    have := Nat.min_le_right a.mu β
    omega

/-- Bytes that a string shares from now on. -/
theorem stp_freeze {a a' : AS} {π : PM} {w : World} {β : Nat} {p : Pl} {c : List AV} {e f i n : Nat} (h : R a π w) (hp : π β = some p)
    (hg : a.hp.get β = some (.cells c e f)) (hleaf : (famOf a f).leaf = β) (hsg : (famOf a f).sg = false) (hi : i + n ≤ c.length) (hn : n ≠ 0)
    (ha : a' = { a with fam := a.fam.set f { famOf a f with fz := true }, mu := min a.mu f }) :
    Stp a π w a' π (w.freeze ⟨p.b, p.o + i, none⟩ n) := by
  have hget : ∀ x, a'.hp.get x = a.hp.get x := fun x => by rw [ha]
  have hfam : ∀ g, famOf a' g = if g = f then { famOf a f with fz := true } else famOf a g := fun g => famOf_set (by rw [ha])
  obtain ⟨hfβ, _, hlim, cc, lo, hi', hh, hsz, hcont, hz, hz'⟩ := h.cells β p c e f hp hg
  have hβ := h.dom β p hp
  have hroot : ∀ x, root a' x = root a x := fun x => by unfold root; rw [hget]
  have hw : (w.freeze ⟨p.b, p.o + i, none⟩ n).heap = w.heap.modify p.b fun
      | .cells c elem (lo, hi) => .cells c elem (if lo == hi then (p.o + i, p.o + i + n) else (min lo (p.o + i), max hi (p.o + i + n)))
      | o => o := by unfold World.freeze; rw [if_neg hn]; rfl
  have hoth : ∀ k, k ≠ p.b → (w.freeze ⟨p.b, p.o + i, none⟩ n).heap[k]? = w.heap[k]? := fun k hk => by rw [hw, Array.getElem?_modify, if_neg (fun e => hk e.symm)]
  have hnew : ∃ lo2 hi2, (w.freeze ⟨p.b, p.o + i, none⟩ n).heap[p.b]? = some (.cells cc e (lo2, hi2)) ∧ hi2 ≤ p.o + c.length := by
    rw [hw, Array.getElem?_modify, if_pos rfl, hh]
    simp only [Option.map_some]
    by_cases e1 : lo = hi'
    · refine ⟨p.o + i, p.o + i + n, by simp [e1], by omega⟩
    · refine ⟨min lo (p.o + i), max hi' (p.o + i + n), by simp [e1], ?_⟩
      have : hi' ≤ p.o + c.length := by
        cases hb : (famOf a f).fz with
        | true => rcases hz' hb hleaf with h1 | h1
                  · exact absurd h1 e1
                  · exact h1
        | false => rcases hz hb with h1 | h1
                   · exact absurd h1 e1
                   · rw [hsg] at h1; simp at h1
      omega
  have hrest : (w.freeze ⟨p.b, p.o + i, none⟩ n).os = w.os ∧ (w.freeze ⟨p.b, p.o + i, none⟩ n).tape = w.tape ∧ (w.freeze ⟨p.b, p.o + i, none⟩ n).output = w.output := by
    unfold World.freeze; rw [if_neg hn]; exact ⟨rfl, rfl, rfl⟩
  obtain ⟨lo2, hi2, hnew, hhi2⟩ := hnew
  refine ⟨⟨?_, ?_, ?_, ?_, ?_, ?_, ?_, ?_, ?_⟩, PM.le_refl π, fun x q h1 h2 => by rw [h1] at h2; simp at h2, by rw [hw]; simp, ?_, hrest.1, hrest.2.1, hrest.2.2, by rw [ha]; exact Nat.le_refl _, by rw [ha]; exact Nat.min_le_left _ _⟩
  · intro g hg'
    rw [ha] at hg' ⊢
    simp only [] at hg' ⊢
    rw [T.get_set, if_neg (by omega)]; exact h.wf g hg'
  · intro x q hx; rw [ha]; exact h.dom x q hx
  · intro x q hx; rw [hget]; exact h.has x q hx
  · intro x q c2 e2 f2 hx hx2
    rw [hget] at hx2
    obtain ⟨h1, h2, h3, cc2, lo3, hi3, h4, h5, h6, h7, h8⟩ := h.cells x q c2 e2 f2 hx hx2
    rw [hfam]
    by_cases e1 : q.b = p.b
    · obtain ⟨c3, e3, hx3, hx4⟩ := h.mates hp hg x q hx e1
      rw [hx2] at hx3
      simp only [Option.some.injEq, AB.cells.injEq] at hx3
      obtain ⟨rfl, rfl, rfl⟩ := hx3
      rw [e1, hh] at h4
      simp only [Option.some.injEq, Obj.cells.injEq, Prod.mk.injEq] at h4
      obtain ⟨rfl, rfl, rfl, rfl⟩ := h4
      rw [if_pos rfl]
      refine ⟨h1, h2, h3, cc, lo2, hi2, by rw [e1]; exact hnew, h5, h6, fun hzz => by simp at hzz, fun _ hl => ?_⟩
      have hl' : (famOf a f2).leaf = x := hl
      have : x = β := by rw [← hl', hleaf]
      subst this
      obtain rfl : q = p := by rw [hp] at hx; simpa using hx.symm
      rw [hg] at hx2
      simp only [Option.some.injEq, AB.cells.injEq] at hx2
      obtain ⟨rfl, _, _⟩ := hx2
      exact .inr hhi2
    · rw [hoth _ e1]
      by_cases e3 : f2 = f
      · subst e3
        rw [if_pos rfl]
        refine ⟨h1, h2, h3, cc2, lo3, hi3, h4, h5, h6, fun hzz => by simp at hzz, fun _ hl => ?_⟩
        have hl' : (famOf a f2).leaf = x := hl
        have : x = β := by rw [← hl', hleaf]
        subst this
        obtain rfl : q = p := by rw [hp] at hx; simpa using hx.symm
        exact absurd rfl e1
      · rw [if_neg e3]
        exact ⟨h1, h2, h3, cc2, lo3, hi3, h4, h5, h6, h7, h8⟩
  · intro x q es cl hx hx2
    rw [hget] at hx2
    have e2 : q.b ≠ p.b := fun e2 => by
      obtain ⟨c2, e3, hx3, _⟩ := h.mates hp hg x q hx e2
      rw [hx2] at hx3; simp at hx3
    rw [hoth _ e2]
    exact h.maps x q es cl hx hx2
  · intro x q s pos hx hx2
    rw [hget] at hx2
    have e2 : q.b ≠ p.b := fun e2 => by
      obtain ⟨c2, e3, hx3, _⟩ := h.mates hp hg x q hx e2
      rw [hx2] at hx3; simp at hx3
    rw [hoth _ e2]
    exact h.siter x q s pos hx hx2
  · intro x y q r hx hy hqr
    rw [hroot, hroot]; exact h.sep x y q r hx hy hqr
  · intro x y q r c₁ c₂ e₁ e₂ f₂ hx hy hqr hg1 hg2 hlt hm
    rw [hget] at hg1 hg2
    rw [hfam] at hm
    refine h.chain x y q r c₁ c₂ e₁ e₂ f₂ hx hy hqr hg1 hg2 hlt ?_
    split at hm
    · rename_i e3; subst e3; exact hm
    · exact hm
  · intro x q c2 e2 hx hx2
    rw [hget] at hx2
    exact h.org x q c2 e2 hx hx2
  · intro k hk hm
    refine hoth k fun e1 => ?_
    have := hm β p hp e1.symm
    rw [ha] at this
    simp only [] at this
    have := Nat.min_le_right a.mu f
    omega

/-- Bytes that were converted to bytes: they may lie in one place with others. -/
theorem stp_sg {a a' : AS} {π : PM} {w : World} {β : Nat} {p : Pl} {c : List AV} {e f n : Nat} (h : R a π w) (hp : π β = some p)
    (hg : a.hp.get β = some (.cells c e f)) (hfz : (famOf a f).fz = false) (hn : n = p.o + p.lim)
    (ha : a' = { a with fam := a.fam.set f { famOf a f with sg := true }, mu := min a.mu f }) :
    Stp a π w a' π (w.freeze ⟨p.b, n, none⟩ 1) := by
  have hget : ∀ x, a'.hp.get x = a.hp.get x := fun x => by rw [ha]
  have hfam : ∀ g, famOf a' g = if g = f then { famOf a f with sg := true } else famOf a g := fun g => famOf_set (by rw [ha])
  obtain ⟨hfβ, _, hlim, cc, lo, hi', hh, hsz, hcont, hz, hz'⟩ := h.cells β p c e f hp hg
  have hβ := h.dom β p hp
  have hroot : ∀ x, root a' x = root a x := fun x => by unfold root; rw [hget]
  have hw : (w.freeze ⟨p.b, n, none⟩ 1).heap = w.heap.modify p.b fun
      | .cells c elem (lo, hi) => .cells c elem (if lo == hi then (n, n + 1) else (min lo n, max hi (n + 1)))
      | o => o := by unfold World.freeze; rw [if_neg (by omega)]; rfl
  have hoth : ∀ k, k ≠ p.b → (w.freeze ⟨p.b, n, none⟩ 1).heap[k]? = w.heap[k]? := fun k hk => by rw [hw, Array.getElem?_modify, if_neg (fun e => hk e.symm)]
  have hnew : ∃ lo2 hi2, (w.freeze ⟨p.b, n, none⟩ 1).heap[p.b]? = some (.cells cc e (lo2, hi2)) ∧ cc.size ≤ lo2 := by
    rw [hw, Array.getElem?_modify, if_pos rfl, hh]
    simp only [Option.map_some]
    by_cases e1 : lo = hi'
    · refine ⟨n, n + 1, by simp [e1], by omega⟩
    · refine ⟨min lo n, max hi' (n + 1), by simp [e1], ?_⟩
      rcases hz hfz with h1 | h1
      · exact absurd h1 e1
      · omega
  have hrest : (w.freeze ⟨p.b, n, none⟩ 1).os = w.os ∧ (w.freeze ⟨p.b, n, none⟩ 1).tape = w.tape ∧ (w.freeze ⟨p.b, n, none⟩ 1).output = w.output := by
    unfold World.freeze; rw [if_neg (by omega)]; exact ⟨rfl, rfl, rfl⟩
  obtain ⟨lo2, hi2, hnew, hlo2⟩ := hnew
  refine ⟨⟨?_, ?_, ?_, ?_, ?_, ?_, ?_, ?_, ?_⟩, PM.le_refl π, fun x q h1 h2 => by rw [h1] at h2; simp at h2, by rw [hw]; simp, ?_, hrest.1, hrest.2.1, hrest.2.2, by rw [ha]; exact Nat.le_refl _, by rw [ha]; exact Nat.min_le_left _ _⟩
  · intro g hg'
    rw [ha] at hg' ⊢
    simp only [] at hg' ⊢
    rw [T.get_set, if_neg (by omega)]; exact h.wf g hg'
  · intro x q hx; rw [ha]; exact h.dom x q hx
  · intro x q hx; rw [hget]; exact h.has x q hx
  · intro x q c2 e2 f2 hx hx2
    rw [hget] at hx2
    obtain ⟨h1, h2, h3, cc2, lo3, hi3, h4, h5, h6, h7, h8⟩ := h.cells x q c2 e2 f2 hx hx2
    rw [hfam]
    by_cases e1 : q.b = p.b
    · obtain ⟨c3, e3, hx3, hx4⟩ := h.mates hp hg x q hx e1
      rw [hx2] at hx3
      simp only [Option.some.injEq, AB.cells.injEq] at hx3
      obtain ⟨rfl, rfl, rfl⟩ := hx3
      rw [e1, hh] at h4
      simp only [Option.some.injEq, Obj.cells.injEq, Prod.mk.injEq] at h4
      obtain ⟨rfl, rfl, rfl, rfl⟩ := h4
      rw [if_pos rfl]
      refine ⟨h1, h2, h3, cc, lo2, hi2, by rw [e1]; exact hnew, h5, h6, fun _ => .inr ⟨rfl, hlo2⟩, fun hzz => ?_⟩
      have hzz' : (famOf a f2).fz = true := hzz
      rw [hfz] at hzz'; simp at hzz'
    · rw [hoth _ e1]
      by_cases e3 : f2 = f
      · subst e3
        rw [if_pos rfl]
        refine ⟨h1, h2, h3, cc2, lo3, hi3, h4, h5, h6, fun hzz => ?_, fun hzz => ?_⟩
        · rcases h7 hfz with h9 | h9
          · exact .inl h9
          · exact .inr ⟨rfl, h9.2⟩
        · have hzz' : (famOf a f2).fz = true := hzz
          rw [hfz] at hzz'; simp at hzz'
      · rw [if_neg e3]
        exact ⟨h1, h2, h3, cc2, lo3, hi3, h4, h5, h6, h7, h8⟩
  · intro x q es cl hx hx2
    rw [hget] at hx2
    have e2 : q.b ≠ p.b := fun e2 => by
      obtain ⟨c2, e3, hx3, _⟩ := h.mates hp hg x q hx e2
      rw [hx2] at hx3; simp at hx3
    rw [hoth _ e2]
    exact h.maps x q es cl hx hx2
  · intro x q s pos hx hx2
    rw [hget] at hx2
    have e2 : q.b ≠ p.b := fun e2 => by
      obtain ⟨c2, e3, hx3, _⟩ := h.mates hp hg x q hx e2
      rw [hx2] at hx3; simp at hx3
    rw [hoth _ e2]
    exact h.siter x q s pos hx hx2
  · intro x y q r hx hy hqr
    rw [hroot, hroot]; exact h.sep x y q r hx hy hqr
  · intro x y q r c₁ c₂ e₁ e₂ f₂ hx hy hqr hg1 hg2 hlt hm
    rw [hget] at hg1 hg2
    rw [hfam] at hm
    refine h.chain x y q r c₁ c₂ e₁ e₂ f₂ hx hy hqr hg1 hg2 hlt ?_
    split at hm
    · rename_i e3; subst e3; exact hm
    · exact hm
  · intro x q c2 e2 hx hx2
    rw [hget] at hx2
    exact h.org x q c2 e2 hx hx2
  · intro k hk hm
    refine hoth k fun e1 => ?_
    have := hm β p hp e1.symm
    rw [ha] at this
    simp only [] at this
    have := Nat.min_le_right a.mu f
    omega

end Go.Proofs.YtmhajfnfjjbflaaGreatDoor.Ev
