/- A part of the proof of this claim (part 1): own work: a lifting of compiled code into pure functions, and laws on them. -/
import GoSem.Core.View
import GoSem.Op.String
import Derived.WalkKit
import Derived.WalkLawsBesides
import Derived.Laws.IdiomStrings
import Derived.Laws.BytesArg
import Derived.ChangeKeysEq
set_option linter.all false
set_option linter.unusedSimpArgs false
set_option linter.unusedVariables false
section
/-! What is held of package-level variables throughout. -/
namespace Go.Proofs.DenT
open Go
/-- Of this program nothing. -/
def TabQ (Φ : Nat → Nat → Option Value) : Prop := True
theorem TabQ.mono {Φ Φ' : Nat → Nat → Option Value} (h : ∀ b o v, Φ b o = some v → Φ' b o = some v) (q : TabQ Φ) : TabQ Φ' := trivial
end Go.Proofs.DenT
end
section
/-! The abstract machine: values without addresses, a compact form of the code, and its meaning as a pure function. -/
namespace Go.Proofs.DenT
set_option linter.unusedVariables false

/-- Abstract values: what a Go value is, without addresses. A list of lists: a slice's elements, each the list of its cells. -/
inductive AV where
  | b (v : Bool)
  | i (k : IntKind) (n : Int)
  | s (v : ByteArray)
  | np
  | hp (l : Nat) (off : Nat)
  | lp (j : Nat) (off : Nat)
  | lv (j off n sz : Nat)
  | ip (n : Nat) (cells : List AV) (off : Nat)
  | sl (sz : Nat) (elems : List (List AV))
  | mp (l : Nat)
  | nmp
  | fn (f : Nat) (caps : List AV)
  | nfn
  | ifc (t : Nat) (v : AV)
  | nifc
  | ag (cells : List AV)
  | tp (vs : List AV)
  | junk

/-! ### Lists, by plain recursors (the kernel reduces them fast) -/
noncomputable def nth {α : Type} (l : List α) : Nat → α → α :=
  List.rec (motive := fun _ => Nat → α → α) (fun _ d => d) (fun x _ ih n d => Nat.rec (motive := fun _ => α) x (fun m _ => ih m d) n) l
noncomputable def upd {α : Type} (l : List α) : Nat → α → List α :=
  List.rec (motive := fun _ => Nat → α → List α) (fun _ _ => []) (fun x xs ih n v => Nat.rec (motive := fun _ => List α) (v :: xs) (fun m _ => x :: ih m v) n) l
/-- n cells from place o on. -/
noncomputable def sub (cs : List AV) (o n : Nat) : List AV :=
  Nat.rec (motive := fun _ => Nat → List AV) (fun _ => []) (fun _ ih o => nth cs o .junk :: ih (o + 1)) n o
/-- The first n cells of xs, laid over cs from place o on. -/
noncomputable def lay (xs : List AV) (n : Nat) (cs : List AV) (o : Nat) : List AV :=
  Nat.rec (motive := fun _ => Nat → List AV → List AV) (fun _ cs => cs) (fun _ ih j cs => ih (j + 1) (upd cs (o + j) (nth xs j .junk))) n 0 cs
/-- n rows of sz cells from place o on. -/
noncomputable def rows (sz : Nat) (cs : List AV) (o n : Nat) : List (List AV) :=
  Nat.rec (motive := fun _ => Nat → List (List AV)) (fun _ => []) (fun _ ih o => sub cs o sz :: ih (o + sz)) n o

/-! ### Looks into values -/
def AV.num : AV → Int | .i _ n => n | _ => 0
def AV.bool : AV → Bool | .b v => v | _ => false
def AV.str : AV → ByteArray | .s v => v | _ => ⟨#[]⟩
def AV.els : AV → List (List AV) | .sl _ e => e | _ => []
def AV.agc : AV → List AV | .ag c => c | _ => []
def AV.cellsOf : AV → List AV | .ag c => c | .tp _ => [] | x => [x]
def AV.tps : AV → List AV | .tp c => c | _ => []
def AV.isI (k : IntKind) : AV → Bool | .i k' _ => k' == k | _ => false
def AV.atom : AV → Bool | .ag _ => false | .tp _ => false | .junk => false | .lp _ _ => false | .lv _ _ _ _ => false | _ => true
def AV.isB : AV → Bool | .b _ => true | _ => false
def AV.isS : AV → Bool | .s _ => true | _ => false
def AV.isSl (sz : Nat) : AV → Bool | .sl z _ => z == sz | _ => false
def AV.isAg : AV → Bool | .ag _ => true | _ => false
def AV.isTp : AV → Bool | .tp _ => true | _ => false
def AV.isHp : AV → Bool | .hp _ _ => true | _ => false
def AV.isLpc (j : Nat) : AV → Bool | .lp k o => k == j && o == 0 | _ => false
def AV.isHp0 : AV → Bool | .hp _ o => o == 0 | _ => false
def AV.isNp : AV → Bool | .np => true | _ => false
def AV.isPtr : AV → Bool | .np => true | .hp _ _ => true | .ip _ _ _ => true | .lp _ _ => true | _ => false
def AV.isIfc : AV → Bool | .ifc _ _ => true | .nifc => true | _ => false
def AV.isNifc : AV → Bool | .nifc => true | _ => false
def AV.isMp : AV → Bool | .mp _ => true | _ => false
def AV.isFn : AV → Bool | .fn _ _ => true | _ => false
def AV.hpL : AV → Nat | .hp l _ => l | .mp l => l | _ => 0
def AV.hpO : AV → Nat | .hp _ o => o | .lp _ o => o | .ip _ _ o => o | _ => 0
def AV.lpJ : AV → Nat | .lp j _ => j | _ => 0
def AV.isLp : AV → Bool | .lp _ _ => true | _ => false
def AV.isIp : AV → Bool | .ip _ _ _ => true | _ => false
def AV.ipN : AV → Nat | .ip n _ _ => n | _ => 0
def AV.ipC : AV → List AV | .ip _ c _ => c | _ => []
def AV.addOff (x : AV) (o : Nat) : AV := match x with | .hp l p => .hp l (p + o) | .lp j p => .lp j (p + o) | .ip n c p => .ip n c (p + o) | x => x
def AV.len (cs : AV) : Nat := cs.cellsOf.length

/-! ### Shapes: typed payloads -/
inductive Sh where
  | i (k : IntKind) | b | s | sl (sz : Nat) | ag | any | lpc (j : Nat) | hp | mp
abbrev Sh.T : Sh → Type
  | .i _ => Int | .b => Bool | .s => ByteArray | .sl _ => List (List AV) | .ag => List AV | .any => AV | .lpc _ => Unit | .hp => Nat | .mp => Nat
def Sh.inj : (h : Sh) → h.T → AV
  | .i k, n => .i k n | .b, v => .b v | .s, v => .s v | .sl z, e => .sl z e | .ag, c => .ag c | .any, x => x | .lpc j, _ => .lp j 0 | .hp, l => .hp l 0 | .mp, l => .mp l
def Sh.prj : (h : Sh) → AV → h.T
  | .i _, x => x.num | .b, x => x.bool | .s, x => x.str | .sl _, x => x.els | .ag, x => x.agc | .any, x => x | .lpc _, _ => () | .hp, x => x.hpL | .mp, x => x.hpL
def Sh.is : (h : Sh) → AV → Bool
  | .i k, x => x.isI k | .b, x => x.isB | .s, x => x.isS | .sl z, x => x.isSl z | .ag, x => x.isAg | .any, x => x.atom | .lpc j, x => x.isLpc j | .hp, x => x.isHp0 | .mp, x => x.isMp
def Sh.d : (h : Sh) → h.T
  | .i _ => (0 : Int) | .b => false | .s => (⟨#[]⟩ : ByteArray) | .sl _ => ([] : List (List AV)) | .ag => ([] : List AV) | .any => AV.junk | .lpc _ => () | .hp => (0 : Nat) | .mp => (0 : Nat)
/-- A value in the form of its shape. -/
def Sh.nf (h : Sh) (x : AV) : AV := h.inj (h.prj x)

abbrev Tup : List Sh → Type
  | [] => Unit
  | h :: r => h.T × Tup r
def Tup.inj : (l : List Sh) → Tup l → List AV
  | [], _ => []
  | h :: r, v => h.inj v.1 :: Tup.inj r v.2
noncomputable def Tup.prj : (l : List Sh) → List AV → Tup l
  | [], _ => ()
  | h :: r, xs => (h.prj (nth xs 0 .junk), Tup.prj r xs.tail)
noncomputable def Tup.is : (l : List Sh) → List AV → List Bool
  | [], _ => []
  | h :: r, xs => h.is (nth xs 0 .junk) :: Tup.is r xs.tail
def Tup.d : (l : List Sh) → Tup l
  | [] => ()
  | h :: r => (h.d, Tup.d r)

/-! ### The abstract heap, answers -/
inductive HO where
  | cells (n : Nat) (cs : List AV) (own : List Nat)
  | map (kk : IntKind) (ag : Bool) (es : List (Int × List AV))
  | dead
abbrev Heap := List HO
def HO.n : HO → Nat | .cells n _ _ => n | _ => 0
def HO.cs : HO → List AV | .cells _ c _ => c | _ => []
def HO.own : HO → List Nat | .cells _ _ o => o | _ => []
def HO.es : HO → List (Int × List AV) | .map _ _ e => e | _ => []
def HO.agg : HO → Bool | .map _ a _ => a | _ => false
def HO.isMk (kk : IntKind) (ag : Bool) : HO → Bool | .map k a _ => k == kk && a == ag | _ => false
def HO.isC : HO → Bool | .cells _ _ _ => true | _ => false
def HO.isM : HO → Bool | .map _ _ _ => true | _ => false
noncomputable def obj (H : Heap) (l : Nat) : HO := nth H l .dead

structure Res (α : Type) where
  pre : Bool
  out : α
  H : Heap
def fail {α : Type} (d : α) : Res α := ⟨false, d, []⟩
def ok {α : Type} (v : α) (H : Heap) : Res α := ⟨true, v, H⟩
def req {α : Type} (p : Bool) (r : Res α) : Res α := ⟨p && r.pre, r.out, r.H⟩
def imp (p q : Bool) : Bool := match p with | true => q | false => true
def isB (x want : Bool) : Bool := match want with | true => x | false => !x
def reqB {α : Type} (b : Bool) (d : α) (r : Res α) : Res α := match b with | true => r | false => fail d
/-- Under a guard: only where p holds is b asked. -/
def reqG {α : Type} (p : Bool) (b : Bool) (r : Res α) : Res α := match b with | true => r | false => req (!p) r
def sumElim {α β γ : Type} (x : Sum α β) (f : α → γ) (g : β → γ) : γ := match x with | .inl a => f a | .inr b => g b
noncomputable def iter {α β : Type} (d : β) (f : (α → Heap → Res β) → α → Heap → Res β) (n : Nat) : α → Heap → Res β :=
  Nat.rec (motive := fun _ => α → Heap → Res β) (fun _ _ => fail d) (fun _ ih => f ih) n

/-! ### The state -/
/-- What a slot's value is besides: nothing; a local place; a row whose tail is the slot's own; a row without a tail; a value whose listed cells are nil slices. -/
inductive Kd where | glob | loc | own | nils (l : List Nat)
inductive Ok where | yes | when (p : Bool) | no
structure Reg where
  x : AV
  k : Kd
  ok : Ok
def Reg.junk : Reg := ⟨.junk, .glob, .no⟩
/-- The guard's condition. -/
def Reg.gP (r : Reg) (want : Bool) : Bool := match r.ok with | .yes => isB r.x.bool want | .when q => q && isB r.x.bool want | .no => false
def Reg.gB (r : Reg) : Bool := match r.ok with | .no => false | _ => r.x.isB
structure LO where
  n : Nat
  cs : List AV
  own : List Nat
  frz : Bool
  live : Bool
def LO.dead : LO := ⟨0, [], [], true, false⟩
structure St where
  env : List Reg
  loc : List LO
  H : Heap

def Ok.imp (o : Ok) (q : Bool) : Ok := match o with | .yes => .yes | .when p => .when (Go.Proofs.DenT.imp q p) | .no => .when (!q)
def Kd.view : Kd → Kd | .own => .glob | .nils _ => .glob | k => k
def Kd.isG : Kd → Bool | .glob => true | .own => true | .nils _ => true | _ => false
def Kd.offs : Kd → List Nat | .nils l => l | _ => []
def Kd.isOwn : Kd → Bool | .own => true | _ => false
def Kd.isLoc : Kd → Bool | .loc => true | _ => false
def Kd.app : Kd → Bool | .own => true | _ => false
/-- Of this kind, or may be taken for it. -/
def Kd.fits : Kd → Kd → Bool
  | .glob, .glob => true | .own, .glob => true | .nils _, .glob => true | .loc, .loc => true | .own, .own => true | _, _ => false

/-- Operands: a slot; a constant; the nil slice, as an owned one. -/
inductive Src where | t (n : Nat) | c (v : AV) | co (v : AV)
noncomputable def envGet (env : List Reg) : Src → Reg
  | .t n => nth env n Reg.junk
  | .c v => ⟨v, .glob, .yes⟩
  | .co v => ⟨v, .own, .yes⟩
noncomputable def putR (env : List Reg) (dst : Option Nat) (r : Reg) : List Reg :=
  match dst with | none => env | some d => upd env d r
noncomputable def St.get (s : St) (x : Src) : Reg := envGet s.env x

/-! ### Operations -/
inductive AOp where | add | sub | mul | quo | rem | and | or | xor | andNot
inductive COp where | eql | neq | lss | leq | gtr | geq
noncomputable def AOp.run (k : IntKind) (x y : Int) : AOp → Int
  | .add => k.wrap (x + y) | .sub => k.wrap (x - y) | .mul => k.wrap (x * y)
  | .quo => k.wrap (x.tdiv y) | .rem => x.tmod y
  | .and => k.wrap (BitVec.ofInt k.bits x &&& BitVec.ofInt k.bits y).toNat
  | .or => k.wrap (BitVec.ofInt k.bits x ||| BitVec.ofInt k.bits y).toNat
  | .xor => k.wrap (BitVec.ofInt k.bits x ^^^ BitVec.ofInt k.bits y).toNat
  | .andNot => k.wrap (BitVec.ofInt k.bits x &&& ~~~ BitVec.ofInt k.bits y).toNat
def AOp.needs (y : Int) : AOp → Bool
  | .quo => y != 0 | .rem => y != 0 | _ => true
def COp.run (x y : Int) : COp → Bool
  | .eql => x == y | .neq => x != y | .lss => decide (x < y) | .leq => decide (x ≤ y) | .gtr => decide (x > y) | .geq => decide (x ≥ y)
def COp.runS (x y : ByteArray) (o : COp) : Bool :=
  let eq := x.toList == y.toList
  let lt := Op.bytesLess x.toList y.toList
  match o with
  | .eql => eq | .neq => !eq | .lss => lt | .leq => lt || eq | .gtr => !(lt || eq) | .geq => !lt
def shlI (k : IntKind) (x y : Int) : Int := k.wrap (x * 2 ^ (min y.toNat k.bits))
def shrI (k : IntKind) (x y : Int) : Int := x.fdiv (2 ^ (min y.toNat k.bits))
def inb (i : Int) (n : Nat) : Bool := decide (0 ≤ i) && decide (i < n)
def inbE (i : Int) (n : Nat) : Bool := decide (0 ≤ i) && decide (i ≤ n)
/-- A byte of a text. -/
def byteAt (s : ByteArray) (i : Int) : Int := match s[i.toNat]? with | some c => c.toNat | none => 0
def bytesOf (s : ByteArray) : List (List AV) := s.data.toList.map fun c => [AV.i .u8 c.toNat]
def strOf (l : List (List AV)) : ByteArray := ⟨(l.map fun c => UInt8.ofNat ((c.headD .junk).num.toNat)).toArray⟩
noncomputable def eqI (n : Nat) (xs ys : List AV) : Bool :=
  Nat.rec (motive := fun _ => Nat → Bool) (fun _ => true) (fun _ ih o => (nth xs o .junk).num == (nth ys o .junk).num && ih (o + 1)) n 0
noncomputable def allI (ks : List IntKind) (xs : List AV) : Bool :=
  List.rec (motive := fun _ => Nat → Bool) (fun _ => true) (fun k _ ih o => (nth xs o .junk).isI k && ih (o + 1)) ks 0
def room : Nat := 140737488355328
def minMax (mn : Bool) (m y : Int) : Int := match mn with | true => if y < m then y else m | false => if y > m then y else m
def cat (x y : List (List AV)) : List (List AV) := x ++ y
def catS (x y : ByteArray) : ByteArray := x ++ y
def roomL (x y : List (List AV)) (b : Nat) : Bool := decide ((x.length + y.length) * b ≤ room)
def roomLS (x : List (List AV)) (y : ByteArray) (b : Nat) : Bool := decide ((x.length + y.size) * b ≤ room)
def roomS (x y : ByteArray) : Bool := decide (x.size + y.size ≤ room)
def isAllBytes (l : List (List AV)) : Bool := l.all fun c => (c.headD .junk).isI .u8

/-- How a place is read: one cell in a shape; a run of cells. -/
inductive LSh where | one (h : Sh) | agg (n : Nat)
def LSh.sz : LSh → Nat | .one _ => 1 | .agg n => n
noncomputable def LSh.read (h : LSh) (n : Nat) (cs : List AV) (o : Nat) : AV :=
  match h with
  | .one h => h.nf (nth cs o .junk)
  | .agg m => match o == 0 && m == n with | true => .ag cs | false => .ag (sub cs o m)
noncomputable def LSh.can (h : LSh) (n : Nat) (cs : List AV) (o : Nat) : Bool :=
  match h with
  | .one h => decide (o < n) && h.is (nth cs o .junk)
  | .agg m => decide (o + m ≤ n)
noncomputable def LSh.write (h : LSh) (n : Nat) (cs : List AV) (o : Nat) (v : AV) : List AV :=
  match h with
  | .one _ => upd cs o v
  | .agg m => match o == 0 && m == n with | true => v.agc | false => lay v.agc m cs o
def LSh.fits (h : LSh) (v : AV) : Bool :=
  match h with
  | .one h => h.is v
  | .agg m => match v with | .ag c => c.length == m | _ => false

inductive P where
  | mov (x : Src)
  | movO (t : Nat)
  | pick (c a b : Src)
  | build (z : List AV) (uses : List (Src × Nat × Nat))
  | bslice (sz n : Nat) (z : List AV) (uses : List (Src × Nat))
  | arith (o : AOp) (k : IntKind) (x y : Src)
  | shl (k yk : IntKind) (x y : Src)
  | shr (k yk : IntKind) (x y : Src)
  | cmp (o : COp) (k : IntKind) (x y : Src)
  | beq (neg : Bool) (x y : Src)
  | scmp (o : COp) (x y : Src)
  | sadd (x y : Src)
  | aeq (neg : Bool) (ks : List IntKind) (x y : Src)
  | pnil (neg : Bool) (x : Src)
  | inil (neg : Bool) (x : Src)
  | snil (neg : Bool) (x : Src) (sz : Nat)
  | neg (k : IntKind) (x : Src)
  | compl (k : IntKind) (x : Src)
  | not (x : Src)
  | conv (k0 k : IntKind) (x : Src)
  | s2b (x : Src)
  | b2s (x : Src)
  | b2sV (x : Src)
  | idS (x : Src)
  | fld (x : Src) (n o : Nat) (h : LSh)
  | idxA (x i : Src) (ik : IntKind) (n sz : Nat) (h : LSh)
  | idxS (x i : Src) (ik : IntKind)
  | fa (x : Src) (o : Nat)
  | ixa (x i : Src) (ik : IntKind) (sz : Nat)
  | ixp (x i : Src) (ik : IntKind) (n sz : Nat)
  | nck (x : Src)
  | nckL (x : Src)
  | iload (x : Src) (h : LSh)
  | lload (j : Nat) (x : Src) (h : LSh)
  | hload (x : Src) (h : LSh)
  | slc (x : Src) (sz : Nat) (lo hi : Option (Src × IntKind))
  | clp (x : Src) (sz : Nat) (lo hi mx : Option (Src × IntKind))
  | slcS (x : Src) (lo hi : Option (Src × IntKind))
  | slcL (x : Src) (n sz : Nat) (lo hi : Option (Src × IntKind))
  | slcI (x : Src) (n sz : Nat) (lo hi : Option (Src × IntKind))
  | s2a (x : Src) (n sz : Nat)
  | mkif (t : Nat) (x : Src)
  | ext (x : Src) (j : Nat) (h : Sh)
  | lenL (x : Src) (sz : Nat)
  | lenV (x : Src)
  | lenS (x : Src)
  | lenM (x : Src)
  | ext2 (mn : Bool) (k : IntKind) (x : Src) (xs : List Src)
  | look (x k : Src) (kk : IntKind) (zero : List AV) (h : LSh) (ok : Bool)
  | mks (x : Src) (ik : IntKind) (sz bytes : Nat) (z : List AV)
  | lalloc (j n : Nat) (cs : List AV) (own : List Nat)
  | lbox (j n : Nat) (x : Src) (wide : Bool)
  | ibox (n : Nat) (x : Src)
  | halloc (n : Nat) (cs : List AV) (own : List Nat)
  | hbox (n : Nat) (x : Src)
  | lstore (j : Nat) (x : Src) (h : LSh) (v : Src)
  | lstoreO (j : Nat) (x : Src) (t : Nat)
  | lloadO (j : Nat) (x : Src) (sz : Nat)
  | hstore (x : Src) (h : LSh) (v : Src)
  | hstoreO (x : Src) (t : Nat)
  | hloadO (x : Src) (sz : Nat)
  | app (t : Nat) (y : Src) (sz bytes : Nat)
  | appS (t : Nat) (y : Src) (bytes : Nat)
  | call (pu vw : Bool) (f : Nat) (args : List Src)
  | callv (pu : Bool) (x : Src) (args : List Src) (outs : List Sh)
  | mkfn (f : Nat) (caps : List Src)
  | mmap (kk : IntKind) (agg : Bool)
  | mupd (x k v : Src) (kk : IntKind) (n : Nat)

structure O' where
  dst : Option Nat
  op : P
  g : Option (Nat × Bool × Bool)

/-- What is read and written. -/
def bndSrc : Option (Src × IntKind) → List Src | none => [] | some u => [u.1]
def P.opnds : P → List Src
  | .mov x | .not x | .s2b x | .b2s x | .b2sV x | .idS x | .nck x | .nckL x | .lenS x | .lenM x | .lenV x => [x]
  | .movO t => [.t t]
  | .pick c a b => [c, a, b]
  | .build _ u => u.map (·.1)
  | .bslice _ _ _ u => u.map (·.1)
  | .arith _ _ x y | .shl _ _ x y | .shr _ _ x y | .cmp _ _ x y | .beq _ x y | .scmp _ x y | .sadd x y | .aeq _ _ x y => [x, y]
  | .pnil _ x | .inil _ x | .snil _ x _ | .neg _ x | .compl _ x | .conv _ _ x => [x]
  | .fld x _ _ _ | .fa x _ | .iload x _ | .lload _ x _ | .hload x _ | .s2a x _ _ | .mkif _ x | .ext x _ _ | .lenL x _ | .mks x _ _ _ _ => [x]
  | .idxA x i _ _ _ _ | .idxS x i _ | .ixa x i _ _ | .ixp x i _ _ _ => [x, i]
  | .slc x _ lo hi | .slcS x lo hi | .slcL x _ _ lo hi | .slcI x _ _ lo hi => x :: (bndSrc lo ++ bndSrc hi)
  | .clp x _ lo hi mx => x :: (bndSrc lo ++ bndSrc hi ++ bndSrc mx)
  | .ext2 _ _ x xs => x :: xs
  | .look x k _ _ _ _ => [x, k]
  | .lalloc _ _ _ _ | .halloc _ _ _ | .mmap _ _ => []
  | .lbox _ _ x _ | .ibox _ x | .hbox _ x => [x]
  | .lstore _ x _ v | .hstore x _ v => [x, v]
  | .lstoreO _ x t | .hstoreO x t => [x, .t t]
  | .lloadO _ x _ | .hloadO x _ => [x]
  | .app t y _ _ | .appS t y _ => [.t t, y]
  | .call _ _ _ args => args
  | .callv _ x args _ => x :: args
  | .mkfn _ caps => caps
  | .mupd x k v _ _ => [x, k, v]
/-- The slot that gives up what it owns. -/
def P.demo : P → Option Nat
  | .movO t | .lstoreO _ _ t | .hstoreO _ t | .app t _ _ _ | .appS t _ _ => some t
  | _ => none
def P.rdL : P → Bool
  | .lload _ _ _ | .lalloc _ _ _ _ | .lbox _ _ _ _ | .lstore _ _ _ _ | .lstoreO _ _ _ | .lloadO _ _ _ | .mkfn _ _ | .b2sV _ => true
  | .call _ vw _ _ => vw
  | _ => false
def P.wrL : P → Bool
  | .lalloc _ _ _ _ | .lbox _ _ _ _ | .lstore _ _ _ _ | .lstoreO _ _ _ | .lloadO _ _ _ | .mkfn _ _ => true
  | _ => false
def P.rdH : P → Bool
  | .hload _ _ | .lenM _ | .look _ _ _ _ _ _ | .halloc _ _ _ | .hbox _ _ | .hstore _ _ _ | .hstoreO _ _ | .hloadO _ _ | .call _ _ _ _ | .callv _ _ _ _ | .mmap _ _ | .mupd _ _ _ _ _ => true
  | _ => false
def P.wrH : P → Bool
  | .halloc _ _ _ | .hbox _ _ | .hstore _ _ _ | .hstoreO _ _ | .hloadO _ _ | .mmap _ _ | .mupd _ _ _ _ _ => true
  | .call pu _ _ _ => !pu
  | .callv pu _ _ _ => !pu
  | _ => false

/-- What an operation comes to: tests; which operands must hold; conditions; the value; the objects and the heap behind it. -/
structure EV where
  bs : List Bool
  os : List Ok
  ps : List Bool
  r : Reg
  loc : List LO
  H : Heap

noncomputable def rg (vs : List Reg) (i : Nat) : Reg := nth vs i Reg.junk
noncomputable def layAll (us : List (Src × Nat × Nat)) : List Reg → List AV → List AV :=
  List.rec (motive := fun _ => List Reg → List AV → List AV) (fun _ cs => cs) (fun u _ ih vs cs => ih vs.tail (lay (rg vs 0).x.cellsOf u.2.2 cs u.2.1)) us
noncomputable def usesB (us : List (Src × Nat × Nat)) : List Reg → List Bool :=
  List.rec (motive := fun _ => List Reg → List Bool) (fun _ => []) (fun u _ ih vs => ((rg vs 0).k.isG && !(rg vs 0).x.isTp && ((rg vs 0).x.cellsOf.length == u.2.2)) :: ih vs.tail) us
noncomputable def layRows (us : List (Src × Nat)) : List Reg → List (List AV) → List (List AV) :=
  List.rec (motive := fun _ => List Reg → List (List AV) → List (List AV)) (fun _ cs => cs) (fun u _ ih vs cs => ih vs.tail (upd cs u.2 (rg vs 0).x.cellsOf)) us
noncomputable def rowsB (sz : Nat) (us : List (Src × Nat)) : List Reg → List Bool :=
  List.rec (motive := fun _ => List Reg → List Bool) (fun _ => []) (fun u _ ih vs => ((rg vs 0).k.isG && !(rg vs 0).x.isTp && ((rg vs 0).x.cellsOf.length == sz)) :: ih vs.tail) us
noncomputable def repl {α : Type} (n : Nat) (a : α) : List α := Nat.rec (motive := fun _ => List α) [] (fun _ ih => a :: ih) n
def oksOf (vs : List Reg) : List Ok := vs.map (·.ok)
noncomputable def nilsZ (z : List AV) : Nat → List Nat :=
  List.rec (motive := fun _ => Nat → List Nat) (fun _ => []) (fun x _ ih n => match x with | .sl _ [] => n :: ih (n + 1) | _ => ih (n + 1)) z
def outN (o n : Nat) : List Nat → List Nat
  | [] => []
  | a :: l => match decide (a < o) || decide (o + n ≤ a) with | true => a :: outN o n l | false => outN o n l
noncomputable def nilsU (us : List (Src × Nat × Nat)) : List Nat → List Nat :=
  List.rec (motive := fun _ => List Nat → List Nat) (fun l => l) (fun u _ ih l => ih (outN u.2.1 u.2.2 l)) us
def findE (k : Int) : List (Int × List AV) → Option (List AV)
  | [] => none
  | e :: es => match e.1 == k with | true => some e.2 | false => findE k es
def putE (k : Int) (v : List AV) : List (Int × List AV) → List (Int × List AV)
  | [] => [(k, v)]
  | e :: es => match e.1 == k with | true => (k, v) :: es | false => e :: putE k v es
def optD {α : Type} (o : Option α) (d : α) : α := match o with | some x => x | none => d
def optB {α : Type} (o : Option α) : Bool := match o with | some _ => true | none => false
/-- Bounds: the value of a bound, its test; the operands of the bounds stand one behind the other. -/
noncomputable def bnd (o : Option (Src × IntKind)) (r : Reg) (d : Int) : Int := match o with | none => d | some _ => r.x.num
noncomputable def bndB (o : Option (Src × IntKind)) (r : Reg) : List Bool := match o with | none => [] | some u => [r.x.isI u.2]
def bndN (o : Option (Src × IntKind)) : Nat := match o with | none => 0 | some _ => 1
def shiftN (o : Nat) : List Nat → List Nat
  | [] => []
  | a :: l => (a + o) :: shiftN o l
/-- Which cells hold owned rows behind a store. -/
def ownBehind (h : LSh) (o : Nat) (co : Bool) (k : Kd) (own : List Nat) : List Nat :=
  match h with
  | .one _ => (match co with | true => o :: outN o 1 own | false => outN o 1 own)
  | .agg m => shiftN o k.offs ++ outN o m own
def Src.isCo : Src → Bool | .co _ => true | _ => false
noncomputable def cellsW (n : Nat) (x : AV) (wide : Bool) : List AV := match wide with | true => sub x.cellsOf 0 n | false => x.cellsOf
noncomputable def lob (loc : List LO) (x : AV) : LO := nth loc x.lpJ LO.dead
/-- A captured place, as what it holds from now on. -/
noncomputable def snap (loc : List LO) (r : Reg) : AV :=
  match r.k with
  | .loc => .ip (lob loc r.x).n (lob loc r.x).cs r.x.hpO
  | _ => r.x
noncomputable def snapB (loc : List LO) (r : Reg) : Bool :=
  match r.k with
  | .loc => r.x.isLp && (lob loc r.x).live
  | .glob => true
  | _ => false
noncomputable def freeze (loc : List LO) (r : Reg) : List LO :=
  match r.k with
  | .loc => upd loc r.x.lpJ { lob loc r.x with frz := true }
  | _ => loc
noncomputable def freezeAll (loc : List LO) (l : List Reg) : List LO :=
  List.rec (motive := fun _ => List LO → List LO) (fun loc => loc) (fun r _ ih loc => ih (freeze loc r)) l loc
/-- The rows that a view of a local object shows. -/
def AV.lvJ : AV → Nat | .lv j _ _ _ => j | _ => 0
def AV.lvO : AV → Nat | .lv _ o _ _ => o | _ => 0
def AV.lvN : AV → Nat | .lv _ _ n _ => n | _ => 0
def AV.lvZ : AV → Nat | .lv _ _ _ z => z | _ => 0
def AV.isLv : AV → Bool | .lv _ _ _ _ => true | _ => false
noncomputable def seen (loc : List LO) (x : AV) : List (List AV) := rows x.lvZ (nth loc x.lvJ LO.dead).cs x.lvO x.lvN
noncomputable def seenB (loc : List LO) (x : AV) : Bool := x.isLv && (nth loc x.lvJ LO.dead).live && decide (x.lvO + x.lvN * x.lvZ ≤ (nth loc x.lvJ LO.dead).n)
/-- An argument. -/
noncomputable def argX (vw : Bool) (loc : List LO) (r : Reg) : AV :=
  match vw with
  | true => (match r.k with | .loc => .sl r.x.lvZ (seen loc r.x) | _ => r.x)
  | false => r.x
noncomputable def argB (vw : Bool) (loc : List LO) (r : Reg) : Bool :=
  match vw with
  | true => (match r.k with | .loc => seenB loc r.x | _ => true)
  | false => r.k.isG

/-! ### Callees -/
structure Sem where
  ins : List Sh
  outs : List Sh
  rk : Kd
  pu : Bool
  F : Tup ins → Heap → Res (Tup outs)
abbrev Env := List (Nat × Sem)
noncomputable def Env.at (Γ : Env) (f : Nat) (d : Sem) : Sem :=
  List.rec (motive := fun _ => Sem) d (fun e _ ih => match e.1 == f with | true => e.2 | false => ih) Γ
def Sem.none : Sem := ⟨[], [], .glob, true, fun _ _ => fail ()⟩
/-- A call's value: one result by itself, else a tuple. -/
def oneOr (l : List AV) : AV := match l with | [x] => x | l => .tp l
noncomputable def Sem.run (S : Sem) (xs : List AV) (H : Heap) : Res (List AV) :=
  let r := S.F (Tup.prj S.ins xs) H
  ⟨r.pre, Tup.inj S.outs r.out, r.H⟩
noncomputable def Sem.fit (S : Sem) (xs : List AV) : List Bool := (S.ins.length == xs.length) :: Tup.is S.ins xs
noncomputable def reqBs {α : Type} (bs : List Bool) (d : α) (r : Res α) : Res α :=
  List.rec (motive := fun _ => Res α) r (fun b _ ih => reqB b d ih) bs
/-- A function value, called. -/
noncomputable def puV (Γ : Env) (x : AV) : Bool := match x with | .fn f _ => (Γ.at f Sem.none).pu | _ => true
noncomputable def appV (Γ : Env) (x : AV) (xs : List AV) (H : Heap) : Res (List AV) :=
  match x with
  | .fn f caps => let S := Γ.at f Sem.none
    reqBs (S.fit (xs ++ caps)) [] (S.run (xs ++ caps) H)
  | _ => fail []
def nfs : List Sh → List AV → List AV
  | [], _ => []
  | h :: r, xs => h.nf (xs.headD .junk) :: nfs r xs.tail
def iss : List Sh → List AV → List Bool
  | [], _ => []
  | h :: r, xs => h.is (xs.headD .junk) :: iss r xs.tail
def Sh.flat : Sh → Bool | .i _ => true | .b => true | .s => true | _ => false

/-- What an operation comes to. -/
noncomputable def ev (Γ : Env) (op : P) (vs : List Reg) (loc : List LO) (H : Heap) : EV :=
  let a := rg vs 0; let b := rg vs 1; let c := rg vs 2
  let out (bs : List Bool) (x : AV) (k : Kd) : EV := ⟨bs, oksOf vs, [], ⟨x, k, .yes⟩, loc, H⟩
  match op with
  | .mov x => ⟨[], [a.ok], [], ⟨a.x, (match x with | .co _ => .own | _ => a.k.view), .yes⟩, loc, H⟩
  | .movO _ => out [a.k.isOwn] a.x .own
  | .pick _ _ _ => ⟨[a.x.isB, b.x.isB, c.x.isB], [a.ok, b.ok.imp a.x.bool, c.ok.imp (!a.x.bool)], [],
      ⟨.b (match a.x.bool with | true => b.x.bool | false => c.x.bool), .glob, .yes⟩, loc, H⟩
  | .build z us => out (usesB us vs) (.ag (layAll us vs z)) (.nils (nilsU us (nilsZ z 0)))
  | .bslice sz n z us => out (rowsB sz us vs) (.sl sz (layRows us vs (repl n z))) .own
  | .arith o k _ _ => out [a.x.isI k, b.x.isI k, o.needs b.x.num] (.i k (o.run k a.x.num b.x.num)) .glob
  | .shl k yk _ _ => out [a.x.isI k, b.x.isI yk, decide (0 ≤ b.x.num)] (.i k (shlI k a.x.num b.x.num)) .glob
  | .shr k yk _ _ => out [a.x.isI k, b.x.isI yk, decide (0 ≤ b.x.num)] (.i k (shrI k a.x.num b.x.num)) .glob
  | .cmp o k _ _ => out [a.x.isI k, b.x.isI k] (.b (o.run a.x.num b.x.num)) .glob
  | .beq neg _ _ => out [a.x.isB, b.x.isB] (.b (match neg with | true => a.x.bool != b.x.bool | false => a.x.bool == b.x.bool)) .glob
  | .scmp o _ _ => out [a.x.isS, b.x.isS] (.b (o.runS a.x.str b.x.str)) .glob
  | .sadd _ _ => out [a.x.isS, b.x.isS, roomS a.x.str b.x.str] (.s (catS a.x.str b.x.str)) .glob
  | .aeq neg ks _ _ => out [a.x.isAg, b.x.isAg, allI ks a.x.agc, allI ks b.x.agc] (.b (match neg with | true => !eqI ks.length a.x.agc b.x.agc | false => eqI ks.length a.x.agc b.x.agc)) .glob
  | .pnil neg _ => out [a.x.isPtr] (.b (match neg with | true => !a.x.isNp | false => a.x.isNp)) .glob
  | .inil neg _ => out [a.x.isIfc] (.b (match neg with | true => !a.x.isNifc | false => a.x.isNifc)) .glob
  | .snil neg _ sz => out [a.x.isSl sz, !a.x.els.isEmpty] (.b neg) .glob
  | .neg k _ => out [a.x.isI k] (.i k (k.wrap (0 - a.x.num))) .glob
  | .compl k _ => out [a.x.isI k] (.i k (AOp.xor.run k (if k.signed then -1 else k.max) a.x.num)) .glob
  | .not _ => out [a.x.isB] (.b (!a.x.bool)) .glob
  | .conv k0 k _ => out [a.x.isI k0] (.i k (k.wrap a.x.num)) .glob
  | .s2b _ => out [a.x.isS, decide (a.x.str.size ≤ room)] (.sl 1 (bytesOf a.x.str)) .glob
  | .b2s _ => out [a.x.isSl 1, isAllBytes a.x.els] (.s (strOf a.x.els)) .glob
  | .b2sV _ => out [seenB loc a.x, a.x.lvZ == 1, isAllBytes (seen loc a.x)] (.s (strOf (seen loc a.x))) .glob
  | .idS _ => out [a.x.isS] a.x .glob
  | .fld _ n o h => out [a.k.isG, a.x.isAg, a.x.agc.length == n, h.can n a.x.agc o] (h.read n a.x.agc o) .glob
  | .idxA _ _ ik n sz h => out [a.k.isG, a.x.isAg, a.x.agc.length == n * sz, b.x.isI ik, inb b.x.num n, h.can (n * sz) a.x.agc (b.x.num.toNat * sz)] (h.read (n * sz) a.x.agc (b.x.num.toNat * sz)) .glob
  | .idxS _ _ ik => out [a.x.isS, b.x.isI ik, inb b.x.num a.x.str.size] (.i .u8 (byteAt a.x.str b.x.num)) .glob
  | .fa _ o => out [a.x.isPtr, !a.x.isNp] (a.x.addOff o) a.k.view
  | .ixa _ _ ik sz => out [a.k.isG, a.x.isSl sz, b.x.isI ik, inb b.x.num a.x.els.length] (.ip sz (nth a.x.els b.x.num.toNat []) 0) .glob
  | .ixp _ _ ik n sz => out [a.x.isPtr, !a.x.isNp, b.x.isI ik, inb b.x.num n] (a.x.addOff (b.x.num.toNat * sz)) a.k.view
  | .nck _ => out [a.x.isHp] (.hp a.x.hpL a.x.hpO) a.k.view
  | .nckL _ => out [a.x.isLp] a.x a.k.view
  | .iload _ h => out [a.x.isIp, h.can a.x.ipN a.x.ipC a.x.hpO] (h.read a.x.ipN a.x.ipC a.x.hpO) .glob
  | .lload j _ h => let o := lob loc a.x
    out [a.x.isLp, o.live, h.can o.n o.cs a.x.hpO, a.x.lpJ == j] (h.read o.n o.cs a.x.hpO) .glob
  | .hload _ h => let o := obj H a.x.hpL
    out [a.x.isHp, o.isC, h.can o.n o.cs a.x.hpO] (h.read o.n o.cs a.x.hpO) .glob
  | .slc _ sz lo hi => let n := a.x.els.length; let l := bnd lo b 0; let h := bnd hi (rg vs (1 + bndN lo)) n
    out ([a.k.isG, a.x.isSl sz] ++ bndB lo b ++ bndB hi (rg vs (1 + bndN lo)) ++ [inbE h n, inbE l h.toNat]) (.sl sz ((a.x.els.take h.toNat).drop l.toNat)) .glob
  | .clp _ sz lo hi mx => let n := a.x.els.length; let l := bnd lo b 0; let h := bnd hi (rg vs (1 + bndN lo)) n; let m := bnd mx (rg vs (1 + bndN lo + bndN hi)) n
    out ([a.k.isG, a.x.isSl sz] ++ bndB lo b ++ bndB hi (rg vs (1 + bndN lo)) ++ bndB mx (rg vs (1 + bndN lo + bndN hi)) ++ [inbE m n, m == h, inbE l h.toNat]) (.sl sz ((a.x.els.take h.toNat).drop l.toNat)) .own
  | .slcS _ lo hi => let n := a.x.str.size; let l := bnd lo b 0; let h := bnd hi (rg vs (1 + bndN lo)) n
    out ([a.x.isS] ++ bndB lo b ++ bndB hi (rg vs (1 + bndN lo)) ++ [inbE h n, inbE l h.toNat]) (.s (a.x.str.extract l.toNat h.toNat)) .glob
  | .slcL _ n sz lo hi => let l := bnd lo b 0; let h := bnd hi (rg vs (1 + bndN lo)) n
    out ([a.x.isLp] ++ bndB lo b ++ bndB hi (rg vs (1 + bndN lo)) ++ [inbE h n, inbE l h.toNat]) (.lv a.x.lpJ (a.x.hpO + l.toNat * sz) (h.toNat - l.toNat) sz) .loc
  | .slcI _ n sz lo hi => let l := bnd lo b 0; let h := bnd hi (rg vs (1 + bndN lo)) n
    out ([a.k.isG, a.x.isIp, decide (a.x.hpO + n * sz ≤ a.x.ipN)] ++ bndB lo b ++ bndB hi (rg vs (1 + bndN lo)) ++ [inbE h n, inbE l h.toNat]) (.sl sz (rows sz a.x.ipC (a.x.hpO + l.toNat * sz) (h.toNat - l.toNat))) .glob
  | .s2a _ n sz => out [a.k.isG, a.x.isSl sz, decide (n ≤ a.x.els.length)] (.ip (n * sz) (a.x.els.take n).flatten 0) .glob
  | .mkif t _ => out [a.k.isG] (.ifc t a.x) .glob
  | .ext _ j h => out [a.x.isTp, h.is (nth a.x.tps j .junk)] (h.nf (nth a.x.tps j .junk)) .glob
  | .lenL _ sz => out [a.k.isG, a.x.isSl sz] (.i .i64 (a.x.els.length : Int)) .glob
  | .lenV _ => out [a.x.isLv] (.i .i64 (a.x.lvN : Int)) .glob
  | .lenS _ => out [a.x.isS] (.i .i64 (a.x.str.size : Int)) .glob
  | .lenM _ => out [a.x.isMp, (obj H a.x.hpL).isM] (.i .i64 ((obj H a.x.hpL).es.length : Int)) .glob
  | .ext2 mn k _ _ => out (vs.map fun y => y.x.isI k)
      (.i k ((vs.tail.map fun y => y.x.num).foldl (minMax mn) a.x.num)) .glob
  | .look _ _ kk zero h ok => let o := obj H a.x.hpL
    let v := optD (findE b.x.num o.es) zero
    out [a.x.isMp, o.isMk kk (match h with | .one _ => false | .agg _ => true), b.x.isI kk, h.can h.sz v 0] (match ok with | true => .tp [h.read h.sz v 0, .b (optB (findE b.x.num o.es))] | false => h.read h.sz v 0) .glob
  | .mks _ ik sz bytes z => out [a.x.isI ik, decide (0 ≤ a.x.num), decide (a.x.num.toNat * bytes ≤ room)] (.sl sz (List.replicate a.x.num.toNat z)) .own
  | .lalloc j n cs own => ⟨[!(nth loc j LO.dead).live, decide (j < loc.length)], [], [], ⟨.lp j 0, .loc, .yes⟩, upd loc j ⟨n, cs, own, false, true⟩, H⟩
  | .lbox j n _ wide => ⟨[a.k.isG, a.x.cellsOf.length == n, !(nth loc j LO.dead).live, decide (j < loc.length)], [a.ok], [], ⟨.lp j 0, .loc, .yes⟩, upd loc j ⟨n, cellsW n a.x wide, a.k.offs, false, true⟩, H⟩
  | .ibox n _ => out [a.k.isG, a.x.cellsOf.length == n] (.ip n a.x.cellsOf 0) .glob
  | .halloc n cs own => ⟨[], [], [], ⟨.hp H.length 0, .glob, .yes⟩, loc, H ++ [.cells n cs own]⟩
  | .hbox n _ => ⟨[a.k.isG, a.x.cellsOf.length == n], [a.ok], [], ⟨.hp H.length 0, .glob, .yes⟩, loc, H ++ [.cells n a.x.cellsOf a.k.offs]⟩
  | .lstore j _ h v => let ob := lob loc a.x
    ⟨[a.x.isLp, ob.live, !ob.frz, decide (a.x.hpO + h.sz ≤ ob.n), b.k.isG, h.fits b.x, a.x.lpJ == j], oksOf vs, [], Reg.junk,
      upd loc a.x.lpJ { ob with cs := h.write ob.n ob.cs a.x.hpO b.x, own := ownBehind h a.x.hpO v.isCo b.k ob.own }, H⟩
  | .lstoreO j _ _ => let ob := lob loc a.x
    ⟨[a.x.isLp, ob.live, !ob.frz, decide (a.x.hpO < ob.n), b.k.isOwn, a.x.lpJ == j], oksOf vs, [], Reg.junk,
      upd loc a.x.lpJ { ob with cs := upd ob.cs a.x.hpO b.x, own := a.x.hpO :: outN a.x.hpO 1 ob.own }, H⟩
  | .lloadO j _ sz => let ob := lob loc a.x
    ⟨[a.x.isLp, ob.live, !ob.frz, decide (a.x.hpO < ob.n), ob.own.contains a.x.hpO, (nth ob.cs a.x.hpO .junk).isSl sz, a.x.lpJ == j], oksOf vs, [], ⟨.sl sz (nth ob.cs a.x.hpO .junk).els, .own, .yes⟩,
      upd loc a.x.lpJ { ob with own := outN a.x.hpO 1 ob.own }, H⟩
  | .hstore _ h v => let ob := obj H a.x.hpL
    ⟨[a.x.isHp, ob.isC, decide (a.x.hpO + h.sz ≤ ob.n), b.k.isG, h.fits b.x], oksOf vs, [], Reg.junk, loc,
      upd H a.x.hpL (.cells ob.n (h.write ob.n ob.cs a.x.hpO b.x) (ownBehind h a.x.hpO v.isCo b.k ob.own))⟩
  | .hstoreO _ _ => let ob := obj H a.x.hpL
    ⟨[a.x.isHp, ob.isC, decide (a.x.hpO < ob.n), b.k.isOwn], oksOf vs, [], Reg.junk, loc,
      upd H a.x.hpL (.cells ob.n (upd ob.cs a.x.hpO b.x) (a.x.hpO :: outN a.x.hpO 1 ob.own))⟩
  | .hloadO _ sz => let ob := obj H a.x.hpL
    ⟨[a.x.isHp, ob.isC, decide (a.x.hpO < ob.n), ob.own.contains a.x.hpO, (nth ob.cs a.x.hpO .junk).isSl sz], oksOf vs, [], ⟨.sl sz (nth ob.cs a.x.hpO .junk).els, .own, .yes⟩, loc,
      upd H a.x.hpL (.cells ob.n ob.cs (outN a.x.hpO 1 ob.own))⟩
  | .app _ _ sz bytes => out [a.k.app, a.x.isSl sz, b.k.isG, b.x.isSl sz, roomL a.x.els b.x.els bytes] (.sl sz (cat a.x.els b.x.els)) .own
  | .appS _ _ bytes => out [a.k.app, a.x.isSl 1, b.x.isS, roomLS a.x.els b.x.str bytes] (.sl 1 (cat a.x.els (bytesOf b.x.str))) .own
  | .call pu vw f _ =>
    let S := Γ.at f Sem.none
    let xs := vs.map (argX vw loc)
    let r := S.run xs H
    ⟨S.fit xs ++ vs.map (argB vw loc) ++ [match vw with | true => S.outs.all Sh.flat && S.pu | false => true, match pu with | true => S.pu | false => true], oksOf vs, [r.pre],
      ⟨oneOr r.out, S.rk, .yes⟩, loc, (match pu with | true => H | false => r.H)⟩
  | .callv pu _ _ outs =>
    let r := appV Γ a.x (vs.tail.map (·.x)) H
    ⟨(match pu with | true => puV Γ a.x | false => true) :: vs.map (fun r => r.k.isG) ++ (r.out.length == outs.length) :: iss outs r.out, oksOf vs, [r.pre],
      ⟨oneOr (nfs outs r.out), .glob, .yes⟩, loc, (match pu with | true => H | false => r.H)⟩
  | .mkfn f _ => ⟨vs.map (snapB loc), oksOf vs, [], ⟨.fn f (vs.map (snap loc)), .glob, .yes⟩, freezeAll loc vs, H⟩
  | .mmap kk agg => ⟨[], [], [], ⟨.mp H.length, .glob, .yes⟩, loc, H ++ [.map kk agg []]⟩
  | .mupd _ _ _ kk n => let ob := obj H a.x.hpL
    ⟨[a.x.isMp, ob.isMk kk c.x.isAg, b.x.isI kk, c.k.isG, c.x.cellsOf.length == n], oksOf vs, [], Reg.junk, loc,
      upd H a.x.hpL (.map kk ob.agg (putE b.x.num c.x.cellsOf ob.es))⟩

def reqO {α : Type} (o : Ok) (r : Res α) : Res α := match o with | .yes => r | .when p => req p r | .no => req false r
noncomputable def reqOs {α : Type} (os : List Ok) (r : Res α) : Res α :=
  List.rec (motive := fun _ => Res α) r (fun p _ ih => reqO p ih) os
noncomputable def reqPs {α : Type} (ps : List Bool) (r : Res α) : Res α :=
  List.rec (motive := fun _ => Res α) r (fun p _ ih => req p ih) ps
noncomputable def reqGs {α : Type} (g : Bool) (bs : List Bool) (r : Res α) : Res α :=
  List.rec (motive := fun _ => Res α) r (fun b _ ih => reqG g b ih) bs
def reqGO {α : Type} (g : Bool) (o : Ok) (r : Res α) : Res α := match o with | .yes => r | .when p => req (imp g p) r | .no => req (!g) r
noncomputable def reqGOs {α : Type} (g : Bool) (os : List Ok) (r : Res α) : Res α :=
  List.rec (motive := fun _ => Res α) r (fun p _ ih => reqGO g p ih) os
noncomputable def reqGPs {α : Type} (g : Bool) (ps : List Bool) (r : Res α) : Res α :=
  List.rec (motive := fun _ => Res α) r (fun p _ ih => req (imp g p) ih) ps

noncomputable def evS (Γ : Env) (op : P) (s : St) : EV :=
  ev Γ op (op.opnds.map (envGet s.env)) (match op.rdL with | true => s.loc | false => []) (match op.rdH with | true => s.H | false => [])
/-- The state behind an operation. -/
noncomputable def behind (o : O') (e : EV) (r : Reg) (s : St) : St :=
  ⟨putR (match o.op.demo with | none => s.env | some t => upd s.env t { nth s.env t Reg.junk with k := .glob }) o.dst r,
    (match o.op.wrL with | true => e.loc | false => s.loc), (match o.op.wrH with | true => e.H | false => s.H)⟩
/-- One operation, unguarded. -/
noncomputable def stepU {α : Type} (Γ : Env) (d : α) (o : O') (s : St) (K : St → Res α) : Res α :=
  let e := evS Γ o.op s
  reqBs e.bs d <| reqOs e.os <| reqPs e.ps <| K (behind o e e.r s)
noncomputable def P.jAt (op : P) (vs : List Reg) : Bool :=
  match op with
  | .lload j _ _ | .lstore j _ _ _ | .lstoreO j _ _ | .lloadO j _ _ => (rg vs 0).x.lpJ == j
  | _ => true
def P.still (op : P) : Bool := !op.wrL && !op.wrH && (match op.demo with | none => true | some _ => false)
/-- One operation. -/
noncomputable def step {α : Type} (Γ : Env) (d : α) (o : O') (s : St) (K : St → Res α) : Res α :=
  match o.g with
  | none => stepU Γ d o s K
  | some (j, want, false) =>
    let p : Bool := (nth s.env j Reg.junk).gP want
    let e := evS Γ o.op s
    reqB (nth s.env j Reg.junk).gB d <| reqB o.op.still d <| reqB (o.op.jAt (o.op.opnds.map (envGet s.env))) d <| reqGs p e.bs <| reqGOs p e.os <| reqGPs p e.ps <|
    K (behind o e ⟨e.r.x, e.r.k.view, .when p⟩ s)
  | some (j, want, true) =>
    let r := nth s.env j Reg.junk
    reqB r.x.isB d <| reqO r.ok <| match r.x.bool == want with
    | true => stepU Γ d o { s with env := upd s.env j ⟨.b want, .glob, .yes⟩ } K
    | false => K { s with env := putR (upd s.env j ⟨.b (!want), .glob, .yes⟩) o.dst ⟨.junk, .glob, .when false⟩ }
noncomputable def steps {α : Type} (Γ : Env) (d : α) (l : List O') : St → (St → Res α) → Res α :=
  List.rec (motive := fun _ => St → (St → Res α) → Res α) (fun s K => K s) (fun o _ ih s K => step Γ d o s (fun s' => ih s' K)) l

/-! ### Code -/
inductive Ex where | normal | exit (id : Nat) | ret
structure IR where
  t : Nat
  k : Kd
  h : Sh
structure InO where
  j : Nat
  n : Nat
  own : List Nat
inductive C' where
  | skip
  | ops (draw : Bool) (l : List O')
  | seq (a b : C')
  | cond (c : Src) (a b : C')
  | block (id : Nat) (a : C')
  | exit (id : Nat)
  | ret
  | loop (id : Nat) (a : C') (ins : List IR) (objs : List InO) (outs : List IR)
  | loopR (id : Nat) (a : C') (ins : List IR) (objs : List InO) (outs rets : List IR)

abbrev LTs (ins : List IR) (objs : List InO) : List Sh := ins.map (·.h) ++ objs.map (fun _ => Sh.ag)
noncomputable def packX (s : St) (ins : List IR) (objs : List InO) : List AV := ins.map (fun r => (nth s.env r.t Reg.junk).x) ++ objs.map (fun o => AV.ag (nth s.loc o.j LO.dead).cs)
noncomputable def packB (s : St) (ins : List IR) (objs : List InO) : List Bool :=
  ins.map (fun r => (nth s.env r.t Reg.junk).k.fits r.k && r.h.is (nth s.env r.t Reg.junk).x) ++
  objs.map (fun o => let ob := nth s.loc o.j LO.dead; ob.live && !ob.frz && ob.n == o.n && o.own.all ob.own.contains)
noncomputable def packO (s : St) (ins : List IR) : List Ok := ins.map fun r => (nth s.env r.t Reg.junk).ok
noncomputable def mkEnv (nt : Nat) (ins : List IR) (xs : List AV) : List Reg :=
  List.rec (motive := fun _ => List AV → List Reg → List Reg) (fun _ e => e) (fun r _ ih xs e => ih xs.tail (upd e r.t ⟨nth xs 0 .junk, r.k, .yes⟩)) ins xs (List.replicate nt Reg.junk)
noncomputable def mkLoc (nl : Nat) (objs : List InO) (xs : List AV) : List LO :=
  List.rec (motive := fun _ => List AV → List LO → List LO) (fun _ e => e) (fun o _ ih xs e => ih xs.tail (upd e o.j ⟨o.n, (nth xs 0 .junk).agc, o.own, false, true⟩)) objs xs (List.replicate nl LO.dead)
noncomputable def mkSt (nt nl : Nat) (ins : List IR) (objs : List InO) (v : Tup (LTs ins objs)) (H : Heap) : St :=
  let xs := Tup.inj _ v
  ⟨mkEnv nt ins xs, mkLoc nl objs (xs.drop ins.length), H⟩
noncomputable def pack {α : Type} (d : α) (s : St) (ins : List IR) (objs : List InO) (K : Tup (LTs ins objs) → Res α) : Res α :=
  reqBs (packB s ins objs) d <| reqOs (packO s ins) <| K (Tup.prj _ (packX s ins objs))

noncomputable def den (N nt nl : Nat) (Γ : Env) : C' → (α : Type) → α → St → (Ex → St → Res α) → Res α
  | .skip, _, _, s, K => K .normal s
  | .ops _ l, _, d, s, K => steps Γ d l s (fun s' => K .normal s')
  | .seq a b, α, d, s, K => den N nt nl Γ a α d s (fun e s' => match e with | .normal => den N nt nl Γ b α d s' K | e => K e s')
  | .cond c a b, α, d, s, K => let r := s.get c
    reqB r.x.isB d <| reqO r.ok <| match r.x.bool with | true => den N nt nl Γ a α d s K | false => den N nt nl Γ b α d s K
  | .block id a, α, d, s, K => den N nt nl Γ a α d s (fun e s' => match e with | .exit i => (match i == id with | true => K .normal s' | false => K (.exit i) s') | e => K e s')
  | .exit id, _, _, s, K => K (.exit id) s
  | .ret, _, _, s, K => K .ret s
  | .loop id a ins objs outs, _, d, s, K =>
    pack d s ins objs fun v0 =>
      let r := iter (Tup.d (LTs outs objs)) (fun R v H => den N nt nl Γ a _ (Tup.d (LTs outs objs)) (mkSt nt nl ins objs v H) fun e s' =>
        match e with
        | .normal => pack (Tup.d _) s' ins objs fun v => R v s'.H
        | .exit i => (match i == id with | true => pack (Tup.d _) s' outs objs fun v => ok v s'.H | false => fail (Tup.d _))
        | .ret => fail (Tup.d _)) N v0 s.H
      req r.pre (K .normal (mkSt nt nl outs objs r.out r.H))
  | .loopR id a ins objs outs rets, _, d, s, K =>
    pack d s ins objs fun v0 =>
      let r := iter (Sum.inl (Tup.d (LTs outs objs)) : Sum (Tup (LTs outs objs)) (Tup (LTs rets objs))) (fun R v H => den N nt nl Γ a _ (Sum.inl (Tup.d (LTs outs objs))) (mkSt nt nl ins objs v H) fun e s' =>
        match e with
        | .normal => pack (.inl (Tup.d _)) s' ins objs fun v => R v s'.H
        | .exit i => (match i == id with | true => pack (.inl (Tup.d _)) s' outs objs fun v => ok (.inl v) s'.H | false => fail (.inl (Tup.d _)))
        | .ret => pack (.inl (Tup.d _)) s' rets objs fun v => ok (.inr v) s'.H) N v0 s.H
      req r.pre (sumElim r.out (fun v => K .normal (mkSt nt nl outs objs v r.H)) (fun v => K .ret (mkSt nt nl rets objs v r.H)))

/-! ### Functions -/
inductive RVar where | tmp (t : Nat) (k : Kd) (h : Sh) | cell (t : Nat) (h : LSh) (sh : Sh) | prom (t : Nat)
def RVar.sh : RVar → Sh | .tmp _ _ h => h | .cell _ _ h => h | .prom _ => .any
structure FD where
  nt : Nat
  nl : Nat
  ins : List Sh
  res : List RVar
  body : C'
abbrev FD.outs (fd : FD) : List Sh := fd.res.map RVar.sh
/-- The results, and the heap: a local object that is handed back becomes one of the heap's. -/
noncomputable def retK (s : St) (res : List RVar) {β : Type} (d : β) : Heap → (List AV → Heap → Res β) → Res β :=
  List.rec (motive := fun _ => Heap → (List AV → Heap → Res β) → Res β) (fun H K => K [] H) (fun r _ ih H K =>
    match r with
    | .tmp t k h => let r := nth s.env t Reg.junk
      reqBs [r.k.fits k, h.is r.x] d <| reqO r.ok <| ih H fun l H => K (r.x :: l) H
    | .cell t h sh => let r := nth s.env t Reg.junk; let o := lob s.loc r.x
      reqBs [r.k.isLoc, r.x.isLp, o.live, h.can o.n o.cs r.x.hpO, sh.is (h.read o.n o.cs r.x.hpO)] d <| reqO r.ok <| ih H fun l H => K (h.read o.n o.cs r.x.hpO :: l) H
    | .prom t => let r := nth s.env t Reg.junk
      match r.k with
      | .loc => let o := lob s.loc r.x
        reqBs [r.x.isLp, o.live, !o.frz] d <| reqO r.ok <| ih (H ++ [.cells o.n o.cs o.own]) fun l H' => K (.hp H.length r.x.hpO :: l) H'
      | _ => reqBs [r.k.isG] d <| reqO r.ok <| ih H fun l H => K (r.x :: l) H) res
noncomputable def FD.sem (N : Nat) (Γ : Env) (fd : FD) (v : Tup fd.ins) (H : Heap) : Res (Tup fd.outs) :=
  den N fd.nt fd.nl Γ fd.body _ (Tup.d fd.outs)
    ⟨(Tup.inj fd.ins v).map (fun x => ⟨x, .glob, .yes⟩) ++ List.replicate (fd.nt - fd.ins.length) Reg.junk, List.replicate fd.nl LO.dead, H⟩
    fun e s => match e with
      | .exit _ => fail (Tup.d fd.outs)
      | _ => retK s fd.res (Tup.d fd.outs) s.H fun xs H => ok (Tup.prj fd.outs xs) H
end Go.Proofs.DenT
end
section
/-! The relation between the machine's values and worlds and the abstract ones. -/
namespace Go.Proofs.DenT
set_option linter.unusedVariables false
open Go

/-! ### Lists -/
theorem nth_eq {α : Type} (l : List α) (n : Nat) (d : α) : nth l n d = l.getD n d := by
  induction l generalizing n with
  | nil => rfl
  | cons x xs ih => cases n with
    | zero => rfl
    | succ n => simpa [nth] using ih n
theorem upd_eq {α : Type} (l : List α) (n : Nat) (v : α) : upd l n v = l.set n v := by
  induction l generalizing n with
  | nil => rfl
  | cons x xs ih => cases n with
    | zero => rfl
    | succ n => simpa [upd] using ih n
theorem nth_upd {α : Type} (l : List α) (n m : Nat) (v d : α) : nth (upd l n v) m d = if n = m ∧ n < l.length then v else nth l m d := by
  rw [nth_eq, nth_eq, upd_eq]
  by_cases h : n = m
  · subst h
    by_cases hn : n < l.length
    · simp [hn, List.getD_eq_getElem?_getD]
    · simp [hn, List.getD_eq_getElem?_getD]
  · simp [h, List.getD_eq_getElem?_getD, List.getElem?_set_ne h]
theorem upd_len {α : Type} (l : List α) (n : Nat) (v : α) : (upd l n v).length = l.length := by rw [upd_eq]; simp

def All2 {α β : Type} (R : α → β → Prop) : List α → List β → Prop
  | [], [] => True
  | a :: l, b :: m => R a b ∧ All2 R l m
  | _, _ => False

/-! ### Ghosts -/
inductive Lc where | L (j : Nat) | G (l : Nat) | R (t : Nat) | LC (j o : Nat) | GC (l o : Nat) | X
  deriving DecidableEq

/-- What is known besides: cells that turn no more; the heap objects' and the local objects' blocks; what is owned, from which cell on; blocks that are plain rows, and their sizes. -/
structure Gh where
  Φ : Nat → Nat → Option Value
  γ : Nat → Option Nat
  lam : Nat → Nat
  ρ : Lc → Option (Nat × Nat)
  S : Nat → Option Nat

inductive RV (Φ : Nat → Nat → Option Value) (γ : Nat → Option Nat) : Value → AV → Prop
  | b (v : Bool) : RV Φ γ (.bool v) (.b v)
  | i (k : IntKind) (n : Int) : RV Φ γ (.int k n) (.i k n)
  | s (v : ByteArray) : RV Φ γ (.string v) (.s v)
  | np : RV Φ γ (.pointer none) .np
  | hp (bl off l : Nat) (h : γ l = some bl) : RV Φ γ (.pointer (some ⟨bl, off, none⟩)) (.hp l off)
  | ip (bl o n off : Nat) (cells : List AV) (vs : Nat → Value) (hn : cells.length = n)
      (hc : ∀ i, i < n → Φ bl (o + i) = some (vs i)) (hr : ∀ i, i < n → RV Φ γ (vs i) (cells.getD i .junk))
      (ha : ∀ i, i < n → (cells.getD i .junk).atom = true) :
      RV Φ γ (.pointer (some ⟨bl, o + off, none⟩)) (.ip n cells off)
  | nsl (a : Option Addr) (sz : Nat) : RV Φ γ (.slice a 0 0) (.sl sz [])
  | sl (bl o len cap sz : Nat) (es : List (List AV)) (vs : Nat → Nat → Value) (hl : es.length = len) (hcap : len ≤ cap)
      (hn : ∀ i, i < len → (es.getD i []).length = sz)
      (hc : ∀ i j, i < len → j < sz → Φ bl (o + i * sz + j) = some (vs i j))
      (hr : ∀ i j, i < len → j < sz → RV Φ γ (vs i j) ((es.getD i []).getD j .junk))
      (ha : ∀ i j, i < len → j < sz → ((es.getD i []).getD j .junk).atom = true) :
      RV Φ γ (.slice (some ⟨bl, o, none⟩) len cap) (.sl sz es)
  | mp (r l : Nat) (h : γ l = some r) : RV Φ γ (.map (some r)) (.mp l)
  | nmp : RV Φ γ (.map none) .nmp
  | fn (f : Nat) (caps : Array Value) (xs : List AV) (hn : caps.size = xs.length)
      (hr : ∀ i, i < xs.length → RV Φ γ (caps.getD i undef) (xs.getD i .junk)) : RV Φ γ (.func (.func f) #[] caps) (.fn f xs)
  | nfn : RV Φ γ .nilFunc .nfn
  | ifc (t : Nat) (v : Value) (x : AV) (h : RV Φ γ v x) : RV Φ γ (.iface t v) (.ifc t x)
  | nifc : RV Φ γ .nilIface .nifc
  | ag (cs : Array Value) (xs : List AV) (hn : cs.size = xs.length)
      (hr : ∀ i, i < xs.length → RV Φ γ (cs.getD i undef) (xs.getD i .junk)) (ha : ∀ i, i < xs.length → (xs.getD i .junk).atom = true) : RV Φ γ (.agg cs) (.ag xs)
  | tp (cs : Array Value) (xs : List AV) (hn : cs.size = xs.length)
      (hr : ∀ i, i < xs.length → RV Φ γ (cs.getD i undef) (xs.getD i .junk)) : RV Φ γ (.tuple cs) (.tp xs)

theorem RV.mono {Φ Φ' : Nat → Nat → Option Value} {γ γ' : Nat → Option Nat} (hΦ : ∀ b o v, Φ b o = some v → Φ' b o = some v)
    (hγ : ∀ l b, γ l = some b → γ' l = some b) {v : Value} {x : AV} (h : RV Φ γ v x) : RV Φ' γ' v x := by
  induction h with
  | b v => exact .b v
  | i k n => exact .i k n
  | s v => exact .s v
  | np => exact .np
  | hp bl off l h => exact .hp bl off l (hγ _ _ h)
  | ip bl o n off cells vs hn hc hr ha ih => exact .ip bl o n off cells vs hn (fun i hi => hΦ _ _ _ (hc i hi)) ih ha
  | nsl a sz => exact .nsl a sz
  | sl bl o len cap sz es vs hl hcap hn hc hr ha ih => exact .sl bl o len cap sz es vs hl hcap hn (fun i j hi hj => hΦ _ _ _ (hc i j hi hj)) ih ha
  | mp r l h => exact .mp r l (hγ _ _ h)
  | nmp => exact .nmp
  | fn f caps xs hn hr ih => exact .fn f caps xs hn ih
  | nfn => exact .nfn
  | ifc t v x h ih => exact .ifc t v x ih
  | nifc => exact .nifc
  | ag cs xs hn hr ha ih => exact .ag cs xs hn ih ha
  | tp cs xs hn hr ih => exact .tp cs xs hn ih

theorem RV.one {Φ γ} {v : Value} {x : AV} (h : RV Φ γ v x) (ha : x.atom = true) : v.oneCell' = true := by
  cases h <;> first | rfl | (simp [AV.atom] at ha)

/-- Cells of a value. -/
theorem RV.cells {Φ γ} {v : Value} {x : AV} (h : RV Φ γ v x) (hx : x.isTp = false) : v.cells.size = x.cellsOf.length ∧
    (∀ i, i < x.cellsOf.length → RV Φ γ (v.cells.getD i undef) (x.cellsOf.getD i .junk)) ∧
    (∀ i, i < x.cellsOf.length → (x.cellsOf.getD i .junk).atom = true) := by
  cases h with
  | ag cs xs hn hr ha => exact ⟨hn, hr, ha⟩
  | tp cs xs hn hr => simp [AV.isTp] at hx
  | _ => refine ⟨rfl, fun i hi => ?_, fun i hi => ?_⟩ <;> (simp [AV.cellsOf] at hi; subst hi; simp [AV.cellsOf, Value.cells, AV.atom] <;> first | assumption | (constructor <;> assumption) | constructor)

/-! ### What is owned -/
def OwnR (g : Gh) (c : Lc) (v : Value) (x : AV) : Prop :=
  RV g.Φ g.γ v x ∧ ∃ sz es a len cap, x = .sl sz es ∧ v = .slice a len cap ∧
    (len = cap ∨ ∃ bl, a = some ⟨bl, 0, none⟩ ∧ g.ρ c = some (bl, len * sz) ∧ g.S bl = some (cap * sz) ∧ 0 < sz)

/-- The registers' kinds. -/
def LocR (g : Gh) (live : Nat → Bool) (v : Value) (x : AV) : Prop :=
  match x with
  | .lp j off => live j = true ∧ v = .pointer (some ⟨g.lam j, off, none⟩)
  | .lv j off n sz => live j = true ∧ ∃ o cap, v = .slice (some ⟨g.lam j, o, none⟩) n cap ∧ n ≤ cap ∧ (0 < n → o = off)
  | _ => False
def KR (g : Gh) (live : Nat → Bool) (c : Lc) (v : Value) (k : Kd) (x : AV) : Prop :=
  match k with
  | .glob => RV g.Φ g.γ v x
  | .own => OwnR g c v x
  | .nils l => RV g.Φ g.γ v x ∧ ∀ o, o ∈ l → v.cells.getD o undef = .slice none 0 0
  | .loc => LocR g live v x
def RegR (g : Gh) (live : Nat → Bool) (c : Lc) (v : Value) (r : Reg) : Prop :=
  match r.ok with
  | .yes => KR g live c v r.k r.x
  | .when p => (p = true → KR g live c v r.k r.x) ∧ (p = false → v = undef)
  | .no => True

/-! ### Objects -/
def CellR (g : Gh) (c : Lc) (own : Bool) (v : Value) (x : AV) : Prop := x.atom = true ∧ RV g.Φ g.γ v x ∧ (own = true → OwnR g c v x)
def LOR (g : Gh) (j : Nat) (lo : LO) (w : World) : Prop :=
  lo.live = true → lo.cs.length = lo.n ∧
    (∀ i, i < lo.n → ∃ v, w.cell? ⟨g.lam j, i, none⟩ = some v ∧ CellR g (.LC j i) (!lo.frz && lo.own.contains i) v (lo.cs.getD i .junk)) ∧
    (lo.frz = false → g.ρ (.L j) = some (g.lam j, 0) ∧ g.S (g.lam j) = some lo.n) ∧
    (lo.frz = true → ∀ i, i < lo.n → ∃ v, g.Φ (g.lam j) i = some v)
def MapR (g : Gh) (kk : IntKind) (ag : Bool) (e : MapEntry) (p : Int × List AV) : Prop :=
  e.key = .int kk p.1 ∧ match ag with
  | true => RV g.Φ g.γ e.val (.ag p.2)
  | false => p.2.length = 1 ∧ (p.2.getD 0 .junk).atom = true ∧ RV g.Φ g.γ e.val (p.2.getD 0 .junk)
def GOR (g : Gh) (pu : Bool) (l : Nat) (o : HO) (w : World) : Prop :=
  match o with
  | .cells n cs own => ∃ b, g.γ l = some b ∧ cs.length = n ∧ (pu = false → g.ρ (.G l) = some (b, 0) ∧ g.S b = some n) ∧
      ∀ i, i < n → ∃ v, w.cell? ⟨b, i, none⟩ = some v ∧ CellR g (.GC l i) (!pu && own.contains i) v (cs.getD i .junk)
  | .map kk ag es => ∃ b entries clock, g.γ l = some b ∧ w.heap[b]? = some (.map entries clock) ∧ (pu = false → g.ρ (.G l) = some (b, 0)) ∧
      All2 (MapR g kk ag) entries.toList es
  | .dead => True

/-! ### The frame -/
structure Fr where
  w0 : World
  g0 : Gh
  M0 : Nat → Nat → Prop

structure Inv (fr : Fr) (g : Gh) (w : World) : Prop where
  agree : ∀ b o v, g.Φ b o = some v → w.cell? ⟨b, o, none⟩ = some v
  inj : ∀ c c' b n n', g.ρ c = some (b, n) → g.ρ c' = some (b, n') → c = c'
  disj : ∀ c b n o, g.ρ c = some (b, n) → n ≤ o → g.Φ b o = none
  tok : ∀ c b n, g.ρ c = some (b, n) → b < w.heap.size
  gtok : ∀ l b, g.γ l = some b → b < w.heap.size
  shp : ∀ b n, g.S b = some n → ∃ (c : Array Value) (e : TypeId), w.heap[b]? = some (.cells c e (0, 0)) ∧ c.size = n
  os : w.os = fr.w0.os
  tape : w.tape = fr.w0.tape
  output : w.output = fr.w0.output
  size : fr.w0.heap.size ≤ w.heap.size
  fcell : ∀ b o, b < fr.w0.heap.size → ¬ fr.M0 b o → w.cell? ⟨b, o, none⟩ = fr.w0.cell? ⟨b, o, none⟩
  fblk : ∀ b, b < fr.w0.heap.size → (∀ o, ¬ fr.M0 b o) → w.heap[b]? = fr.w0.heap[b]?
  fshp : ∀ (b : Nat) (c : Array Value) (e : TypeId) (f : Nat × Nat), fr.w0.heap[b]? = some (.cells c e f) → ∃ c' : Array Value, w.heap[b]? = some (.cells c' e f) ∧ c'.size = c.size
  mold : ∀ c b n o, g.ρ c = some (b, n) → n ≤ o → b < fr.w0.heap.size → fr.M0 b o
  Φle : ∀ b o v, fr.g0.Φ b o = some v → g.Φ b o = some v
  Φold : ∀ b o v, g.Φ b o = some v → fr.g0.Φ b o = none → b < fr.w0.heap.size → fr.M0 b o
  γle : ∀ l b, fr.g0.γ l = some b → g.γ l = some b
  Sle : ∀ b n, fr.g0.S b = some n → g.S b = some n
  tab : TabQ g.Φ

def lives (loc : List LO) (j : Nat) : Bool := (loc.getD j LO.dead).live

structure Rel (fr : Fr) (pu : Bool) (g : Gh) (s : St) (a : Act) (w : World) : Prop where
  inv : Inv fr g w
  defs : a.defers = []
  len : s.env.length = a.tmps.size
  regs : ∀ t, t < s.env.length → RegR g (lives s.loc) (.R t) (a.tmps.getD t undef) (s.env.getD t Reg.junk)
  locs : ∀ j, LOR g j (s.loc.getD j LO.dead) w
  heap : ∀ l, l < s.H.length → GOR g pu l (s.H.getD l .dead) w
  γdom : ∀ l, s.H.length ≤ l → g.γ l = none
  nog : pu = true → ∀ l, g.ρ (.G l) = none ∧ ∀ o, g.ρ (.GC l o) = none
  pud : pu = true → (∀ b o, ¬ fr.M0 b o) ∧ (∀ l b, g.γ l = some b → b < fr.w0.heap.size) ∧ g.γ = fr.g0.γ
end Go.Proofs.DenT
end
section
/-! The checker: does this compact code stand for that code of the program's? -/
namespace Go.Proofs.DenT
set_option linter.unusedVariables false
open Go

/-! ### Equality, by hand (the kernel computes it fast) -/
def eqAtom (v : Value) (x : AV) : Bool :=
  match v, x with
  | .bool a, .b b => a == b
  | .int k n, .i k' n' => k == k' && n == n'
  | .string s, .s s' => s.data.toList == s'.data.toList
  | .pointer none, .np => true
  | .slice none l c, .sl _ [] => l == 0 && c == 0
  | .map none, .nmp => true
  | .nilFunc, .nfn => true
  | .nilIface, .nifc => true
  | _, _ => false
def eqAtoms : List Value → List AV → Bool
  | [], [] => true
  | v :: vs, x :: xs => eqAtom v x && eqAtoms vs xs
  | _, _ => false
def eqConst (v : Value) (x : AV) : Bool :=
  match v, x with
  | .agg cs, .ag xs => eqAtoms cs.toList xs
  | v, x => eqAtom v x
def okSrc (x : Operand) (s : Src) : Bool :=
  match x, s with
  | .tmp t, .t t' => t == t'
  | .const v, .c y => eqConst v y
  | .const v, .co y => eqAtom v y && (match y with | .sl _ [] => true | _ => false)
  | .func f, .c (.fn f' []) => f == f'
  | _, _ => false
def okSrcs : List Operand → List Src → Bool
  | [], [] => true
  | x :: xs, s :: ss => okSrc x s && okSrcs xs ss
  | _, _ => false
def okB (o : Option Operand) (b : Option (Src × IntKind)) : Bool :=
  match o, b with
  | none, none => true
  | some x, some s => okSrc x s.1
  | _, _ => false

/-! ### Types -/
section
variable (Pg : Program)
def tySize (t : TypeId) (n : Nat) : Bool := match Pg.info? t with | some i => i.size == n | none => false
def tyBytes (t : TypeId) (n : Nat) : Bool := match Pg.info? t with | some i => i.bytes == n | none => false
def tyAgg (t : TypeId) (b : Bool) : Bool := match Pg.underlying t with | some (.struct _) => b | some (.array _ _) => b | some _ => !b | none => false
def tyZero (t : TypeId) (z : List AV) : Bool := match Pg.info? t with | some i => (match i.zero with | some v => i.size == z.length && eqAtoms v.cells.toList z | none => false) | none => false
def tyZeroK (t : TypeId) (ag : Bool) : Bool := match Pg.info? t with | some i => (match i.zero with | some (.agg _) => ag | some _ => !ag | none => false) | none => false
def tyInt (t : TypeId) (k : IntKind) : Bool := match Pg.underlying t with | some (.int k') => k == k' | _ => false
def Sh.noAg : Sh → Bool | .ag => false | .lpc _ => false | _ => true
def okL (t : TypeId) (h : LSh) : Bool :=
  match h with
  | .one h => h.noAg && (tySize Pg t 1 && tyAgg Pg t false)
  | .agg n => tySize Pg t n && tyAgg Pg t true
def fieldOk (t : TypeId) (f o : Nat) : Option TypeId :=
  match Pg.underlying t with
  | some (.struct fs) => (match fs[f]? with | some d => if d.offset == o then some d.type else none | none => none)
  | _ => none
def intFields : List Field → List IntKind → Nat → Bool
  | [], [], _ => true
  | f :: fs, k :: ks, o => f.offset == o && f.name != "_" && tyInt Pg f.type k && tySize Pg f.type 1 && intFields fs ks (o + 1)
  | _, _, _ => false
def sameK (k : IntKind) : List IntKind → Bool
  | [] => true
  | k' :: ks => k == k' && sameK k ks
def okEq (t : TypeId) (ks : List IntKind) : Bool :=
  match Pg.underlying t with
  | some (.struct fs) => intFields Pg fs.toList ks 0 && !Pg.stoodInHeld t && !Pg.eqGuardType Pg.depth t
  | some (.array n e) => ks.length == n && (match ks with | [] => true | k :: _ => tyInt Pg e k && sameK k ks) && tySize Pg e 1 && !Pg.eqGuardType Pg.depth t
  | _ => false
def aopOf : BinOp → Option AOp
  | .add => some .add | .sub => some .sub | .mul => some .mul | .quo => some .quo | .rem => some .rem | .and => some .and | .or => some .or | .xor => some .xor | .andNot => some .andNot | _ => none
def copOf : BinOp → Option COp
  | .eql => some .eql | .neq => some .neq | .lss => some .lss | .leq => some .leq | .gtr => some .gtr | .geq => some .geq | _ => none
def AOp.no : AOp → Nat | .add => 0 | .sub => 1 | .mul => 2 | .quo => 3 | .rem => 4 | .and => 5 | .or => 6 | .xor => 7 | .andNot => 8
def COp.no : COp → Nat | .eql => 0 | .neq => 1 | .lss => 2 | .leq => 3 | .gtr => 4 | .geq => 5
def isA (b : BinOp) (o : AOp) : Bool := match aopOf b with | some o' => o'.no == o.no | none => false
def isC (b : BinOp) (o : COp) : Bool := match copOf b with | some o' => o'.no == o.no | none => false
def isEq (b : BinOp) (neg : Bool) : Bool := match b with | .eql => !neg | .neq => neg | _ => false
/-- What is built: a struct's or an array's parts. -/
def okUses (zl : Nat) (place : Nat → Option (Nat × TypeId)) : List (Nat × Operand) → List (Src × Nat × Nat) → Bool
  | [], [] => true
  | (i, x) :: ps, (s, o, n) :: us => okSrc x s && (match place i with | some (o', t) => o' == o && tySize Pg t n && decide (o + n ≤ zl) | none => false) && okUses zl place ps us
  | _, _ => false
def okRows : List (Nat × Operand) → List (Src × Nat) → Nat → Bool
  | [], [], _ => true
  | (i, x) :: ps, (s, j) :: us, n => okSrc x s && i == j && decide (i < n) && okRows ps us n
  | _, _, _ => false

/-- One operation. -/
def okOp (o : Op) (ty : TypeId) (p : P) : Bool :=
  match p with
  | .mov s => (match o with | .move x => okSrc x s | .assign x => okSrc x s | _ => false)
  | .movO t => (match o with | .move x => okSrc x (.t t) | .assign x => okSrc x (.t t) | _ => false)
  | .pick c a b => (match o with | .pick x y z => okSrc x c && okSrc y a && okSrc z b | _ => false)
  | .build z us => (match o with
    | .build t ps => tyZero Pg t z && (match Pg.underlying t with
      | some (.struct fs) => okUses Pg z.length (fun i => match fs[i]? with | some f => some (f.offset, f.type) | none => none) ps.toList us && fs.toList.all (fun f => (Pg.info? f.type).isSome)
      | some (.array _ e) => (match Pg.info? e with | some i => okUses Pg z.length (fun j => some (j * i.size, e)) ps.toList us | none => false)
      | _ => false)
    | _ => false)
  | .bslice sz n z us => (match o with
    | .buildSlice t n' ps => n' == n && decide (n * sz ≤ 16777216) && decide (0 < sz) && (match Pg.underlying t with | some (.slice e) => tyZero Pg e z && tySize Pg e sz && okRows ps.toList us n | _ => false)
    | _ => false)
  | .arith a k x y => (match o with | .binOp b t u v _ => isA b a && tyInt Pg t k && okSrc u x && okSrc v y | _ => false)
  | .shl k yk x y => (match o with | .binOp .shl t u v t' => tyInt Pg t k && tyInt Pg t' yk && okSrc u x && okSrc v y | _ => false)
  | .shr k yk x y => (match o with | .binOp .shr t u v t' => tyInt Pg t k && tyInt Pg t' yk && okSrc u x && okSrc v y | _ => false)
  | .cmp c k x y => (match o with | .binOp b t u v _ => isC b c && tyInt Pg t k && okSrc u x && okSrc v y | _ => false)
  | .beq neg x y => (match o with | .binOp b t u v _ => isEq b neg && (match Pg.underlying t with | some .bool => true | _ => false) && okSrc u x && okSrc v y | _ => false)
  | .scmp c x y => (match o with | .binOp b t u v _ => isC b c && (match Pg.underlying t with | some .string => true | _ => false) && okSrc u x && okSrc v y | _ => false)
  | .sadd x y => (match o with | .binOp .add t u v _ => (match Pg.underlying t with | some .string => true | _ => false) && okSrc u x && okSrc v y | _ => false)
  | .aeq neg ks x y => (match o with | .binOp b t u v _ => isEq b neg && okEq Pg t ks && okSrc u x && okSrc v y | _ => false)
  | .pnil neg x => (match o with | .binOp b t u (.const (.pointer none)) _ => isEq b neg && (match Pg.underlying t with | some (.pointer _) => true | _ => false) && okSrc u x | _ => false)
  | .inil neg x => (match o with | .binOp b t u (.const .nilIface) _ => isEq b neg && (match Pg.underlying t with | some (.interface _) => true | _ => false) && okSrc u x | _ => false)
  | .snil neg x sz => (match o with | .binOp b t u (.const (.slice none l c)) _ => isEq b neg && l == 0 && c == 0 && (match Pg.underlying t with | some (.slice _) => true | _ => false) && okSrc u x | _ => false)
  | .neg k x => (match o with | .unOp .neg _ u => okSrc u x | _ => false)
  | .compl k x => (match o with | .unOp .xor _ u => okSrc u x | _ => false)
  | .not x => (match o with | .unOp .not _ u => okSrc u x | _ => false)
  | .conv k0 k x => (match o with | .convert s d u => tyInt Pg s k0 && tyInt Pg d k && okSrc u x | _ => false)
  | .s2b x => (match o with | .convert s d u => (match Pg.underlying s, Pg.underlying d with | some .string, some (.slice e) => tyInt Pg e .u8 | _, _ => false) && okSrc u x | _ => false)
  | .b2s x => (match o with | .convert s d u => (match Pg.underlying s, Pg.underlying d with | some (.slice e), some .string => tyInt Pg e .u8 | _, _ => false) && okSrc u x | _ => false)
  | .b2sV x => (match o with | .convert s d u => (match Pg.underlying s, Pg.underlying d with | some (.slice e), some .string => tyInt Pg e .u8 | _, _ => false) && okSrc u x | _ => false)
  | .idS x => (match o with | .convert s d u => (match Pg.underlying s, Pg.underlying d with | some .string, some .string => true | _, _ => false) && okSrc u x | _ => false)
  | .fld x n off h => (match o with | .field t u f => okSrc u x && (match fieldOk Pg t f off with | some e => okL Pg e h | none => false) | _ => false)
  | .idxA x i ik n sz h => (match o with | .index t u v => okSrc u x && okSrc v i && (match Pg.underlying t with | some (.array m e) => m == n && tySize Pg e sz && okL Pg e h | _ => false) | _ => false)
  | .idxS x i ik => (match o with | .index t u v => okSrc u x && okSrc v i && (match Pg.underlying t with | some .string => true | _ => false) | _ => false)
  | .fa x off => (match o with | .fieldAddr t u f => okSrc u x && (match fieldOk Pg t f off with | some e => (match Pg.info? e with | some i => decide (0 < i.size) | none => false) | none => false) | _ => false)
  | .ixa x i ik sz => (match o with | .indexAddr t u v => okSrc u x && okSrc v i && decide (0 < sz) && (match Pg.underlying t with | some (.slice e) => tySize Pg e sz | _ => false) | _ => false)
  | .ixp x i ik n sz => (match o with | .indexAddr t u v => okSrc u x && okSrc v i && decide (0 < sz) && (match Pg.underlying t with | some (.array m e) => m == n && tySize Pg e sz | _ => false) | _ => false)
  | .nck x => (match o with | .nilCheck u => okSrc u x | _ => false)
  | .nckL x => (match o with | .nilCheck u => okSrc u x | _ => false)
  | .iload x h => (match o with | .load t u => okSrc u x && okL Pg t h | _ => false)
  | .lload j x h => (match o with | .load t u => okSrc u x && okL Pg t h | _ => false)
  | .hload x h => (match o with | .load t u => okSrc u x && okL Pg t h | _ => false)
  | .lloadO j x sz => (match o with | .load t u => okSrc u x && tySize Pg t 1 && tyAgg Pg t false | _ => false)
  | .hloadO x sz => (match o with | .load t u => okSrc u x && tySize Pg t 1 && tyAgg Pg t false | _ => false)
  | .slc x sz lo hi => (match o with | .slice t u l h none => okSrc u x && okB l lo && okB h hi && decide (0 < sz) && (match Pg.underlying t with | some (.slice e) => tySize Pg e sz | _ => false) | _ => false)
  | .clp x sz lo hi mx => (match o with | .slice t u l h (some m) => okSrc u x && okB l lo && okB h hi && okB (some m) mx && h.isSome && decide (0 < sz) && (match Pg.underlying t with | some (.slice e) => tySize Pg e sz | _ => false) | _ => false)
  | .slcS x lo hi => (match o with | .slice t u l h none => okSrc u x && okB l lo && okB h hi && (match Pg.underlying t with | some .string => true | _ => false) | _ => false)
  | .slcL x n sz lo hi => (match o with | .slice t u l h none => okSrc u x && okB l lo && okB h hi && decide (0 < sz) && (match Pg.underlying t with | some (.array m e) => m == n && tySize Pg e sz | _ => false) | _ => false)
  | .slcI x n sz lo hi => (match o with | .slice t u l h none => okSrc u x && okB l lo && okB h hi && decide (0 < sz) && (match Pg.underlying t with | some (.array m e) => m == n && tySize Pg e sz | _ => false) | _ => false)
  | .s2a x n sz => (match o with | .sliceToArrayPointer t u => okSrc u x && decide (0 < n) && (match Pg.underlying t with | some (.array m e) => m == n && tySize Pg e sz | _ => false) | _ => false)
  | .mkif t x => (match o with | .makeInterface t' u => t' == t && okSrc u x && (match Pg.underlying t with | some (.interface _) => false | some _ => true | none => false) | _ => false)
  | .ext x j h => (match o with | .extract u j' => okSrc u x && j' == j | _ => false)
  | .lenL x sz => (match o with | .call ⟨.builtin .len, ⟨[u]⟩, ⟨[t]⟩⟩ => okSrc u x && (match Pg.underlying t with | some (.slice _) => true | _ => false) | _ => false)
  | .lenV x => (match o with | .call ⟨.builtin .len, ⟨[u]⟩, ⟨[t]⟩⟩ => okSrc u x && (match Pg.underlying t with | some (.slice _) => true | _ => false) | _ => false)
  | .lenS x => (match o with | .call ⟨.builtin .len, ⟨[u]⟩, ⟨[t]⟩⟩ => okSrc u x && (match Pg.underlying t with | some .string => true | _ => false) | _ => false)
  | .lenM x => (match o with | .call ⟨.builtin .len, ⟨[u]⟩, ⟨[t]⟩⟩ => okSrc u x && (match Pg.underlying t with | some (.map _ _) => true | _ => false) | _ => false)
  | .ext2 mn k x xs => (match o with | .call ⟨.builtin b, ⟨u :: us⟩, ⟨t :: _⟩⟩ => (match b with | .min => mn | .max => !mn | _ => false) && okSrc u x && okSrcs us xs && tyInt Pg t k | _ => false)
  | .look x i kk zero h ok => (match o with | .lookup t u v ok' => ok' == ok && okSrc u x && okSrc v i && (match Pg.underlying t with | some (.map k e) => tyInt Pg k kk && tyZero Pg e zero && okL Pg e h && tyZeroK Pg e (match h with | .one _ => false | .agg _ => true) | _ => false) | _ => false)
  | .mks x ik sz bytes z => (match o with | .makeSlice t u v => okSrc u x && okSrc v x && decide (0 < sz) && decide (0 < bytes) && (match Pg.underlying t with | some (.slice e) => tySize Pg e sz && tyBytes Pg e bytes && tyZero Pg e z | _ => false) | _ => false)
  | .lalloc j n cs own => (match o with | .alloc t => tyZero Pg t cs && tySize Pg t n && own.all (fun i => match cs[i]? with | some (.sl _ []) => true | _ => false) | _ => false)
  | .lbox j n x wide => (match o with | .box t u => tySize Pg t n && decide (0 < n) && okSrc u x | _ => false)
  | .ibox n x => (match o with | .box t u => tySize Pg t n && decide (0 < n) && okSrc u x | _ => false)
  | .halloc n cs own => (match o with | .alloc t => tyZero Pg t cs && tySize Pg t n && own.all (fun i => match cs[i]? with | some (.sl _ []) => true | _ => false) | _ => false)
  | .hbox n x => (match o with | .box t u => tySize Pg t n && decide (0 < n) && okSrc u x | _ => false)
  | .lstore j x h v => (match o with | .store t u y => okSrc u x && okSrc y v && okL Pg t h | _ => false)
  | .lstoreO j x t => (match o with | .store t' u y => okSrc u x && okSrc y (.t t) && tySize Pg t' 1 | _ => false)
  | .hstore x h v => (match o with | .store t u y => okSrc u x && okSrc y v && okL Pg t h | _ => false)
  | .hstoreO x t => (match o with | .store t' u y => okSrc u x && okSrc y (.t t) && tySize Pg t' 1 | _ => false)
  | .app t y sz bytes => (match o with | .call ⟨.builtin .append, ⟨[u, v]⟩, ⟨[t1, t2]⟩⟩ => okSrc u (.t t) && okSrc v y && t1 == t2 && decide (0 < sz) && decide (0 < bytes) && (match Pg.underlying t1 with | some (.slice e) => tySize Pg e sz && tyBytes Pg e bytes && (match Pg.info? e with | some i => (match i.zero with | some z => z.cells.size == sz | none => false) | none => false) | _ => false) | _ => false)
  | .appS t y bytes => (match o with | .call ⟨.builtin .append, ⟨[u, v]⟩, ⟨[t1, t2]⟩⟩ => okSrc u (.t t) && okSrc v y && decide (0 < bytes) && (match Pg.underlying t2 with | some .string => true | _ => false) && (match Pg.underlying t1 with | some (.slice e) => tySize Pg e 1 && tyBytes Pg e bytes && (match Pg.info? e with | some i => (match i.zero with | some z => z.cells.size == 1 | none => false) | none => false) | _ => false) | _ => false)
  | .call pu vw f args => (match o with | .call ⟨.value (.func f'), as, _⟩ => f' == f && okSrcs as.toList args | _ => false)
  | .callv pu x args outs => (match o with | .call ⟨.value (.tmp t), as, _⟩ => okSrc (.tmp t) x && okSrcs as.toList args | _ => false)
  | .mkfn f caps => (match o with | .makeFunc (.func f') ⟨[]⟩ cs => f' == f && okSrcs cs.toList caps | _ => false)
  | .mmap kk agg => (match o with | .makeMap t none => true | _ => false)
  | .mupd m i v kk n => (match o with
    | .mapUpdate t a b c => okSrc a m && okSrc b i && okSrc c v && (match Pg.underlying t with | some (.map k e) => tyInt Pg k kk && (tySize Pg e n && decide (0 < n)) | _ => false)
    | .insert t a b c => okSrc a m && okSrc b i && okSrc c v && (match Pg.underlying t with | some (.map k e) => tyInt Pg k kk && (tySize Pg e n && decide (0 < n)) | _ => false)
    | _ => false)
end
end Go.Proofs.DenT
end
section
namespace Go.Proofs.DenT
set_option linter.unusedVariables false
open Go

section
variable {Pg : Program} {w : World} {ρ : Operand → Value} {o : Oper}

theorem tySize_spec {t : TypeId} {n : Nat} (h : tySize Pg t n = true) : ∃ i, Pg.info? t = some i ∧ i.size = n := by
  unfold tySize at h; split at h
  · rename_i i hi; exact ⟨i, hi, by simpa using h⟩
  · simp at h
theorem tyBytes_spec {t : TypeId} {n : Nat} (h : tyBytes Pg t n = true) : ∃ i, Pg.info? t = some i ∧ i.bytes = n := by
  unfold tyBytes at h; split at h
  · rename_i i hi; exact ⟨i, hi, by simpa using h⟩
  · simp at h
theorem tyInt_spec {t : TypeId} {k : IntKind} (h : tyInt Pg t k = true) : Pg.underlying t = some (.int k) := by
  unfold tyInt at h; split at h
  · rename_i k' hi; rw [hi]; simp at h; rw [h]
  · simp at h

theorem run_move {u : Operand} (ho : o.op = .move u ∨ o.op = .assign u) : (execOp ρ o).run Pg w = .ok (.value (ρ u)) w := by
  rcases ho with ho | ho <;> simp [execOp, ho]
theorem run_pick {x y z : Operand} {b : Bool} (ho : o.op = .pick x y z) (hx : ρ x = .bool b) : (execOp ρ o).run Pg w = .ok (.value (if b then ρ y else ρ z)) w := by
  simp [execOp, ho, hx, asBool]
theorem run_arith {b : BinOp} {t yt : TypeId} {u v : Operand} {q : AOp} {k : IntKind} {m n : Int} (ho : o.op = .binOp b t u v yt) (hq : isA b q = true)
    (hu : ρ u = .int k m) (hv : ρ v = .int k n) (hn : q.needs n = true) : (execOp ρ o).run Pg w = .ok (.value (.int k (q.run k m n))) w := by
  cases b <;> cases q <;> simp [isA, aopOf, AOp.no] at hq <;>
    simp [execOp, ho, hu, hv, eqGuard, binOp, Op.intArith, Op.intDiv, Op.intBits, AOp.run] <;>
    (simp [AOp.needs] at hn; simp [hn])
theorem run_shl {t yt : TypeId} {u v : Operand} {k k' : IntKind} {m n : Int} (ho : o.op = .binOp .shl t u v yt)
    (hu : ρ u = .int k m) (hv : ρ v = .int k' n) (hn : 0 ≤ n) : (execOp ρ o).run Pg w = .ok (.value (.int k (shlI k m n))) w := by
  simp [execOp, ho, hu, hv, eqGuard, binOp, Op.shift, shlI, Int.not_lt.2 hn]
theorem run_shr {t yt : TypeId} {u v : Operand} {k k' : IntKind} {m n : Int} (ho : o.op = .binOp .shr t u v yt)
    (hu : ρ u = .int k m) (hv : ρ v = .int k' n) (hn : 0 ≤ n) : (execOp ρ o).run Pg w = .ok (.value (.int k (shrI k m n))) w := by
  simp [execOp, ho, hu, hv, eqGuard, binOp, Op.shift, shrI, Int.not_lt.2 hn]
theorem run_cmp {b : BinOp} {t yt : TypeId} {u v : Operand} {q : COp} {k : IntKind} {m n : Int} (ho : o.op = .binOp b t u v yt) (hq : isC b q = true)
    (hu : ρ u = .int k m) (hv : ρ v = .int k n) : (execOp ρ o).run Pg w = .ok (.value (.bool (q.run m n))) w := by
  cases b <;> cases q <;> simp [isC, copOf, COp.no] at hq <;>
    simp [execOp, ho, hu, hv, eqGuard, binOp, Op.intCmp, COp.run]
theorem run_beq {b : BinOp} {t yt : TypeId} {u v : Operand} {neg : Bool} {m n : Bool} (ho : o.op = .binOp b t u v yt) (hq : isEq b neg = true) (ht : Pg.underlying t = some .bool)
    (hu : ρ u = .bool m) (hv : ρ v = .bool n) : (execOp ρ o).run Pg w = .ok (.value (.bool (match neg with | true => m != n | false => m == n))) w := by
  have h := run_equalIn_bool' (P := Pg) w 9999 t m n ht
  cases b <;> cases neg <;> simp [isEq] at hq <;> simp [execOp, ho, hu, hv, eqGuard, binOp, Op.equal, Op.maxDepth, h, bne]
theorem run_scmp {b : BinOp} {t yt : TypeId} {u v : Operand} {q : COp} {m n : ByteArray} (ho : o.op = .binOp b t u v yt) (hq : isC b q = true)
    (hu : ρ u = .string m) (hv : ρ v = .string n) : (execOp ρ o).run Pg w = .ok (.value (.bool (q.runS m n))) w := by
  cases b <;> cases q <;> simp [isC, copOf, COp.no] at hq <;>
    simp [execOp, ho, hu, hv, eqGuard, binOp, Op.stringOp, COp.runS]
theorem run_sadd {t yt : TypeId} {u v : Operand} {m n : ByteArray} (ho : o.op = .binOp .add t u v yt)
    (hu : ρ u = .string m) (hv : ρ v = .string n) (hr : roomS m n = true) : (execOp ρ o).run Pg w = .ok (.value (.string (catS m n))) w := by
  have hr' : m.size + n.size ≤ 140737488355328 := of_decide_eq_true (p := m.size + n.size ≤ room) hr
  have h2 : ¬ (9223372036854775807 < (m.size : Int) + (n.size : Int)) := by omega
  simp [execOp, ho, hu, hv, eqGuard, binOp, Op.stringOp, catS, IntKind.max, IntKind.signed, IntKind.bits, h2]
theorem run_unNot {t : TypeId} {u : Operand} {m : Bool} (ho : o.op = .unOp .not t u) (hu : ρ u = .bool m) : (execOp ρ o).run Pg w = .ok (.value (.bool (!m))) w := by
  simp [execOp, ho, hu, Op.unary]
theorem run_unNeg {t : TypeId} {u : Operand} {k : IntKind} {m : Int} (ho : o.op = .unOp .neg t u) (hu : ρ u = .int k m) : (execOp ρ o).run Pg w = .ok (.value (.int k (k.wrap (0 - m)))) w := by
  simp [execOp, ho, hu, Op.unary, Op.intArith]
theorem run_compl {t : TypeId} {u : Operand} {k : IntKind} {m : Int} (ho : o.op = .unOp .xor t u) (hu : ρ u = .int k m) :
    (execOp ρ o).run Pg w = .ok (.value (.int k (AOp.xor.run k (if k.signed then -1 else k.max) m))) w := by
  simp [execOp, ho, hu, Op.unary, Op.intBits, AOp.run]
theorem run_conv {s d : TypeId} {u : Operand} {k0 k : IntKind} {m : Int} (ho : o.op = .convert s d u) (hs : Pg.underlying s = some (.int k0)) (hd : Pg.underlying d = some (.int k))
    (hu : ρ u = .int k0 m) : (execOp ρ o).run Pg w = .ok (.value (.int k (k.wrap m))) w := by
  simp [execOp, ho, hu, convert, run_underlying, hs, hd, Conv.intToInt]
theorem run_idS {s d : TypeId} {u : Operand} {m : ByteArray} (ho : o.op = .convert s d u) (hs : Pg.underlying s = some .string) (hd : Pg.underlying d = some .string)
    (hu : ρ u = .string m) : (execOp ρ o).run Pg w = .ok (.value (.string m)) w := by
  simp [execOp, ho, hu, convert, run_underlying, hs, hd]

/-! ### Reading and writing cells -/
theorem run_isAgg {t : TypeId} {b : Bool} (h : tyAgg Pg t b = true) : (isAgg t).run Pg w = .ok b w := by
  unfold tyAgg at h
  split at h <;> (try simp at h) <;> rename_i hu <;> simp [isAgg, run_underlying hu] <;> (try (subst h)) <;> (try rfl)
theorem run_sizeOf {t : TypeId} {n : Nat} (h : tySize Pg t n = true) : (sizeOf t).run Pg w = .ok n w := by
  obtain ⟨i, hi, hn⟩ := tySize_spec h
  simp [sizeOf, typeInfo, hi, hn]
/-- A run of cells. -/
def CellsAt (w : World) (b o : Nat) (vs : List Value) : Prop := ∀ j v, vs[j]? = some v → w.cell? ⟨b, o + j, none⟩ = some v
theorem addr_add (b o n : Nat) : (⟨b, o, none⟩ : Addr).add n = ⟨b, o + n, none⟩ := by unfold Addr.add; split <;> simp_all
theorem run_loadVar1 {t : TypeId} {b o : Nat} {v : Value} (hz : tyAgg Pg t false = true) (hc : w.cell? ⟨b, o, none⟩ = some v) :
    (loadVar t ⟨b, o, none⟩).run Pg w = .ok v w := by
  simp [loadVar, run_isAgg hz, hc]
theorem run_loadVarN {t : TypeId} {b o n : Nat} {vs : List Value} (hz : tyAgg Pg t true = true) (hs : tySize Pg t n = true) (hl : vs.length = n) (hc : CellsAt w b o vs) :
    (loadVar t ⟨b, o, none⟩).run Pg w = .ok (.agg vs.toArray) w := by
  have h := run_loadCells_list (P := Pg) w ⟨b, o, none⟩ vs (fun j v hv => by rw [addr_add]; exact hc j v hv)
  rw [hl] at h
  simp [loadVar, run_isAgg hz, run_sizeOf hs, h]
theorem run_load1 {t : TypeId} {u : Operand} {b off : Nat} {v : Value} (ho : o.op = .load t u) (hu : ρ u = .pointer (some ⟨b, off, none⟩)) (hz : tyAgg Pg t false = true)
    (hc : w.cell? ⟨b, off, none⟩ = some v) : (execOp ρ o).run Pg w = .ok (.value v) w := by
  simp [execOp, ho, hu, Instr.loadAt, Instr.sureAddr, run_loadVar1 hz hc]
theorem run_loadN {t : TypeId} {u : Operand} {b off n : Nat} {vs : List Value} (ho : o.op = .load t u) (hu : ρ u = .pointer (some ⟨b, off, none⟩)) (hz : tyAgg Pg t true = true)
    (hs : tySize Pg t n = true) (hl : vs.length = n) (hc : CellsAt w b off vs) : (execOp ρ o).run Pg w = .ok (.value (.agg vs.toArray)) w := by
  simp [execOp, ho, hu, Instr.loadAt, Instr.sureAddr, run_loadVarN hz hs hl hc]
theorem run_part1 {t : TypeId} {cs : Array Value} {off : Nat} {v : Value} (hz : tyAgg Pg t false = true) (hc : cs[off]? = some v) : (part t cs off).run Pg w = .ok v w := by
  simp [part, run_isAgg hz, hc]
theorem run_partN {t : TypeId} {cs : Array Value} {off n : Nat} (hz : tyAgg Pg t true = true) (hs : tySize Pg t n = true) :
    (part t cs off).run Pg w = .ok (.agg (cs.extract off (off + n))) w := by
  simp [part, run_isAgg hz, run_sizeOf hs]
theorem run_field {t : TypeId} {u : Operand} {f off : Nat} {cs : Array Value} {e : TypeId} {r : Value} (ho : o.op = .field t u f) (hu : ρ u = .agg cs) (hf : fieldOk Pg t f off = some e)
    (hp : (part e cs off).run Pg w = .ok r w) : (execOp ρ o).run Pg w = .ok (.value r) w := by
  unfold fieldOk at hf
  split at hf
  · rename_i fs hfs
    split at hf
    · rename_i d hd
      split at hf
      · rename_i he
        simp at he hf
        subst he; subst hf
        simp [execOp, ho, hu, Instr.field, run_underlying hfs, hd, asAgg, hp]
      · simp at hf
    · simp at hf
  · simp at hf
theorem run_idxA {t : TypeId} {u v : Operand} {k : IntKind} {m : Int} {n sz : Nat} {cs : Array Value} {e : TypeId} {r : Value} (ho : o.op = .index t u v) (hu : ρ u = .agg cs) (hv : ρ v = .int k m)
    (ht : Pg.underlying t = some (.array n e)) (hs : tySize Pg e sz = true) (hm : inb m n = true) (hp : (part e cs (m.toNat * sz)).run Pg w = .ok r w) :
    (execOp ρ o).run Pg w = .ok (.value r) w := by
  have h : 0 ≤ m ∧ m < n := by simpa [inb] using hm
  simp [execOp, ho, hu, hv, Instr.index, asIntOf, run_underlying ht, h, run_sizeOf hs, hp]
theorem run_idxS {t : TypeId} {u v : Operand} {k : IntKind} {m : Int} {s : ByteArray} (ho : o.op = .index t u v) (hu : ρ u = .string s) (hv : ρ v = .int k m)
    (ht : Pg.underlying t = some .string) (hm : inb m s.size = true) : (execOp ρ o).run Pg w = .ok (.value (.int .u8 (byteAt s m))) w := by
  have h : 0 ≤ m ∧ m < s.size := by simpa [inb] using hm
  have h2 : m.toNat < s.size := by omega
  simp [execOp, ho, hu, hv, Instr.index, asIntOf, run_underlying ht, h, byteAt, h2]
theorem run_fa {t : TypeId} {u : Operand} {f off b o' : Nat} {e : TypeId} {i : TypeInfo} (ho : o.op = .fieldAddr t u f) (hu : ρ u = .pointer (some ⟨b, o', none⟩)) (hf : fieldOk Pg t f off = some e)
    (hi : Pg.info? e = some i) (hp : 0 < i.size) : (execOp ρ o).run Pg w = .ok (.value (.pointer (some ⟨b, o' + off, none⟩))) w := by
  unfold fieldOk at hf
  split at hf
  · rename_i fs hfs
    split at hf
    · rename_i d hd
      split at hf
      · rename_i he
        simp at he hf
        subst he; subst hf
        have : i.size ≠ 0 := by omega
        simp [execOp, ho, hu, Instr.fieldAt, run_underlying hfs, hd, Instr.sureAddr, fieldPlace, sizeOf, typeInfo, hi, this, addr_add]
      · simp at hf
    · simp at hf
  · simp at hf
theorem run_ixa {t : TypeId} {u v : Operand} {k : IntKind} {m : Int} {b o' len cap sz : Nat} {e : TypeId} (ho : o.op = .indexAddr t u v) (hu : ρ u = .slice (some ⟨b, o', none⟩) len cap) (hv : ρ v = .int k m)
    (ht : Pg.underlying t = some (.slice e)) (hs : tySize Pg e sz = true) (hm : inb m len = true) : (execOp ρ o).run Pg w = .ok (.value (.pointer (some ⟨b, o' + m.toNat * sz, none⟩))) w := by
  have h : 0 ≤ m ∧ m < len := by simpa [inb] using hm
  simp [execOp, ho, hu, hv, Instr.indexAt, asIntOf, run_underlying ht, h, run_sizeOf hs, addr_add]
theorem run_ixp {t : TypeId} {u v : Operand} {k : IntKind} {m : Int} {b o' n sz : Nat} {e : TypeId} (ho : o.op = .indexAddr t u v) (hu : ρ u = .pointer (some ⟨b, o', none⟩)) (hv : ρ v = .int k m)
    (ht : Pg.underlying t = some (.array n e)) (hs : tySize Pg e sz = true) (hm : inb m n = true) : (execOp ρ o).run Pg w = .ok (.value (.pointer (some ⟨b, o' + m.toNat * sz, none⟩))) w := by
  have h : 0 ≤ m ∧ m < n := by simpa [inb] using hm
  simp [execOp, ho, hu, hv, Instr.indexAt, asIntOf, run_underlying ht, h, run_sizeOf hs, addr_add, Instr.sureAddr]
theorem run_nck {u : Operand} {a : Addr} (ho : o.op = .nilCheck u) (hu : ρ u = .pointer (some a)) : (execOp ρ o).run Pg w = .ok (.value (.pointer (some a))) w := by
  simp [execOp, ho, hu]
theorem run_mkif {t : TypeId} {u : Operand} (ho : o.op = .makeInterface t u) (ht : (match Pg.underlying t with | some (.interface _) => false | some _ => true | none => false) = true) :
    (execOp ρ o).run Pg w = .ok (.value (.iface t (ρ u))) w := by
  split at ht <;> (try simp at ht)
  rename_i hu
  simp [execOp, ho, Instr.makeInterface, run_underlying hu]
theorem run_ext {u : Operand} {j : Nat} {vs : Array Value} {v : Value} (ho : o.op = .extract u j) (hu : ρ u = .tuple vs) (hj : vs[j]? = some v) : (execOp ρ o).run Pg w = .ok (.value v) w := by
  simp [execOp, ho, hu, Instr.extract, hj]

/-! ### Slices -/
def optOk (v : Option Value) (o : Option Operand) (d : Int) (m : Int) : Prop := True
/-- A bound: what it comes to. -/
def BndR (ρ : Operand → Value) (x : Option Operand) (d m : Int) : Prop :=
  match x with
  | none => m = d
  | some u => ∃ k, ρ u = .int k m
theorem run_sliceBound {v : Value} {k : IntKind} {m : Int} {y : Nat} {c : BoundsCode} (hv : v = .int k m) (h0 : 0 ≤ m) (h1 : m ≤ y) : (Instr.sliceBound v y c).run Pg w = .ok m.toNat w := by
  subst hv; simp [Instr.sliceBound, asIntOf, h0, h1]
theorem run_sliceBounds {b : Bool} {len cap : Nat} {lo hi : Option Operand} {l h : Int} (hl : BndR ρ lo 0 l) (hh : BndR ρ hi len h)
    (h0 : inbE h cap = true) (h1 : inbE l h.toNat = true) (hlen : len ≤ cap) :
    (Instr.sliceBounds b len cap (lo.map ρ) (hi.map ρ) none).run Pg w = .ok (l.toNat, h.toNat, cap) w := by
  have a0 : 0 ≤ h ∧ h ≤ cap := by simpa [inbE] using h0
  have a1 : 0 ≤ l ∧ l ≤ h.toNat := by simpa [inbE] using h1
  cases lo with
  | none =>
    simp only [BndR] at hl; subst hl
    cases hi with
    | none => simp only [BndR] at hh; subst hh; simp [Instr.sliceBounds]
    | some u => obtain ⟨k, hk⟩ := hh; simp [Instr.sliceBounds, run_sliceBound hk a0.1 a0.2]
  | some v =>
    obtain ⟨k', hk'⟩ := hl
    cases hi with
    | none => simp only [BndR] at hh; subst hh; simp at a1; simp [Instr.sliceBounds, run_sliceBound (y := len) hk' a1.1 (by omega)]
    | some u => obtain ⟨k, hk⟩ := hh; simp [Instr.sliceBounds, run_sliceBound hk a0.1 a0.2, run_sliceBound (y := h.toNat) hk' a1.1 a1.2]
theorem run_slc {t e : TypeId} {u : Operand} {lo hi : Option Operand} {a : Option Addr} {len cap sz : Nat} {l h : Int} (ho : o.op = .slice t u lo hi none) (hu : ρ u = .slice a len cap)
    (ht : Pg.underlying t = some (.slice e)) (hs : tySize Pg e sz = true) (hl : BndR ρ lo 0 l) (hh : BndR ρ hi len h) (h0 : inbE h len = true) (h1 : inbE l h.toNat = true) (hlen : len ≤ cap) :
    (execOp ρ o).run Pg w = .ok (.value (.slice (if cap = l.toNat then a else a.map (·.add (l.toNat * sz))) (h.toNat - l.toNat) (cap - l.toNat))) w := by
  have h0' : inbE h cap = true := by simp [inbE] at h0 ⊢; omega
  simp [execOp, ho, hu, Instr.sliceAt, Instr.slice, run_underlying ht, run_sliceBounds hl hh h0' h1 hlen, run_sizeOf hs]
theorem run_clp {t e : TypeId} {u x y : Operand} {lo : Option Operand} {a : Option Addr} {len cap sz : Nat} {l h m : Int} {k1 k2 : IntKind} (ho : o.op = .slice t u lo (some x) (some y)) (hu : ρ u = .slice a len cap)
    (ht : Pg.underlying t = some (.slice e)) (hs : tySize Pg e sz = true) (hl : BndR ρ lo 0 l) (hx : ρ x = .int k1 h) (hy : ρ y = .int k2 m) (h0 : inbE m cap = true) (hm : m = h) (h1 : inbE l h.toNat = true) :
    (execOp ρ o).run Pg w = .ok (.value (.slice (if h.toNat = l.toNat then a else a.map (·.add (l.toNat * sz))) (h.toNat - l.toNat) (h.toNat - l.toNat))) w := by
  subst hm
  have a0 : 0 ≤ m ∧ m ≤ cap := by simpa [inbE] using h0
  have a1 : 0 ≤ l ∧ l ≤ m.toNat := by simpa [inbE] using h1
  have hb : (Instr.sliceBounds true len cap (lo.map ρ) (some (ρ x)) (some (ρ y))).run Pg w = .ok (l.toNat, m.toNat, m.toNat) w := by
    cases lo with
    | none => simp only [BndR] at hl; subst hl; simp [Instr.sliceBounds, run_sliceBound hy a0.1 a0.2, run_sliceBound (y := m.toNat) hx a0.1 (by omega)]
    | some v => obtain ⟨k', hk'⟩ := hl; simp [Instr.sliceBounds, run_sliceBound hy a0.1 a0.2, run_sliceBound (y := m.toNat) hx a0.1 (by omega), run_sliceBound (y := m.toNat) hk' a1.1 a1.2]
  simp [execOp, ho, hu, Instr.sliceAt, Instr.slice, run_underlying ht, hb, run_sizeOf hs]
theorem run_slcS {t : TypeId} {u : Operand} {lo hi : Option Operand} {s : ByteArray} {l h : Int} (ho : o.op = .slice t u lo hi none) (hu : ρ u = .string s)
    (ht : Pg.underlying t = some .string) (hl : BndR ρ lo 0 l) (hh : BndR ρ hi s.size h) (h0 : inbE h s.size = true) (h1 : inbE l h.toNat = true) :
    (execOp ρ o).run Pg w = .ok (.value (.string (s.extract l.toNat h.toNat))) w := by
  simp [execOp, ho, hu, Instr.sliceAt, Instr.slice, run_underlying ht, run_sliceBounds hl hh h0 h1 (Nat.le_refl _)]
theorem run_slcA {t e : TypeId} {u : Operand} {lo hi : Option Operand} {b o' n sz : Nat} {l h : Int} (ho : o.op = .slice t u lo hi none) (hu : ρ u = .pointer (some ⟨b, o', none⟩))
    (ht : Pg.underlying t = some (.array n e)) (hs : tySize Pg e sz = true) (hl : BndR ρ lo 0 l) (hh : BndR ρ hi n h) (h0 : inbE h n = true) (h1 : inbE l h.toNat = true) :
    (execOp ρ o).run Pg w = .ok (.value (.slice (some (if n = l.toNat then ⟨b, o', none⟩ else ⟨b, o' + l.toNat * sz, none⟩)) (h.toNat - l.toNat) (n - l.toNat))) w := by
  simp [execOp, ho, hu, Instr.sliceAt, run_underlying ht, Instr.sureAddr, run_sliceBounds hl hh h0 h1 (Nat.le_refl _), run_sizeOf hs, addr_add]
theorem run_s2a {t e : TypeId} {u : Operand} {a : Option Addr} {len cap n : Nat} (ho : o.op = .sliceToArrayPointer t u) (hu : ρ u = .slice a len cap)
    (ht : Pg.underlying t = some (.array n e)) (hn : n ≤ len) : (execOp ρ o).run Pg w = .ok (.value (.pointer a)) w := by
  have : ¬ len < n := by omega
  simp [execOp, ho, hu, Instr.arrayAt, run_underlying ht, this]
theorem run_snil {b : BinOp} {t yt : TypeId} {u : Operand} {neg : Bool} {a : Addr} {len cap : Nat} (ho : o.op = .binOp b t u (.const (.slice none 0 0)) yt) (hq : isEq b neg = true)
    (ht : ∃ e, Pg.underlying t = some (.slice e)) (hu : ρ u = .slice (some a) len cap) (hc : ρ (.const (.slice none 0 0)) = .slice none 0 0) : (execOp ρ o).run Pg w = .ok (.value (.bool neg)) w := by
  obtain ⟨e, ht⟩ := ht
  have h : ∀ d, (Op.equalIn (d + 1) t (.slice (some a) len cap) (.slice none 0 0)).run Pg w = .ok false w := by intro d; simp [Op.equalIn, run_underlying ht]
  have h := h 9999
  cases b <;> cases neg <;> simp [isEq] at hq <;> simp [execOp, ho, hu, hc, eqGuard, binOp, Op.equal, Op.maxDepth, h]
theorem run_pnil {b : BinOp} {t yt : TypeId} {u : Operand} {neg : Bool} {a : Option Addr} (ho : o.op = .binOp b t u (.const (.pointer none)) yt) (hq : isEq b neg = true)
    (ht : ∃ e, Pg.underlying t = some (.pointer e)) (hu : ρ u = .pointer a) (hc : ρ (.const (.pointer none)) = .pointer none) :
    (execOp ρ o).run Pg w = .ok (.value (.bool (match neg with | true => !a.isNone | false => a.isNone))) w := by
  obtain ⟨e, ht⟩ := ht
  have h : ∀ d, (Op.equalIn (d + 1) t (.pointer a) (.pointer none)).run Pg w = .ok a.isNone w := by intro d; cases a <;> simp [Op.equalIn, run_underlying ht]
  have h := h 9999
  cases b <;> cases neg <;> simp [isEq] at hq <;> simp [execOp, ho, hu, hc, eqGuard, binOp, Op.equal, Op.maxDepth, h]
theorem run_inil {b : BinOp} {t yt : TypeId} {u : Operand} {neg n : Bool} {x : Value} (ho : o.op = .binOp b t u (.const .nilIface) yt) (hq : isEq b neg = true)
    (ht : ∃ e, Pg.underlying t = some (.interface e)) (hu : ρ u = x) (hx : (n = true ∧ x = .nilIface) ∨ (n = false ∧ ∃ t v, x = .iface t v)) (hc : ρ (.const .nilIface) = .nilIface) :
    (execOp ρ o).run Pg w = .ok (.value (.bool (match neg with | true => !n | false => n))) w := by
  obtain ⟨e, ht⟩ := ht
  have h : ∀ d, (Op.equalIn (d + 1) t x .nilIface).run Pg w = .ok n w := by
    intro d
    rcases hx with ⟨rfl, rfl⟩ | ⟨rfl, t', v, rfl⟩ <;> simp [Op.equalIn, run_underlying ht]
  have h := h 9999
  have hg : (eqGuard b t u (.const .nilIface) x .nilIface).run Pg w = .ok () w := by
    rcases hx with ⟨rfl, rfl⟩ | ⟨rfl, t', v, rfl⟩ <;> cases b <;> simp [eqGuard]
  cases b <;> cases neg <;> simp [isEq] at hq <;> rcases hx with ⟨rfl, rfl⟩ | ⟨rfl, t', v, rfl⟩ <;> simp [execOp, ho, hu, hc, hg, binOp, Op.equal, Op.maxDepth, h]
/-! ### Builtins -/
theorem run_call_builtin {b : Builtin} {us : List Operand} {ts : List TypeId} (ho : o.op = .call ⟨.builtin b, ⟨us⟩, ⟨ts⟩⟩) :
    (execOp ρ o).run Pg w = (builtin b ⟨ts⟩ o.type ((us.map (fun x => match x with | .const _ => true | _ => false)).toArray) (us.map ρ).toArray).run Pg w := by
  simp [execOp, ho, resolve, invoke]
  rfl
theorem run_lenL {u : Operand} {t : TypeId} {a : Option Addr} {n cap : Nat} (ho : o.op = .call ⟨.builtin .len, ⟨[u]⟩, ⟨[t]⟩⟩) (hu : ρ u = .slice a n cap) (ht : ∃ e, Pg.underlying t = some (.slice e)) :
    (execOp ρ o).run Pg w = .ok (.value (.int .i64 n)) w := by
  obtain ⟨e, ht⟩ := ht
  simp [run_call_builtin ho, builtin, Builtin.len_, run_underlying ht, hu, goInt]
theorem run_lenS {u : Operand} {t : TypeId} {s : ByteArray} (ho : o.op = .call ⟨.builtin .len, ⟨[u]⟩, ⟨[t]⟩⟩) (hu : ρ u = .string s) (ht : Pg.underlying t = some .string) :
    (execOp ρ o).run Pg w = .ok (.value (.int .i64 s.size)) w := by
  simp [run_call_builtin ho, builtin, Builtin.len_, run_underlying ht, hu, goInt]
theorem run_lenM {u : Operand} {t : TypeId} {r : Nat} {es : Array MapEntry} {c : Nat} (ho : o.op = .call ⟨.builtin .len, ⟨[u]⟩, ⟨[t]⟩⟩) (hu : ρ u = .map (some r)) (ht : ∃ k e, Pg.underlying t = some (.map k e))
    (hr : w.heap[r]? = some (.map es c)) : (execOp ρ o).run Pg w = .ok (.value (.int .i64 es.size)) w := by
  obtain ⟨k, e, ht⟩ := ht
  simp [run_call_builtin ho, builtin, Builtin.len_, run_underlying ht, hu, goInt, getObj, Go.Sem.run, hr]
theorem run_mkfn {f : Nat} {cs : List Operand} (ho : o.op = .makeFunc (.func f) ⟨[]⟩ ⟨cs⟩) : (execOp ρ o).run Pg w = .ok (.value (.func (.func f) #[] (cs.map ρ).toArray)) w := by
  simp [execOp, ho, Instr.makeFunc]
theorem run_box {t : TypeId} {u : Operand} (ho : o.op = .box t u) : (execOp ρ o).run Pg w = .ok (.value (.pointer (some ⟨w.heap.size, 0, none⟩))) (w.alloc (.cells (ρ u).cells t)) := by
  simp [execOp, ho, Instr.box, newVar, newRow]
theorem run_alloc {t : TypeId} {i : TypeInfo} {z : Value} (ho : o.op = .alloc t) (hi : Pg.info? t = some i) (hz : i.zero = some z) :
    (execOp ρ o).run Pg w = .ok (.value (.pointer (some ⟨w.heap.size, 0, none⟩))) (w.alloc (.cells z.cells t)) := by
  simp [execOp, ho, Instr.alloc, zeroValue, typeInfo, hi, hz, newVar, newRow]
theorem run_mmap {t : TypeId} (ho : o.op = .makeMap t none) : (execOp ρ o).run Pg w = .ok (.value (.map (some w.heap.size))) (w.alloc (.map #[] 0)) := by
  simp [execOp, ho, Instr.makeMap]
end
end Go.Proofs.DenT
end
section
namespace Go.Proofs.DenT
set_option linter.unusedVariables false
open Go

/-- A world with one more block. -/
structure NewBlk (w w' : World) (ob : Obj) : Prop where
  heap : w'.heap = w.heap.push ob
  os : w'.os = w.os
  tape : w'.tape = w.tape
  output : w'.output = w.output
theorem NewBlk.alloc (w : World) (ob : Obj) : NewBlk w (w.alloc ob) ob := ⟨rfl, rfl, rfl, rfl⟩
theorem NewBlk.drew (w : World) (ob : Obj) : NewBlk w (w.drew.alloc ob) ob := ⟨rfl, rfl, rfl, rfl⟩
section
variable {Pg : Program} {w : World} {ρ : Operand → Value} {o : Oper}

theorem run_s2b {s d e : TypeId} {u : Operand} {m : ByteArray} (ho : o.op = .convert s d u) (hs : Pg.underlying s = some .string) (hd : Pg.underlying d = some (.slice e)) (he : Pg.underlying e = some (.int .u8))
    (hu : ρ u = .string m) : ∃ cap arr fz w', (execOp ρ o).run Pg w = .ok (.value (.slice (some ⟨w.heap.size, 0, none⟩) m.size cap)) w' ∧ NewBlk w w' (.cells arr e fz) ∧ m.size ≤ cap ∧
      ∀ i, i < m.size → arr[i]? = some (.int .u8 (m.data.toList.getD i 0).toNat) := by
  have h := run_bytes_of_string (P := Pg) w s d e m hs hd he
  refine ⟨_, _, _, _, by simp [execOp, ho, hu, h]; exact ⟨rfl, rfl⟩, NewBlk.drew _ _, ?_, ?_⟩
  · exact grownCap_ge _ _ _ _
  · intro i hi
    have h1 : i < m.data.size := hi
    unfold bytesRow
    rw [Array.getElem?_append_left (by simpa using h1)]
    simp [Array.getElem?_eq_getElem h1]
/-! ### Bytes to a text -/
def isByte (v : Value) : Bool := match v with | .int .u8 _ => true | _ => false
def byteOf (v : Value) : UInt8 := match v with | .int _ n => UInt8.ofNat n.toNat | _ => 0
def numOf (v : Value) : Int := match v with | .int _ n => n | _ => 0
theorem foldl_push (l : List Int) (r : ByteArray) : l.foldl (fun r n => r.push (UInt8.ofNat n.toNat)) r = ⟨r.data ++ (l.map fun n => UInt8.ofNat n.toNat).toArray⟩ := by
  induction l generalizing r with
  | nil => simp
  | cons n l ih => simp only [List.foldl_cons]; rw [ih]; simp [ByteArray.push]
theorem run_b2s_nil {s d e : TypeId} {u : Operand} {len cap : Nat} (ho : o.op = .convert s d u) (hs : Pg.underlying s = some (.slice e)) (hd : Pg.underlying d = some .string) (he : Pg.underlying e = some (.int .u8))
    (hu : ρ u = .slice none len cap) : (execOp ρ o).run Pg w = .ok (.value (.string ⟨#[]⟩)) w := by
  have h := run_convert_bytes_nil (P := Pg) w s e hs he len cap d hd
  simp [execOp, ho, hu, h]
  rfl
theorem run_b2s {s d e : TypeId} {u : Operand} {b off len cap : Nat} {vs : List Value} (ho : o.op = .convert s d u) (hs : Pg.underlying s = some (.slice e)) (hd : Pg.underlying d = some .string) (he : Pg.underlying e = some (.int .u8))
    (hu : ρ u = .slice (some ⟨b, off, none⟩) len cap) (hl : vs.length = len) (hc : CellsAt w b off vs) (hb : vs.all isByte = true) :
    (execOp ρ o).run Pg w = .ok (.value (.string ⟨(vs.map byteOf).toArray⟩)) w := by
  have h := run_loadCells_list (P := Pg) w ⟨b, off, none⟩ vs (fun j v hv => by rw [addr_add]; exact hc j v hv)
  rw [hl] at h
  have hm : ∀ (l : List Value), l.all isByte = true → (l.map numOf).map (Value.int .u8) = l ∧ (l.map numOf).map (fun n => UInt8.ofNat n.toNat) = l.map byteOf := by
    intro l
    induction l with
    | nil => intro _; exact ⟨rfl, rfl⟩
    | cons v l ih =>
      intro ha
      simp only [List.all_cons, Bool.and_eq_true] at ha
      obtain ⟨h1, h2⟩ := ih ha.2
      cases v with
      | int k n =>
        cases k <;> simp [isByte] at ha
        constructor
        · simp only [List.map_cons, h1]; rfl
        · simp only [List.map_cons, h2]; rfl
      | _ => simp [isByte] at ha
  obtain ⟨h1, h2⟩ := hm vs hb
  rw [← h1] at h
  have h3 := run_bytesToString (P := Pg) w _ len cap _ h
  rw [foldl_push, h2] at h3
  have h4 := run_convert_bytes_string (P := Pg) w s d e (some ⟨b, off, none⟩) len cap hs he hd
  simp [execOp, ho, hu, h4, h3]

/-! ### Stores -/
theorem run_store1 {t : TypeId} {u v : Operand} {b off : Nat} {x y : Value} (ho : o.op = .store t u v) (hu : ρ u = .pointer (some ⟨b, off, none⟩)) (hv : ρ v = x) (h1 : x.oneCell' = true)
    (hs : tySize Pg t 1 = true) (hc : w.cell? ⟨b, off, none⟩ = some y) (hf : w.frozen? ⟨b, off, none⟩ = false) :
    (execOp ρ o).run Pg w = .ok .skip (w.setCell ⟨b, off, none⟩ x) := by
  have hcs : x.cells = #[x] := by cases x <;> first | rfl | simp [Value.oneCell'] at h1
  simp [execOp, ho, hu, hv, Instr.storeAt, Instr.sureAddr, storeVar, run_sizeOf hs, hcs, storeCells, run_store _ _ _ _ _ h1, hc, hf, addr_add]
theorem run_storeN {t e : TypeId} {u v : Operand} {b off n : Nat} {vs cur : Array Value} (ho : o.op = .store t u v) (hu : ρ u = .pointer (some ⟨b, off, none⟩)) (hv : ρ v = .agg vs) (h1 : ∀ x ∈ vs, x.oneCell' = true)
    (hs : tySize Pg t n = true) (hn : vs.size = n) (hb : w.heap[b]? = some (.cells cur e (0, 0))) (hfit : off + n ≤ cur.size) :
    (execOp ρ o).run Pg w = .ok .skip (w.setRow b (cur.toList.take off ++ vs.toList ++ cur.toList.drop (off + n)).toArray) := by
  have h := run_storeCells_at Pg b off e vs.toList 0 cur w hb (by simp [hn]; omega) (fun x hx => h1 x (by simpa using hx))
  simp only [Nat.add_zero] at h
  simp [execOp, ho, hu, hv, Instr.storeAt, Instr.sureAddr, storeVar, run_sizeOf hs, Value.cells, hn, h]
/-! ### New rows -/
theorem wrap_small {m : Int} (h0 : 0 ≤ m) (h1 : m ≤ room) : IntKind.i64.wrap m = m := by
  have h2 : m % 18446744073709551616 = m := Int.emod_eq_of_lt h0 (by simp [room] at h1; omega)
  have h3 : ¬ (9223372036854775808 ≤ m) := by simp [room] at h1; omega
  simp [IntKind.wrap, IntKind.bits, IntKind.signed, h2, h3]
theorem map_range0 (f : Nat → Value) : (Array.range 0).map f = #[] := by simp [Array.range]
theorem rep_getElem {z : Array Value} {n sz a b : Nat} (hz : z.size = sz) (ha : a < n) (hb : b < sz) :
    ((Array.range (n * sz)).map (z[· % z.size]!))[a * sz + b]? = z[b]? := by
  have h1 : a * sz + b < n * sz := by
    have : (a + 1) * sz ≤ n * sz := Nat.mul_le_mul_right _ ha
    rw [Nat.add_mul] at this; omega
  have h2 : (a * sz + b) % z.size = b := by rw [hz, Nat.mul_comm, Nat.mul_add_mod, Nat.mod_eq_of_lt hb]
  have h3 : b < z.size := by omega
  simp only [Array.getElem?_map, Array.getElem?_range, h1, if_true, Option.map_some]
  rw [h2]
  simp [h3]
theorem run_mks {t e : TypeId} {u v : Operand} {k : IntKind} {m : Int} {sz bytes : Nat} {i : TypeInfo} {z : Value} (ho : o.op = .makeSlice t u v) (hu : ρ u = .int k m) (hv : ρ v = .int k m)
    (ht : Pg.underlying t = some (.slice e)) (hi : Pg.info? e = some i) (hz : i.zero = some z) (hsz : i.size = sz) (hby : i.bytes = bytes) (hzs : z.cells.size = sz) (h0 : 0 < sz) (h1 : 0 < bytes) (hm : 0 ≤ m) (hr : m.toNat * bytes ≤ room) :
    ∃ arr, (execOp ρ o).run Pg w = .ok (.value (.slice (some ⟨w.heap.size, 0, none⟩) m.toNat m.toNat)) (w.alloc (.cells arr e)) ∧ arr.size = m.toNat * sz ∧
      ∀ a b, a < m.toNat → b < sz → arr[a * sz + b]? = z.cells[b]? := by
  have hle : m ≤ room := by
    have : m.toNat * 1 ≤ m.toNat * bytes := Nat.mul_le_mul_left _ h1
    omega
  have hw := wrap_small hm hle
  have hb : ¬ (281474976710656 < (bytes : Int) * m) := by
    have : (m.toNat : Int) * bytes ≤ (room : Nat) := by exact_mod_cast hr
    rw [Int.toNat_of_nonneg hm, Int.mul_comm] at this
    simp [room] at this; omega
  have hm' : ¬ m < 0 := by omega
  refine ⟨(Array.range (m.toNat * sz)).map (z.cells[· % z.cells.size]!), ?_, by simp, fun a b ha hb => rep_getElem hzs ha hb⟩
  by_cases hz0 : m.toNat * sz = 0
  · have : m.toNat = 0 := by rcases Nat.mul_eq_zero.1 hz0 with h | h <;> omega
    simp [execOp, ho, hu, hv, Instr.makeSlice, asInt, asIntOf, run_underlying ht, typeInfo, hi, hby, hw, hb, hm', sizeOf, hsz, newRow, this, map_range0]
  · simp [execOp, ho, hu, hv, Instr.makeSlice, asInt, asIntOf, run_underlying ht, typeInfo, hi, hby, hw, hb, hm', sizeOf, hsz, hz0, newRow, zeroValue, hz]
theorem run_bslice {t e : TypeId} {n sz : Nat} {ps : Array (Nat × Operand)} {i : TypeInfo} {z : Value} {cells : Array Value} (ho : o.op = .buildSlice t n ps)
    (ht : Pg.underlying t = some (.slice e)) (hi : Pg.info? e = some i) (hz : i.zero = some z) (hsz : i.size = sz) (h0 : 0 < sz) (hr : n * sz ≤ 16777216)
    (hfill : Instr.fill (fun j => some (j * sz, sz)) ((Array.range (n * sz)).map (z.cells[· % z.cells.size]!)) (ps.toList.map fun x => (x.1, ρ x.2)) = some cells) :
    (execOp ρ o).run Pg w = .ok (.value (.slice (some ⟨w.heap.size, 0, none⟩) n n)) (w.alloc (.cells cells e)) := by
  have hr' : ¬ (16777216 < n * sz) := by omega
  by_cases hz0 : n * sz = 0
  · have : n = 0 := by rcases Nat.mul_eq_zero.1 hz0 with h | h <;> omega
    subst this
    simp [map_range0] at hfill
    simp [map_range0, execOp, ho, Instr.buildSlice, run_underlying ht, sizeOf, typeInfo, hi, hsz, newRow]
    rw [hfill]
    simp
  · simp [execOp, ho, Instr.buildSlice, run_underlying ht, sizeOf, typeInfo, hi, hsz, newRow, hr', hz0, zeroValue, hz]
    rw [hfill]
    simp
end
end Go.Proofs.DenT
end
section
namespace Go.Proofs.DenT
set_option linter.unusedVariables false
set_option linter.unusedSimpArgs false
open Go

/-! ### What is laid over cells -/
theorem lay_spec (xs : List AV) (n : Nat) : ∀ (cs : List AV) (o : Nat), (lay xs n cs o).length = cs.length ∧
    ∀ k, o + n ≤ cs.length → (lay xs n cs o).getD k .junk = if o ≤ k ∧ k < o + n then xs.getD (k - o) .junk else cs.getD k .junk := by
  intro cs o
  have key : ∀ (m j : Nat) (cs : List AV), 
      let r := Nat.rec (motive := fun _ => Nat → List AV → List AV) (fun _ cs => cs) (fun _ ih j cs => ih (j + 1) (upd cs (o + j) (nth xs j .junk))) m j cs
      r.length = cs.length ∧ ∀ k, o + j + m ≤ cs.length → r.getD k .junk = if o + j ≤ k ∧ k < o + j + m then xs.getD (k - o) .junk else cs.getD k .junk := by
    intro m
    induction m with
    | zero =>
      intro j cs; refine ⟨rfl, fun k h => ?_⟩
      have : ¬ (o + j ≤ k ∧ k < o + j + 0) := by omega
      rw [if_neg this]
      rfl
    | succ m ih =>
      intro j cs
      obtain ⟨h1, h2⟩ := ih (j + 1) (upd cs (o + j) (nth xs j .junk))
      rw [upd_len] at h1 h2
      refine ⟨h1, fun k h => ?_⟩
      have h3 := h2 k (by omega)
      show (Nat.rec (motive := fun _ => Nat → List AV → List AV) (fun _ cs => cs) (fun _ ih j cs => ih (j + 1) (upd cs (o + j) (nth xs j .junk))) m (j + 1) (upd cs (o + j) (nth xs j .junk))).getD k .junk = _
      rw [h3, ← nth_eq (upd _ _ _), nth_upd, nth_eq, nth_eq]
      by_cases hk : o + j = k
      · subst hk
        have e1 : ¬ (o + (j + 1) ≤ o + j) := by omega
        have e2 : o + j - o = j := by omega
        simp [e1, e2]
        intro h5; omega
      · by_cases hr : o + (j + 1) ≤ k ∧ k < o + (j + 1) + m
        · have : o + j ≤ k ∧ k < o + j + (m + 1) := by omega
          simp [hr, this]
        · have : ¬ (o + j ≤ k ∧ k < o + j + (m + 1)) := by omega
          simp [hr, this, hk]
  have h := key n 0 cs
  simp only [Nat.add_zero] at h
  exact h

theorem fold_set (off : Nat) (vs : List Value) : ∀ (j : Nat) (cells : Array Value), off + j + vs.length ≤ cells.size →
    ((vs.zipIdx j).foldl (fun cs (x : Value × Nat) => cs.setIfInBounds (off + x.2) x.1) cells).size = cells.size ∧
    ∀ k, ((vs.zipIdx j).foldl (fun cs (x : Value × Nat) => cs.setIfInBounds (off + x.2) x.1) cells)[k]? = if off + j ≤ k ∧ k < off + j + vs.length then vs[k - (off + j)]? else cells[k]? := by
  induction vs with
  | nil =>
    intro j cells h; refine ⟨rfl, fun k => ?_⟩
    have : ¬ (off + j ≤ k ∧ k < off + j + ([] : List Value).length) := by simp
    rw [if_neg this]
    rfl
  | cons v vs ih =>
    intro j cells h
    simp only [List.length_cons] at h
    obtain ⟨h1, h2⟩ := ih (j + 1) (cells.setIfInBounds (off + j) v) (by simp; omega)
    simp only [List.zipIdx_cons, List.foldl_cons]
    refine ⟨by rw [h1]; simp, fun k => ?_⟩
    rw [h2 k]
    by_cases hk : off + j = k
    · subst hk
      have e1 : ¬ (off + (j + 1) ≤ off + j) := by omega
      have e3 : off + j < cells.size := by omega
      simp [e1, e3]
    · by_cases hr : off + (j + 1) ≤ k ∧ k < off + (j + 1) + vs.length
      · have h4 : off + j ≤ k ∧ k < off + j + (vs.length + 1) := by omega
        have h5 : k - (off + j) = (k - (off + (j + 1))) + 1 := by omega
        simp [hr, h4, h5]
      · have h4 : ¬ (off + j ≤ k ∧ k < off + j + (vs.length + 1)) := by omega
        simp [hr, h4, Array.getElem?_setIfInBounds_ne hk]

/-- Cells, related one by one. -/
def CellsR (R : Value → AV → Prop) (cs : Array Value) (xs : List AV) : Prop :=
  cs.size = xs.length ∧ ∀ i, i < xs.length → R (cs.getD i undef) (xs.getD i .junk)
theorem getD_of_getElem? {cs : Array Value} {i : Nat} {v : Value} (h : cs[i]? = some v) (d : Value) : cs.getD i d = v := by
  simp [Array.getD_eq_getD_getElem?, h]

theorem fill_one {R : Value → AV → Prop} {cells : Array Value} {z : List AV} (hz : CellsR R cells z) {v : Value} {ys : List AV} {off n : Nat} (hv : CellsR R v.cells ys) (hn : ys.length = n) (hfit : off + n ≤ z.length) :
    CellsR R (v.cells.zipIdx.foldl (fun cs (c, j) => cs.setIfInBounds (off + j) c) cells) (lay ys n z off) := by
  obtain ⟨l1, l2⟩ := lay_spec ys n z off
  have hsz : v.cells.toList.length = n := by simp [hv.1, hn]
  obtain ⟨f1, f2⟩ := fold_set off v.cells.toList 0 cells (by rw [hsz, hz.1]; omega)
  have e : (v.cells.zipIdx.foldl (fun cs (c, j) => cs.setIfInBounds (off + j) c) cells) = ((v.cells.toList.zipIdx 0).foldl (fun cs (x : Value × Nat) => cs.setIfInBounds (off + x.2) x.1) cells) := by
    rw [← Array.foldl_toList]
    simp
  rw [e]
  refine ⟨by rw [f1, l1]; exact hz.1, fun i hi => ?_⟩
  rw [l1] at hi
  rw [l2 i hfit]
  have hf := f2 i
  rw [hsz] at hf
  simp only [Nat.add_zero] at hf
  rw [Array.getD_eq_getD_getElem?, hf]
  split
  · rename_i hr
    have := hv.2 (i - off) (by omega)
    rw [Array.getD_eq_getD_getElem?] at this
    simpa using this
  · have := hz.2 i hi
    rwa [Array.getD_eq_getD_getElem?] at this

section
variable {Pg : Program} {w : World} {ρ : Operand → Value} {o : Oper}
/-- Parts laid one behind the other: the program's, the abstract ones. -/
theorem fill_spec {R : Value → AV → Prop} {place : Nat → Option (Nat × Nat)} : ∀ (ps : List (Nat × Value)) (us : List (Src × Nat × Nat)) (vs : List Reg) (cells : Array Value) (z : List AV),
    CellsR R cells z →
    (ps.length = us.length) → (∀ i p u, ps[i]? = some p → us[i]? = some u → place p.1 = some (u.2.1, u.2.2) ∧ CellsR R p.2.cells (rg vs i).x.cellsOf ∧ (rg vs i).x.cellsOf.length = u.2.2 ∧ u.2.1 + u.2.2 ≤ z.length) →
    ∃ out, Instr.fill place cells ps = some out ∧ CellsR R out (layAll us vs z) := by
  intro ps
  induction ps with
  | nil =>
    intro us vs cells z hz hl _
    cases us with
    | nil => exact ⟨cells, rfl, hz⟩
    | cons u us => simp at hl
  | cons p ps ih =>
    intro us vs cells z hz hl h
    cases us with
    | nil => simp at hl
    | cons u us =>
      obtain ⟨h1, h2, h3, h4⟩ := h 0 p u rfl rfl
      obtain ⟨i, v⟩ := p
      simp only at h1 h2
      have hsz : v.cells.size = u.2.2 := by rw [h2.1, h3]
      have hfit : u.2.1 + v.cells.size ≤ cells.size := by rw [hsz, hz.1]; exact h4
      have hnew := fill_one hz h2 h3 h4
      have hlen : (lay (rg vs 0).x.cellsOf u.2.2 z u.2.1).length = z.length := (lay_spec _ _ _ _).1
      obtain ⟨out, ho, hr⟩ := ih us vs.tail _ _ hnew (by simpa using hl) (fun i p u hp hu => by
        have := h (i + 1) p u hp hu
        rw [hlen]
        have e : rg vs (i + 1) = rg vs.tail i := by cases vs <;> rfl
        rw [e] at this
        exact this)
      refine ⟨out, ?_, hr⟩
      simp only [Instr.fill, h1]
      rw [if_neg]
      · exact ho
      · simp [hsz]; omega
theorem run_buildOp {t : TypeId} {ps : Array (Nat × Operand)} {cells : Array Value} (ho : o.op = .build t ps)
    (h : Pg.built t (ps.toList.map fun x => (x.1, ρ x.2)) = some cells) : (execOp ρ o).run Pg w = .ok (.value (.agg cells)) w := by
  have h' : Pg.built t (ps.map fun x => (x.1, ρ x.2)).toList = some cells := by simpa using h
  have := run_build (P := Pg) w t (ps.map fun x => (x.1, ρ x.2)) cells h'
  simp [execOp, ho, this]
/-! ### Least, greatest -/
theorem run_ext2 {mn : Bool} {b : Builtin} {k : IntKind} {m : Int} {us : List Operand} {u : Operand} {t : TypeId} {ts : List TypeId} {ns : List Int} (ho : o.op = .call ⟨.builtin b, ⟨u :: us⟩, ⟨t :: ts⟩⟩)
    (hb : (match b with | .min => mn | .max => !mn | _ => false) = true) (hu : ρ u = .int k m) (hus : us.map ρ = ns.map (Value.int k)) :
    (execOp ρ o).run Pg w = .ok (.value (.int k (ns.foldl (minMax mn) m))) w := by
  rw [run_call_builtin ho]
  simp only [List.map_cons, hu, hus]
  have hmax : ∀ (ns : List Int) (m : Int), (List.foldlM Builtin.max2 (.int k m) (ns.map (Value.int k))).run Pg w = .ok (.int k (ns.foldl (minMax false) m)) w := by
    intro ns
    induction ns with
    | nil => intro m; simp
    | cons n ns ih => intro m; simp only [List.map_cons, List.foldlM_cons, Builtin.max2, Sem.run_bind, Sem.run_pure, Result.andThen_ok, List.foldl_cons]; rw [ih]; rfl
  have hmin : ∀ (ns : List Int) (m : Int), (List.foldlM Builtin.min2 (.int k m) (ns.map (Value.int k))).run Pg w = .ok (.int k (ns.foldl (minMax true) m)) w := by
    intro ns
    induction ns with
    | nil => intro m; simp
    | cons n ns ih => intro m; simp only [List.map_cons, List.foldlM_cons, Builtin.min2, Sem.run_bind, Sem.run_pure, Result.andThen_ok, List.foldl_cons]; rw [ih]; rfl
  cases b <;> simp at hb <;> subst hb <;> simp [builtin, Builtin.max_, Builtin.min_, hmax, hmin]
end
end Go.Proofs.DenT
end
section
namespace Go.Proofs.DenT
set_option linter.unusedVariables false
open Go
section
variable {Pg : Program} {w : World} {ρ : Operand → Value} {o : Oper}

/-! ### Maps -/
theorem run_checkKey {t : TypeId} {k kk : IntKind} {n : Int} {b : Bool} (ht : Pg.underlying t = some (.int kk)) : (Instr.checkKey b 10000 t (.int k n)).run Pg w = .ok () w := by
  have h : ∀ d, (Instr.checkKey b (d + 1) t (.int k n)).run Pg w = .ok () w := by intro d; simp [Instr.checkKey, run_underlying ht]
  exact h 9999
theorem findNow_spec {g : Gh} {kk : IntKind} {ag : Bool} {n : Int} : ∀ (es : List MapEntry) (xs : List (Int × List AV)) (i : Nat), All2 (MapR g kk ag) es xs →
    match findE n xs with
    | none => Instr.findNow (.int kk) (.int kk n) es i = some none
    | some c => ∃ j e, Instr.findNow (.int kk) (.int kk n) es i = some (some (i + j, e.val)) ∧ es[j]? = some e ∧ MapR g kk ag e (n, c) ∧ All2 (MapR g kk ag) es xs
  | [], [], i, _ => by simp [findE, Instr.findNow]
  | [], x :: xs, i, h => by simp [All2] at h
  | e :: es, [], i, h => by simp [All2] at h
  | e :: es, x :: xs, i, h => by
    have h1 : MapR g kk ag e x := h.1
    have h2 : All2 (MapR g kk ag) es xs := h.2
    have hk : e.key = .int kk x.1 := h1.1
    have ih := findNow_spec (n := n) es xs (i + 1) h2
    unfold findE
    by_cases hx : x.1 = n
    · subst hx
      simp only [beq_self_eq_true]
      refine ⟨0, e, ?_, rfl, h1, h⟩
      simp [Instr.findNow, hk, Instr.sameNow]
    · have hx' : (x.1 == n) = false := by simpa using hx
      have hx2 : (n == x.1) = false := by simpa using Ne.symm hx
      simp only [hx']
      cases hf : findE n xs with
      | none =>
        rw [hf] at ih
        simp only at ih ⊢
        simp [Instr.findNow, hk, Instr.sameNow, hx2, ih]
      | some c =>
        rw [hf] at ih
        obtain ⟨j, e', h3, h4, h5, _⟩ := ih
        refine ⟨j + 1, e', ?_, by simpa using h4, h5, h⟩
        simp only [Instr.findNow, hk, Instr.sameNow, hx2, h3]
        simp; omega
theorem run_look {t k e : TypeId} {u v : Operand} {ok : Bool} {g : Gh} {kk : IntKind} {ag : Bool} {n : Int} {r c : Nat} {es : Array MapEntry} {xs : List (Int × List AV)} {i : TypeInfo} {z : Value} (ho : o.op = .lookup t u v ok)
    (ht : Pg.underlying t = some (.map k e)) (hk : Pg.underlying k = some (.int kk)) (hi : Pg.info? e = some i) (hz : i.zero = some z) (hu : ρ u = .map (some r)) (hv : ρ v = .int kk n)
    (hr : w.heap[r]? = some (.map es c)) (hes : All2 (MapR g kk ag) es.toList xs) :
    match findE n xs with
    | none => (execOp ρ o).run Pg w = .ok (.value (match ok with | true => .tuple #[z, .bool false] | false => z)) w
    | some c => ∃ e, MapR g kk ag e (n, c) ∧ (execOp ρ o).run Pg w = .ok (.value (match ok with | true => .tuple #[e.val, .bool true] | false => e.val)) w := by
  have hf := findNow_spec (n := n) es.toList xs 0 hes
  have hg : (getObj r).run Pg w = .ok (.map es c) w := by simp [getObj, Go.Sem.run, hr]
  cases hq : findE n xs with
  | none =>
    rw [hq] at hf
    simp only at hf ⊢
    simp [execOp, ho, hu, hv, Instr.lookup, run_underlying ht, hg, run_checkKey hk, Instr.findKey, run_underlying hk, hf, zeroValue, typeInfo, hi, hz]
    cases ok <;> rfl
  | some c' =>
    rw [hq] at hf
    obtain ⟨j, e', h3, h4, h5, _⟩ := hf
    refine ⟨e', h5, ?_⟩
    simp [execOp, ho, hu, hv, Instr.lookup, run_underlying ht, hg, run_checkKey hk, Instr.findKey, run_underlying hk, h3]
    cases ok <;> rfl
/-- The entries behind an update. -/
theorem putE_spec {g : Gh} {kk : IntKind} {ag : Bool} {n : Int} {val : Value} {c : List AV} (hval : ∀ b, MapR g kk ag ⟨.int kk n, val, b⟩ (n, c)) (b : Nat) : ∀ (es : List MapEntry) (xs : List (Int × List AV)) (i : Nat), All2 (MapR g kk ag) es xs →
    match findE n xs with
    | none => Instr.findNow (.int kk) (.int kk n) es i = some none ∧ All2 (MapR g kk ag) (es ++ [⟨.int kk n, val, b⟩]) (putE n c xs)
    | some _ => ∃ j e, Instr.findNow (.int kk) (.int kk n) es i = some (some (i + j, e.val)) ∧ es[j]? = some e ∧ e.key = .int kk n ∧ All2 (MapR g kk ag) (es.modify j fun e => { e with key := .int kk n, val := val }) (putE n c xs)
  | [], [], i, _ => by simp [findE, putE, All2, Instr.findNow]; exact hval b
  | [], x :: xs, i, h => by simp [All2] at h
  | e :: es, [], i, h => by simp [All2] at h
  | e :: es, x :: xs, i, h => by
    have h1 : MapR g kk ag e x := h.1
    have h2 : All2 (MapR g kk ag) es xs := h.2
    have hk : e.key = .int kk x.1 := h1.1
    have ih := putE_spec hval b es xs (i + 1) h2
    unfold findE putE
    by_cases hx : x.1 = n
    · subst hx
      simp only [beq_self_eq_true]
      refine ⟨0, e, ?_, rfl, hk, ?_⟩
      · simp [Instr.findNow, hk, Instr.sameNow]
      · simp only [List.modify_zero_cons]
        exact ⟨hval e.born, h2⟩
    · have hx' : (x.1 == n) = false := by simpa using hx
      have hx2 : (n == x.1) = false := by simpa using Ne.symm hx
      simp only [hx']
      cases hf : findE n xs with
      | none =>
        rw [hf] at ih
        refine ⟨?_, h1, ih.2⟩
        simp [Instr.findNow, hk, Instr.sameNow, hx2, ih.1]
      | some c' =>
        rw [hf] at ih
        obtain ⟨j, e', h3, h4, h5, h6⟩ := ih
        refine ⟨j + 1, e', ?_, by simpa using h4, h5, ?_⟩
        · simp only [Instr.findNow, hk, Instr.sameNow, hx2, h3]
          simp; omega
        · simp only [List.modify_succ_cons]
          exact ⟨h1, h6⟩
theorem sameBits_int {d : Nat} {k : IntKind} {n : Int} : Instr.sameBits d (.int k n) (.int k n) = true := by simp [Instr.sameBits]
theorem run_mupd {t k e : TypeId} {u v y : Operand} {g : Gh} {kk : IntKind} {ag : Bool} {n : Int} {r c : Nat} {es : Array MapEntry} {xs : List (Int × List AV)} {val : Value} {cs : List AV} (ho : o.op = .mapUpdate t u v y ∨ o.op = .insert t u v y)
    (ht : Pg.underlying t = some (.map k e)) (hk : Pg.underlying k = some (.int kk)) (hu : ρ u = .map (some r)) (hv : ρ v = .int kk n) (hy : ρ y = val)
    (hr : w.heap[r]? = some (.map es c)) (hes : All2 (MapR g kk ag) es.toList xs) (hval : ∀ b, MapR g kk ag ⟨.int kk n, val, b⟩ (n, cs)) :
    ∃ es' c', (execOp ρ o).run Pg w = .ok .skip { w with heap := w.heap.setIfInBounds r (.map es' c') } ∧ All2 (MapR g kk ag) es'.toList (putE n cs xs) := by
  have hf := putE_spec hval c es.toList xs 0 hes
  have hg : (getObj r).run Pg w = .ok (.map es c) w := by simp [getObj, Go.Sem.run, hr]
  have hset : ∀ ob, (setObj r ob).run Pg w = .ok () { w with heap := w.heap.setIfInBounds r ob } := by intro ob; simp [setObj, Go.Sem.run, hr]
  cases hq : findE n xs with
  | none =>
    rw [hq] at hf
    refine ⟨es.push ⟨.int kk n, val, c⟩, c + 1, ?_, by simpa using hf.2⟩
    rcases ho with ho | ho <;> simp [execOp, ho, hu, hv, hy, Instr.mapUpdate, run_underlying ht, hg, run_checkKey hk, Instr.findKey, run_underlying hk, hf.1, hset]
  | some c' =>
    rw [hq] at hf
    obtain ⟨j, e', h3, h4, h5, h6⟩ := hf
    simp only [Nat.zero_add] at h3
    have h4' : es[j]? = some e' := by simpa using h4
    refine ⟨es.modify j fun e => { e with key := .int kk n, val := val }, c, ?_, by simpa using h6⟩
    rcases ho with ho | ho <;> simp [execOp, ho, hu, hv, hy, Instr.mapUpdate, run_underlying ht, hg, run_checkKey hk, Instr.findKey, run_underlying hk, h3, h4', h5, Instr.keyThatStays, sameBits_int, hset]
/-! ### Structs and arrays of integers, compared -/
noncomputable abbrev eqFrom (xs ys : List AV) (n o : Nat) : Bool :=
  Nat.rec (motive := fun _ => Nat → Bool) (fun _ => true) (fun _ ih o => (nth xs o .junk).num == (nth ys o .junk).num && ih (o + 1)) n o
theorem run_part_int {t : TypeId} {kk k : IntKind} {cs : Array Value} {off : Nat} {n : Int} (ht : Pg.underlying t = some (.int kk)) (h : cs[off]? = some (.int k n)) : (part t cs off).run Pg w = .ok (.int k n) w :=
  run_part1 (by simp [tyAgg, ht]) h
theorem run_eqFields {xs ys : Array Value} {as bs : List AV} (d : Nat) : ∀ (fs : List Field) (ks : List IntKind) (o : Nat), intFields Pg fs ks o = true →
    (∀ i k, ks[i]? = some k → xs[o + i]? = some (.int k (nth as (o + i) .junk).num) ∧ ys[o + i]? = some (.int k (nth bs (o + i) .junk).num)) →
    (Op.eqFields (d + 1) xs ys fs).run Pg w = .ok (eqFrom as bs ks.length o) w
  | [], [], o, _, _ => by simp only [Op.eqFields, Sem.run_pure]; rfl
  | [], k :: ks, o, h, _ => by simp [intFields] at h
  | f :: fs, [], o, h, _ => by simp [intFields] at h
  | f :: fs, k :: ks, o, h, hc => by
    simp only [intFields, Bool.and_eq_true, beq_iff_eq, bne_iff_ne, ne_eq] at h
    obtain ⟨⟨⟨⟨h1, h2⟩, h3⟩, h4⟩, h5⟩ := h
    have ht := tyInt_spec h3
    obtain ⟨hx, hy⟩ := hc 0 k rfl
    simp only [Nat.add_zero] at hx hy
    have ih := run_eqFields d fs ks (o + 1) h5 (fun i k hk => by
      have := hc (i + 1) k hk
      rw [show o + (i + 1) = o + 1 + i from by omega] at this
      exact this)
    simp only [Op.eqFields, ne_eq, h2, not_false_eq_true, if_true, Sem.run_bind, h1, run_part_int ht hx, run_part_int ht hy, Result.andThen_ok, run_equalIn_int w d f.type k k _ _ ht]
    show _ = Result.ok ((nth as o .junk).num == (nth bs o .junk).num && eqFrom as bs ks.length (o + 1)) w
    cases hb : ((nth as o .junk).num == (nth bs o .junk).num)
    · simp
    · simp [ih]
theorem run_eqItems {xs ys : Array Value} {as bs : List AV} {e : TypeId} {k : IntKind} (d : Nat) (he : Pg.underlying e = some (.int k)) : ∀ (n o : Nat),
    (∀ i, i < n → xs[o + i]? = some (.int k (nth as (o + i) .junk).num) ∧ ys[o + i]? = some (.int k (nth bs (o + i) .junk).num)) →
    (Op.eqItems (d + 1) e 1 xs ys (List.range' o n)).run Pg w = .ok (eqFrom as bs n o) w
  | 0, o, _ => by simp only [List.range'_zero, Op.eqItems, Sem.run_pure]; rfl
  | n + 1, o, hc => by
    obtain ⟨hx, hy⟩ := hc 0 (by omega)
    simp only [Nat.add_zero] at hx hy
    have ih := run_eqItems d he n (o + 1) (fun i hi => by
      have := hc (i + 1) (by omega)
      rw [show o + (i + 1) = o + 1 + i from by omega] at this
      exact this)
    simp only [List.range'_succ, Op.eqItems, Sem.run_bind, Nat.mul_one, run_part_int he hx, run_part_int he hy, Result.andThen_ok, run_equalIn_int w d e k k _ _ he]
    show _ = Result.ok ((nth as o .junk).num == (nth bs o .junk).num && eqFrom as bs n (o + 1)) w
    cases hb : ((nth as o .junk).num == (nth bs o .junk).num)
    · simp
    · simp [ih]
theorem run_aeq {b : BinOp} {t yt : TypeId} {u v : Operand} {neg : Bool} {ks : List IntKind} {xs ys : Array Value} {as bs : List AV} (ho : o.op = .binOp b t u v yt) (hq : isEq b neg = true) (ht : okEq Pg t ks = true)
    (hu : ρ u = .agg xs) (hv : ρ v = .agg ys) (hc : ∀ (i : Nat) (k : IntKind), ks[i]? = some k → xs[i]? = some (.int k (nth as i .junk).num) ∧ ys[i]? = some (.int k (nth bs i .junk).num)) :
    (execOp ρ o).run Pg w = .ok (.value (.bool (match neg with | true => !eqI ks.length as bs | false => eqI ks.length as bs))) w := by
  have h : (Op.equalIn 10000 t (.agg xs) (.agg ys)).run Pg w = .ok (eqI ks.length as bs) w := by
    unfold okEq at ht
    split at ht
    · rename_i fs hfs
      simp only [Bool.and_eq_true, Bool.not_eq_true'] at ht
      have hf : Pg.fieldsOf t = fs := by simp [Program.fieldsOf, hfs]
      have h1 := run_equalIn_agg (P := Pg) w 9999 t xs ys (by rw [hf]; exact hfs) ht.1.2
      rw [h1, hf]
      exact run_eqFields 9998 fs.toList ks 0 ht.1.1 (fun i k hk => by simpa using hc i k hk)
    · rename_i n e hne
      simp only [Bool.and_eq_true, Bool.not_eq_true', beq_iff_eq] at ht
      obtain ⟨⟨⟨h1, h2⟩, h3⟩, h4⟩ := ht
      obtain ⟨i, hi, hsz⟩ := tySize_spec h3
      have h5 := run_equalIn_array (P := Pg) w 9999 xs ys hne hi
      have hce : Pg.cellsOf e = 1 := by simp [Program.cellsOf, hi, hsz]
      rw [h5, hce, List.range_eq_range']
      cases ks with
      | nil => simp at h1; subst h1; simp only [List.range'_zero, Op.eqItems, Sem.run_pure]; rfl
      | cons k0 ks =>
        simp only [Bool.and_eq_true] at h2
        have he := tyInt_spec h2.1
        have hall : ∀ (ks : List IntKind), sameK k0 ks = true → ∀ (i : Nat) (k : IntKind), ks[i]? = some k → k = k0 := by
          intro ks
          induction ks with
          | nil => intro _ i k h; simp at h
          | cons k1 ks ih =>
            intro hs i k h
            simp only [sameK, Bool.and_eq_true, beq_iff_eq] at hs
            cases i with
            | zero => simp at h; rw [← h, ← hs.1]
            | succ i => exact ih hs.2 i k (by simpa using h)
        rw [← h1]
        exact run_eqItems 9998 he (k0 :: ks).length 0 (fun i hi => by
          have hk : (k0 :: ks)[i]? = some ((k0 :: ks)[i]'hi) := by simp
          have := hall _ h2.2 i _ hk
          rw [this] at hk
          simpa using hc i k0 hk)
    · simp at ht
  have hg : (eqGuard b t u v (.agg xs) (.agg ys)).run Pg w = .ok () w := run_eqGuard_agg w b t u v xs ys (by
    unfold okEq at ht
    split at ht <;> simp_all)
  cases b <;> cases neg <;> simp [isEq] at hq <;> simp [execOp, ho, hu, hv, hg, run_eql_struct, run_neq_struct, h]
end
end Go.Proofs.DenT
end
section
namespace Go.Proofs.DenT
set_option linter.unusedVariables false
open Go
section
variable {Pg : Program} {w : World} {ρ : Operand → Value} {o : Oper}

/-! ### Append -/
/-- What is appended: its cells, in whatever world of this heap. -/
structure NewsR (Pg : Program) (w : World) (sz m : Nat) (x : Value) (news : List Value) : Prop where
  len : (Builtin.lenOf x) = pure m
  size : news.length = m * sz
  first : ∀ w' : World, w'.heap = w.heap → (Builtin.firstCells sz m x).run Pg w' = .ok news.toArray w'
  one : ∀ u ∈ news, u.oneCell' = true
theorem news_slice {sz m c : Nat} {a : Addr} {news : List Value} (hl : news.length = m * sz) (h : ∀ j u, news[j]? = some u → w.cell? (a.add j) = some u) (h1 : ∀ u ∈ news, u.oneCell' = true) :
    NewsR Pg w sz m (.slice (some a) m c) news :=
  ⟨rfl, hl, fun w' hw => run_firstCells_some w' sz m a m c news hl (fun j v hv => by
    have := h j v hv
    simp only [World.cell?, hw] at this ⊢
    exact this), h1⟩
theorem news_nil {sz c : Nat} {a : Option Addr} : NewsR Pg w sz 0 (.slice a 0 c) [] := by
  refine ⟨rfl, by simp, fun w' hw => ?_, by simp⟩
  cases a <;> simp [Builtin.firstCells, loadCells, loadCellsFrom]
theorem news_string {s : ByteArray} : NewsR Pg w 1 s.size (.string s) (s.data.toList.map fun b => Value.int .u8 b.toNat) := by
  refine ⟨rfl, by simp, fun w' hw => ?_, by simp [Value.oneCell']⟩
  have : (s.extract 0 s.size) = s := by simp
  simp only [Builtin.firstCells, this, Sem.run_pure]
  congr 1
  apply Array.ext'
  simp
theorem run_app {t t2 e : TypeId} {u v : Operand} {i : TypeInfo} {z x : Value} {base : Option Addr} {n cap m sz bytes : Nat} {news : List Value}
    (ho : o.op = .call ⟨.builtin .append, ⟨[u, v]⟩, ⟨[t, t2]⟩⟩) (ht : Pg.underlying t = some (.slice e)) (ht2 : (∃ e, Pg.underlying t2 = some (.slice e)) ∨ Pg.underlying t2 = some .string)
    (hi : Pg.info? e = some i) (hz : i.zero = some z) (hsz : i.size = sz) (hby : i.bytes = bytes) (hzs : z.cells.size = sz) (h1 : 0 < bytes)
    (hu : ρ u = .slice base n cap) (hv : ρ v = x) (hx : NewsR Pg w sz m x news) (hroom : (n + m) * bytes ≤ room) (hcap : n ≤ cap) :
    (m = 0 → (execOp ρ o).run Pg w = .ok (.value (.slice base n cap)) w) ∧
    (∀ g cur e', base = some ⟨g, 0, none⟩ → n + m ≤ cap → w.heap[g]? = some (.cells cur e' (0, 0)) → cur.size = cap * sz →
      (execOp ρ o).run Pg w = .ok (.value (.slice base (n + m) cap)) (w.setRow g (cur.toList.take (n * sz) ++ news ++ cur.toList.drop (n * sz + news.length)).toArray)) ∧
    (∀ olds : List Value, cap < n + m → olds.length = n * sz → (base = none → n = 0) → (∀ b, base = some b → ∀ j v, olds[j]? = some v → w.cell? (b.add j) = some v) →
      ∃ cap', n + m ≤ cap' ∧ (execOp ρ o).run Pg w = .ok (.value (.slice (some ⟨w.heap.size, 0, none⟩) (n + m) cap'))
        (w.drew.alloc (.cells (olds.toArray ++ news.toArray ++ Builtin.zeroCells z.cells (cap' - (n + m))) e))) := by
  have hzeros : (do pure ((← underlying t2) matches .int _) : Go.Sem Bool).run Pg w = .ok false w := by
    rcases ht2 with ⟨e', h⟩ | h <;> simp [run_underlying h]
  have hle : n + m ≤ room := by
    have : (n + m) * 1 ≤ (n + m) * bytes := Nat.mul_le_mul_left _ h1
    omega
  have hf := hx.first w rfl
  have hu2 : ∃ d, Pg.underlying t2 = some d ∧ ∀ k, d ≠ .int k := by
    rcases ht2 with ⟨e', h⟩ | h
    · exact ⟨_, h, by simp⟩
    · exact ⟨_, h, by simp⟩
  obtain ⟨d, hd, hdk⟩ := hu2
  have hm : ∀ {β : Type} (A B : β), (match d with | .int _ => A | _ => B) = B := by intro β A B; cases d <;> simp_all
  refine ⟨fun h0 => ?_, fun g cur e' hb hfit hg hcs => ?_, fun olds hgrow hol hb0 hold => ?_⟩
  · subst h0
    have hn : news = [] := List.eq_nil_of_length_eq_zero (by simpa using hx.size)
    subst hn
    rw [run_call_builtin ho]
    simp [builtin, Builtin.append_, run_underlying ht, run_underlying hd, hu, hv, sizeOf, typeInfo, hi, hsz, hm, hx.len, hcap, hf]
    cases base <;> simp [storeCells]
  · rw [run_call_builtin ho]
    have hst := run_storeCells_at Pg g (n * sz) e' news 0 cur w hg (by rw [hx.size, hcs, Nat.add_zero, ← Nat.add_mul]; exact Nat.mul_le_mul_right _ hfit) hx.one
    simp only [Nat.add_zero] at hst
    simp [builtin, Builtin.append_, run_underlying ht, run_underlying hd, hu, hv, sizeOf, typeInfo, hi, hsz, hm, hx.len, hfit, hf, hb, addr_add, hst]
  · refine ⟨grownCap w (n + m) cap e, grownCap_ge _ _ _ _, ?_⟩
    rw [run_call_builtin ho]
    have hnl : ¬ (n + m ≤ cap) := by omega
    have h63 : ¬ (9223372036854775807 < ((n : Int) + (m : Int))) := by simp [room] at hle; omega
    have h48 : ¬ (281474976710656 < Builtin.nextslicecap (n + m) cap * bytes) := by
      have := growslice_fits (need := n + m) (old := cap) (bytes := bytes) hgrow (by simpa [room] using hroom); omega
    have hfd := hx.first w.drew rfl
    have hfo : (Builtin.firstCells sz n (.slice base n cap)).run Pg w.drew = .ok olds.toArray w.drew := by
      cases base with
      | none =>
        have := hb0 rfl; subst this
        have : olds = [] := List.eq_nil_of_length_eq_zero (by simpa using hol)
        subst this
        simp [Builtin.firstCells]
      | some b => exact run_firstCells_some w.drew sz n b n cap olds hol (by simpa using hold b rfl)
    simp [builtin, Builtin.append_, run_underlying ht, run_underlying hd, hu, hv, sizeOf, typeInfo, hi, hsz, hby, hm, hx.len, hnl, h63, h48, Question.forced, hfd, hfo, zeroValue, hz, newRow, grownCap]
    congr 2
    apply Array.ext'
    simp

/-! ### Calls -/
theorem run_callF {f : Nat} {as : Array Operand} {ts : Array TypeId} {fn : Func} {c : Code} (ho : o.op = .call ⟨.value (.func f), as, ts⟩) (hρ : ρ (.func f) = .func (.func f) #[] #[]) (hf : Pg.funcs[f]? = some fn) (hb : fn.body = some c) (hn : fn.name ≠ "runtime.NumGoroutine") :
    (execOp ρ o).run Pg w = .ok (.enter f (as.map ρ)) w := by
  simp [execOp, ho, hρ, resolve, Deferred.ofValue, invoke, callFunc, hf, hb, hn]
theorem run_callV {f : Nat} {x : Operand} {caps : Array Value} {as : Array Operand} {ts : Array TypeId} {fn : Func} {c : Code} (ho : o.op = .call ⟨.value x, as, ts⟩) (hx : ρ x = .func (.func f) #[] caps) (hf : Pg.funcs[f]? = some fn) (hb : fn.body = some c) (hn : fn.name ≠ "runtime.NumGoroutine") :
    (execOp ρ o).run Pg w = .ok (.enter f (as.map ρ ++ caps)) w := by
  simp [execOp, ho, hx, resolve, Deferred.ofValue, invoke, callFunc, hf, hb, hn]
end
end Go.Proofs.DenT
end
section
/-! How the relation lives on when the world or the ghosts change. -/
namespace Go.Proofs.DenT
set_option linter.unusedVariables false
open Go

/-! ### Ghosts grow -/
structure Gle (g g' : Gh) : Prop where
  Φ : ∀ b o v, g.Φ b o = some v → g'.Φ b o = some v
  γ : ∀ l b, g.γ l = some b → g'.γ l = some b
  S : ∀ b n, g.S b = some n → g'.S b = some n
theorem Gle.refl (g : Gh) : Gle g g := ⟨fun _ _ _ h => h, fun _ _ h => h, fun _ _ h => h⟩
theorem Gle.trans {a b c : Gh} (h : Gle a b) (k : Gle b c) : Gle a c := ⟨fun x y z q => k.Φ x y z (h.Φ x y z q), fun x y q => k.γ x y (h.γ x y q), fun x y q => k.S x y (h.S x y q)⟩
theorem RV.le {g g' : Gh} (h : Gle g g') {v : Value} {x : AV} (r : RV g.Φ g.γ v x) : RV g'.Φ g'.γ v x := RV.mono h.Φ h.γ r
theorem OwnR.le {g g' : Gh} (h : Gle g g') {c c' : Lc} (hc : ∀ p, g.ρ c = some p → g'.ρ c' = some p) {v : Value} {x : AV} (r : OwnR g c v x) : OwnR g' c' v x := by
  obtain ⟨r1, sz, es, a, len, cap, hx, hv, hr⟩ := r
  refine ⟨r1.le h, sz, es, a, len, cap, hx, hv, ?_⟩
  rcases hr with hr | ⟨bl, h1, h2, h3, h4⟩
  · exact .inl hr
  · exact .inr ⟨bl, h1, hc _ h2, h.S _ _ h3, h4⟩
theorem LocR.le {g g' : Gh} {live live' : Nat → Bool} (hl : ∀ j, live j = true → live' j = true ∧ g'.lam j = g.lam j) {v : Value} {x : AV} (r : LocR g live v x) : LocR g' live' v x := by
  cases x <;> simp only [LocR] at r ⊢
  · obtain ⟨h1, h2⟩ := r; exact ⟨(hl _ h1).1, by rw [(hl _ h1).2]; exact h2⟩
  · obtain ⟨h1, h2⟩ := r; exact ⟨(hl _ h1).1, by rw [(hl _ h1).2]; exact h2⟩
theorem KR.le {g g' : Gh} (h : Gle g g') {live live' : Nat → Bool} (hl : ∀ j, live j = true → live' j = true ∧ g'.lam j = g.lam j) {c c' : Lc} (hc : ∀ p, g.ρ c = some p → g'.ρ c' = some p)
    {v : Value} {k : Kd} {x : AV} (r : KR g live c v k x) : KR g' live' c' v k x := by
  cases k with
  | glob => exact RV.le h r
  | own => exact OwnR.le h hc r
  | nils l => exact ⟨RV.le h r.1, r.2⟩
  | loc => exact LocR.le hl r
theorem RegR.le {g g' : Gh} (h : Gle g g') {live live' : Nat → Bool} (hl : ∀ j, live j = true → live' j = true ∧ g'.lam j = g.lam j) {c c' : Lc} (hc : ∀ p, g.ρ c = some p → g'.ρ c' = some p)
    {v : Value} {r : Reg} (hr : RegR g live c v r) : RegR g' live' c' v r := by
  unfold RegR at *
  split at hr
  · exact KR.le h hl hc hr
  · exact ⟨fun hp => KR.le h hl hc (hr.1 hp), hr.2⟩
  · trivial
theorem CellR.le {g g' : Gh} (h : Gle g g') {c c' : Lc} {o : Bool} (hc : o = true → ∀ p, g.ρ c = some p → g'.ρ c' = some p) {v : Value} {x : AV} (r : CellR g c o v x) : CellR g' c' o v x :=
  ⟨r.1, r.2.1.le h, fun ho => (r.2.2 ho).le h (hc ho)⟩
theorem MapR.le {g g' : Gh} (h : Gle g g') {kk : IntKind} {ag : Bool} {e : MapEntry} {p : Int × List AV} (r : MapR g kk ag e p) : MapR g' kk ag e p := by
  unfold MapR at *
  refine ⟨r.1, ?_⟩
  cases ag
  · exact ⟨r.2.1, r.2.2.1, r.2.2.2.le h⟩
  · exact RV.le h r.2
theorem All2.imp {α β : Type} {R R' : α → β → Prop} (h : ∀ a b, R a b → R' a b) : ∀ {l : List α} {m : List β}, All2 R l m → All2 R' l m
  | [], [], _ => trivial
  | a :: l, b :: m, q => ⟨h _ _ q.1, All2.imp h q.2⟩
  | [], _ :: _, q => q.elim
  | _ :: _, [], q => q.elim
theorem LOR.le {g g' : Gh} (h : Gle g g') {j : Nat} {lo : LO} {w : World} (hlam : lo.live = true → g'.lam j = g.lam j) (hL : ∀ p, g.ρ (.L j) = some p → g'.ρ (.L j) = some p)
    (hLC : ∀ o, lo.own.contains o = true → ∀ p, g.ρ (.LC j o) = some p → g'.ρ (.LC j o) = some p) (r : LOR g j lo w) : LOR g' j lo w := by
  intro hlive
  obtain ⟨h1, h2, h3, h4⟩ := r hlive
  rw [hlam hlive]
  refine ⟨h1, fun i hi => ?_, fun hf => ?_, fun hf i hi => ?_⟩
  · obtain ⟨v, hv, hc⟩ := h2 i hi
    exact ⟨v, hv, hc.le h (fun ho => hLC i (by simp at ho; simpa using ho.2))⟩
  · exact ⟨hL _ (h3 hf).1, h.S _ _ (h3 hf).2⟩
  · obtain ⟨v, hv⟩ := h4 hf i hi
    exact ⟨v, h.Φ _ _ _ hv⟩
theorem GOR.le {g g' : Gh} (h : Gle g g') {pu : Bool} {l : Nat} {o : HO} {w : World} (hG : ∀ p, g.ρ (.G l) = some p → g'.ρ (.G l) = some p)
    (hGC : pu = false → ∀ i, o.own.contains i = true → ∀ p, g.ρ (.GC l i) = some p → g'.ρ (.GC l i) = some p) (r : GOR g pu l o w) : GOR g' pu l o w := by
  cases o with
  | cells n cs own =>
    obtain ⟨b, h1, h2, h3, h4⟩ := r
    refine ⟨b, h.γ _ _ h1, h2, fun hp => ⟨hG _ (h3 hp).1, h.S _ _ (h3 hp).2⟩, fun i hi => ?_⟩
    obtain ⟨v, hv, hc⟩ := h4 i hi
    exact ⟨v, hv, hc.le h (fun ho => hGC (by simp at ho; exact ho.1) i (by simp at ho; simpa [HO.own] using ho.2))⟩
  | map kk ag es =>
    obtain ⟨b, en, cl, h1, h2, h3, h4⟩ := r
    exact ⟨b, en, cl, h.γ _ _ h1, h2, fun hp => hG _ (h3 hp), h4.imp fun _ _ => MapR.le h⟩
  | dead => trivial

/-! ### The world turns -/
/-- Only what c owns has turned, and blocks have come. -/
structure Step (g : Gh) (c : Option Lc) (w w' : World) : Prop where
  size : w.heap.size ≤ w'.heap.size
  os : w'.os = w.os
  tape : w'.tape = w.tape
  output : w'.output = w.output
  same : ∀ b, b < w.heap.size → (∀ c0 n, c = some c0 → g.ρ c0 ≠ some (b, n)) → w'.heap[b]? = w.heap[b]?
  part : ∀ c0 b n, c = some c0 → g.ρ c0 = some (b, n) → ∀ o, o < n → w'.cell? ⟨b, o, none⟩ = w.cell? ⟨b, o, none⟩
  shp : ∀ (b : Nat) (cs : Array Value) (e : TypeId) (f : Nat × Nat), w.heap[b]? = some (.cells cs e f) → ∃ cs' : Array Value, w'.heap[b]? = some (.cells cs' e f) ∧ cs'.size = cs.size
theorem cell_lt {w : World} {b o : Nat} {v : Value} (h : w.cell? ⟨b, o, none⟩ = some v) : b < w.heap.size := block_lt_of_cell (a := ⟨b, o, none⟩) h
/-- A cell that no one owns from there on is as it was. -/
theorem Step.cell {g : Gh} {c : Option Lc} {w w' : World} (h : Step g c w w') {b o : Nat} (hb : b < w.heap.size) (hn : ∀ c0 n, c = some c0 → g.ρ c0 = some (b, n) → o < n) :
    w'.cell? ⟨b, o, none⟩ = w.cell? ⟨b, o, none⟩ := by
  by_cases hc : ∀ c0 n, c = some c0 → g.ρ c0 ≠ some (b, n)
  · exact World.cell?_of_block (w := w) (a := ⟨b, o, none⟩) (h.same b hb hc)
  · simp only [Classical.not_forall, ne_eq, Classical.not_not] at hc
    obtain ⟨c0, n, h1, h2⟩ := hc
    exact h.part c0 b n h1 (by simpa using h2) o (hn c0 n h1 (by simpa using h2))
theorem NewBlk.step {g : Gh} {w w' : World} {ob : Obj} (h : NewBlk w w' ob) : Step g none w w' := by
  refine ⟨by rw [h.heap]; simp, h.os, h.tape, h.output, fun b hb _ => ?_, fun c0 b n hc => by simp at hc, fun b cs e f hb => ?_⟩
  · rw [h.heap, Array.getElem?_push, if_neg (by omega)]
  · have : b < w.heap.size := (Array.getElem?_eq_some_iff.1 hb).1
    refine ⟨cs, ?_, rfl⟩
    rw [h.heap, Array.getElem?_push, if_neg (by omega)]; exact hb
theorem Step.refl (g : Gh) (c : Option Lc) (w : World) : Step g c w w := ⟨Nat.le_refl _, rfl, rfl, rfl, fun _ _ _ => rfl, fun _ _ _ _ _ _ _ => rfl, fun _ cs _ _ h => ⟨cs, h, rfl⟩⟩
theorem Inv.step {fr : Fr} {g : Gh} {c : Option Lc} {w w' : World} (I : Inv fr g w) (h : Step g c w w') : Inv fr g w' where
  agree b o v hv := by
    have hw := I.agree b o v hv
    rw [h.cell (cell_lt hw) (fun c0 n h1 h2 => ?_)]; exact hw
    rcases Nat.lt_or_ge o n with hlt | hge
    · exact hlt
    · have := I.disj c0 b n o h2 hge; rw [this] at hv; simp at hv
  inj := I.inj
  disj := I.disj
  tok c b n hc := Nat.lt_of_lt_of_le (I.tok c b n hc) h.size
  gtok l b hl := Nat.lt_of_lt_of_le (I.gtok l b hl) h.size
  shp b n hb := by
    obtain ⟨cs, e, h1, h2⟩ := I.shp b n hb
    obtain ⟨cs', h3, h4⟩ := h.shp b cs e _ h1
    exact ⟨cs', e, h3, by omega⟩
  os := h.os.trans I.os
  tape := h.tape.trans I.tape
  output := h.output.trans I.output
  size := Nat.le_trans I.size h.size
  fcell b o hb hm := by
    rw [h.cell (Nat.lt_of_lt_of_le hb I.size) (fun c0 n h1 h2 => ?_)]; exact I.fcell b o hb hm
    rcases Nat.lt_or_ge o n with hlt | hge
    · exact hlt
    · exact absurd (I.mold c0 b n o h2 hge hb) hm
  fblk b hb hm := by
    rw [h.same b (Nat.lt_of_lt_of_le hb I.size) (fun c0 n h1 h2 => hm n (I.mold c0 b n n h2 (Nat.le_refl _) hb))]; exact I.fblk b hb hm
  fshp b cs e f hb := by
    obtain ⟨c', h1, h2⟩ := I.fshp b cs e f hb
    obtain ⟨c'', h3, h4⟩ := h.shp b c' e f h1
    exact ⟨c'', h3, by omega⟩
  mold := I.mold
  tab := I.tab
  Φle := I.Φle
  Φold := I.Φold
  γle := I.γle
  Sle := I.Sle
theorem LOR.step {fr : Fr} {g : Gh} {c : Option Lc} {w w' : World} (I : Inv fr g w) (h : Step g c w w') {j : Nat} {lo : LO} (hc : c ≠ some (.L j)) (r : LOR g j lo w) : LOR g j lo w' := by
  intro hlive
  obtain ⟨h1, h2, h3, h4⟩ := r hlive
  refine ⟨h1, fun i hi => ?_, h3, h4⟩
  obtain ⟨v, hv, hr⟩ := h2 i hi
  refine ⟨v, ?_, hr⟩
  rw [h.cell (cell_lt hv) (fun c0 n k1 k2 => ?_)]; exact hv
  cases hf : lo.frz with
  | false =>
    have := I.inj _ _ _ _ _ k2 (h3 hf).1
    subst this
    exact absurd k1 hc
  | true =>
    obtain ⟨u, hu⟩ := h4 hf i hi
    rcases Nat.lt_or_ge i n with hlt | hge
    · exact hlt
    · have := I.disj c0 _ n i k2 hge; rw [this] at hu; simp at hu
theorem GOR.step {fr : Fr} {g : Gh} {c : Option Lc} {w w' : World} (I : Inv fr g w) (h : Step g c w w') {pu : Bool} {l : Nat} {o : HO} (hc : c ≠ some (.G l))
    (hp : pu = true → (∀ b o, ¬ fr.M0 b o) ∧ ∀ b, g.γ l = some b → b < fr.w0.heap.size) (r : GOR g pu l o w) : GOR g pu l o w' := by
  have key : ∀ b, g.γ l = some b → (pu = false → g.ρ (.G l) = some (b, 0)) → ∀ c0 n, c = some c0 → g.ρ c0 = some (b, n) → False := by
    intro b hb hG c0 n k1 k2
    cases hpu : pu with
    | false =>
      have := I.inj _ _ _ _ _ k2 (hG hpu)
      subst this
      exact hc k1
    | true =>
      obtain ⟨m, q⟩ := hp hpu
      exact m b n (I.mold c0 b n n k2 (Nat.le_refl _) (q b hb))
  cases o with
  | cells n cs own =>
    obtain ⟨b, h1, h2, h3, h4⟩ := r
    refine ⟨b, h1, h2, h3, fun i hi => ?_⟩
    obtain ⟨v, hv, hr⟩ := h4 i hi
    refine ⟨v, ?_, hr⟩
    rw [h.cell (cell_lt hv) (fun c0 n k1 k2 => (key b h1 (fun q => (h3 q).1) c0 n k1 k2).elim)]; exact hv
  | map kk ag es =>
    obtain ⟨b, en, cl, h1, h2, h3, h4⟩ := r
    refine ⟨b, en, cl, h1, ?_, h3, h4⟩
    rw [h.same b (Array.getElem?_eq_some_iff.1 h2).1 (fun c0 n k1 k2 => (key b h1 h3 c0 n k1 k2).elim)]; exact h2
  | dead => trivial

/-! ### The whole relation -/
theorem getD_lt {α : Type} {l : List α} {n : Nat} {d x : α} (h : l.getD n d = x) (hx : x ≠ d) : n < l.length := by
  rcases Nat.lt_or_ge n l.length with h1 | h1
  · exact h1
  · rw [List.getD_eq_getElem?_getD, List.getElem?_eq_none h1] at h; simp at h; exact absurd h.symm hx
theorem Act.getD_put (a : Act) (d t : Nat) (v : Value) (ht : t < a.tmps.size) : (a.put (some d) v).tmps.getD t undef = if d = t then v else a.tmps.getD t undef := by
  simp only [Act.put, Array.getD_eq_getD_getElem?]
  by_cases h : d = t
  · subst h; simp [ht]
  · simp [h, Array.getElem?_setIfInBounds_ne h]
theorem Act.size_put (a : Act) (d : Option Nat) (v : Value) : (a.put d v).tmps.size = a.tmps.size := by cases d <;> simp [Act.put]
theorem Act.defers_put (a : Act) (d : Option Nat) (v : Value) : (a.put d v).defers = a.defers := by cases d <;> rfl
theorem putR_len (env : List Reg) (d : Option Nat) (r : Reg) : (putR env d r).length = env.length := by cases d <;> simp [putR, upd_len]

/-- The one step: the world turns where c owns, ghosts grow, one slot is written. -/
theorem Rel.next {fr : Fr} {pu : Bool} {g g' : Gh} {s : St} {a : Act} {w w' : World} {loc' : List LO} {H' : Heap} {dst : Option Nat} {v : Value} {r : Reg}
    (R : Rel fr pu g s a w) (I : Inv fr g' w') (hle : Gle g g')
    (hlive : ∀ j, lives s.loc j = true → lives loc' j = true ∧ g'.lam j = g.lam j)
    (hregs : ∀ t, dst ≠ some t → ∀ p, g.ρ (.R t) = some p → (s.env.getD t Reg.junk).k = .own → g'.ρ (.R t) = some p)
    (hr : ∀ t, dst = some t → RegR g' (lives loc') (.R t) v r)
    (hloc : ∀ j, LOR g' j (loc'.getD j LO.dead) w')
    (hheap : ∀ l, l < H'.length → GOR g' pu l (H'.getD l .dead) w')
    (hγ : ∀ l, H'.length ≤ l → g'.γ l = none)
    (hnog : pu = true → ∀ l, g'.ρ (.G l) = none ∧ ∀ o, g'.ρ (.GC l o) = none)
    (hpud : pu = true → g'.γ = g.γ) :
    Rel fr pu g' ⟨putR s.env dst r, loc', H'⟩ (a.put dst v) w' where
  inv := I
  defs := by rw [Act.defers_put]; exact R.defs
  len := by rw [putR_len, Act.size_put]; exact R.len
  regs t ht := by
    rw [putR_len] at ht
    have hat : t < a.tmps.size := R.len ▸ ht
    have old : dst ≠ some t → RegR g' (lives loc') (.R t) (a.tmps.getD t undef) (s.env.getD t Reg.junk) := by
      intro hne
      have h1 := R.regs t ht
      by_cases hk : (s.env.getD t Reg.junk).k = .own
      · exact h1.le hle hlive (fun p hp => hregs t hne p hp hk)
      · unfold RegR at h1 ⊢
        have kr : ∀ {v}, KR g (lives s.loc) (.R t) v (s.env.getD t Reg.junk).k (s.env.getD t Reg.junk).x → KR g' (lives loc') (.R t) v (s.env.getD t Reg.junk).k (s.env.getD t Reg.junk).x := by
          intro v q
          cases hkk : (s.env.getD t Reg.junk).k with
          | own => exact absurd hkk hk
          | glob => rw [hkk] at q; exact RV.le hle q
          | nils l => rw [hkk] at q; exact ⟨RV.le hle q.1, q.2⟩
          | loc => rw [hkk] at q; exact LocR.le hlive q
        split
        · rename_i ho; rw [ho] at h1; exact kr h1
        · rename_i p ho; rw [ho] at h1; exact ⟨fun hp => kr (h1.1 hp), h1.2⟩
        · trivial
    cases dst with
    | none => exact old (by simp)
    | some d =>
      rw [Act.getD_put a d t v hat]
      have e : (putR s.env (some d) r).getD t Reg.junk = if d = t then r else s.env.getD t Reg.junk := by
        show (upd s.env d r).getD t Reg.junk = _
        rw [← nth_eq, nth_upd, nth_eq]
        by_cases hd : d = t
        · subst hd; simp [ht]
        · simp [hd]
      rw [e]
      by_cases hd : d = t
      · subst hd; simp; exact hr d rfl
      · simp [hd]; simpa using old (by simpa using hd)
  locs := hloc
  heap := hheap
  γdom := hγ
  nog := hnog
  pud h := ⟨(R.pud h).1, fun l b hb => (R.pud h).2.1 l b (by rw [← hpud h]; exact hb), (hpud h).trans (R.pud h).2.2⟩
end Go.Proofs.DenT
end
section
/-! Each operation keeps the relation. -/
namespace Go.Proofs.DenT
set_option linter.unusedVariables false
set_option linter.unusedSimpArgs false
open Go

/-! ### Operands -/
def Ok.sat : Ok → Prop | .yes => True | .when p => p = true | .no => False
def srcLc : Src → Lc | .t n => .R n | _ => .X
theorem eqAtom_spec {Φ γ} {v : Value} {x : AV} (h : eqAtom v x = true) : RV Φ γ v x ∧ x.atom = true := by
  unfold eqAtom at h
  split at h <;> (try (simp at h; done))
  · simp at h; subst h; exact ⟨.b _, rfl⟩
  · simp at h; obtain ⟨rfl, rfl⟩ := h; exact ⟨.i _ _, rfl⟩
  · rename_i s s'
    simp at h
    have : s = s' := by cases s; cases s'; simp at h; congr
    subst this
    exact ⟨.s _, rfl⟩
  · exact ⟨.np, rfl⟩
  · simp at h; obtain ⟨rfl, rfl⟩ := h; exact ⟨.nsl _ _, rfl⟩
  · exact ⟨.nmp, rfl⟩
  · exact ⟨.nfn, rfl⟩
  · exact ⟨.nifc, rfl⟩
theorem eqAtoms_spec {Φ γ} : ∀ {vs : List Value} {xs : List AV}, eqAtoms vs xs = true → vs.length = xs.length ∧ ∀ i, i < xs.length → RV Φ γ (vs.getD i undef) (xs.getD i .junk) ∧ (xs.getD i .junk).atom = true
  | [], [], _ => ⟨rfl, fun i hi => by simp at hi⟩
  | v :: vs, x :: xs, h => by
    simp only [eqAtoms, Bool.and_eq_true] at h
    obtain ⟨h1, h2⟩ := eqAtoms_spec h.2
    refine ⟨by simp [h1], fun i hi => ?_⟩
    cases i with
    | zero => exact eqAtom_spec h.1
    | succ i => simpa using h2 i (by simpa using hi)
  | [], _ :: _, h => by simp [eqAtoms] at h
  | _ :: _, [], h => by simp [eqAtoms] at h
theorem arr_getD (cs : Array Value) (i : Nat) : cs.toList.getD i undef = cs.getD i undef := by
  rw [List.getD_eq_getElem?_getD, Array.getD_eq_getD_getElem?]; simp
theorem eqConst_spec {Φ γ} {v : Value} {x : AV} (h : eqConst v x = true) : RV Φ γ v x := by
  unfold eqConst at h
  split at h
  · rename_i cs xs
    obtain ⟨h1, h2⟩ := eqAtoms_spec (Φ := Φ) (γ := γ) h
    refine .ag cs xs (by simpa using h1) (fun i hi => ?_) (fun i hi => (h2 i hi).2)
    have := (h2 i hi).1
    rwa [arr_getD] at this
  · exact (eqAtom_spec h).1

section
variable {fr : Fr} {pu : Bool} {g : Gh} {s : St} {a : Act} {w : World}
theorem src_ok (R : Rel fr pu g s a w) {x : Operand} {y : Src} (h : okSrc x y = true) (hs : (envGet s.env y).ok.sat) :
    KR g (lives s.loc) (srcLc y) (a.eval x) (envGet s.env y).k (envGet s.env y).x := by
  unfold okSrc at h
  split at h
  · rename_i t t'
    simp at h; subst h
    simp only [envGet, srcLc, nth_eq] at hs ⊢
    rcases Nat.lt_or_ge t s.env.length with hlt | hge
    · have := R.regs t hlt
      unfold RegR at this
      simp only [Act.eval]
      split at this <;> rename_i hk <;> rw [hk] at hs
      · exact this
      · exact this.1 hs
      · exact hs.elim
    · rw [List.getD_eq_getElem?_getD, List.getElem?_eq_none hge] at hs
      exact hs.elim
  · exact eqConst_spec h
  · rename_i v y
    simp only [Bool.and_eq_true] at h
    obtain ⟨h0, h1⟩ := h
    split at h1
    · rename_i sz
      unfold eqAtom at h0
      split at h0 <;> (try (simp at h0; done)) <;> (try contradiction)
      rename_i l c _ heq
      simp at h0 heq
      obtain ⟨rfl, rfl⟩ := h0
      exact ⟨.nsl _ _, _, _, _, _, _, rfl, rfl, .inl rfl⟩
    · simp at h1
  · rename_i f f'
    have h := eq_of_beq h; subst h
    exact .fn _ #[] [] rfl (fun i hi => by simp at hi)
  · simp at h
theorem KR.rvG {live : Nat → Bool} {c : Lc} {v : Value} {k : Kd} {x : AV} (h : KR g live c v k x) (hk : k.isG = true) : RV g.Φ g.γ v x := by
  cases k with
  | glob => exact h
  | own => exact h.1
  | nils l => exact h.1
  | loc => simp [Kd.isG] at hk
/-- No place of a local object. -/
def AV.nloc : AV → Bool | .lp _ _ => false | .lv _ _ _ _ => false | _ => true
theorem KR.rvX {live : Nat → Bool} {c : Lc} {v : Value} {k : Kd} {x : AV} (h : KR g live c v k x) (hx : x.nloc = true) : RV g.Φ g.γ v x := by
  cases k with
  | glob => exact h
  | own => exact h.1
  | nils l => exact h.1
  | loc => cases x <;> simp [AV.nloc] at hx <;> simp [KR, LocR] at h
theorem KR.view {live : Nat → Bool} {c c' : Lc} {v : Value} {k : Kd} {x : AV} (h : KR g live c v k x) : KR g live c' v k.view x := by
  cases k with
  | glob => exact h
  | own => exact h.1
  | nils l => exact h.1
  | loc => exact h
/-! ### What a look tells -/
theorem isI_spec {k : IntKind} {x : AV} (h : x.isI k = true) : x = .i k x.num := by cases x <;> simp [AV.isI] at h; subst h; rfl
theorem isB_spec {x : AV} (h : x.isB = true) : x = .b x.bool := by cases x <;> simp [AV.isB] at h; rfl
theorem isS_spec {x : AV} (h : x.isS = true) : x = .s x.str := by cases x <;> simp [AV.isS] at h; rfl
theorem isSl_spec {z : Nat} {x : AV} (h : x.isSl z = true) : x = .sl z x.els := by cases x <;> simp [AV.isSl] at h; subst h; rfl
theorem isAg_spec {x : AV} (h : x.isAg = true) : x = .ag x.agc := by cases x <;> simp [AV.isAg] at h; rfl
theorem KR.int {live : Nat → Bool} {c : Lc} {v : Value} {k : Kd} {x : AV} {kk : IntKind} (h : KR g live c v k x) (hx : x.isI kk = true) : v = .int kk x.num := by
  have e := isI_spec hx
  have := h.rvX (by rw [e]; rfl)
  rw [e] at this; cases this; rw [e]
theorem KR.bool {live : Nat → Bool} {c : Lc} {v : Value} {k : Kd} {x : AV} (h : KR g live c v k x) (hx : x.isB = true) : v = .bool x.bool := by
  have e := isB_spec hx
  have := h.rvX (by rw [e]; rfl)
  rw [e] at this; cases this; rw [e]
theorem KR.str {live : Nat → Bool} {c : Lc} {v : Value} {k : Kd} {x : AV} (h : KR g live c v k x) (hx : x.isS = true) : v = .string x.str := by
  have e := isS_spec hx
  have := h.rvX (by rw [e]; rfl)
  rw [e] at this; cases this; rw [e]
theorem KR.ag {live : Nat → Bool} {c : Lc} {v : Value} {k : Kd} {x : AV} (h : KR g live c v k x) (hx : x.isAg = true) :
    ∃ cs : Array Value, v = .agg cs ∧ CellsR (fun v x => RV g.Φ g.γ v x ∧ x.atom = true) cs x.agc := by
  have e := isAg_spec hx
  have := h.rvX (by rw [e]; rfl)
  rw [e] at this; cases this with
  | ag cs xs hn hr ha => rw [e]; exact ⟨cs, rfl, hn, fun i hi => ⟨hr i hi, ha i hi⟩⟩
end
end Go.Proofs.DenT
end
section
namespace Go.Proofs.DenT
set_option linter.unusedVariables false
set_option linter.unusedSimpArgs false
open Go
theorem nth_0 {α : Type} (x : α) (l : List α) (d : α) : nth (x :: l) 0 d = x := rfl
theorem nth_S {α : Type} (x : α) (l : List α) (n : Nat) (d : α) : nth (x :: l) (n + 1) d = nth l n d := rfl
section
variable {Pg : Program} {fr : Fr} {pu : Bool} {g : Gh} {s : St} {a : Act} {w : World} {Γ : Env} {o : Oper}

/-- An operation that leaves slots, objects, heap as they are and yields one value. -/
def Still (Pg : Program) (fr : Fr) (o : Oper) (x : AV) (k : Kd) (g : Gh) (s : St) (a : Act) (w : World) : Prop :=
  ∀ (K : Act → World → Prop) (Q : Exit → Act → World → Prop),
    (∀ v g' w', Gle g g' → g'.ρ = g.ρ → g'.lam = g.lam → g'.γ = g.γ → Inv fr g' w' → Step g none w w' → (∀ c, KR g' (lives s.loc) c v k x) → K (a.put o.dst v) w') → o.wp Pg a w K Q
theorem Still.val (I : Inv fr g w) {v : Value} {x : AV} {k : Kd} (h : (execOp a.eval o).run Pg w = .ok (.value v) w) (hk : ∀ c, KR g (lives s.loc) c v k x) : Still Pg fr o x k g s a w := by
  intro K Q hK
  unfold Oper.wp
  rw [h]
  exact hK v g w (Gle.refl g) rfl rfl rfl I (Step.refl g none w) hk

/-- The tests of an operation hold. -/
def Good (e : EV) : Prop := (∀ b, b ∈ e.bs → b = true) ∧ (∀ q, q ∈ e.os → q.sat)
/-- An operand's place. -/
abbrev K1 (g : Gh) (s : St) (a : Act) (x : Operand) (y : Src) : Prop := KR g (lives s.loc) (srcLc y) (a.eval x) (envGet s.env y).k (envGet s.env y).x

theorem still_arith {q : AOp} {k : IntKind} {x y : Src} (R : Rel fr pu g s a w) (hc : okOp Pg o.op o.type (.arith q k x y) = true) (hg : Good (evS Γ (.arith q k x y) s)) :
    Still Pg fr o (evS Γ (.arith q k x y) s).r.x (evS Γ (.arith q k x y) s).r.k g s a w := by
  simp only [okOp] at hc
  split at hc <;> try (simp at hc; done)
  rename_i b t u v yt ho
  try simp only [Bool.and_eq_true] at hc
  obtain ⟨⟨⟨h1, h2⟩, h3⟩, h4⟩ := hc
  obtain ⟨hb, hs⟩ := hg
  simp [evS, ev, P.opnds, rg, nth_0, nth_S, oksOf] at hb hs
  have hu := (src_ok R h3 hs.1).int hb.1
  have hv := (src_ok R h4 hs.2).int hb.2.1
  exact .val R.inv (run_arith ho h1 hu hv hb.2.2) (fun c => .i _ _)

theorem allI_spec {Φ γ} {cs : Array Value} {xs : List AV} (h : CellsR (fun v x => RV Φ γ v x ∧ x.atom = true) cs xs) {ks : List IntKind} (hk : allI ks xs = true) :
    ∀ (i : Nat) (k : IntKind), ks[i]? = some k → cs[i]? = some (.int k (nth xs i .junk).num) := by
  have key : ∀ (ks : List IntKind) (o : Nat), (List.rec (motive := fun _ => Nat → Bool) (fun _ => true) (fun k _ ih o => (nth xs o .junk).isI k && ih (o + 1)) ks o : Bool) = true →
      ∀ (i : Nat) (k : IntKind), ks[i]? = some k → (nth xs (o + i) .junk).isI k = true := by
    intro ks
    induction ks with
    | nil => intro o _ i k h; simp at h
    | cons k0 ks ih =>
      intro o h i k hi
      have h' : ((nth xs o .junk).isI k0 && (List.rec (motive := fun _ => Nat → Bool) (fun _ => true) (fun k _ ih o => (nth xs o .junk).isI k && ih (o + 1)) ks (o + 1) : Bool)) = true := h
      rw [Bool.and_eq_true] at h'
      cases i with
      | zero => simp at hi; subst hi; exact h'.1
      | succ i =>
        have := ih (o + 1) h'.2 i k (by simpa using hi)
        rw [show o + (i + 1) = o + 1 + i from by omega]; exact this
  intro i k hi
  have h1 := key ks 0 hk i k hi
  rw [Nat.zero_add, nth_eq] at h1
  rw [nth_eq]
  have e := isI_spec h1
  have hlt : i < xs.length := getD_lt e (by simp)
  have h2 := (h.2 i hlt).1
  rw [e] at h2
  have hsz : i < cs.size := by rw [h.1]; exact hlt
  cases h2' : cs.getD i undef <;> rw [h2'] at h2 <;> cases h2
  rw [Array.getD_eq_getD_getElem?, Array.getElem?_eq_getElem hsz] at h2'
  simp at h2'
  rw [Array.getElem?_eq_getElem hsz, h2', List.getD_eq_getElem?_getD]
theorem ok_imp {o : Ok} {q : Bool} (h : (o.imp q).sat) (hq : q = true) : o.sat := by
  cases o <;> simp [Ok.imp, Ok.sat, hq, DenT.imp] at h ⊢ <;> assumption
theorem KR.sl {live : Nat → Bool} {c : Lc} {v : Value} {k : Kd} {x : AV} {z : Nat} (h : KR g live c v k x) (hx : x.isSl z = true) : ∃ a len cap, v = .slice a len cap ∧ x.els.length = len := by
  have e := isSl_spec hx
  have hr := h.rvX (by rw [e]; rfl)
  generalize x.els = es at e
  subst e
  cases hr with
  | nsl _ sz => exact ⟨_, _, _, rfl, rfl⟩
  | sl bl o len cap sz es vs hl hcap hn hc hr ha => exact ⟨_, _, _, rfl, hl⟩

theorem still_shl {k yk : IntKind} {x y : Src} (R : Rel fr pu g s a w) (hc : okOp Pg o.op o.type (.shl k yk x y) = true) (hg : Good (evS Γ (.shl k yk x y) s)) :
    Still Pg fr o (evS Γ (.shl k yk x y) s).r.x (evS Γ (.shl k yk x y) s).r.k g s a w := by
  simp only [okOp] at hc
  split at hc <;> try (simp at hc; done)
  rename_i t u v yt ho
  try simp only [Bool.and_eq_true] at hc
  obtain ⟨⟨⟨h1, h2⟩, h3⟩, h4⟩ := hc
  obtain ⟨hb, hs⟩ := hg
  simp [evS, ev, P.opnds, rg, nth_0, nth_S, oksOf] at hb hs
  have hu := (src_ok R h3 hs.1).int hb.1
  have hv := (src_ok R h4 hs.2).int hb.2.1
  exact .val R.inv (run_shl ho hu hv hb.2.2) (fun c => .i _ _)

theorem still_shr {k yk : IntKind} {x y : Src} (R : Rel fr pu g s a w) (hc : okOp Pg o.op o.type (.shr k yk x y) = true) (hg : Good (evS Γ (.shr k yk x y) s)) :
    Still Pg fr o (evS Γ (.shr k yk x y) s).r.x (evS Γ (.shr k yk x y) s).r.k g s a w := by
  simp only [okOp] at hc
  split at hc <;> try (simp at hc; done)
  rename_i t u v yt ho
  try simp only [Bool.and_eq_true] at hc
  obtain ⟨⟨⟨h1, h2⟩, h3⟩, h4⟩ := hc
  obtain ⟨hb, hs⟩ := hg
  simp [evS, ev, P.opnds, rg, nth_0, nth_S, oksOf] at hb hs
  have hu := (src_ok R h3 hs.1).int hb.1
  have hv := (src_ok R h4 hs.2).int hb.2.1
  exact .val R.inv (run_shr ho hu hv hb.2.2) (fun c => .i _ _)

theorem still_cmp {q : COp} {k : IntKind} {x y : Src} (R : Rel fr pu g s a w) (hc : okOp Pg o.op o.type (.cmp q k x y) = true) (hg : Good (evS Γ (.cmp q k x y) s)) :
    Still Pg fr o (evS Γ (.cmp q k x y) s).r.x (evS Γ (.cmp q k x y) s).r.k g s a w := by
  simp only [okOp] at hc
  split at hc <;> try (simp at hc; done)
  rename_i b t u v yt ho
  try simp only [Bool.and_eq_true] at hc
  obtain ⟨⟨⟨h1, h2⟩, h3⟩, h4⟩ := hc
  obtain ⟨hb, hs⟩ := hg
  simp [evS, ev, P.opnds, rg, nth_0, nth_S, oksOf] at hb hs
  have hu := (src_ok R h3 hs.1).int hb.1
  have hv := (src_ok R h4 hs.2).int hb.2
  exact .val R.inv (run_cmp ho h1 hu hv) (fun c => .b _)

theorem still_beq {neg : Bool} {x y : Src} (R : Rel fr pu g s a w) (hc : okOp Pg o.op o.type (.beq neg x y) = true) (hg : Good (evS Γ (.beq neg x y) s)) :
    Still Pg fr o (evS Γ (.beq neg x y) s).r.x (evS Γ (.beq neg x y) s).r.k g s a w := by
  simp only [okOp] at hc
  split at hc <;> try (simp at hc; done)
  rename_i b t u v yt ho
  try simp only [Bool.and_eq_true] at hc
  obtain ⟨⟨⟨h1, h2⟩, h3⟩, h4⟩ := hc
  obtain ⟨hb, hs⟩ := hg
  simp [evS, ev, P.opnds, rg, nth_0, nth_S, oksOf] at hb hs
  have ht : Pg.underlying t = some .bool := by split at h2 <;> simp_all
  have hu := (src_ok R h3 hs.1).bool hb.1
  have hv := (src_ok R h4 hs.2).bool hb.2
  exact .val R.inv (run_beq ho h1 ht hu hv) (fun c => by cases neg <;> exact .b _)

theorem still_scmp {q : COp} {x y : Src} (R : Rel fr pu g s a w) (hc : okOp Pg o.op o.type (.scmp q x y) = true) (hg : Good (evS Γ (.scmp q x y) s)) :
    Still Pg fr o (evS Γ (.scmp q x y) s).r.x (evS Γ (.scmp q x y) s).r.k g s a w := by
  simp only [okOp] at hc
  split at hc <;> try (simp at hc; done)
  rename_i b t u v yt ho
  try simp only [Bool.and_eq_true] at hc
  obtain ⟨⟨⟨h1, h2⟩, h3⟩, h4⟩ := hc
  obtain ⟨hb, hs⟩ := hg
  simp [evS, ev, P.opnds, rg, nth_0, nth_S, oksOf] at hb hs
  have hu := (src_ok R h3 hs.1).str hb.1
  have hv := (src_ok R h4 hs.2).str hb.2
  exact .val R.inv (run_scmp ho h1 hu hv) (fun c => .b _)

theorem still_sadd {x y : Src} (R : Rel fr pu g s a w) (hc : okOp Pg o.op o.type (.sadd x y) = true) (hg : Good (evS Γ (.sadd x y) s)) :
    Still Pg fr o (evS Γ (.sadd x y) s).r.x (evS Γ (.sadd x y) s).r.k g s a w := by
  simp only [okOp] at hc
  split at hc <;> try (simp at hc; done)
  rename_i t u v yt ho
  try simp only [Bool.and_eq_true] at hc
  obtain ⟨⟨h2, h3⟩, h4⟩ := hc
  obtain ⟨hb, hs⟩ := hg
  simp [evS, ev, P.opnds, rg, nth_0, nth_S, oksOf] at hb hs
  have hu := (src_ok R h3 hs.1).str hb.1
  have hv := (src_ok R h4 hs.2).str hb.2.1
  exact .val R.inv (run_sadd ho hu hv hb.2.2) (fun c => .s _)

theorem still_aeq {neg : Bool} {ks : List IntKind} {x y : Src} (R : Rel fr pu g s a w) (hc : okOp Pg o.op o.type (.aeq neg ks x y) = true) (hg : Good (evS Γ (.aeq neg ks x y) s)) :
    Still Pg fr o (evS Γ (.aeq neg ks x y) s).r.x (evS Γ (.aeq neg ks x y) s).r.k g s a w := by
  simp only [okOp] at hc
  split at hc <;> try (simp at hc; done)
  rename_i b t u v yt ho
  try simp only [Bool.and_eq_true] at hc
  obtain ⟨⟨⟨h1, h2⟩, h3⟩, h4⟩ := hc
  obtain ⟨hb, hs⟩ := hg
  simp [evS, ev, P.opnds, rg, nth_0, nth_S, oksOf] at hb hs
  obtain ⟨xs, hu, hxs⟩ := (src_ok R h3 hs.1).ag hb.1
  obtain ⟨ys, hv, hys⟩ := (src_ok R h4 hs.2).ag hb.2.1
  refine .val R.inv (run_aeq (as := (envGet s.env x).x.agc) (bs := (envGet s.env y).x.agc) ho h1 h2 hu hv (fun i k hk => ⟨allI_spec hxs hb.2.2.1 i k hk, allI_spec hys hb.2.2.2 i k hk⟩)) (fun c => by cases neg <;> exact .b _)

theorem still_neg {k : IntKind} {x : Src} (R : Rel fr pu g s a w) (hc : okOp Pg o.op o.type (.neg k x) = true) (hg : Good (evS Γ (.neg k x) s)) :
    Still Pg fr o (evS Γ (.neg k x) s).r.x (evS Γ (.neg k x) s).r.k g s a w := by
  simp only [okOp] at hc
  split at hc <;> try (simp at hc; done)
  rename_i _ u ho
  try simp only [Bool.and_eq_true] at hc
  have h1 := hc
  obtain ⟨hb, hs⟩ := hg
  simp [evS, ev, P.opnds, rg, nth_0, nth_S, oksOf] at hb hs
  have hu := (src_ok R h1 hs).int hb
  exact .val R.inv (run_unNeg ho hu) (fun c => .i _ _)

theorem still_compl {k : IntKind} {x : Src} (R : Rel fr pu g s a w) (hc : okOp Pg o.op o.type (.compl k x) = true) (hg : Good (evS Γ (.compl k x) s)) :
    Still Pg fr o (evS Γ (.compl k x) s).r.x (evS Γ (.compl k x) s).r.k g s a w := by
  simp only [okOp] at hc
  split at hc <;> try (simp at hc; done)
  rename_i _ u ho
  try simp only [Bool.and_eq_true] at hc
  have h1 := hc
  obtain ⟨hb, hs⟩ := hg
  simp [evS, ev, P.opnds, rg, nth_0, nth_S, oksOf] at hb hs
  have hu := (src_ok R h1 hs).int hb
  exact .val R.inv (run_compl ho hu) (fun c => .i _ _)

theorem still_not {x : Src} (R : Rel fr pu g s a w) (hc : okOp Pg o.op o.type (.not x) = true) (hg : Good (evS Γ (.not x) s)) :
    Still Pg fr o (evS Γ (.not x) s).r.x (evS Γ (.not x) s).r.k g s a w := by
  simp only [okOp] at hc
  split at hc <;> try (simp at hc; done)
  rename_i _ u ho
  try simp only [Bool.and_eq_true] at hc
  have h1 := hc
  obtain ⟨hb, hs⟩ := hg
  simp [evS, ev, P.opnds, rg, nth_0, nth_S, oksOf] at hb hs
  have hu := (src_ok R h1 hs).bool hb
  exact .val R.inv (run_unNot ho hu) (fun c => .b _)

theorem still_conv {k0 k : IntKind} {x : Src} (R : Rel fr pu g s a w) (hc : okOp Pg o.op o.type (.conv k0 k x) = true) (hg : Good (evS Γ (.conv k0 k x) s)) :
    Still Pg fr o (evS Γ (.conv k0 k x) s).r.x (evS Γ (.conv k0 k x) s).r.k g s a w := by
  simp only [okOp] at hc
  split at hc <;> try (simp at hc; done)
  rename_i ss d u ho
  try simp only [Bool.and_eq_true] at hc
  obtain ⟨⟨h1, h2⟩, h3⟩ := hc
  obtain ⟨hb, hs⟩ := hg
  simp [evS, ev, P.opnds, rg, nth_0, nth_S, oksOf] at hb hs
  have hu := (src_ok R h3 hs).int hb
  exact .val R.inv (run_conv ho (tyInt_spec h1) (tyInt_spec h2) hu) (fun c => .i _ _)

theorem still_idS {x : Src} (R : Rel fr pu g s a w) (hc : okOp Pg o.op o.type (.idS x) = true) (hg : Good (evS Γ (.idS x) s)) :
    Still Pg fr o (evS Γ (.idS x) s).r.x (evS Γ (.idS x) s).r.k g s a w := by
  simp only [okOp] at hc
  split at hc <;> try (simp at hc; done)
  rename_i ss d u ho
  try simp only [Bool.and_eq_true] at hc
  obtain ⟨h1, h3⟩ := hc
  obtain ⟨hb, hs⟩ := hg
  simp [evS, ev, P.opnds, rg, nth_0, nth_S, oksOf] at hb hs
  have hu := (src_ok R h3 hs).str hb
  split at h1 <;> try (simp at h1; done)
  rename_i e1 e2
  refine .val R.inv (run_idS ho e1 e2 hu) (fun c => ?_)
  show RV g.Φ g.γ _ (envGet s.env x).x
  have e := isS_spec (x := (envGet s.env x).x) hb; rw [e]; exact .s _

theorem still_idxS {x i : Src} {ik : IntKind} (R : Rel fr pu g s a w) (hc : okOp Pg o.op o.type (.idxS x i ik) = true) (hg : Good (evS Γ (.idxS x i ik) s)) :
    Still Pg fr o (evS Γ (.idxS x i ik) s).r.x (evS Γ (.idxS x i ik) s).r.k g s a w := by
  simp only [okOp] at hc
  split at hc <;> try (simp at hc; done)
  rename_i t u v ho
  try simp only [Bool.and_eq_true] at hc
  obtain ⟨⟨h1, h2⟩, h3⟩ := hc
  obtain ⟨hb, hs⟩ := hg
  simp [evS, ev, P.opnds, rg, nth_0, nth_S, oksOf] at hb hs
  have ht : Pg.underlying t = some .string := by split at h3 <;> simp_all
  have hu := (src_ok R h1 hs.1).str hb.1
  have hv := (src_ok R h2 hs.2).int hb.2.1
  exact .val R.inv (run_idxS ho hu hv ht hb.2.2) (fun c => .i _ _)

theorem still_lenS {x : Src} (R : Rel fr pu g s a w) (hc : okOp Pg o.op o.type (.lenS x) = true) (hg : Good (evS Γ (.lenS x) s)) :
    Still Pg fr o (evS Γ (.lenS x) s).r.x (evS Γ (.lenS x) s).r.k g s a w := by
  simp only [okOp] at hc
  split at hc <;> try (simp at hc; done)
  rename_i u t ho
  try simp only [Bool.and_eq_true] at hc
  obtain ⟨h1, h2⟩ := hc
  obtain ⟨hb, hs⟩ := hg
  simp [evS, ev, P.opnds, rg, nth_0, nth_S, oksOf] at hb hs
  have ht : Pg.underlying t = some .string := by split at h2 <;> simp_all
  have hu := (src_ok R h1 hs).str hb
  exact .val R.inv (run_lenS ho hu ht) (fun c => .i _ _)

theorem still_lenL {x : Src} {sz : Nat} (R : Rel fr pu g s a w) (hc : okOp Pg o.op o.type (.lenL x sz) = true) (hg : Good (evS Γ (.lenL x sz) s)) :
    Still Pg fr o (evS Γ (.lenL x sz) s).r.x (evS Γ (.lenL x sz) s).r.k g s a w := by
  simp only [okOp] at hc
  split at hc <;> try (simp at hc; done)
  rename_i u t ho
  try simp only [Bool.and_eq_true] at hc
  obtain ⟨h1, h2⟩ := hc
  obtain ⟨hb, hs⟩ := hg
  simp [evS, ev, P.opnds, rg, nth_0, nth_S, oksOf] at hb hs
  have ht : ∃ e, Pg.underlying t = some (.slice e) := by split at h2 <;> simp_all
  obtain ⟨ao, len, cap, hv, hl⟩ := (src_ok R h1 hs).sl hb.2
  have := run_lenL (Pg := Pg) (w := w) ho hv ht
  rw [← hl] at this
  exact .val R.inv this (fun c => .i _ _)

theorem still_pick {x y z : Src} (R : Rel fr pu g s a w) (hc : okOp Pg o.op o.type (.pick x y z) = true) (hg : Good (evS Γ (.pick x y z) s)) :
    Still Pg fr o (evS Γ (.pick x y z) s).r.x (evS Γ (.pick x y z) s).r.k g s a w := by
  simp only [okOp] at hc
  split at hc <;> try (simp at hc; done)
  rename_i u v y2 ho
  try simp only [Bool.and_eq_true] at hc
  obtain ⟨⟨h1, h2⟩, h3⟩ := hc
  obtain ⟨hb, hs⟩ := hg
  simp [evS, ev, P.opnds, rg, nth_0, nth_S, oksOf] at hb hs
  have hu := (src_ok R h1 hs.1).bool hb.1
  refine .val R.inv (run_pick ho hu) (fun c => ?_)
  show RV g.Φ g.γ _ (.b (match (envGet s.env x).x.bool with | true => (envGet s.env y).x.bool | false => (envGet s.env z).x.bool))
  cases hx : (envGet s.env x).x.bool with
  | true =>
    have := (src_ok R h2 (ok_imp hs.2.1 hx)).bool hb.2.1
    simp only [if_true, this]; exact .b _
  | false =>
    have := (src_ok R h3 (ok_imp hs.2.2 (by show (!(envGet s.env x).x.bool) = true; rw [hx]; rfl))).bool hb.2.2
    simp only [Bool.false_eq_true, if_false, this]; exact .b _

end
end Go.Proofs.DenT
end
section
namespace Go.Proofs.DenT
set_option linter.unusedVariables false
set_option linter.unusedSimpArgs false
open Go

theorem nf_spec {h : Sh} {x : AV} (hx : h.is x = true) : h.nf x = x := by
  cases h <;> simp only [Sh.is] at hx <;> simp only [Sh.nf, Sh.prj, Sh.inj]
  · exact (isI_spec hx).symm
  · exact (isB_spec hx).symm
  · exact (isS_spec hx).symm
  · exact (isSl_spec hx).symm
  · exact (isAg_spec hx).symm
  · cases x <;> simp [AV.isLpc] at hx; obtain ⟨rfl, rfl⟩ := hx; rfl
  · cases x <;> simp [AV.isHp0] at hx; subst hx; rfl
  · cases x <;> simp [AV.isMp] at hx; rfl
theorem sub_spec (cs : List AV) : ∀ (n o : Nat), (sub cs o n).length = n ∧ ∀ k, k < n → (sub cs o n).getD k .junk = cs.getD (o + k) .junk := by
  intro n
  induction n with
  | zero => intro o; exact ⟨rfl, fun k hk => by omega⟩
  | succ n ih =>
    intro o
    obtain ⟨h1, h2⟩ := ih (o + 1)
    have e : sub cs o (n + 1) = nth cs o .junk :: sub cs (o + 1) n := rfl
    rw [e]
    refine ⟨by simp [h1], fun k hk => ?_⟩
    cases k with
    | zero => simp [nth_eq]
    | succ k => rw [List.getD_cons_succ, h2 k (by omega)]; congr 1; omega
theorem sub_all (cs : List AV) (n : Nat) (h : cs.length = n) : sub cs 0 n = cs := by
  apply List.ext_getElem?
  intro k
  obtain ⟨h1, h2⟩ := sub_spec cs n 0
  rcases Nat.lt_or_ge k n with hk | hk
  · have := h2 k hk
    rw [List.getD_eq_getElem?_getD, List.getD_eq_getElem?_getD, Nat.zero_add, List.getElem?_eq_getElem (by omega), List.getElem?_eq_getElem (by omega)] at this
    rw [List.getElem?_eq_getElem (by omega), List.getElem?_eq_getElem (by omega)]
    simpa using this
  · rw [List.getElem?_eq_none (by omega), List.getElem?_eq_none (by omega)]

/-- Cells somewhere, related one by one. -/
def Cells (g : Gh) (f : Nat → Option Value) (n : Nat) (xs : List AV) : Prop :=
  xs.length = n ∧ ∀ i, i < n → ∃ v, f i = some v ∧ RV g.Φ g.γ v (xs.getD i .junk) ∧ (xs.getD i .junk).atom = true
theorem Cells.one {g : Gh} {f : Nat → Option Value} {n : Nat} {xs : List AV} (h : Cells g f n xs) {sh : Sh} {o : Nat} (hc : (LSh.one sh).can n xs o = true) :
    ∃ v, f o = some v ∧ RV g.Φ g.γ v ((LSh.one sh).read n xs o) := by
  simp only [LSh.can, Bool.and_eq_true, decide_eq_true_eq] at hc
  obtain ⟨v, h1, h2, h3⟩ := h.2 o hc.1
  refine ⟨v, h1, ?_⟩
  rw [nth_eq] at hc
  simp only [LSh.read, nth_eq, nf_spec hc.2]
  exact h2
theorem read_agg {m n o : Nat} {xs : List AV} (hl : xs.length = n) : (LSh.agg m).read n xs o = .ag (sub xs o m) := by
  simp only [LSh.read]
  split
  · rename_i h
    simp only [Bool.and_eq_true, beq_iff_eq] at h
    obtain ⟨rfl, rfl⟩ := h
    rw [sub_all xs m hl]
  · rfl
theorem Cells.many {g : Gh} {f : Nat → Option Value} {n : Nat} {xs : List AV} (h : Cells g f n xs) {m o : Nat} (hc : (LSh.agg m).can n xs o = true) :
    ∃ vs : List Value, vs.length = m ∧ (∀ j v, vs[j]? = some v → f (o + j) = some v) ∧ RV g.Φ g.γ (.agg vs.toArray) ((LSh.agg m).read n xs o) := by
  simp only [LSh.can, decide_eq_true_eq] at hc
  have hv : ∀ i : Nat, ∃ v, i < n → f i = some v ∧ RV g.Φ g.γ v (xs.getD i .junk) ∧ (xs.getD i .junk).atom = true := by
    intro i
    by_cases hi : i < n
    · obtain ⟨v, hv⟩ := h.2 i hi; exact ⟨v, fun _ => hv⟩
    · exact ⟨undef, fun q => absurd q hi⟩
  obtain ⟨V, hV⟩ := Classical.axiomOfChoice hv
  refine ⟨(List.range m).map fun j => V (o + j), by simp, fun j v hj => ?_, ?_⟩
  · have hjm : j < m := by
      rcases Nat.lt_or_ge j m with q | q
      · exact q
      · rw [List.getElem?_eq_none (by simpa using q)] at hj; simp at hj
    simp [hjm] at hj
    rw [← hj]
    exact (hV (o + j) (by omega)).1
  · rw [read_agg h.1]
    obtain ⟨s1, s2⟩ := sub_spec xs m o
    refine .ag _ _ (by simp [s1]) (fun i hi => ?_) (fun i hi => ?_)
    · rw [s1] at hi
      rw [s2 i hi, ← arr_getD]
      have : (List.map (fun j => V (o + j)) (List.range m)).toArray.toList.getD i undef = V (o + i) := by simp [List.getD_eq_getElem?_getD, hi]
      rw [this]
      exact (hV (o + i) (by omega)).2.1
    · rw [s1] at hi
      rw [s2 i hi]
      exact (hV (o + i) (by omega)).2.2
theorem Cells.ofCellsR {g : Gh} {cs : Array Value} {xs : List AV} (h : CellsR (fun v x => RV g.Φ g.γ v x ∧ x.atom = true) cs xs) : Cells g (fun i => cs[i]?) xs.length xs := by
  refine ⟨rfl, fun i hi => ?_⟩
  have := h.2 i hi
  have hs : i < cs.size := by rw [h.1]; exact hi
  refine ⟨cs[i], by simp [hs], ?_⟩
  rw [Array.getD_eq_getD_getElem?, Array.getElem?_eq_getElem hs] at this
  exact this
/-- A part of a struct or an array. -/
theorem part_ok {Pg : Program} {g : Gh} {w : World} {cs : Array Value} {xs : List AV} {n o : Nat} {t : TypeId} {h : LSh} (hx : CellsR (fun v x => RV g.Φ g.γ v x ∧ x.atom = true) cs xs) (hn : xs.length = n)
    (ht : okL Pg t h = true) (hc : h.can n xs o = true) : ∃ r, (part t cs o).run Pg w = .ok r w ∧ RV g.Φ g.γ r (h.read n xs o) := by
  have hC := Cells.ofCellsR hx
  rw [hn] at hC
  cases h with
  | one sh =>
    simp only [okL, Bool.and_eq_true] at ht
    obtain ⟨v, h1, h2⟩ := hC.one hc
    exact ⟨v, run_part1 ht.2.2 h1, h2⟩
  | agg m =>
    simp only [okL, Bool.and_eq_true] at ht
    obtain ⟨vs, h1, h2, h3⟩ := hC.many hc
    refine ⟨_, run_partN ht.2 ht.1, ?_⟩
    have e : cs.extract o (o + m) = vs.toArray := by
      simp only [LSh.can, decide_eq_true_eq] at hc
      have hsz : cs.size = n := by rw [hx.1, hn]
      apply Array.ext
      · simp [h1]; omega
      · intro i i1 i2
        have hi : i < m := by simpa [h1] using i2
        have := h2 i _ (List.getElem?_eq_getElem (by omega))
        simp [Array.getElem?_eq_getElem (show o + i < cs.size by omega)] at this
        simp [this]
    rw [e]; exact h3
/-- A place in memory. -/
theorem loadVar_ok {Pg : Program} {g : Gh} {w : World} {xs : List AV} {n b o0 o : Nat} {t : TypeId} {h : LSh} (hC : Cells g (fun i => w.cell? ⟨b, o0 + i, none⟩) n xs)
    (ht : okL Pg t h = true) (hc : h.can n xs o = true) : ∃ r, (loadVar t ⟨b, o0 + o, none⟩).run Pg w = .ok r w ∧ RV g.Φ g.γ r (h.read n xs o) := by
  cases h with
  | one sh =>
    simp only [okL, Bool.and_eq_true] at ht
    obtain ⟨v, h1, h2⟩ := hC.one hc
    exact ⟨v, run_loadVar1 ht.2.2 h1, h2⟩
  | agg m =>
    simp only [okL, Bool.and_eq_true] at ht
    obtain ⟨vs, h1, h2, h3⟩ := hC.many hc
    exact ⟨_, run_loadVarN ht.2 ht.1 h1 (fun j v hj => by rw [Nat.add_assoc]; exact h2 j v hj), h3⟩
theorem run_load {Pg : Program} {w : World} {ρ : Operand → Value} {o : Oper} {t : TypeId} {u : Operand} {a : Addr} {r : Value} (ho : o.op = .load t u) (hu : ρ u = .pointer (some a)) (h : (loadVar t a).run Pg w = .ok r w) :
    (execOp ρ o).run Pg w = .ok (.value r) w := by
  simp [execOp, ho, hu, Instr.loadAt, Instr.sureAddr, h]
end Go.Proofs.DenT
end
section
namespace Go.Proofs.DenT
set_option linter.unusedVariables false
set_option linter.unusedSimpArgs false
open Go
section
variable {Pg : Program} {fr : Fr} {pu : Bool} {g : Gh} {s : St} {a : Act} {w : World} {Γ : Env} {o : Oper}

theorem KR.hp {live : Nat → Bool} {c : Lc} {v : Value} {k : Kd} {x : AV} (h : KR g live c v k x) (hx : x.isHp = true) : ∃ b, v = .pointer (some ⟨b, x.hpO, none⟩) ∧ ∀ c, KR g live c (.pointer (some ⟨b, x.hpO, none⟩)) k.view (.hp x.hpL x.hpO) := by
  have h' := fun c' => KR.view (c' := c') h
  cases x <;> simp [AV.isHp] at hx
  have hr := h.rvX rfl
  cases hr
  exact ⟨_, rfl, h'⟩
theorem KR.lp {live : Nat → Bool} {c : Lc} {v : Value} {k : Kd} {x : AV} (h : KR g live c v k x) (hx : x.isLp = true) : ∃ a, v = .pointer (some a) ∧ ∀ c, KR g live c (.pointer (some a)) k.view x := by
  have h' := fun c' => KR.view (c' := c') h
  cases x <;> simp [AV.isLp] at hx
  cases k with
  | loc => obtain ⟨h1, h2⟩ := h; subst h2; exact ⟨_, rfl, h'⟩
  | glob => cases h
  | own => cases h.1
  | nils l => cases h.1
theorem KR.ptr {live : Nat → Bool} {c : Lc} {v : Value} {k : Kd} {x : AV} (h : KR g live c v k x) (hx : x.isPtr = true) (hn : x.isNp = false) :
    ∃ b o, v = .pointer (some ⟨b, o, none⟩) ∧ ∀ n c, KR g live c (.pointer (some ⟨b, o + n, none⟩)) k.view (x.addOff n) := by
  cases x <;> simp [AV.isPtr] at hx <;> simp [AV.isNp] at hn
  · rename_i l off
    have hr := h.rvX rfl
    cases hr with
    | hp bl off l hl =>
    refine ⟨bl, off, rfl, fun n c => ?_⟩
    have : RV g.Φ g.γ (.pointer (some ⟨bl, off + n, none⟩)) (.hp l (off + n)) := .hp _ _ _ hl
    cases k <;> first | exact this | (cases h)
  · rename_i j off
    cases k with
    | loc => obtain ⟨h1, h2⟩ := h; exact ⟨_, _, h2, fun n c => ⟨h1, rfl⟩⟩
    | glob => cases h
    | own => cases h.1
    | nils l => cases h.1
  · rename_i n0 cells off
    have hr := h.rvX rfl
    cases hr with
    | ip bl o n off cells vs hn hc hr ha =>
    refine ⟨bl, o + off, rfl, fun n c => ?_⟩
    have : RV g.Φ g.γ (.pointer (some ⟨bl, o + off + n, none⟩)) (.ip n0 cells (off + n)) := by rw [Nat.add_assoc]; exact .ip _ _ _ _ _ vs hn hc hr ha
    cases k <;> first | exact this | (cases h)
theorem KR.elem {live : Nat → Bool} {c : Lc} {v : Value} {k : Kd} {x : AV} {sz : Nat} {i : Int} (h : KR g live c v k x) (hx : x.isSl sz = true) (hi : inb i x.els.length = true) :
    ∃ b o cap, v = .slice (some ⟨b, o, none⟩) x.els.length cap ∧ RV g.Φ g.γ (.pointer (some ⟨b, o + i.toNat * sz, none⟩)) (.ip sz (nth x.els i.toNat []) 0) := by
  have hr := h.rvX (by rw [isSl_spec hx]; rfl)
  have hi' : 0 ≤ i ∧ i < x.els.length := by simpa [inb] using hi
  have e := isSl_spec hx
  generalize x.els = es at *
  subst e
  cases hr with
  | nsl _ sz => simp at hi'; omega
  | sl bl o len cap sz es vs hl hcap hn hc hr ha =>
    subst hl
    have hlt : i.toNat < es.length := by omega
    refine ⟨bl, o, cap, rfl, ?_⟩
    rw [nth_eq]
    exact .ip bl (o + i.toNat * sz) sz 0 _ (vs i.toNat) (hn _ hlt) (fun j hj => hc _ j hlt hj) (fun j hj => hr _ j hlt hj) (fun j hj => ha _ j hlt hj)
theorem KR.ipAt {fr : Fr} {w : World} {live : Nat → Bool} {c : Lc} {v : Value} {k : Kd} {x : AV} (h : KR g live c v k x) (I : Inv fr g w) (hx : x.isIp = true) :
    ∃ b o, v = .pointer (some ⟨b, o + x.hpO, none⟩) ∧ Cells g (fun i => w.cell? ⟨b, o + i, none⟩) x.ipN x.ipC := by
  cases x <;> simp [AV.isIp] at hx
  have hr := h.rvX rfl
  cases hr with
  | ip bl o n off cells vs hn hc hr ha =>
  exact ⟨bl, o, rfl, hn, fun i hi => ⟨vs i, I.agree _ _ _ (hc i hi), hr i hi, ha i hi⟩⟩
theorem KR.lpAt {c : Lc} {v : Value} {k : Kd} {x : AV} (h : KR g (lives s.loc) c v k x) (R : Rel fr pu g s a w) (hx : x.isLp = true) (hl : (nth s.loc x.lpJ LO.dead).live = true) :
    v = .pointer (some ⟨g.lam x.lpJ, x.hpO, none⟩) ∧ Cells g (fun i => w.cell? ⟨g.lam x.lpJ, 0 + i, none⟩) (nth s.loc x.lpJ LO.dead).n (nth s.loc x.lpJ LO.dead).cs := by
  cases x <;> simp [AV.isLp] at hx
  rename_i j off
  simp only [AV.lpJ] at hl ⊢
  rw [nth_eq] at hl ⊢
  have hL := R.locs j hl
  refine ⟨?_, hL.1, fun i hi => ?_⟩
  · cases k with
    | loc => exact h.2
    | glob => cases h
    | own => cases h.1
    | nils l => cases h.1
  · obtain ⟨v, h1, h2, h3, _⟩ := hL.2.1 i hi
    exact ⟨v, by show w.cell? ⟨_, 0 + i, none⟩ = _; rw [Nat.zero_add]; exact h1, h3, h2⟩
theorem KR.hpAt {c : Lc} {v : Value} {k : Kd} {x : AV} (h : KR g (lives s.loc) c v k x) (R : Rel fr pu g s a w) (hx : x.isHp = true) (hl : (obj s.H x.hpL).isC = true) :
    ∃ b, v = .pointer (some ⟨b, x.hpO, none⟩) ∧ Cells g (fun i => w.cell? ⟨b, 0 + i, none⟩) (obj s.H x.hpL).n (obj s.H x.hpL).cs := by
  cases x <;> simp [AV.isHp] at hx
  rename_i l off
  have hr := h.rvX rfl
  cases hr with
  | hp bl off l hg =>
  simp only [AV.hpL, obj, nth_eq] at hl ⊢
  have hlt : l < s.H.length := by
    rcases Nat.lt_or_ge l s.H.length with q | q
    · exact q
    · rw [List.getD_eq_getElem?_getD, List.getElem?_eq_none q] at hl; simp [HO.isC] at hl
  have hH := R.heap l hlt
  cases ho : s.H.getD l HO.dead with
  | cells n cs own =>
    rw [ho] at hH
    obtain ⟨b, h1, h2, h3, h4⟩ := hH
    rw [hg] at h1; simp at h1; subst h1
    refine ⟨bl, rfl, h2, fun i hi => ?_⟩
    obtain ⟨v, q1, q2, q3, _⟩ := h4 i hi
    exact ⟨v, by show w.cell? ⟨_, 0 + i, none⟩ = _; rw [Nat.zero_add]; exact q1, q3, q2⟩
  | map kk ag es => rw [ho] at hl; simp [HO.isC] at hl
  | dead => rw [ho] at hl; simp [HO.isC] at hl
theorem KR.comp {live : Nat → Bool} {c : Lc} {v : Value} {k : Kd} {x : AV} {j : Nat} {h : Sh} (hk : KR g live c v k x) (hx : x.isTp = true) (hj : h.is (nth x.tps j .junk) = true) :
    ∃ (vs : Array Value) (u : Value), v = .tuple vs ∧ vs[j]? = some u ∧ RV g.Φ g.γ u (h.nf (nth x.tps j .junk)) := by
  cases x <;> simp [AV.isTp] at hx
  rename_i xs
  have hr := hk.rvX rfl
  cases hr with
  | tp cs xs hn hr =>
  simp only [AV.tps] at hj ⊢
  rw [nf_spec hj]
  rw [nth_eq] at hj ⊢
  have hlt : j < xs.length := by
    rcases Nat.lt_or_ge j xs.length with q | q
    · exact q
    · rw [List.getD_eq_getElem?_getD, List.getElem?_eq_none q] at hj
      cases h <;> simp [Sh.is, AV.isI, AV.isB, AV.isS, AV.isSl, AV.isAg, AV.atom, AV.isLpc, AV.isHp0, AV.isMp] at hj
  have hs : j < cs.size := by rw [hn]; exact hlt
  refine ⟨cs, cs[j], rfl, by simp [hs], ?_⟩
  have := hr j hlt
  rwa [Array.getD_eq_getD_getElem?, Array.getElem?_eq_getElem hs] at this

theorem still_fld {x : Src} {n off : Nat} {h : LSh} (R : Rel fr pu g s a w) (hc : okOp Pg o.op o.type (.fld x n off h) = true) (hg : Good (evS Γ (.fld x n off h) s)) :
    Still Pg fr o (evS Γ (.fld x n off h) s).r.x (evS Γ (.fld x n off h) s).r.k g s a w := by
  simp only [okOp] at hc
  split at hc <;> try (simp at hc; done)
  rename_i t u f ho
  try simp only [Bool.and_eq_true] at hc
  obtain ⟨h1, h2⟩ := hc
  obtain ⟨hb, hs⟩ := hg
  simp [evS, ev, P.opnds, rg, nth_0, nth_S, oksOf] at hb hs
  obtain ⟨xs, hu, hxs⟩ := (src_ok R h1 hs).ag hb.2.1
  split at h2 <;> try (simp at h2; done)
  rename_i e he
  obtain ⟨r, hr1, hr2⟩ := part_ok (w := w) hxs hb.2.2.1 h2 hb.2.2.2
  exact .val R.inv (run_field ho hu he hr1) (fun c => hr2)

theorem still_idxA {x i : Src} {ik : IntKind} {n sz : Nat} {h : LSh} (R : Rel fr pu g s a w) (hc : okOp Pg o.op o.type (.idxA x i ik n sz h) = true) (hg : Good (evS Γ (.idxA x i ik n sz h) s)) :
    Still Pg fr o (evS Γ (.idxA x i ik n sz h) s).r.x (evS Γ (.idxA x i ik n sz h) s).r.k g s a w := by
  simp only [okOp] at hc
  split at hc <;> try (simp at hc; done)
  rename_i t u v ho
  try simp only [Bool.and_eq_true] at hc
  obtain ⟨⟨h1, h2⟩, h3⟩ := hc
  obtain ⟨hb, hs⟩ := hg
  simp [evS, ev, P.opnds, rg, nth_0, nth_S, oksOf] at hb hs
  obtain ⟨xs, hu, hxs⟩ := (src_ok R h1 hs.1).ag hb.2.1
  have hv := (src_ok R h2 hs.2).int hb.2.2.2.1
  split at h3 <;> try (simp at h3; done)
  rename_i m e he
  simp only [Bool.and_eq_true, beq_iff_eq] at h3
  obtain ⟨⟨rfl, h4⟩, h5⟩ := h3
  obtain ⟨r, hr1, hr2⟩ := part_ok (w := w) hxs hb.2.2.1 h5 hb.2.2.2.2.2
  exact .val R.inv (run_idxA ho hu hv he h4 hb.2.2.2.2.1 hr1) (fun c => hr2)

theorem still_fa {x : Src} {off : Nat} (R : Rel fr pu g s a w) (hc : okOp Pg o.op o.type (.fa x off) = true) (hg : Good (evS Γ (.fa x off) s)) :
    Still Pg fr o (evS Γ (.fa x off) s).r.x (evS Γ (.fa x off) s).r.k g s a w := by
  simp only [okOp] at hc
  split at hc <;> try (simp at hc; done)
  rename_i t u f ho
  try simp only [Bool.and_eq_true] at hc
  obtain ⟨h1, h2⟩ := hc
  obtain ⟨hb, hs⟩ := hg
  simp [evS, ev, P.opnds, rg, nth_0, nth_S, oksOf] at hb hs
  split at h2 <;> try (simp at h2; done)
  rename_i e he
  split at h2 <;> try (simp at h2; done)
  rename_i i hi
  simp only [decide_eq_true_eq] at h2
  obtain ⟨b, o1, hu, hk⟩ := (src_ok R h1 hs).ptr hb.1 hb.2
  exact .val R.inv (run_fa ho hu he hi h2) (fun c => hk off c)

theorem still_ixp {x i : Src} {ik : IntKind} {n sz : Nat} (R : Rel fr pu g s a w) (hc : okOp Pg o.op o.type (.ixp x i ik n sz) = true) (hg : Good (evS Γ (.ixp x i ik n sz) s)) :
    Still Pg fr o (evS Γ (.ixp x i ik n sz) s).r.x (evS Γ (.ixp x i ik n sz) s).r.k g s a w := by
  simp only [okOp] at hc
  split at hc <;> try (simp at hc; done)
  rename_i t u v ho
  try simp only [Bool.and_eq_true] at hc
  obtain ⟨⟨⟨h1, h2⟩, h3⟩, h4⟩ := hc
  obtain ⟨hb, hs⟩ := hg
  simp [evS, ev, P.opnds, rg, nth_0, nth_S, oksOf] at hb hs
  split at h4 <;> try (simp at h4; done)
  rename_i m e he
  simp only [Bool.and_eq_true, beq_iff_eq] at h4
  obtain ⟨rfl, h5⟩ := h4
  obtain ⟨b, o1, hu, hk⟩ := (src_ok R h1 hs.1).ptr hb.1 hb.2.1
  have hv := (src_ok R h2 hs.2).int hb.2.2.1
  exact .val R.inv (run_ixp ho hu hv he h5 hb.2.2.2) (fun c => hk _ c)

theorem still_ixa {x i : Src} {ik : IntKind} {sz : Nat} (R : Rel fr pu g s a w) (hc : okOp Pg o.op o.type (.ixa x i ik sz) = true) (hg : Good (evS Γ (.ixa x i ik sz) s)) :
    Still Pg fr o (evS Γ (.ixa x i ik sz) s).r.x (evS Γ (.ixa x i ik sz) s).r.k g s a w := by
  simp only [okOp] at hc
  split at hc <;> try (simp at hc; done)
  rename_i t u v ho
  try simp only [Bool.and_eq_true] at hc
  obtain ⟨⟨⟨h1, h2⟩, h3⟩, h4⟩ := hc
  obtain ⟨hb, hs⟩ := hg
  simp [evS, ev, P.opnds, rg, nth_0, nth_S, oksOf] at hb hs
  split at h4 <;> try (simp at h4; done)
  rename_i e he
  have hv := (src_ok R h2 hs.2).int hb.2.2.1
  obtain ⟨b, o1, cap, hu, hk⟩ := (src_ok R h1 hs.1).elem hb.2.1 hb.2.2.2
  exact .val R.inv (run_ixa ho hu hv he h4 hb.2.2.2) (fun c => hk)

theorem still_nck {x : Src} (R : Rel fr pu g s a w) (hc : okOp Pg o.op o.type (.nck x) = true) (hg : Good (evS Γ (.nck x) s)) :
    Still Pg fr o (evS Γ (.nck x) s).r.x (evS Γ (.nck x) s).r.k g s a w := by
  simp only [okOp] at hc
  split at hc <;> try (simp at hc; done)
  rename_i u ho
  try simp only [Bool.and_eq_true] at hc
  have h1 := hc
  obtain ⟨hb, hs⟩ := hg
  simp [evS, ev, P.opnds, rg, nth_0, nth_S, oksOf] at hb hs
  obtain ⟨b, hu, hk⟩ := (src_ok R h1 hs).hp hb
  exact .val R.inv (run_nck ho hu) (fun c => hk c)

theorem still_nckL {x : Src} (R : Rel fr pu g s a w) (hc : okOp Pg o.op o.type (.nckL x) = true) (hg : Good (evS Γ (.nckL x) s)) :
    Still Pg fr o (evS Γ (.nckL x) s).r.x (evS Γ (.nckL x) s).r.k g s a w := by
  simp only [okOp] at hc
  split at hc <;> try (simp at hc; done)
  rename_i u ho
  try simp only [Bool.and_eq_true] at hc
  have h1 := hc
  obtain ⟨hb, hs⟩ := hg
  simp [evS, ev, P.opnds, rg, nth_0, nth_S, oksOf] at hb hs
  obtain ⟨b, hu, hk⟩ := (src_ok R h1 hs).lp hb
  exact .val R.inv (run_nck ho hu) (fun c => hk c)

theorem still_iload {x : Src} {h : LSh} (R : Rel fr pu g s a w) (hc : okOp Pg o.op o.type (.iload x h) = true) (hg : Good (evS Γ (.iload x h) s)) :
    Still Pg fr o (evS Γ (.iload x h) s).r.x (evS Γ (.iload x h) s).r.k g s a w := by
  simp only [okOp] at hc
  split at hc <;> try (simp at hc; done)
  rename_i t u ho
  try simp only [Bool.and_eq_true] at hc
  obtain ⟨h1, h2⟩ := hc
  obtain ⟨hb, hs⟩ := hg
  simp [evS, ev, P.opnds, rg, nth_0, nth_S, oksOf] at hb hs
  obtain ⟨b, o0, hu, hC⟩ := (src_ok R h1 hs).ipAt R.inv hb.1
  obtain ⟨r, hr1, hr2⟩ := loadVar_ok hC h2 hb.2
  exact .val R.inv (run_load ho hu hr1) (fun c => hr2)

theorem still_lload {j : Nat} {x : Src} {h : LSh} (R : Rel fr pu g s a w) (hc : okOp Pg o.op o.type (.lload j x h) = true) (hg : Good (evS Γ (.lload j x h) s)) :
    Still Pg fr o (evS Γ (.lload j x h) s).r.x (evS Γ (.lload j x h) s).r.k g s a w := by
  simp only [okOp] at hc
  split at hc <;> try (simp at hc; done)
  rename_i t u ho
  try simp only [Bool.and_eq_true] at hc
  obtain ⟨h1, h2⟩ := hc
  obtain ⟨hb, hs⟩ := hg
  simp [evS, ev, P.opnds, rg, nth_0, nth_S, oksOf, P.rdL, lob] at hb hs
  obtain ⟨hu, hC⟩ := (src_ok R h1 hs).lpAt R hb.1 hb.2.1
  obtain ⟨r, hr1, hr2⟩ := loadVar_ok hC h2 hb.2.2.1
  rw [Nat.zero_add] at hr1
  exact .val R.inv (run_load ho hu hr1) (fun c => hr2)

theorem still_hload {x : Src} {h : LSh} (R : Rel fr pu g s a w) (hc : okOp Pg o.op o.type (.hload x h) = true) (hg : Good (evS Γ (.hload x h) s)) :
    Still Pg fr o (evS Γ (.hload x h) s).r.x (evS Γ (.hload x h) s).r.k g s a w := by
  simp only [okOp] at hc
  split at hc <;> try (simp at hc; done)
  rename_i t u ho
  try simp only [Bool.and_eq_true] at hc
  obtain ⟨h1, h2⟩ := hc
  obtain ⟨hb, hs⟩ := hg
  simp [evS, ev, P.opnds, rg, nth_0, nth_S, oksOf, P.rdH] at hb hs
  obtain ⟨b, hu, hC⟩ := (src_ok R h1 hs).hpAt R hb.1 hb.2.1
  obtain ⟨r, hr1, hr2⟩ := loadVar_ok hC h2 hb.2.2
  rw [Nat.zero_add] at hr1
  exact .val R.inv (run_load ho hu hr1) (fun c => hr2)

theorem still_mkif {t : Nat} {x : Src} (R : Rel fr pu g s a w) (hc : okOp Pg o.op o.type (.mkif t x) = true) (hg : Good (evS Γ (.mkif t x) s)) :
    Still Pg fr o (evS Γ (.mkif t x) s).r.x (evS Γ (.mkif t x) s).r.k g s a w := by
  simp only [okOp] at hc
  split at hc <;> try (simp at hc; done)
  rename_i t1 u ho
  try simp only [Bool.and_eq_true] at hc
  obtain ⟨⟨h1, h2⟩, h3⟩ := hc
  obtain ⟨hb, hs⟩ := hg
  simp [evS, ev, P.opnds, rg, nth_0, nth_S, oksOf] at hb hs
  rw [beq_iff_eq] at h1
  subst h1
  have hu := (src_ok R h2 hs).rvG hb
  exact .val R.inv (run_mkif ho h3) (fun c => .ifc _ _ _ hu)

theorem still_ext {x : Src} {j : Nat} {h : Sh} (R : Rel fr pu g s a w) (hc : okOp Pg o.op o.type (.ext x j h) = true) (hg : Good (evS Γ (.ext x j h) s)) :
    Still Pg fr o (evS Γ (.ext x j h) s).r.x (evS Γ (.ext x j h) s).r.k g s a w := by
  simp only [okOp] at hc
  split at hc <;> try (simp at hc; done)
  rename_i u j1 ho
  try simp only [Bool.and_eq_true] at hc
  obtain ⟨h1, h2⟩ := hc
  obtain ⟨hb, hs⟩ := hg
  simp [evS, ev, P.opnds, rg, nth_0, nth_S, oksOf] at hb hs
  rw [beq_iff_eq] at h2
  subst h2
  obtain ⟨vs, v, hu, hj, hr⟩ := (src_ok R h1 hs).comp hb.1 hb.2
  exact .val R.inv (run_ext ho hu hj) (fun c => hr)

end
end Go.Proofs.DenT
end
section
namespace Go.Proofs.DenT
set_option linter.unusedVariables false
set_option linter.unusedSimpArgs false
open Go
section
variable {Pg : Program} {fr : Fr} {pu : Bool} {g : Gh} {s : St} {a : Act} {w : World} {Γ : Env} {o : Oper}

theorem getD_takeDrop (es : List (List AV)) (l h i : Nat) (hi : i < h - l) : ((es.take h).drop l).getD i [] = es.getD (l + i) [] := by
  rw [List.getD_eq_getElem?_getD, List.getD_eq_getElem?_getD, List.getElem?_drop, List.getElem?_take, if_pos (by omega)]
/-- A part of a slice. -/
theorem RV.part {v : Value} {sz len cap : Nat} {a : Option Addr} {es : List (List AV)} (hr : RV g.Φ g.γ v (.sl sz es)) (hv : v = .slice a len cap) {l h c : Nat} (hl : l ≤ h) (hh : h ≤ len) (hc : h ≤ c) {b : Bool}
    (hb : b = true → h = l) : RV g.Φ g.γ (.slice (bif b then a else a.map (·.add (l * sz))) (h - l) (c - l)) (.sl sz ((es.take h).drop l)) ∨ (len = 0 ∧ cap = 0 ∧ es = []) := by
  subst hv
  cases hr with
  | nsl _ sz => exact .inr ⟨rfl, rfl, rfl⟩
  | sl bl o len cap sz es vs hlen hcap hn hcc hr ha =>
    left
    have hL : ((es.take h).drop l).length = h - l := by simp; omega
    cases b with
    | true =>
      have := hb rfl; subst this
      exact .sl bl o (h - h) (c - h) sz _ (fun _ _ => undef) hL (by omega) (fun i hi => by omega) (fun i j hi => by omega) (fun i j hi => by omega) (fun i j hi => by omega)
    | false =>
      simp only [cond_false, Option.map_some, addr_add]
      refine .sl bl (o + l * sz) (h - l) (c - l) sz _ (fun i j => vs (l + i) j) hL (by omega) (fun i hi => ?_) (fun i j hi hj => ?_) (fun i j hi hj => ?_) (fun i j hi hj => ?_)
      · rw [getD_takeDrop es l h i hi]; exact hn _ (by omega)
      · have := hcc (l + i) j (by omega) hj
        rw [Nat.add_mul] at this
        rw [show o + l * sz + i * sz + j = o + (l * sz + i * sz) + j from by omega]; exact this
      · rw [getD_takeDrop es l h i hi]; exact hr _ j (by omega) hj
      · rw [getD_takeDrop es l h i hi]; exact ha _ j (by omega) hj
/-- A bound. -/
theorem bnd_some (R : Rel fr pu g s a w) {x : Operand} {y : Src} {ik : IntKind} (h : okSrc x y = true) (hs : (envGet s.env y).ok.sat) (hi : (envGet s.env y).x.isI ik = true) (d : Int) :
    BndR a.eval (some x) d (envGet s.env y).x.num := ⟨ik, (src_ok R h hs).int hi⟩
theorem ite_bif {α : Type} (c : Prop) [Decidable c] (x y : α) : (if c then x else y) = bif decide c then x else y := by split <;> simp_all
theorem slc_fin {v : Value} {x : AV} {k : Kd} {c : Lc} {sz len cap : Nat} {ao : Option Addr} {l h : Int} (hk : KR g (lives s.loc) c v k x) (hx : x.isSl sz = true) (hv : v = .slice ao len cap) (hlen : x.els.length = len)
    (h0 : inbE h x.els.length = true) (h1 : inbE l h.toNat = true) : len ≤ cap ∧ inbE h len = true ∧
    RV g.Φ g.γ (.slice (if cap = l.toNat then ao else ao.map (·.add (l.toNat * sz))) (h.toNat - l.toNat) (cap - l.toNat)) (.sl sz ((x.els.take h.toNat).drop l.toNat)) ∧
    RV g.Φ g.γ (.slice (if h.toNat = l.toNat then ao else ao.map (·.add (l.toNat * sz))) (h.toNat - l.toNat) (h.toNat - l.toNat)) (.sl sz ((x.els.take h.toNat).drop l.toNat)) := by
  have a0 : 0 ≤ h ∧ h ≤ x.els.length := by simpa [inbE] using h0
  have a1 : 0 ≤ l ∧ l ≤ h.toNat := by simpa [inbE] using h1
  have hr := hk.rvX (by rw [isSl_spec hx]; rfl)
  rw [isSl_spec hx, hv] at hr
  have hlc : len ≤ cap := by
    generalize x.els = es at hr
    cases hr with
    | nsl => exact Nat.le_refl _
    | sl bl o len cap sz es vs hl hcap hn hc hr ha => exact hcap
  refine ⟨hlc, hlen ▸ h0, ?_, ?_⟩
  · rw [ite_bif]
    rcases hr.part rfl (l := l.toNat) (h := h.toNat) (c := cap) (b := decide (cap = l.toNat)) (by omega) (by omega) (by omega) (by simp; omega) with q | ⟨q1, q2, q3⟩
    · exact q
    · have hl0 : l.toNat = 0 := by rw [q3] at a0; simp at a0; omega
      have hh0 : h.toNat = 0 := by rw [q3] at a0; simp at a0; omega
      rw [q3, hl0, hh0]
      simp [q2]
      exact .nsl _ _
  · rw [ite_bif]
    rcases hr.part rfl (l := l.toNat) (h := h.toNat) (c := h.toNat) (b := decide (h.toNat = l.toNat)) (by omega) (by omega) (by omega) (by simp) with q | ⟨q1, q2, q3⟩
    · exact q
    · have hl0 : l.toNat = 0 := by rw [q3] at a0; simp at a0; omega
      have hh0 : h.toNat = 0 := by rw [q3] at a0; simp at a0; omega
      rw [q3, hl0, hh0]
      simp [q2]
      exact .nsl _ _
theorem still_slc {x : Src} {sz : Nat} {lo hi : Option (Src × IntKind)} (R : Rel fr pu g s a w) (hc : okOp Pg o.op o.type (.slc x sz lo hi) = true) (hg : Good (evS Γ (.slc x sz lo hi) s)) :
    Still Pg fr o (evS Γ (.slc x sz lo hi) s).r.x (evS Γ (.slc x sz lo hi) s).r.k g s a w := by
  simp only [okOp] at hc
  split at hc <;> try (simp at hc; done)
  rename_i t u l h ho
  simp only [Bool.and_eq_true] at hc
  obtain ⟨⟨⟨⟨h1, h2⟩, h3⟩, h4⟩, h5⟩ := hc
  split at h5 <;> try (simp at h5; done)
  rename_i e he
  obtain ⟨hb, hs⟩ := hg
  cases lo with
  | none =>
    cases l <;> simp [okB] at h2
    cases hi with
    | none =>
      cases h <;> simp [okB] at h3
      simp [evS, ev, P.opnds, bndSrc, bnd, bndB, bndN, rg, nth_0, nth_S, oksOf] at hb hs
      obtain ⟨ao, len, cap, hv, hlen⟩ := (src_ok R h1 hs).sl hb.2.1
      obtain ⟨q0, q1, q2, q3⟩ := slc_fin (src_ok R h1 hs) hb.2.1 hv hlen hb.2.2.1 hb.2.2.2
      have := run_slc (w := w) (l := 0) (h := ((envGet s.env x).x.els.length : Int)) ho hv he h5 rfl (by rw [hlen]; rfl) q1 hb.2.2.2 q0
      exact .val R.inv this (fun c => q2)
    | some b =>
      cases h <;> simp [okB] at h3
      simp [evS, ev, P.opnds, bndSrc, bnd, bndB, bndN, rg, nth_0, nth_S, oksOf] at hb hs
      obtain ⟨ao, len, cap, hv, hlen⟩ := (src_ok R h1 hs.1).sl hb.2.1
      obtain ⟨q0, q1, q2, q3⟩ := slc_fin (src_ok R h1 hs.1) hb.2.1 hv hlen hb.2.2.2.1 hb.2.2.2.2
      have := run_slc (w := w) (l := 0) (h := (envGet s.env b.1).x.num) ho hv he h5 rfl (bnd_some R h3 hs.2 hb.2.2.1 _) q1 hb.2.2.2.2 q0
      exact .val R.inv this (fun c => q2)
  | some a =>
    cases l <;> simp [okB] at h2
    cases hi with
    | none =>
      cases h <;> simp [okB] at h3
      simp [evS, ev, P.opnds, bndSrc, bnd, bndB, bndN, rg, nth_0, nth_S, oksOf] at hb hs
      obtain ⟨ao, len, cap, hv, hlen⟩ := (src_ok R h1 hs.1).sl hb.2.1
      obtain ⟨q0, q1, q2, q3⟩ := slc_fin (src_ok R h1 hs.1) hb.2.1 hv hlen hb.2.2.2.1 hb.2.2.2.2
      have := run_slc (w := w) (l := (envGet s.env a.1).x.num) (h := ((envGet s.env x).x.els.length : Int)) ho hv he h5 (bnd_some R h2 hs.2 hb.2.2.1 _) (by rw [hlen]; rfl) q1 hb.2.2.2.2 q0
      exact .val R.inv this (fun c => q2)
    | some b =>
      cases h <;> simp [okB] at h3
      simp [evS, ev, P.opnds, bndSrc, bnd, bndB, bndN, rg, nth_0, nth_S, oksOf] at hb hs
      obtain ⟨ao, len, cap, hv, hlen⟩ := (src_ok R h1 hs.1).sl hb.2.1
      obtain ⟨q0, q1, q2, q3⟩ := slc_fin (src_ok R h1 hs.1) hb.2.1 hv hlen hb.2.2.2.2.1 hb.2.2.2.2.2
      have := run_slc (w := w) (l := (envGet s.env a.1).x.num) (h := (envGet s.env b.1).x.num) ho hv he h5 (bnd_some R h2 hs.2.1 hb.2.2.1 _) (bnd_some R h3 hs.2.2 hb.2.2.2.1 _) q1 hb.2.2.2.2.2 q0
      exact .val R.inv this (fun c => q2)
theorem rows_spec (sz : Nat) (cs : List AV) : ∀ (n o : Nat), (rows sz cs o n).length = n ∧ ∀ i, i < n → (rows sz cs o n).getD i [] = sub cs (o + i * sz) sz := by
  intro n
  induction n with
  | zero => intro o; exact ⟨rfl, fun i hi => by omega⟩
  | succ n ih =>
    intro o
    obtain ⟨h1, h2⟩ := ih (o + sz)
    have e : rows sz cs o (n + 1) = sub cs o sz :: rows sz cs (o + sz) n := rfl
    rw [e]
    refine ⟨by simp [h1], fun i hi => ?_⟩
    cases i with
    | zero => simp
    | succ i => rw [List.getD_cons_succ, h2 i (by omega), Nat.add_mul]; congr 1; omega
theorem KR.ipRow {c : Lc} {v : Value} {k : Kd} {x : AV} {n sz : Nat} (h : KR g (lives s.loc) c v k x) (hx : x.isIp = true) (hn : x.hpO + n * sz ≤ x.ipN) :
    ∃ b o, v = .pointer (some ⟨b, o, none⟩) ∧ ∀ (l h : Int), inbE h n = true → inbE l h.toNat = true →
      RV g.Φ g.γ (.slice (some (if n = l.toNat then ⟨b, o, none⟩ else ⟨b, o + l.toNat * sz, none⟩)) (h.toNat - l.toNat) (n - l.toNat)) (.sl sz (rows sz x.ipC (x.hpO + l.toNat * sz) (h.toNat - l.toNat))) := by
  cases x <;> simp [AV.isIp] at hx
  rename_i n1 cells1 off1
  have hr := h.rvX rfl
  cases hr with
  | ip bl o n0 _ cells vs hn0 hc hr ha =>
  simp only [AV.hpO, AV.ipN, AV.ipC] at hn ⊢
  refine ⟨bl, o + off1, rfl, fun l h h0 h1 => ?_⟩
  have a0 : 0 ≤ h ∧ h ≤ n := by simpa [inbE] using h0
  have a1 : 0 ≤ l ∧ l ≤ h.toNat := by simpa [inbE] using h1
  obtain ⟨r1, r2⟩ := rows_spec sz cells1 (h.toNat - l.toNat) (off1 + l.toNat * sz)
  by_cases hnl : n = l.toNat
  · rw [if_pos hnl]
    exact .sl bl (o + off1) _ _ sz _ (fun _ _ => undef) r1 (by omega) (fun i hi => by omega) (fun i j hi => by omega) (fun i j hi => by omega) (fun i j hi => by omega)
  · rw [if_neg hnl]
    have idx : ∀ i j, i < h.toNat - l.toNat → j < sz → off1 + l.toNat * sz + i * sz + j < n1 := by
      intro i j hi hj
      have : (l.toNat + i + 1) * sz ≤ n * sz := Nat.mul_le_mul_right _ (by omega)
      rw [Nat.add_mul, Nat.add_mul] at this
      omega
    refine .sl bl (o + off1 + l.toNat * sz) _ _ sz _ (fun i j => vs (off1 + l.toNat * sz + i * sz + j)) r1 (by omega) (fun i hi => ?_) (fun i j hi hj => ?_) (fun i j hi hj => ?_) (fun i j hi hj => ?_)
    · rw [r2 i hi]; exact (sub_spec _ _ _).1
    · have := hc _ (idx i j hi hj)
      rw [show o + off1 + l.toNat * sz + i * sz + j = o + (off1 + l.toNat * sz + i * sz + j) from by omega]; exact this
    · rw [r2 i hi, (sub_spec _ _ _).2 j hj]; exact hr _ (idx i j hi hj)
    · rw [r2 i hi, (sub_spec _ _ _).2 j hj]; exact ha _ (idx i j hi hj)
theorem KR.lpRow {c : Lc} {v : Value} {k : Kd} {x : AV} (h : KR g (lives s.loc) c v k x) (hx : x.isLp = true) :
    ∃ b o, v = .pointer (some ⟨b, o, none⟩) ∧ ∀ (n sz : Nat) (l h : Int), inbE h n = true → inbE l h.toNat = true →
      LocR g (lives s.loc) (.slice (some (if n = l.toNat then ⟨b, o, none⟩ else ⟨b, o + l.toNat * sz, none⟩)) (h.toNat - l.toNat) (n - l.toNat)) (.lv x.lpJ (x.hpO + l.toNat * sz) (h.toNat - l.toNat) sz) := by
  cases x <;> simp [AV.isLp] at hx
  rename_i j1 off1
  have hl : LocR g (lives s.loc) v (.lp j1 off1) := by
    cases k with
    | loc => exact h
    | glob => cases h
    | own => cases h.1
    | nils l => cases h.1
  obtain ⟨h1, h2⟩ := hl
  refine ⟨_, _, h2, fun n sz l h h0 hh => ?_⟩
  have a0 : 0 ≤ h ∧ h ≤ n := by simpa [inbE] using h0
  have a1 : 0 ≤ l ∧ l ≤ h.toNat := by simpa [inbE] using hh
  refine ⟨h1, ?_⟩
  by_cases hnl : n = l.toNat
  · rw [if_pos hnl]; exact ⟨_, _, rfl, by omega, fun hq => by omega⟩
  · rw [if_neg hnl]; exact ⟨_, _, rfl, by omega, fun hq => rfl⟩
theorem still_slcS {x : Src} {lo hi : Option (Src × IntKind)} (R : Rel fr pu g s a w) (hc : okOp Pg o.op o.type (.slcS x lo hi) = true) (hg : Good (evS Γ (.slcS x lo hi) s)) :
    Still Pg fr o (evS Γ (.slcS x lo hi) s).r.x (evS Γ (.slcS x lo hi) s).r.k g s a w := by
  simp only [okOp] at hc
  split at hc <;> try (simp at hc; done)
  rename_i t u l h ho
  simp only [Bool.and_eq_true] at hc
  obtain ⟨⟨⟨h1, h2⟩, h3⟩, h5⟩ := hc
  have ht : Pg.underlying t = some .string := by split at h5 <;> simp_all
  obtain ⟨hb, hs⟩ := hg
  cases lo with
  | none =>
    cases l <;> simp [okB] at h2
    cases hi with
    | none =>
      cases h <;> simp [okB] at h3
      simp [evS, ev, P.opnds, bndSrc, bnd, bndB, bndN, rg, nth_0, nth_S, oksOf] at hb hs
      have hv := (src_ok R h1 hs).str hb.1
      have := run_slcS (w := w) (l := 0) (h := ((envGet s.env x).x.str.size : Int)) ho hv ht rfl rfl hb.2.1 hb.2.2
      exact .val R.inv this (fun c => .s _)
    | some b1 =>
      cases h <;> simp [okB] at h3
      simp [evS, ev, P.opnds, bndSrc, bnd, bndB, bndN, rg, nth_0, nth_S, oksOf] at hb hs
      have hv := (src_ok R h1 hs.1).str hb.1
      have := run_slcS (w := w) (l := 0) (h := (envGet s.env b1.1).x.num) ho hv ht rfl (bnd_some R h3 hs.2 hb.2.1 _) hb.2.2.1 hb.2.2.2
      exact .val R.inv this (fun c => .s _)
  | some a1 =>
    cases l <;> simp [okB] at h2
    cases hi with
    | none =>
      cases h <;> simp [okB] at h3
      simp [evS, ev, P.opnds, bndSrc, bnd, bndB, bndN, rg, nth_0, nth_S, oksOf] at hb hs
      have hv := (src_ok R h1 hs.1).str hb.1
      have := run_slcS (w := w) (l := (envGet s.env a1.1).x.num) (h := ((envGet s.env x).x.str.size : Int)) ho hv ht (bnd_some R h2 hs.2 hb.2.1 _) rfl hb.2.2.1 hb.2.2.2
      exact .val R.inv this (fun c => .s _)
    | some b1 =>
      cases h <;> simp [okB] at h3
      simp [evS, ev, P.opnds, bndSrc, bnd, bndB, bndN, rg, nth_0, nth_S, oksOf] at hb hs
      have hv := (src_ok R h1 hs.1).str hb.1
      have := run_slcS (w := w) (l := (envGet s.env a1.1).x.num) (h := (envGet s.env b1.1).x.num) ho hv ht (bnd_some R h2 hs.2.1 hb.2.1 _) (bnd_some R h3 hs.2.2 hb.2.2.1 _) hb.2.2.2.1 hb.2.2.2.2
      exact .val R.inv this (fun c => .s _)

theorem still_slcI {x : Src} {n sz : Nat} {lo hi : Option (Src × IntKind)} (R : Rel fr pu g s a w) (hc : okOp Pg o.op o.type (.slcI x n sz lo hi) = true) (hg : Good (evS Γ (.slcI x n sz lo hi) s)) :
    Still Pg fr o (evS Γ (.slcI x n sz lo hi) s).r.x (evS Γ (.slcI x n sz lo hi) s).r.k g s a w := by
  simp only [okOp] at hc
  split at hc <;> try (simp at hc; done)
  rename_i t u l h ho
  simp only [Bool.and_eq_true] at hc
  obtain ⟨⟨⟨⟨h1, h2⟩, h3⟩, h4⟩, h5⟩ := hc
  split at h5 <;> try (simp at h5; done)
  rename_i m e he
  simp only [Bool.and_eq_true, beq_iff_eq] at h5
  obtain ⟨rfl, h5⟩ := h5
  obtain ⟨hb, hs⟩ := hg
  cases lo with
  | none =>
    cases l <;> simp [okB] at h2
    cases hi with
    | none =>
      cases h <;> simp [okB] at h3
      simp [evS, ev, P.opnds, bndSrc, bnd, bndB, bndN, rg, nth_0, nth_S, oksOf] at hb hs
      obtain ⟨b, o1, hv, hC⟩ := (src_ok R h1 hs).ipRow hb.2.1 hb.2.2.1
      have := run_slcA (w := w) (l := 0) (h := (m : Int)) ho hv he h5 rfl rfl hb.2.2.2.1 hb.2.2.2.2
      exact .val R.inv this (fun c => hC 0 (m : Int) hb.2.2.2.1 hb.2.2.2.2)
    | some b1 =>
      cases h <;> simp [okB] at h3
      simp [evS, ev, P.opnds, bndSrc, bnd, bndB, bndN, rg, nth_0, nth_S, oksOf] at hb hs
      obtain ⟨b, o1, hv, hC⟩ := (src_ok R h1 hs.1).ipRow hb.2.1 hb.2.2.1
      have := run_slcA (w := w) (l := 0) (h := (envGet s.env b1.1).x.num) ho hv he h5 rfl (bnd_some R h3 hs.2 hb.2.2.2.1 _) hb.2.2.2.2.1 hb.2.2.2.2.2
      exact .val R.inv this (fun c => hC 0 (envGet s.env b1.1).x.num hb.2.2.2.2.1 hb.2.2.2.2.2)
  | some a1 =>
    cases l <;> simp [okB] at h2
    cases hi with
    | none =>
      cases h <;> simp [okB] at h3
      simp [evS, ev, P.opnds, bndSrc, bnd, bndB, bndN, rg, nth_0, nth_S, oksOf] at hb hs
      obtain ⟨b, o1, hv, hC⟩ := (src_ok R h1 hs.1).ipRow hb.2.1 hb.2.2.1
      have := run_slcA (w := w) (l := (envGet s.env a1.1).x.num) (h := (m : Int)) ho hv he h5 (bnd_some R h2 hs.2 hb.2.2.2.1 _) rfl hb.2.2.2.2.1 hb.2.2.2.2.2
      exact .val R.inv this (fun c => hC (envGet s.env a1.1).x.num (m : Int) hb.2.2.2.2.1 hb.2.2.2.2.2)
    | some b1 =>
      cases h <;> simp [okB] at h3
      simp [evS, ev, P.opnds, bndSrc, bnd, bndB, bndN, rg, nth_0, nth_S, oksOf] at hb hs
      obtain ⟨b, o1, hv, hC⟩ := (src_ok R h1 hs.1).ipRow hb.2.1 hb.2.2.1
      have := run_slcA (w := w) (l := (envGet s.env a1.1).x.num) (h := (envGet s.env b1.1).x.num) ho hv he h5 (bnd_some R h2 hs.2.1 hb.2.2.2.1 _) (bnd_some R h3 hs.2.2 hb.2.2.2.2.1 _) hb.2.2.2.2.2.1 hb.2.2.2.2.2.2
      exact .val R.inv this (fun c => hC (envGet s.env a1.1).x.num (envGet s.env b1.1).x.num hb.2.2.2.2.2.1 hb.2.2.2.2.2.2)

theorem still_slcL {x : Src} {n sz : Nat} {lo hi : Option (Src × IntKind)} (R : Rel fr pu g s a w) (hc : okOp Pg o.op o.type (.slcL x n sz lo hi) = true) (hg : Good (evS Γ (.slcL x n sz lo hi) s)) :
    Still Pg fr o (evS Γ (.slcL x n sz lo hi) s).r.x (evS Γ (.slcL x n sz lo hi) s).r.k g s a w := by
  simp only [okOp] at hc
  split at hc <;> try (simp at hc; done)
  rename_i t u l h ho
  simp only [Bool.and_eq_true] at hc
  obtain ⟨⟨⟨⟨h1, h2⟩, h3⟩, h4⟩, h5⟩ := hc
  split at h5 <;> try (simp at h5; done)
  rename_i m e he
  simp only [Bool.and_eq_true, beq_iff_eq] at h5
  obtain ⟨rfl, h5⟩ := h5
  obtain ⟨hb, hs⟩ := hg
  cases lo with
  | none =>
    cases l <;> simp [okB] at h2
    cases hi with
    | none =>
      cases h <;> simp [okB] at h3
      simp [evS, ev, P.opnds, bndSrc, bnd, bndB, bndN, rg, nth_0, nth_S, oksOf] at hb hs
      obtain ⟨b, o1, hv, hC⟩ := (src_ok R h1 hs).lpRow hb.1
      have := run_slcA (w := w) (l := 0) (h := (m : Int)) ho hv he h5 rfl rfl hb.2.1 hb.2.2
      exact .val R.inv this (fun c => hC m sz 0 (m : Int) hb.2.1 hb.2.2)
    | some b1 =>
      cases h <;> simp [okB] at h3
      simp [evS, ev, P.opnds, bndSrc, bnd, bndB, bndN, rg, nth_0, nth_S, oksOf] at hb hs
      obtain ⟨b, o1, hv, hC⟩ := (src_ok R h1 hs.1).lpRow hb.1
      have := run_slcA (w := w) (l := 0) (h := (envGet s.env b1.1).x.num) ho hv he h5 rfl (bnd_some R h3 hs.2 hb.2.1 _) hb.2.2.1 hb.2.2.2
      exact .val R.inv this (fun c => hC m sz 0 (envGet s.env b1.1).x.num hb.2.2.1 hb.2.2.2)
  | some a1 =>
    cases l <;> simp [okB] at h2
    cases hi with
    | none =>
      cases h <;> simp [okB] at h3
      simp [evS, ev, P.opnds, bndSrc, bnd, bndB, bndN, rg, nth_0, nth_S, oksOf] at hb hs
      obtain ⟨b, o1, hv, hC⟩ := (src_ok R h1 hs.1).lpRow hb.1
      have := run_slcA (w := w) (l := (envGet s.env a1.1).x.num) (h := (m : Int)) ho hv he h5 (bnd_some R h2 hs.2 hb.2.1 _) rfl hb.2.2.1 hb.2.2.2
      exact .val R.inv this (fun c => hC m sz (envGet s.env a1.1).x.num (m : Int) hb.2.2.1 hb.2.2.2)
    | some b1 =>
      cases h <;> simp [okB] at h3
      simp [evS, ev, P.opnds, bndSrc, bnd, bndB, bndN, rg, nth_0, nth_S, oksOf] at hb hs
      obtain ⟨b, o1, hv, hC⟩ := (src_ok R h1 hs.1).lpRow hb.1
      have := run_slcA (w := w) (l := (envGet s.env a1.1).x.num) (h := (envGet s.env b1.1).x.num) ho hv he h5 (bnd_some R h2 hs.2.1 hb.2.1 _) (bnd_some R h3 hs.2.2 hb.2.2.1 _) hb.2.2.2.1 hb.2.2.2.2
      exact .val R.inv this (fun c => hC m sz (envGet s.env a1.1).x.num (envGet s.env b1.1).x.num hb.2.2.2.1 hb.2.2.2.2)

end
end Go.Proofs.DenT
end
section
namespace Go.Proofs.DenT
set_option linter.unusedVariables false
set_option linter.unusedSimpArgs false
open Go
section
variable {Pg : Program} {fr : Fr} {pu : Bool} {g : Gh} {s : St} {a : Act} {w : World} {Γ : Env} {o : Oper}
theorem KR.ptrN {live : Nat → Bool} {c : Lc} {v : Value} {k : Kd} {x : AV} (h : KR g live c v k x) (hx : x.isPtr = true) : ∃ p : Option Addr, v = .pointer p ∧ x.isNp = p.isNone := by
  cases hn : x.isNp with
  | false => obtain ⟨b, o, e, _⟩ := h.ptr hx hn; exact ⟨_, e, rfl⟩
  | true =>
    cases x <;> simp [AV.isNp] at hn
    have hr := h.rvX rfl
    cases hr
    exact ⟨none, rfl, rfl⟩
theorem KR.ifcN {live : Nat → Bool} {c : Lc} {v : Value} {k : Kd} {x : AV} (h : KR g live c v k x) (hx : x.isIfc = true) : (x.isNifc = true ∧ v = .nilIface) ∨ (x.isNifc = false ∧ ∃ t u, v = .iface t u) := by
  cases x <;> simp [AV.isIfc] at hx
  · have hr := h.rvX rfl; cases hr; exact .inr ⟨rfl, _, _, rfl⟩
  · have hr := h.rvX rfl; cases hr; exact .inl ⟨rfl, rfl⟩
theorem KR.lvLen {live : Nat → Bool} {c : Lc} {v : Value} {k : Kd} {x : AV} (h : KR g live c v k x) (hx : x.isLv = true) : ∃ (p : Option Addr) (cap : Nat), v = .slice p x.lvN cap := by
  cases x <;> simp [AV.isLv] at hx
  cases k with
  | loc => obtain ⟨_, o, cap, hv, _⟩ := h; exact ⟨_, _, hv⟩
  | glob => cases h
  | own => cases h.1
  | nils l => cases h.1
theorem flat_get {sz : Nat} : ∀ (es : List (List AV)), (∀ i, i < es.length → (es.getD i []).length = sz) → es.flatten.length = es.length * sz ∧ ∀ i j, i < es.length → j < sz → es.flatten.getD (i * sz + j) .junk = (es.getD i []).getD j .junk := by
  intro es
  induction es with
  | nil => intro _; exact ⟨by simp, fun i j hi => by simp at hi⟩
  | cons e es ih =>
    intro h
    have h0 : e.length = sz := by simpa using h 0 (by simp)
    obtain ⟨i1, i2⟩ := ih (fun i hi => by simpa using h (i + 1) (by simpa using hi))
    refine ⟨by simp only [List.flatten_cons, List.length_append, List.length_cons, i1, h0]; rw [Nat.add_mul]; omega, fun i j hi hj => ?_⟩
    rw [List.flatten_cons, List.getD_eq_getElem?_getD]
    cases i with
    | zero => rw [List.getElem?_append_left (by omega)]; simp
    | succ i =>
      have e1 : (i + 1) * sz + j = e.length + (i * sz + j) := by rw [Nat.add_mul]; omega
      rw [e1, List.getElem?_append_right (by omega), Nat.add_sub_cancel_left, ← List.getD_eq_getElem?_getD, i2 i j (by simpa using hi) hj]
      simp
theorem KR.toArr {c : Lc} {v : Value} {k : Kd} {x : AV} {n sz : Nat} (h : KR g (lives s.loc) c v k x) (hx : x.isSl sz = true) (hn : n ≤ x.els.length) (h0 : 0 < n) :
    ∃ (p : Option Addr) (len cap : Nat), v = .slice p len cap ∧ x.els.length = len ∧ RV g.Φ g.γ (.pointer p) (.ip (n * sz) (x.els.take n).flatten 0) := by
  have hr := h.rvX (by rw [isSl_spec hx]; rfl)
  have e := isSl_spec hx
  generalize x.els = es at *
  subst e
  cases hr with
  | nsl _ sz => simp at hn; omega
  | sl bl o len cap sz es vs hl hcap hl2 hc hr ha =>
    subst hl
    have hT : (es.take n).length = n := by simp; omega
    have gT : ∀ i, i < n → (es.take n).getD i [] = es.getD i [] := fun i hi => by
      rw [List.getD_eq_getElem?_getD, List.getD_eq_getElem?_getD, List.getElem?_take, if_pos hi]
    obtain ⟨f1, f2⟩ := flat_get (sz := sz) (es.take n) (fun i hi => by rw [hT] at hi; rw [gT i hi]; exact hl2 i (by omega))
    rw [hT] at f1
    rcases Nat.eq_zero_or_pos sz with hz | hz
    · subst hz
      refine ⟨_, _, _, rfl, rfl, .ip bl o _ 0 _ (fun _ => undef) f1 (fun i hi => by simp at hi) (fun i hi => by simp at hi) (fun i hi => by simp at hi)⟩
    · have dm : ∀ q, q < n * sz → q / sz < n ∧ q % sz < sz ∧ q = q / sz * sz + q % sz := fun q hq =>
        ⟨Nat.div_lt_of_lt_mul (by rw [Nat.mul_comm]; exact hq), Nat.mod_lt _ hz, by rw [Nat.mul_comm]; exact (Nat.div_add_mod q sz).symm⟩
      refine ⟨_, _, _, rfl, rfl, .ip bl o _ 0 _ (fun q => vs (q / sz) (q % sz)) f1 (fun q hq => ?_) (fun q hq => ?_) (fun q hq => ?_)⟩
      · obtain ⟨d1, d2, d3⟩ := dm q hq
        have := hc (q / sz) (q % sz) (by omega) d2
        rw [show o + q = o + q / sz * sz + q % sz from by omega]; exact this
      · obtain ⟨d1, d2, d3⟩ := dm q hq
        have h1 := f2 (q / sz) (q % sz) (by omega) d2
        rw [← d3, gT _ d1] at h1
        rw [h1]; exact hr _ _ (by omega) d2
      · obtain ⟨d1, d2, d3⟩ := dm q hq
        have h1 := f2 (q / sz) (q % sz) (by omega) d2
        rw [← d3, gT _ d1] at h1
        rw [h1]; exact ha _ _ (by omega) d2

theorem still_pnil {neg : Bool} {x : Src} (R : Rel fr pu g s a w) (hc : okOp Pg o.op o.type (.pnil neg x) = true) (hg : Good (evS Γ (.pnil neg x) s)) :
    Still Pg fr o (evS Γ (.pnil neg x) s).r.x (evS Γ (.pnil neg x) s).r.k g s a w := by
  simp only [okOp] at hc
  split at hc <;> try (simp at hc; done)
  rename_i b t u yt ho
  try simp only [Bool.and_eq_true] at hc
  obtain ⟨⟨h1, h2⟩, h3⟩ := hc
  obtain ⟨hb, hs⟩ := hg
  simp [evS, ev, P.opnds, rg, nth_0, nth_S, oksOf] at hb hs
  have ht : ∃ e, Pg.underlying t = some (.pointer e) := by split at h2 <;> simp_all
  obtain ⟨p, hu, hp⟩ := (src_ok R h3 hs).ptrN hb
  have := run_pnil (w := w) ho h1 ht hu rfl
  refine .val R.inv this (fun c => ?_)
  cases neg
  · show RV g.Φ g.γ _ (.b (envGet s.env x).x.isNp)
    rw [hp]; exact .b _
  · show RV g.Φ g.γ _ (.b (!(envGet s.env x).x.isNp))
    rw [hp]; exact .b _

theorem still_inil {neg : Bool} {x : Src} (R : Rel fr pu g s a w) (hc : okOp Pg o.op o.type (.inil neg x) = true) (hg : Good (evS Γ (.inil neg x) s)) :
    Still Pg fr o (evS Γ (.inil neg x) s).r.x (evS Γ (.inil neg x) s).r.k g s a w := by
  simp only [okOp] at hc
  split at hc <;> try (simp at hc; done)
  rename_i b t u yt ho
  try simp only [Bool.and_eq_true] at hc
  obtain ⟨⟨h1, h2⟩, h3⟩ := hc
  obtain ⟨hb, hs⟩ := hg
  simp [evS, ev, P.opnds, rg, nth_0, nth_S, oksOf] at hb hs
  have ht : ∃ e, Pg.underlying t = some (.interface e) := by split at h2 <;> simp_all
  have hx := (src_ok R h3 hs).ifcN hb
  have := run_inil (w := w) (n := (envGet s.env x).x.isNifc) ho h1 ht rfl hx rfl
  refine .val R.inv this (fun c => ?_)
  cases neg <;> exact .b _

theorem still_lenV {x : Src} (R : Rel fr pu g s a w) (hc : okOp Pg o.op o.type (.lenV x) = true) (hg : Good (evS Γ (.lenV x) s)) :
    Still Pg fr o (evS Γ (.lenV x) s).r.x (evS Γ (.lenV x) s).r.k g s a w := by
  simp only [okOp] at hc
  split at hc <;> try (simp at hc; done)
  rename_i u t ho
  try simp only [Bool.and_eq_true] at hc
  obtain ⟨h1, h2⟩ := hc
  obtain ⟨hb, hs⟩ := hg
  simp [evS, ev, P.opnds, rg, nth_0, nth_S, oksOf] at hb hs
  have ht : ∃ e, Pg.underlying t = some (.slice e) := by split at h2 <;> simp_all
  obtain ⟨p, cap, hv⟩ := (src_ok R h1 hs).lvLen hb
  exact .val R.inv (run_lenL (w := w) ho hv ht) (fun c => .i _ _)

theorem still_s2a {x : Src} {n sz : Nat} (R : Rel fr pu g s a w) (hc : okOp Pg o.op o.type (.s2a x n sz) = true) (hg : Good (evS Γ (.s2a x n sz) s)) :
    Still Pg fr o (evS Γ (.s2a x n sz) s).r.x (evS Γ (.s2a x n sz) s).r.k g s a w := by
  simp only [okOp] at hc
  split at hc <;> try (simp at hc; done)
  rename_i t u ho
  try simp only [Bool.and_eq_true] at hc
  obtain ⟨⟨h1, h0⟩, h2⟩ := hc
  obtain ⟨hb, hs⟩ := hg
  simp [evS, ev, P.opnds, rg, nth_0, nth_S, oksOf] at hb hs
  rw [decide_eq_true_eq] at h0
  split at h2 <;> try (simp at h2; done)
  rename_i m e he
  simp only [Bool.and_eq_true, beq_iff_eq] at h2
  obtain ⟨rfl, h3⟩ := h2
  obtain ⟨p, len, cap, hv, hlen, hr⟩ := (src_ok R h1 hs).toArr hb.2.1 hb.2.2 h0
  exact .val R.inv (run_s2a (w := w) ho hv he (by omega)) (fun c => hr)

end
end Go.Proofs.DenT
end
section
namespace Go.Proofs.DenT
set_option linter.unusedVariables false
set_option linter.unusedSimpArgs false
open Go
section
variable {Pg : Program} {fr : Fr} {pu : Bool} {g : Gh} {s : St} {a : Act} {w : World} {Γ : Env} {o : Oper}
theorem All2.length {α β : Type} {R : α → β → Prop} : ∀ {l : List α} {m : List β}, All2 R l m → l.length = m.length
  | [], [], _ => rfl
  | a :: l, b :: m, q => by simp [All2.length q.2]
  | [], _ :: _, q => q.elim
  | _ :: _, [], q => q.elim
theorem KR.slN {live : Nat → Bool} {c : Lc} {v : Value} {k : Kd} {x : AV} {sz : Nat} (h : KR g live c v k x) (hx : x.isSl sz = true) (hn : x.els ≠ []) : ∃ (p : Addr) (len cap : Nat), v = .slice (some p) len cap := by
  have hr := h.rvX (by rw [isSl_spec hx]; rfl)
  have e := isSl_spec hx
  generalize x.els = es at *
  subst e
  cases hr with
  | nsl _ sz => simp at hn
  | sl bl o len cap sz es vs hl => exact ⟨_, _, _, rfl⟩
theorem KR.mapAt {c : Lc} {v : Value} {k : Kd} {x : AV} (h : KR g (lives s.loc) c v k x) (R : Rel fr pu g s a w) (hx : x.isMp = true) (hl : (obj s.H x.hpL).isM = true) :
    ∃ (r : Nat) (es : Array MapEntry) (cl : Nat), v = .map (some r) ∧ w.heap[r]? = some (.map es cl) ∧ (es.size : Int) = ((obj s.H x.hpL).es.length : Int) := by
  cases x <;> simp [AV.isMp] at hx
  rename_i l
  have hr := h.rvX rfl
  cases hr with
  | mp r l hg =>
  simp only [AV.hpL, obj, nth_eq] at hl ⊢
  have hlt : l < s.H.length := by
    rcases Nat.lt_or_ge l s.H.length with q | q
    · exact q
    · rw [List.getD_eq_getElem?_getD, List.getElem?_eq_none q] at hl; simp [HO.isM] at hl
  have hH := R.heap l hlt
  cases ho : s.H.getD l HO.dead with
  | map kk ag es =>
    rw [ho] at hH
    obtain ⟨b, en, cl, h1, h2, h3, h4⟩ := hH
    rw [hg] at h1; simp at h1; subst h1
    exact ⟨_, en, cl, rfl, h2, by simp [HO.es, ← All2.length h4]⟩
  | cells n cs own => rw [ho] at hl; simp [HO.isM] at hl
  | dead => rw [ho] at hl; simp [HO.isM] at hl

theorem still_snil {neg : Bool} {x : Src} {sz : Nat} (R : Rel fr pu g s a w) (hc : okOp Pg o.op o.type (.snil neg x sz) = true) (hg : Good (evS Γ (.snil neg x sz) s)) :
    Still Pg fr o (evS Γ (.snil neg x sz) s).r.x (evS Γ (.snil neg x sz) s).r.k g s a w := by
  simp only [okOp] at hc
  split at hc <;> try (simp at hc; done)
  rename_i b t u l cc yt ho
  try simp only [Bool.and_eq_true] at hc
  obtain ⟨⟨⟨⟨h1, h4⟩, h5⟩, h2⟩, h3⟩ := hc
  obtain ⟨hb, hs⟩ := hg
  simp [evS, ev, P.opnds, rg, nth_0, nth_S, oksOf] at hb hs
  rw [beq_iff_eq] at h4 h5
  subst h4
  subst h5
  have ht : ∃ e, Pg.underlying t = some (.slice e) := by split at h2 <;> simp_all
  obtain ⟨p, len, cap, hu⟩ := (src_ok R h3 hs).slN hb.1 hb.2
  exact .val R.inv (run_snil (w := w) ho h1 ht hu rfl) (fun c => .b _)

theorem still_lenM {x : Src} (R : Rel fr pu g s a w) (hc : okOp Pg o.op o.type (.lenM x) = true) (hg : Good (evS Γ (.lenM x) s)) :
    Still Pg fr o (evS Γ (.lenM x) s).r.x (evS Γ (.lenM x) s).r.k g s a w := by
  simp only [okOp] at hc
  split at hc <;> try (simp at hc; done)
  rename_i u t ho
  try simp only [Bool.and_eq_true] at hc
  obtain ⟨h1, h2⟩ := hc
  obtain ⟨hb, hs⟩ := hg
  simp [evS, ev, P.opnds, rg, nth_0, nth_S, oksOf, P.rdH] at hb hs
  have ht : ∃ k e, Pg.underlying t = some (.map k e) := by split at h2 <;> simp_all
  obtain ⟨r, es, cl, hu, hr, hn⟩ := (src_ok R h1 hs).mapAt R hb.1 hb.2
  have := run_lenM (w := w) ho hu ht hr
  rw [hn] at this
  exact .val R.inv this (fun c => .i _ _)

end
end Go.Proofs.DenT
end
section
namespace Go.Proofs.DenT
set_option linter.unusedVariables false
set_option linter.unusedSimpArgs false
open Go
section
variable {Pg : Program} {fr : Fr} {pu : Bool} {g : Gh} {s : St} {a : Act} {w : World} {Γ : Env} {o : Oper}
theorem co_ok {x : Operand} {v : AV} (h : okSrc x (.co v) = true) : ∃ sz, v = .sl sz [] ∧ x = .const (.slice none 0 0) := by
  unfold okSrc at h
  split at h <;> try (simp at h; done)
  all_goals (rename_i heq; try (cases heq))
  simp only [Bool.and_eq_true] at h
  obtain ⟨h0, h1⟩ := h
  split at h1
  · rename_i sz
    unfold eqAtom at h0
    split at h0 <;> (try (simp at h0; done)) <;> (try contradiction)
    rename_i l c _ heq
    simp at h0 heq
    obtain ⟨rfl, rfl⟩ := h0
    exact ⟨_, rfl, rfl⟩
  · simp at h1
theorem still_mov {x : Src} (R : Rel fr pu g s a w) (hc : okOp Pg o.op o.type (.mov x) = true) (hg : Good (evS Γ (.mov x) s)) :
    Still Pg fr o (evS Γ (.mov x) s).r.x (evS Γ (.mov x) s).r.k g s a w := by
  have key : ∀ u, (o.op = .move u ∨ o.op = .assign u) → okSrc u x = true → Still Pg fr o (evS Γ (.mov x) s).r.x (evS Γ (.mov x) s).r.k g s a w := by
    intro u ho hu
    have hs : (envGet s.env x).ok.sat := hg.2 _ (by simp [evS, ev, P.opnds, rg, nth_0])
    have hk := src_ok R hu hs
    refine .val R.inv (run_move ho) (fun c => ?_)
    cases x with
    | t n => exact KR.view hk
    | c v => exact KR.view hk
    | co v =>
      obtain ⟨sz, rfl, rfl⟩ := co_ok hu
      exact ⟨.nsl _ _, _, _, _, _, _, rfl, rfl, .inl rfl⟩
  simp only [okOp] at hc
  split at hc <;> try (simp at hc; done)
  · exact key _ (.inl (by assumption)) hc
  · exact key _ (.inr (by assumption)) hc
end
end Go.Proofs.DenT
end
section
namespace Go.Proofs.DenT
set_option linter.unusedVariables false
set_option linter.unusedSimpArgs false
open Go
section
variable {Pg : Program} {fr : Fr} {pu : Bool} {g : Gh} {s : St} {a : Act} {w : World} {Γ : Env} {o : Oper}
theorem still_clp {x : Src} {sz : Nat} {lo hi mx : Option (Src × IntKind)} (R : Rel fr pu g s a w) (hc : okOp Pg o.op o.type (.clp x sz lo hi mx) = true) (hg : Good (evS Γ (.clp x sz lo hi mx) s)) :
    Still Pg fr o (evS Γ (.clp x sz lo hi mx) s).r.x (evS Γ (.clp x sz lo hi mx) s).r.k g s a w := by
  simp only [okOp] at hc
  split at hc <;> try (simp at hc; done)
  rename_i t u l h m ho
  simp only [Bool.and_eq_true] at hc
  obtain ⟨⟨⟨⟨⟨⟨h1, h2⟩, h3⟩, h6⟩, h7⟩, h4⟩, h5⟩ := hc
  split at h5 <;> try (simp at h5; done)
  rename_i e he
  obtain ⟨hb, hs⟩ := hg
  cases mx with
  | none => simp [okB] at h6
  | some m1 =>
  cases hi with
  | none => cases h <;> simp [okB] at h3 h7
  | some b1 =>
  cases h with
  | none => simp at h7
  | some h =>
  simp [okB] at h3 h6
  have fin : ∀ {L : Int}, BndR a.eval l 0 L → (envGet s.env x).k.isG = true → (envGet s.env x).x.isSl sz = true → (envGet s.env x).ok.sat → (envGet s.env b1.1).ok.sat → (envGet s.env m1.1).ok.sat →
      (envGet s.env b1.1).x.isI b1.2 = true → (envGet s.env m1.1).x.isI m1.2 = true → inbE (envGet s.env m1.1).x.num (envGet s.env x).x.els.length = true → (envGet s.env m1.1).x.num = (envGet s.env b1.1).x.num →
      inbE L (envGet s.env b1.1).x.num.toNat = true →
      Still Pg fr o (.sl sz (((envGet s.env x).x.els.take (envGet s.env b1.1).x.num.toNat).drop L.toNat)) .own g s a w := by
    intro L hL k1 k2 s1 s2 s3 i1 i2 q1 q2 q3
    obtain ⟨ao, len, cap, hv, hlen⟩ := (src_ok R h1 s1).sl k2
    obtain ⟨r0, r1, r2, r3⟩ := slc_fin (src_ok R h1 s1) k2 hv hlen (q2 ▸ q1) q3
    have hx := (src_ok R h3 s2).int i1
    have hy := (src_ok R h6 s3).int i2
    have hcap : inbE (envGet s.env m1.1).x.num cap = true := by rw [hlen] at q1; simp [inbE] at q1 ⊢; omega
    have := run_clp (w := w) ho hv he h5 hL hx hy hcap q2 q3
    exact .val R.inv this (fun c => ⟨r3, _, _, _, _, _, rfl, rfl, .inl rfl⟩)
  cases lo with
  | none =>
    cases l <;> simp [okB] at h2
    simp [evS, ev, P.opnds, bndSrc, bnd, bndB, bndN, rg, nth_0, nth_S, oksOf] at hb hs
    exact fin rfl hb.1 hb.2.1 hs.1 hs.2.1 hs.2.2 hb.2.2.1 hb.2.2.2.1 hb.2.2.2.2.1 hb.2.2.2.2.2.1 hb.2.2.2.2.2.2
  | some a1 =>
    cases l <;> simp [okB] at h2
    simp [evS, ev, P.opnds, bndSrc, bnd, bndB, bndN, rg, nth_0, nth_S, oksOf] at hb hs
    exact fin (bnd_some R h2 hs.2.1 hb.2.2.1 _) hb.1 hb.2.1 hs.1 hs.2.2.1 hs.2.2.2 hb.2.2.2.1 hb.2.2.2.2.1 hb.2.2.2.2.2.1 hb.2.2.2.2.2.2.1 hb.2.2.2.2.2.2.2
end
end Go.Proofs.DenT
end
section
namespace Go.Proofs.DenT
set_option linter.unusedVariables false
set_option linter.unusedSimpArgs false
open Go
section
variable {Pg : Program} {fr : Fr} {pu : Bool} {g : Gh} {s : St} {a : Act} {w : World} {Γ : Env} {o : Oper}
/-- A value's cell: related, and one cell. -/
abbrev CR (g : Gh) (v : Value) (x : AV) : Prop := RV g.Φ g.γ v x ∧ x.atom = true
theorem tyZero_spec {t : TypeId} {z : List AV} (h : tyZero Pg t z = true) : ∃ i v, Pg.info? t = some i ∧ i.zero = some v ∧ i.size = z.length ∧ CellsR (CR g) v.cells z := by
  unfold tyZero at h
  split at h <;> try (simp at h; done)
  rename_i i hi
  split at h <;> try (simp at h; done)
  rename_i v hv
  simp only [Bool.and_eq_true, beq_iff_eq] at h
  obtain ⟨h1, h2⟩ := eqAtoms_spec (Φ := g.Φ) (γ := g.γ) h.2
  refine ⟨i, v, hi, hv, h.1, by simpa using h1, fun j hj => ?_⟩
  have := h2 j hj
  rw [arr_getD] at this
  exact this
theorem RV.cellsR {v : Value} {x : AV} (h : RV g.Φ g.γ v x) (hx : x.isTp = false) : CellsR (CR g) v.cells x.cellsOf := by
  obtain ⟨h1, h2, h3⟩ := h.cells hx
  exact ⟨h1, fun i hi => ⟨h2 i hi, h3 i hi⟩⟩
end
end Go.Proofs.DenT
end
section
namespace Go.Proofs.DenT
set_option linter.unusedVariables false
set_option linter.unusedSimpArgs false
open Go
section
variable {Pg : Program} {fr : Fr} {pu : Bool} {g : Gh} {s : St} {a : Act} {w : World} {Γ : Env} {o : Oper}
theorem rg_map (us : List (Src × Nat × Nat)) (env : List Reg) (i : Nat) (u : Src × Nat × Nat) (h : us[i]? = some u) : rg (us.map fun u => envGet env u.1) i = envGet env u.1 := by
  rw [rg, nth_eq, List.getD_eq_getElem?_getD, List.getElem?_map, h]; rfl
theorem okUses_spec {zl : Nat} {place : Nat → Option (Nat × TypeId)} : ∀ {ps : List (Nat × Operand)} {us : List (Src × Nat × Nat)}, okUses Pg zl place ps us = true → ps.length = us.length ∧
    ∀ (i : Nat) p u, ps[i]? = some p → us[i]? = some u → okSrc p.2 u.1 = true ∧ ∃ t, place p.1 = some (u.2.1, t) ∧ tySize Pg t u.2.2 = true ∧ u.2.1 + u.2.2 ≤ zl
  | [], [], _ => ⟨rfl, fun i p u h => by simp at h⟩
  | [], _ :: _, h => by simp [okUses] at h
  | _ :: _, [], h => by simp [okUses] at h
  | (j, x) :: ps, (y, o', n) :: us, h => by
    simp only [okUses, Bool.and_eq_true] at h
    obtain ⟨⟨h1, h2⟩, h3⟩ := h
    obtain ⟨q1, q2⟩ := okUses_spec h3
    refine ⟨by simp [q1], fun i p u hp hu => ?_⟩
    cases i with
    | zero =>
      simp at hp hu; subst hp; subst hu
      split at h2 <;> try (simp at h2; done)
      rename_i o2 t ht
      simp only [Bool.and_eq_true, beq_iff_eq, decide_eq_true_eq] at h2
      exact ⟨h1, t, by rw [ht, h2.1.1], h2.1.2, h2.2⟩
    | succ i => exact q2 i p u (by simpa using hp) (by simpa using hu)
theorem usesB_spec (env : List Reg) : ∀ {us : List (Src × Nat × Nat)}, (∀ b, b ∈ usesB us (us.map fun u => envGet env u.1) → b = true) →
    ∀ (i : Nat) u, us[i]? = some u → (envGet env u.1).k.isG = true ∧ (envGet env u.1).x.isTp = false ∧ (envGet env u.1).x.cellsOf.length = u.2.2
  | [], _, i, u, h => by simp at h
  | u0 :: us, hb, i, u, h => by
    have e : usesB (u0 :: us) ((u0 :: us).map fun u => envGet env u.1) = ((envGet env u0.1).k.isG && !(envGet env u0.1).x.isTp && ((envGet env u0.1).x.cellsOf.length == u0.2.2)) :: usesB us (us.map fun u => envGet env u.1) := rfl
    rw [e] at hb
    cases i with
    | zero =>
      simp at h; subst h
      have := hb _ (List.mem_cons_self)
      simpa [and_assoc] using this
    | succ i => exact usesB_spec env (fun b q => hb b (List.mem_cons_of_mem _ q)) i u (by simpa using h)
theorem sat_map (env : List Reg) {us : List (Src × Nat × Nat)} (hs : ∀ q, q ∈ oksOf (us.map fun u => envGet env u.1) → q.sat) (i : Nat) (u : Src × Nat × Nat) (h : us[i]? = some u) : (envGet env u.1).ok.sat :=
  hs _ (by simp only [oksOf, List.map_map, List.mem_map]; exact ⟨u, List.mem_of_getElem? h, rfl⟩)
end
end Go.Proofs.DenT
end
section
namespace Go.Proofs.DenT
set_option linter.unusedVariables false
set_option linter.unusedSimpArgs false
open Go
section
variable {Pg : Program} {fr : Fr} {pu : Bool} {g : Gh} {s : St} {a : Act} {w : World} {Γ : Env} {o : Oper}
theorem places_get : ∀ {fs : List Field} {places : List (Nat × Nat)}, fs.mapM (fun f => (Pg.info? f.type).map fun i => (f.offset, i.size)) = some places →
    ∀ (i : Nat) f, fs[i]? = some f → ∃ j, Pg.info? f.type = some j ∧ places[i]? = some (f.offset, j.size)
  | [], _, _, i, f, h => by simp at h
  | f0 :: fs, places, h, i, f, hf => by
    simp only [List.mapM_cons, Option.bind_eq_bind, Option.pure_def] at h
    cases hi : Pg.info? f0.type with
    | none => simp [hi] at h
    | some j =>
      cases hr : fs.mapM (fun f => (Pg.info? f.type).map fun i => (f.offset, i.size)) with
      | none => simp [hi, hr] at h
      | some rest =>
        simp [hi, hr] at h
        subst h
        cases i with
        | zero => simp at hf; subst hf; exact ⟨j, hi, rfl⟩
        | succ i => simpa using places_get hr i f (by simpa using hf)
theorem places_some : ∀ {fs : List Field}, fs.all (fun f => (Pg.info? f.type).isSome) = true → ∃ places, fs.mapM (fun f => (Pg.info? f.type).map fun i => (f.offset, i.size)) = some places
  | [], _ => ⟨[], rfl⟩
  | f :: fs, h => by
    simp only [List.all_cons, Bool.and_eq_true] at h
    obtain ⟨places, hp⟩ := places_some h.2
    obtain ⟨i, hi⟩ := Option.isSome_iff_exists.1 h.1
    exact ⟨_, by simp [List.mapM_cons, hi, hp]; rfl⟩
end
end Go.Proofs.DenT
end
section
namespace Go.Proofs.DenT
set_option linter.unusedVariables false
set_option linter.unusedSimpArgs false
open Go
section
variable {Pg : Program} {fr : Fr} {pu : Bool} {g : Gh} {s : St} {a : Act} {w : World} {Γ : Env} {o : Oper}

/-! ### What is not laid over stays -/
theorem fill_keep {place : Nat → Option (Nat × Nat)} : ∀ (ps : List (Nat × Value)) (us : List (Src × Nat × Nat)) (cells out : Array Value),
    ps.length = us.length → (∀ (i : Nat) p u, ps[i]? = some p → us[i]? = some u → place p.1 = some (u.2.1, u.2.2) ∧ p.2.cells.size = u.2.2) →
    Instr.fill place cells ps = some out → ∀ k, (∀ u ∈ us, k < u.2.1 ∨ u.2.1 + u.2.2 ≤ k) → out.getD k undef = cells.getD k undef := by
  intro ps
  induction ps with
  | nil => intro us cells out _ _ h k _; simp only [Instr.fill, Option.some.injEq] at h; rw [h]
  | cons p ps ih =>
    intro us cells out hl h hf k hk
    cases us with
    | nil => simp at hl
    | cons u us =>
      obtain ⟨h1, h2⟩ := h 0 p u rfl rfl
      obtain ⟨i, v⟩ := p
      simp only at h1 h2
      simp only [Instr.fill, h1] at hf
      split at hf <;> try (simp at hf; done)
      rename_i hfit
      have := ih us _ out (by simpa using hl) (fun i p u hp hu => h (i + 1) p u hp hu) hf k (fun u hu => hk u (List.mem_cons_of_mem _ hu))
      rw [this]
      have e : (v.cells.zipIdx.foldl (fun cs (c, j) => cs.setIfInBounds (u.2.1 + j) c) cells) = ((v.cells.toList.zipIdx 0).foldl (fun cs (x : Value × Nat) => cs.setIfInBounds (u.2.1 + x.2) x.1) cells) := by
        rw [← Array.foldl_toList]; simp
      have hu := hk u List.mem_cons_self
      simp at hfit
      rw [e]
      by_cases hsz : u.2.1 + v.cells.toList.length ≤ cells.size
      · obtain ⟨_, f2⟩ := fold_set u.2.1 v.cells.toList 0 cells (by omega)
        have := f2 k
        simp only [Nat.add_zero] at this
        rw [Array.getD_eq_getD_getElem?, Array.getD_eq_getD_getElem?, this, if_neg]
        simp [h2]; omega
      · simp at hsz; omega
theorem nilsZ_cons (x : AV) (z : List AV) (n : Nat) : nilsZ (x :: z) n = (match x with | .sl _ [] => n :: nilsZ z (n + 1) | _ => nilsZ z (n + 1)) := rfl
theorem nilsZ_spec : ∀ (z : List AV) (n k : Nat), k ∈ nilsZ z n → ∃ j sz, k = n + j ∧ z[j]? = some (.sl sz []) := by
  intro z
  induction z with
  | nil => intro n k h; simp [nilsZ] at h
  | cons x z ih =>
    intro n k h
    rw [nilsZ_cons] at h
    have tail : k ∈ nilsZ z (n + 1) → ∃ j sz, k = n + j ∧ (x :: z)[j]? = some (.sl sz []) := by
      intro h
      obtain ⟨j, sz, h1, h2⟩ := ih (n + 1) k h
      exact ⟨j + 1, sz, by omega, by simpa using h2⟩
    split at h
    · rcases List.mem_cons.1 h with h | h
      · exact ⟨0, _, by omega, rfl⟩
      · exact tail h
    · exact tail h
theorem outN_spec {o n k : Nat} : ∀ {l : List Nat}, k ∈ outN o n l → k ∈ l ∧ (k < o ∨ o + n ≤ k)
  | [], h => by simp [outN] at h
  | a :: l, h => by
    unfold outN at h
    split at h
    · rename_i hc
      simp only [Bool.or_eq_true, decide_eq_true_eq] at hc
      rcases List.mem_cons.1 h with h | h
      · subst h; exact ⟨List.mem_cons_self, hc⟩
      · obtain ⟨h1, h2⟩ := outN_spec h; exact ⟨List.mem_cons_of_mem _ h1, h2⟩
    · obtain ⟨h1, h2⟩ := outN_spec h; exact ⟨List.mem_cons_of_mem _ h1, h2⟩
theorem nilsU_spec : ∀ (us : List (Src × Nat × Nat)) (l : List Nat) (k : Nat), k ∈ nilsU us l → k ∈ l ∧ ∀ u ∈ us, k < u.2.1 ∨ u.2.1 + u.2.2 ≤ k := by
  intro us
  induction us with
  | nil => intro l k h; exact ⟨h, by simp⟩
  | cons u us ih =>
    intro l k h
    have e : nilsU (u :: us) l = nilsU us (outN u.2.1 u.2.2 l) := rfl
    rw [e] at h
    obtain ⟨h1, h2⟩ := ih _ k h
    obtain ⟨h3, h4⟩ := outN_spec h1
    refine ⟨h3, fun u' hu => ?_⟩
    rcases List.mem_cons.1 hu with h | h
    · rw [h]; exact h4
    · exact h2 u' h
theorem eqAtom_nil {v : Value} {sz : Nat} (h : eqAtom v (.sl sz []) = true) : v = .slice none 0 0 := by
  unfold eqAtom at h
  split at h <;> (try (simp at h; done)) <;> simp_all
theorem tyZero_nil {t : TypeId} {z : List AV} (h : tyZero Pg t z = true) {i : TypeInfo} {v : Value} (hi : Pg.info? t = some i) (hv : i.zero = some v) :
    ∀ k sz, z[k]? = some (.sl sz []) → v.cells.getD k undef = .slice none 0 0 := by
  unfold tyZero at h
  rw [hi] at h
  simp only [hv, Bool.and_eq_true] at h
  have key : ∀ (vs : List Value) (xs : List AV), eqAtoms vs xs = true → ∀ (k sz : Nat), xs[k]? = some (.sl sz []) → vs.getD k undef = .slice none 0 0 := by
    intro vs
    induction vs with
    | nil => intro xs h k sz hk; cases xs <;> simp [eqAtoms] at h; simp at hk
    | cons v vs ih =>
      intro xs h k sz hk
      cases xs with
      | nil => simp at hk
      | cons x xs =>
        simp only [eqAtoms, Bool.and_eq_true] at h
        cases k with
        | zero => simp at hk; subst hk; simpa using eqAtom_nil h.1
        | succ k => simpa using ih xs h.2 k sz (by simpa using hk)
  intro k sz hk
  rw [← arr_getD]
  exact key _ _ h.2 k sz hk
theorem still_build {z : List AV} {us : List (Src × Nat × Nat)} (R : Rel fr pu g s a w) (hc : okOp Pg o.op o.type (.build z us) = true) (hg : Good (evS Γ (.build z us) s)) :
    Still Pg fr o (evS Γ (.build z us) s).r.x (evS Γ (.build z us) s).r.k g s a w := by
  simp only [okOp] at hc
  split at hc <;> try (simp at hc; done)
  rename_i t ps ho
  simp only [Bool.and_eq_true] at hc
  obtain ⟨hz, hu⟩ := hc
  obtain ⟨hb, hs⟩ := hg
  obtain ⟨it, zv, hi, hzv, hsz, hzr⟩ := tyZero_spec (g := g) hz
  have hb' : ∀ b, b ∈ usesB us (us.map fun u => envGet s.env u.1) → b = true := by
    intro b hbm; exact hb b (by simpa [evS, ev, P.opnds, List.map_map, Function.comp_def] using hbm)
  have hs' : ∀ q, q ∈ oksOf (us.map fun u => envGet s.env u.1) → q.sat := by
    intro q hq; exact hs q (by simpa [evS, ev, P.opnds, List.map_map, Function.comp_def] using hq)
  have hx : (evS Γ (.build z us) s).r.x = .ag (layAll us (us.map fun u => envGet s.env u.1) z) := by
    simp [evS, ev, P.opnds, List.map_map, Function.comp_def]
  have hk : (evS Γ (.build z us) s).r.k = .nils (nilsU us (nilsZ z 0)) := rfl
  rw [hx, hk]
  have fin : ∀ (place : Nat → Option (Nat × Nat)) (place' : Nat → Option (Nat × TypeId)), okUses Pg z.length place' ps.toList us = true →
      (∀ (i : Nat) p ty n, ps.toList[i]? = some p → place' p.1 = some (n, ty) → ∀ sz, tySize Pg ty sz = true → place p.1 = some (n, sz)) →
      (∀ cells, Instr.fill place zv.cells (ps.toList.map fun x => (x.1, a.eval x.2)) = some cells → Pg.built t (ps.toList.map fun x => (x.1, a.eval x.2)) = some cells) →
      Still Pg fr o (.ag (layAll us (us.map fun u => envGet s.env u.1) z)) (.nils (nilsU us (nilsZ z 0))) g s a w := by
    intro place place' hok hpl hbt
    obtain ⟨hlen, huse⟩ := okUses_spec hok
    have cond : ∀ (i : Nat) p u, (ps.toList.map fun x => (x.1, a.eval x.2))[i]? = some p → us[i]? = some u → place p.1 = some (u.2.1, u.2.2) ∧ CellsR (CR g) p.2.cells (rg (us.map fun u => envGet s.env u.1) i).x.cellsOf ∧ (rg (us.map fun u => envGet s.env u.1) i).x.cellsOf.length = u.2.2 ∧ u.2.1 + u.2.2 ≤ z.length := by
      intro i p u hp hui
      rw [List.getElem?_map] at hp
      cases hq : ps.toList[i]? with
      | none => rw [hq] at hp; simp at hp
      | some q =>
        rw [hq] at hp
        simp only [Option.map_some, Option.some.injEq] at hp
        subst hp
        obtain ⟨u1, ty, u2, u3, u4⟩ := huse i q u hq hui
        obtain ⟨b1, b2, b3⟩ := usesB_spec s.env hb' i u hui
        have hkr := src_ok R u1 (sat_map s.env hs' i u hui)
        rw [rg_map us s.env i u hui]
        exact ⟨hpl i q ty _ hq u2 _ u3, RV.cellsR (hkr.rvG b1) b2, b3, u4⟩
    obtain ⟨out, hout, hr⟩ := fill_spec (R := CR g) (place := place) (ps.toList.map fun x => (x.1, a.eval x.2)) us (us.map fun u => envGet s.env u.1) zv.cells z hzr (by simpa using hlen) cond
    refine .val R.inv (run_buildOp ho (hbt _ hout)) (fun c => ⟨.ag _ _ hr.1 (fun i hi => (hr.2 i hi).1) (fun i hi => (hr.2 i hi).2), fun k hk => ?_⟩)
    obtain ⟨k1, k2⟩ := nilsU_spec us _ k hk
    obtain ⟨j, sz, k3, k4⟩ := nilsZ_spec z 0 k k1
    rw [Nat.zero_add] at k3; subst k3
    show out.getD k undef = _
    rw [fill_keep _ us _ _ (by simpa using hlen) (fun i p u hp hu => by
      obtain ⟨c1, c2, c3, _⟩ := cond i p u hp hu
      exact ⟨c1, by rw [c2.1, c3]⟩) hout k k2]
    exact tyZero_nil hz hi hzv k sz k4
  split at hu <;> try (simp at hu; done)
  · rename_i fs hfs
    simp only [Bool.and_eq_true] at hu
    obtain ⟨u1, u2⟩ := hu
    obtain ⟨places, hpl⟩ := places_some (Pg := Pg) (fs := fs.toList) (by simpa using u2)
    refine fin (places.toArray[·]?) _ u1 (fun i p ty n hp hpp sz hsz => ?_) (fun cells hf => ?_)
    · split at hpp
      · rename_i f hf
        simp only [Option.some.injEq, Prod.mk.injEq] at hpp
        obtain ⟨rfl, rfl⟩ := hpp
        obtain ⟨j, hj1, hj2⟩ := places_get hpl p.1 f (by simpa using hf)
        obtain ⟨j', hj3, hj4⟩ := tySize_spec hsz
        rw [hj1] at hj3; simp at hj3; subst hj3; subst hj4
        simpa using hj2
      · simp at hpp
    · unfold Program.built
      rw [hi, hfs]
      simp only [hzv, hpl]
      exact hf
  · rename_i n e hne
    split at hu <;> try (simp at hu; done)
    rename_i ie hie
    refine fin (fun i => some (i * ie.size, ie.size)) _ hu (fun i p ty n hp hpp sz hsz => ?_) (fun cells hf => ?_)
    · simp only [Option.some.injEq, Prod.mk.injEq] at hpp
      obtain ⟨rfl, rfl⟩ := hpp
      obtain ⟨j', hj3, hj4⟩ := tySize_spec hsz
      rw [hie] at hj3; simp at hj3; subst hj3; subst hj4; rfl
    · unfold Program.built
      rw [hi, hne]
      simp only [hzv, hie]
      exact hf
end
end Go.Proofs.DenT
end
section
namespace Go.Proofs.DenT
set_option linter.unusedVariables false
set_option linter.unusedSimpArgs false
open Go
section
variable {Pg : Program} {fr : Fr} {pu : Bool} {g : Gh} {s : St} {a : Act} {w : World} {Γ : Env} {o : Oper}
theorem okSrcs_spec : ∀ {xs : List Operand} {ss : List Src}, okSrcs xs ss = true → xs.length = ss.length ∧ ∀ (i : Nat) x y, xs[i]? = some x → ss[i]? = some y → okSrc x y = true
  | [], [], _ => ⟨rfl, fun i x y h => by simp at h⟩
  | x :: xs, y :: ss, h => by
    simp only [okSrcs, Bool.and_eq_true] at h
    obtain ⟨h1, h2⟩ := okSrcs_spec h.2
    refine ⟨by simp [h1], fun i x' y' hx hy => ?_⟩
    cases i with
    | zero => simp at hx hy; subst hx; subst hy; exact h.1
    | succ i => exact h2 i x' y' (by simpa using hx) (by simpa using hy)
  | [], _ :: _, h => by simp [okSrcs] at h
  | _ :: _, [], h => by simp [okSrcs] at h
theorem still_ext2 {mn : Bool} {k : IntKind} {x : Src} {xs : List Src} (R : Rel fr pu g s a w) (hc : okOp Pg o.op o.type (.ext2 mn k x xs) = true) (hg : Good (evS Γ (.ext2 mn k x xs) s)) :
    Still Pg fr o (evS Γ (.ext2 mn k x xs) s).r.x (evS Γ (.ext2 mn k x xs) s).r.k g s a w := by
  simp only [okOp] at hc
  split at hc <;> try (simp at hc; done)
  rename_i b u us t ts ho
  simp only [Bool.and_eq_true] at hc
  obtain ⟨⟨⟨h1, h2⟩, h3⟩, h4⟩ := hc
  obtain ⟨hb, hs⟩ := hg
  have hbs : ∀ y ∈ x :: xs, (envGet s.env y).x.isI k = true ∧ (envGet s.env y).ok.sat := by
    intro y hy
    refine ⟨hb _ ?_, hs _ ?_⟩
    · simp only [evS, ev, P.opnds, List.map_cons, List.map_map, List.mem_cons]
      rcases List.mem_cons.1 hy with rfl | hy
      · exact .inl rfl
      · exact .inr (List.mem_map.2 ⟨y, hy, rfl⟩)
    · simp only [evS, ev, P.opnds, List.map_cons, List.map_map, List.mem_cons, oksOf]
      rcases List.mem_cons.1 hy with rfl | hy
      · exact .inl rfl
      · exact .inr (List.mem_map.2 ⟨y, hy, rfl⟩)
  have hu := (src_ok R h2 (hbs x List.mem_cons_self).2).int (hbs x List.mem_cons_self).1
  obtain ⟨l1, l2⟩ := okSrcs_spec h3
  have hus : us.map a.eval = (xs.map fun y => (envGet s.env y).x.num).map (Value.int k) := by
    apply List.ext_getElem?
    intro i
    rw [List.map_map, List.getElem?_map, List.getElem?_map]
    cases hx : us[i]? with
    | none =>
      have : us.length ≤ i := by simpa using hx
      rw [List.getElem?_eq_none (by omega)]; rfl
    | some x' =>
      have hlt : i < us.length := (List.getElem?_eq_some_iff.1 hx).1
      have hy : xs[i]? = some xs[i] := List.getElem?_eq_getElem (by omega)
      rw [hy]
      have hq := hbs xs[i] (List.mem_cons_of_mem _ (List.getElem_mem _))
      have := (src_ok R (l2 i _ _ hx hy) hq.2).int hq.1
      simp [this]
  have := run_ext2 (mn := mn) (Pg := Pg) (w := w) ho (by cases b <;> first | exact h1 | (simp at h1)) hu hus
  have e : (evS Γ (.ext2 mn k x xs) s).r.x = .i k ((xs.map fun y => (envGet s.env y).x.num).foldl (minMax mn) (envGet s.env x).x.num) := by
    simp [evS, ev, P.opnds, rg, nth_0, List.map_map, Function.comp_def]
  rw [e]
  exact .val R.inv this (fun c => .i _ _)
theorem KR.mapObj {c : Lc} {v : Value} {k : Kd} {x : AV} {kk : IntKind} {ag : Bool} (h : KR g (lives s.loc) c v k x) (R : Rel fr pu g s a w) (hx : x.isMp = true) (hl : (obj s.H x.hpL).isMk kk ag = true) :
    ∃ (r : Nat) (es : Array MapEntry) (cl : Nat), v = .map (some r) ∧ g.γ x.hpL = some r ∧ w.heap[r]? = some (.map es cl) ∧ All2 (MapR g kk ag) es.toList (obj s.H x.hpL).es ∧ x.hpL < s.H.length ∧
      obj s.H x.hpL = .map kk ag (obj s.H x.hpL).es := by
  cases x <;> simp [AV.isMp] at hx
  rename_i l
  have hr := h.rvX rfl
  cases hr with
  | mp r l hg =>
  simp only [AV.hpL, obj, nth_eq] at hl ⊢
  have hlt : l < s.H.length := by
    rcases Nat.lt_or_ge l s.H.length with q | q
    · exact q
    · rw [List.getD_eq_getElem?_getD, List.getElem?_eq_none q] at hl; simp [HO.isMk] at hl
  have hH := R.heap l hlt
  cases ho : s.H.getD l HO.dead with
  | map k1 a1 es =>
    rw [ho] at hH hl
    simp only [HO.isMk, Bool.and_eq_true, beq_iff_eq] at hl
    obtain ⟨rfl, rfl⟩ := hl
    obtain ⟨b, en, cl, h1, h2, h3, h4⟩ := hH
    rw [hg] at h1; simp at h1; subst h1
    exact ⟨_, en, cl, rfl, hg, h2, h4, hlt, rfl⟩
  | cells n cs own => rw [ho] at hl; simp [HO.isMk] at hl
  | dead => rw [ho] at hl; simp [HO.isMk] at hl

theorem tup_two {v1 v2 : Value} {x1 x2 : AV} (h1 : RV g.Φ g.γ v1 x1) (h2 : RV g.Φ g.γ v2 x2) : RV g.Φ g.γ (.tuple #[v1, v2]) (.tp [x1, x2]) := by
  refine .tp _ _ rfl (fun i hi => ?_)
  match i, hi with
  | 0, _ => exact h1
  | 1, _ => exact h2
theorem still_look {x i : Src} {kk : IntKind} {zero : List AV} {h : LSh} {ok : Bool} (R : Rel fr pu g s a w) (hc : okOp Pg o.op o.type (.look x i kk zero h ok) = true) (hg : Good (evS Γ (.look x i kk zero h ok) s)) :
    Still Pg fr o (evS Γ (.look x i kk zero h ok) s).r.x (evS Γ (.look x i kk zero h ok) s).r.k g s a w := by
  simp only [okOp] at hc
  split at hc <;> try (simp at hc; done)
  rename_i t u v ok' ho
  simp only [Bool.and_eq_true, beq_iff_eq] at hc
  obtain ⟨⟨⟨rfl, h1⟩, h2⟩, h3⟩ := hc
  split at h3 <;> try (simp at h3; done)
  rename_i k e he
  simp only [Bool.and_eq_true] at h3
  obtain ⟨⟨⟨h3, h4⟩, h5⟩, h6⟩ := h3
  obtain ⟨hb, hs⟩ := hg
  simp [evS, ev, P.opnds, rg, nth_0, nth_S, oksOf, P.rdH] at hb hs
  obtain ⟨hb1, hb2, hb3, hb4⟩ := hb
  obtain ⟨r, es, cl, hu, _, hr, hes, _⟩ := (src_ok R h1 hs.1).mapObj R hb1 hb2
  have hv := (src_ok R h2 hs.2).int hb3
  obtain ⟨it, zv, hi, hz, hsz, hzr⟩ := tyZero_spec (g := g) h4
  have hl := run_look (Pg := Pg) (w := w) ho he (tyInt_spec h3) hi hz hu hv hr hes
  have hx : (evS Γ (.look x i kk zero h ok') s).r.x = (match (generalizing := false) ok' with
    | true => .tp [h.read h.sz (optD (findE (envGet s.env i).x.num (obj s.H (envGet s.env x).x.hpL).es) zero) 0, .b (optB (findE (envGet s.env i).x.num (obj s.H (envGet s.env x).x.hpL).es))]
    | false => h.read h.sz (optD (findE (envGet s.env i).x.num (obj s.H (envGet s.env x).x.hpL).es) zero) 0) := rfl
  rw [hx]
  have hk : (evS Γ (.look x i kk zero h ok') s).r.k = .glob := rfl
  rw [hk]
  have rd : ∀ c : List AV, h.can h.sz c 0 = true → (match h with | .one _ => c.length = 1 → ∀ val, RV g.Φ g.γ val (c.getD 0 .junk) → RV g.Φ g.γ val (h.read h.sz c 0) | .agg _ => h.read h.sz c 0 = .ag c) := by
    intro c hc
    cases h with
    | one sh =>
      intro hl val hval
      simp only [LSh.can, Bool.and_eq_true, decide_eq_true_eq] at hc
      simp only [LSh.read, nth_eq] at hc ⊢
      rw [nf_spec hc.2]; exact hval
    | agg m => simp [LSh.read, LSh.sz]
  cases hf : findE (envGet s.env i).x.num (obj s.H (envGet s.env x).x.hpL).es with
  | none =>
    rw [hf] at hl
    simp only at hl
    rw [hf] at hb4
    have hrz : RV g.Φ g.γ zv (h.read h.sz zero 0) := by
      have hr0 := rd zero hb4
      unfold tyZeroK at h6
      rw [hi] at h6
      simp only [hz] at h6
      cases h with
      | one sh =>
        simp only [okL, Bool.and_eq_true] at h5
        obtain ⟨it', hi', hs'⟩ := tySize_spec h5.2.1
        rw [hi] at hi'; simp at hi'; subst hi'
        refine hr0 (by omega) zv ?_
        have hc0 := hzr.2 0 (by omega)
        have hcs : zv.cells = #[zv] := by cases zv <;> first | rfl | simp at h6
        rw [hcs] at hc0
        exact hc0.1
      | agg m =>
        have hr0' : (LSh.agg m).read (LSh.agg m).sz zero 0 = .ag zero := hr0
        rw [hr0']
        cases zv <;> simp at h6
        rename_i cs
        exact .ag _ _ hzr.1 (fun i hi => (hzr.2 i hi).1) (fun i hi => (hzr.2 i hi).2)
    refine .val R.inv hl (fun c => ?_)
    cases ok'
    · exact hrz
    · exact tup_two hrz (.b _)
  | some c' =>
    rw [hf] at hl
    obtain ⟨en, hm, hl⟩ := hl
    rw [hf] at hb4
    have hrz : RV g.Φ g.γ en.val (h.read h.sz c' 0) := by
      have hr0 := rd c' hb4
      cases h with
      | one sh => exact hr0 hm.2.1 _ hm.2.2.2
      | agg m =>
        have hr0' : (LSh.agg m).read (LSh.agg m).sz c' 0 = .ag c' := hr0
        rw [hr0']; exact hm.2
    refine .val R.inv hl (fun c => ?_)
    cases ok'
    · exact hrz
    · exact tup_two hrz (.b _)
end
end Go.Proofs.DenT
end
section
namespace Go.Proofs.DenT
set_option linter.unusedVariables false
set_option linter.unusedSimpArgs false
open Go
section
variable {Pg : Program} {fr : Fr} {pu : Bool} {g : Gh} {s : St} {a : Act} {w : World} {Γ : Env} {o : Oper}
/-- Bytes of cells: the text. -/
theorem bytes_ok {es : List (List AV)} {vs : List Value} (hl : vs.length = es.length) (hb : isAllBytes es = true) (hn : ∀ i, i < es.length → (es.getD i []).length = 1)
    (hr : ∀ i, i < es.length → RV g.Φ g.γ (vs.getD i undef) ((es.getD i []).getD 0 .junk)) : vs.all isByte = true ∧ (⟨(vs.map byteOf).toArray⟩ : ByteArray) = strOf es := by
  induction es generalizing vs with
  | nil => cases vs <;> simp at hl; exact ⟨rfl, rfl⟩
  | cons e es ih =>
    cases vs with
    | nil => simp at hl
    | cons v vs =>
      simp only [isAllBytes, List.all_cons, Bool.and_eq_true] at hb
      obtain ⟨i1, i2⟩ := ih (vs := vs) (by simpa using hl) hb.2 (fun i hi => by simpa using hn (i + 1) (by simpa using hi)) (fun i hi => by simpa using hr (i + 1) (by simpa using hi))
      have h0 : e.length = 1 := by simpa using hn 0 (by simp)
      have r0 := hr 0 (by simp)
      simp only [List.getD_cons_zero] at r0
      cases e with
      | nil => simp at h0
      | cons x e =>
        simp only [List.headD_cons, List.getD_cons_zero] at hb r0
        have ex := isI_spec hb.1
        rw [ex] at r0
        cases v <;> cases r0
        refine ⟨by simp [isByte, i1], ?_⟩
        have : (ByteArray.mk (vs.map byteOf).toArray).data.toList = (strOf es).data.toList := by rw [i2]
        simp [strOf] at this
        simp [strOf, byteOf, this]
theorem still_b2s {x : Src} (R : Rel fr pu g s a w) (hc : okOp Pg o.op o.type (.b2s x) = true) (hg : Good (evS Γ (.b2s x) s)) :
    Still Pg fr o (evS Γ (.b2s x) s).r.x (evS Γ (.b2s x) s).r.k g s a w := by
  simp only [okOp] at hc
  split at hc <;> try (simp at hc; done)
  rename_i s0 d u ho
  simp only [Bool.and_eq_true] at hc
  obtain ⟨h1, h2⟩ := hc
  split at h1 <;> try (simp at h1; done)
  rename_i e hs0 hd0
  have he := tyInt_spec h1
  obtain ⟨hb, hs⟩ := hg
  simp [evS, ev, P.opnds, rg, nth_0, nth_S, oksOf] at hb hs
  have hk := src_ok R h2 hs
  have hr := hk.rvX (by rw [isSl_spec hb.1]; rfl)
  rw [isSl_spec hb.1] at hr
  have hx : (evS Γ (.b2s x) s).r.x = .s (strOf (envGet s.env x).x.els) := rfl
  rw [hx]
  have hall := hb.2
  generalize hes : (envGet s.env x).x.els = es at *
  generalize hv : a.eval u = v at hr
  cases hr with
  | nsl ao =>
    cases ao with
    | none => exact .val R.inv (run_b2s_nil ho hs0 hd0 he hv) (fun c => .s _)
    | some ad =>
      have h := run_bytesToString (P := Pg) w ad 0 0 [] (by simp [loadCells, loadCellsFrom])
      have h4 := run_convert_bytes_string (P := Pg) w s0 d e (some ad) 0 0 hs0 he hd0
      refine .val R.inv (v := .string ByteArray.empty) ?_ (fun c => .s _)
      simp [execOp, ho, hv, h4, h]
  | sl bl o1 len cap sz es vs hl hcap hn hc hr ha =>
    have hlen : ((List.range es.length).map fun i => vs i 0).length = es.length := by simp
    obtain ⟨q1, q2⟩ := bytes_ok (g := g) (vs := (List.range es.length).map fun i => vs i 0) hlen hall (fun i hi => hn i (by omega)) (fun i hi => by
      have : ((List.range es.length).map fun i => vs i 0).getD i undef = vs i 0 := by simp [List.getD_eq_getElem?_getD, hi]
      rw [this]; exact hr i 0 (by omega) (by omega))
    have := run_b2s (Pg := Pg) (w := w) (vs := (List.range es.length).map fun i => vs i 0) ho hs0 hd0 he hv (by simp [hl]) (fun j v hj => by
      have hjl : j < es.length := by
        rcases Nat.lt_or_ge j es.length with q | q
        · exact q
        · rw [List.getElem?_eq_none (by simpa using q)] at hj; simp at hj
      simp [hjl] at hj
      subst hj
      have := R.inv.agree _ _ _ (hc j 0 (by omega) (by omega))
      simpa using this) q1
    rw [q2] at this
    exact .val R.inv this (fun c => .s _)
/-- What a view shows. -/
theorem KR.view_at {c : Lc} {v : Value} {k : Kd} {x : AV} (h : KR g (lives s.loc) c v k x) (R : Rel fr pu g s a w) (hx : seenB s.loc x = true) :
    ∃ (b o cap : Nat) (vs : Nat → Value), v = .slice (some ⟨b, o, none⟩) x.lvN cap ∧ x.lvN ≤ cap ∧ b = g.lam x.lvJ ∧ (0 < x.lvN → o = x.lvO) ∧
      (seen s.loc x).length = x.lvN ∧ (∀ i, i < x.lvN → ((seen s.loc x).getD i []).length = x.lvZ) ∧
      ∀ i j, i < x.lvN → j < x.lvZ → ∃ v, w.cell? ⟨b, o + i * x.lvZ + j, none⟩ = some v ∧ RV g.Φ g.γ v (((seen s.loc x).getD i []).getD j .junk) ∧ (((seen s.loc x).getD i []).getD j .junk).atom = true := by
  simp only [seenB, Bool.and_eq_true, decide_eq_true_eq] at hx
  obtain ⟨⟨h1, h2⟩, h3⟩ := hx
  cases x <;> simp [AV.isLv] at h1
  rename_i j off n sz
  simp only [AV.lvJ, AV.lvO, AV.lvN, AV.lvZ] at *
  rw [nth_eq] at h2 h3
  have hl : LocR g (lives s.loc) v (.lv j off n sz) := by
    cases k with
    | loc => exact h
    | glob => cases h
    | own => cases h.1
    | nils l => cases h.1
  obtain ⟨l1, o1, cap, l2, l3, l4⟩ := hl
  have hL := R.locs j h2
  obtain ⟨r1, r2⟩ := rows_spec sz (s.loc.getD j LO.dead).cs n off
  have es : seen s.loc (.lv j off n sz) = rows sz (s.loc.getD j LO.dead).cs off n := by simp only [seen, AV.lvJ, AV.lvO, AV.lvN, AV.lvZ, nth_eq]
  rw [es]
  refine ⟨_, o1, cap, fun _ => undef, l2, l3, rfl, l4, r1, fun i hi => by rw [r2 i hi]; exact (sub_spec _ _ _).1, fun i jj hi hj => ?_⟩
  have hidx : off + i * sz + jj < (s.loc.getD j LO.dead).n := by
    have : (i + 1) * sz ≤ n * sz := Nat.mul_le_mul_right _ hi
    rw [Nat.add_mul] at this; omega
  obtain ⟨v, q1, q2, q3, q4⟩ := hL.2.1 _ hidx
  rw [l4 (by omega), r2 i hi, (sub_spec _ _ _).2 jj hj]
  exact ⟨v, q1, q3, q2⟩
theorem still_b2sV {x : Src} (R : Rel fr pu g s a w) (hc : okOp Pg o.op o.type (.b2sV x) = true) (hg : Good (evS Γ (.b2sV x) s)) :
    Still Pg fr o (evS Γ (.b2sV x) s).r.x (evS Γ (.b2sV x) s).r.k g s a w := by
  simp only [okOp] at hc
  split at hc <;> try (simp at hc; done)
  rename_i s0 d u ho
  simp only [Bool.and_eq_true] at hc
  obtain ⟨h1, h2⟩ := hc
  split at h1 <;> try (simp at h1; done)
  rename_i e hs0 hd0
  have he := tyInt_spec h1
  obtain ⟨hb, hs⟩ := hg
  have e1 : (evS Γ (.b2sV x) s).bs = [seenB s.loc (envGet s.env x).x, (envGet s.env x).x.lvZ == 1, isAllBytes (seen s.loc (envGet s.env x).x)] := rfl
  rw [e1] at hb
  have b1 := hb _ (List.mem_cons_self)
  have b2 := hb _ (List.mem_cons_of_mem _ List.mem_cons_self)
  have b3 := hb _ (List.mem_cons_of_mem _ (List.mem_cons_of_mem _ List.mem_cons_self))
  have hs' : (envGet s.env x).ok.sat := hs _ (by simp [evS, ev, P.opnds, oksOf])
  obtain ⟨b, o1, cap, _, hv, hcap, rfl, hoff, hlen, hrow, hcell⟩ := (src_ok R h2 hs').view_at R b1
  have hz : (envGet s.env x).x.lvZ = 1 := by simpa using b2
  rw [hz] at hrow hcell
  have hx : (evS Γ (.b2sV x) s).r.x = .s (strOf (seen s.loc (envGet s.env x).x)) := rfl
  rw [hx]
  generalize seen s.loc (envGet s.env x).x = es at *
  have hcv : ∀ i : Nat, ∃ v, i < es.length → w.cell? ⟨g.lam (envGet s.env x).x.lvJ, o1 + i, none⟩ = some v ∧ RV g.Φ g.γ v ((es.getD i []).getD 0 .junk) := by
    intro i
    by_cases hi : i < es.length
    · obtain ⟨v, q1, q2, q3⟩ := hcell i 0 (by omega) (by omega)
      exact ⟨v, fun _ => ⟨by simpa using q1, q2⟩⟩
    · exact ⟨undef, fun q => absurd q hi⟩
  obtain ⟨V, hV⟩ := Classical.axiomOfChoice hcv
  have gV : ∀ i, i < es.length → ((List.range es.length).map V).getD i undef = V i := fun i hi => by simp [List.getD_eq_getElem?_getD, hi]
  obtain ⟨q1, q2⟩ := bytes_ok (g := g) (es := es) (vs := (List.range es.length).map V) (by simp) b3 (fun i hi => hrow i (by omega)) (fun i hi => by rw [gV i hi]; exact (hV i hi).2)
  have := run_b2s (Pg := Pg) (w := w) (vs := (List.range es.length).map V) ho hs0 hd0 he hv (by simp [hlen]) (fun j v hj => by
    have hjl : j < es.length := by
      rcases Nat.lt_or_ge j es.length with q | q
      · exact q
      · rw [List.getElem?_eq_none (by simpa using q)] at hj; simp at hj
    simp [hjl] at hj
    subst hj
    exact (hV j hjl).1) q1
  rw [q2] at this
  exact .val R.inv this (fun c => .s _)
end
end Go.Proofs.DenT
end
section
/-! Operations that make a block. -/
namespace Go.Proofs.DenT
set_option linter.unusedVariables false
set_option linter.unusedSimpArgs false
open Go

theorem NewBlk.cell_new {w w' : World} {arr : Array Value} {e : TypeId} {fz : Nat × Nat} (h : NewBlk w w' (.cells arr e fz)) (o : Nat) : w'.cell? ⟨w.heap.size, o, none⟩ = arr[o]? := by
  simp [World.cell?, h.heap]
theorem NewBlk.cell_old {w w' : World} {ob : Obj} (h : NewBlk w w' ob) {b o : Nat} (hb : b < w.heap.size) : w'.cell? ⟨b, o, none⟩ = w.cell? ⟨b, o, none⟩ := by
  simp only [World.cell?, h.heap, Array.getElem?_push, if_neg (show ¬ b = w.heap.size by omega)]
/-- The new block's first cells turn no more. -/
def Gh.imm (g : Gh) (b n : Nat) (arr : Array Value) : Gh := { g with Φ := fun b' o => if b' = b ∧ o < n then arr[o]? else g.Φ b' o }
theorem Inv.imm {fr : Fr} {g : Gh} {w w' : World} {arr : Array Value} {e : TypeId} {fz : Nat × Nat} (I : Inv fr g w) (h : NewBlk w w' (.cells arr e fz)) (n : Nat) :
    Inv fr (g.imm w.heap.size n arr) w' ∧ Gle g (g.imm w.heap.size n arr) := by
  have hle : Gle g (g.imm w.heap.size n arr) := ⟨fun b o v hv => by
    have hb := cell_lt (I.agree b o v hv)
    simp only [Gh.imm]
    rw [if_neg (by omega)]; exact hv, fun _ _ h => h, fun _ _ h => h⟩
  have I' := I.step (c := none) (h.step (g := g))
  refine ⟨{ I' with agree := fun b o v hv => ?_, disj := fun c b m o hc ho => ?_, tab := TabQ.mono hle.Φ I.tab, Φle := fun b o v hv => hle.Φ _ _ _ (I.Φle b o v hv), Φold := fun b o v hv h0 hlt => ?_ }, hle⟩
  · simp only [Gh.imm] at hv
    split at hv
    · rename_i hq
      obtain ⟨rfl, _⟩ := hq
      rw [h.cell_new]; exact hv
    · exact I'.agree b o v hv
  · have := I.tok c b m hc
    simp only [Gh.imm]
    rw [if_neg (by omega)]
    exact I.disj c b m o hc ho
  · simp only [Gh.imm] at hv
    have := I.size
    rw [if_neg (by omega)] at hv
    exact I.Φold b o v hv h0 hlt

section
variable {Pg : Program} {fr : Fr} {pu : Bool} {g : Gh} {s : St} {a : Act} {w : World} {Γ : Env} {o : Oper}
theorem Still.new {w' : World} {arr : Array Value} {e : TypeId} {fz : Nat × Nat} (I : Inv fr g w) (h : NewBlk w w' (.cells arr e fz)) {n : Nat} {v : Value} {x : AV} {k : Kd} (hr : (execOp a.eval o).run Pg w = .ok (.value v) w')
    (hk : ∀ c, KR (g.imm w.heap.size n arr) (lives s.loc) c v k x) : Still Pg fr o x k g s a w := by
  intro K Q hK
  unfold Oper.wp
  rw [hr]
  obtain ⟨I', hle⟩ := I.imm h n
  exact hK v _ w' hle rfl rfl rfl I' h.step hk
theorem imm_at (g : Gh) (b n : Nat) (arr : Array Value) (i : Nat) (hi : i < n) (hn : n ≤ arr.size) : (g.imm b n arr).Φ b i = some (arr.getD i undef) := by
  simp only [Gh.imm]
  rw [if_pos ⟨trivial, hi⟩, Array.getElem?_eq_getElem (by omega), Array.getD_eq_getD_getElem?, Array.getElem?_eq_getElem (by omega)]; rfl
theorem still_ibox {n : Nat} {x : Src} (R : Rel fr pu g s a w) (hc : okOp Pg o.op o.type (.ibox n x) = true) (hg : Good (evS Γ (.ibox n x) s)) :
    Still Pg fr o (evS Γ (.ibox n x) s).r.x (evS Γ (.ibox n x) s).r.k g s a w := by
  simp only [okOp] at hc
  split at hc <;> try (simp at hc; done)
  rename_i t u ho
  simp only [Bool.and_eq_true, decide_eq_true_eq] at hc
  obtain ⟨⟨h1, h0⟩, h2⟩ := hc
  obtain ⟨hb, hs⟩ := hg
  simp [evS, ev, P.opnds, rg, nth_0, nth_S, oksOf] at hb hs
  have htp : (envGet s.env x).x.isTp = false := by
    cases hx : (envGet s.env x).x <;> first | rfl | (rw [hx] at hb; simp [AV.cellsOf] at hb; omega)
  have hr := RV.cellsR ((src_ok R h2 hs).rvG hb.1) htp
  have hnew := NewBlk.alloc w (.cells (a.eval u).cells t)
  refine Still.new R.inv hnew (n := n) (run_box ho) (fun c => ?_)
  show RV _ _ _ (.ip n (envGet s.env x).x.cellsOf 0)
  have hle := (R.inv.imm hnew n).2
  have hsz := hr.1
  refine .ip w.heap.size 0 n 0 _ (fun i => (a.eval u).cells.getD i undef) hb.2 (fun i hi => ?_) (fun i hi => ?_) (fun i hi => ?_)
  · rw [Nat.zero_add]; exact imm_at _ _ _ _ _ hi (by omega)
  · exact RV.le hle (hr.2 i (by omega)).1
  · exact (hr.2 i (by omega)).2
theorem bytesOf_len (m : ByteArray) : (bytesOf m).length = m.size := by simp [bytesOf]
theorem bytesOf_get (m : ByteArray) (i : Nat) (hi : i < m.size) : (bytesOf m).getD i [] = [.i .u8 (m.data.toList.getD i 0).toNat] := by
  have : m.data[i]? = some (m.data[i]'hi) := Array.getElem?_eq_getElem hi
  simp [bytesOf, List.getD_eq_getElem?_getD, this]
theorem still_s2b {x : Src} (R : Rel fr pu g s a w) (hc : okOp Pg o.op o.type (.s2b x) = true) (hg : Good (evS Γ (.s2b x) s)) :
    Still Pg fr o (evS Γ (.s2b x) s).r.x (evS Γ (.s2b x) s).r.k g s a w := by
  simp only [okOp] at hc
  split at hc <;> try (simp at hc; done)
  rename_i s0 d u ho
  simp only [Bool.and_eq_true] at hc
  obtain ⟨h1, h2⟩ := hc
  split at h1 <;> try (simp at h1; done)
  rename_i e hs0 hd0
  have he := tyInt_spec h1
  obtain ⟨hb, hs⟩ := hg
  simp [evS, ev, P.opnds, rg, nth_0, nth_S, oksOf] at hb hs
  have hu := (src_ok R h2 hs).str hb.1
  obtain ⟨cap, arr, fz, w', hr, hnew, hcap, harr⟩ := run_s2b (Pg := Pg) (w := w) ho hs0 hd0 he hu
  refine Still.new R.inv hnew (n := (envGet s.env x).x.str.size) hr (fun c => ?_)
  show RV _ _ _ (.sl 1 (bytesOf (envGet s.env x).x.str))
  have ga : ∀ i, i < (envGet s.env x).x.str.size → arr.getD i undef = .int .u8 ((envGet s.env x).x.str.data.toList.getD i 0).toNat := fun i hi => by
    rw [Array.getD_eq_getD_getElem?, harr i hi]; rfl
  have hsz : (envGet s.env x).x.str.size ≤ arr.size := by
    rcases Nat.eq_zero_or_pos (envGet s.env x).x.str.size with q | q
    · omega
    · have := harr _ (Nat.sub_lt q Nat.one_pos)
      have := (Array.getElem?_eq_some_iff.1 this).1
      omega
  refine .sl w.heap.size 0 _ cap 1 _ (fun i _ => arr.getD i undef) (bytesOf_len _) hcap (fun i hi => ?_) (fun i j hi hj => ?_) (fun i j hi hj => ?_) (fun i j hi hj => ?_)
  · rw [bytesOf_get _ _ hi]; rfl
  · have : j = 0 := by omega
    subst this
    simp only [Nat.mul_one, Nat.zero_add, Nat.add_zero]
    exact imm_at _ _ _ _ _ hi hsz
  · have : j = 0 := by omega
    subst this
    rw [bytesOf_get _ _ hi, ga i hi]; exact .i _ _
  · have : j = 0 := by omega
    subst this
    rw [bytesOf_get _ _ hi]; rfl
/-- A new row, owned. -/
theorem own_row {w' : World} {arr : Array Value} {e : TypeId} {fz : Nat × Nat} (I : Inv fr g w) (h : NewBlk w w' (.cells arr e fz)) {n sz : Nat} {es : List (List AV)} (hl : es.length = n) (hn : ∀ i, i < n → (es.getD i []).length = sz)
    (hc : ∀ i j, i < n → j < sz → ∃ v, arr[i * sz + j]? = some v ∧ CR g v ((es.getD i []).getD j .junk)) (c : Lc) :
    OwnR (g.imm w.heap.size (n * sz) arr) c (.slice (some ⟨w.heap.size, 0, none⟩) n n) (.sl sz es) := by
  have hle := (I.imm h (n * sz)).2
  have idx : ∀ i j, i < n → j < sz → i * sz + j < n * sz := by
    intro i j hi hj
    have : (i + 1) * sz ≤ n * sz := Nat.mul_le_mul_right _ hi
    rw [Nat.add_mul] at this; omega
  refine ⟨.sl w.heap.size 0 n n sz es (fun i j => arr.getD (i * sz + j) undef) hl (Nat.le_refl _) hn (fun i j hi hj => ?_) (fun i j hi hj => ?_) (fun i j hi hj => ?_), sz, es, _, n, n, rfl, rfl, .inl rfl⟩
  · obtain ⟨v, h1, h2⟩ := hc i j hi hj
    rw [Nat.zero_add]
    simp only [Gh.imm]
    rw [if_pos ⟨trivial, idx i j hi hj⟩, h1, Array.getD_eq_getD_getElem?, h1]; rfl
  · obtain ⟨v, h1, h2⟩ := hc i j hi hj
    rw [Array.getD_eq_getD_getElem?, h1]
    exact RV.le hle h2.1
  · obtain ⟨v, h1, h2⟩ := hc i j hi hj
    exact h2.2
theorem still_mks {x : Src} {ik : IntKind} {sz bytes : Nat} {z : List AV} (R : Rel fr pu g s a w) (hc : okOp Pg o.op o.type (.mks x ik sz bytes z) = true) (hg : Good (evS Γ (.mks x ik sz bytes z) s)) :
    Still Pg fr o (evS Γ (.mks x ik sz bytes z) s).r.x (evS Γ (.mks x ik sz bytes z) s).r.k g s a w := by
  simp only [okOp] at hc
  split at hc <;> try (simp at hc; done)
  rename_i t u v ho
  simp only [Bool.and_eq_true, decide_eq_true_eq] at hc
  obtain ⟨⟨⟨⟨h1, h2⟩, h3⟩, h4⟩, h5⟩ := hc
  split at h5 <;> try (simp at h5; done)
  rename_i e he
  simp only [Bool.and_eq_true] at h5
  obtain ⟨⟨h5, h6⟩, h7⟩ := h5
  obtain ⟨hb, hs⟩ := hg
  simp [evS, ev, P.opnds, rg, nth_0, nth_S, oksOf] at hb hs
  have hu := (src_ok R h1 hs).int hb.1
  have hv := (src_ok R h2 hs).int hb.1
  obtain ⟨it, zv, hi, hz, hsz, hzr⟩ := tyZero_spec (g := g) h7
  obtain ⟨i1, hi1, hi2⟩ := tySize_spec h5
  obtain ⟨i3, hi3, hi4⟩ := tyBytes_spec h6
  rw [hi] at hi1 hi3
  simp at hi1 hi3
  subst hi1; subst hi3
  obtain ⟨arr, hr, harr, hget⟩ := run_mks (Pg := Pg) (w := w) ho hu hv he hi hz hi2 hi4 (by rw [hzr.1, ← hsz, hi2]) h3 h4 hb.2.1 hb.2.2
  have hnew := NewBlk.alloc w (.cells arr e)
  refine Still.new R.inv hnew (n := (envGet s.env x).x.num.toNat * sz) hr (fun c => ?_)
  show OwnR _ _ _ (.sl sz (List.replicate (envGet s.env x).x.num.toNat z))
  have gz : ∀ i, i < (envGet s.env x).x.num.toNat → (List.replicate (envGet s.env x).x.num.toNat z).getD i [] = z := fun i hi => by simp [List.getD_eq_getElem?_getD, List.getElem?_replicate, hi]
  refine own_row R.inv hnew (by simp) (fun i hi => by rw [gz i hi]; omega) (fun i j hi hj => ?_) c
  rw [gz i hi]
  have hj' : j < zv.cells.size := by rw [hzr.1]; omega
  refine ⟨zv.cells.getD j undef, ?_, hzr.2 j (by omega)⟩
  rw [hget i j hi hj, Array.getElem?_eq_getElem hj', Array.getD_eq_getD_getElem?, Array.getElem?_eq_getElem hj']; rfl
end
end Go.Proofs.DenT
end
