import Derived.Orders
import Derived.Below
import Derived.Laws.Sem
set_option linter.all false
namespace Go.Eng
open Go Go.RowKit

inductive SV where
  | bool (b : Bool)
  | int (k : IntKind) (n : Int)
  | str (s : ByteArray)
  | ptr (id row fld : Nat)
  | nilp
  | slc (id : Nat) (w : Option (Nat × Nat × Nat)) (nl : Bool)
  | fn (f : FuncId) (caps : List (Nat × Nat × Nat))
  | nilf
  | nili
  | top

inductive AV where
  | sc (v : SV)
  | agg (l : List SV)
  | tup (l : List (Bool × List SV))

inductive ZC where
  | v (x : SV)
  | nils (elem : TypeId)

structure FI where
  off : Nat
  size : Nat
  agg : Bool

inductive Shp where
  | bool | int (k : IntKind) | str | slice (e : TypeId) | array (n : Nat) (e : TypeId) | struct (fs : List FI) | ptr | func | other

structure TI where
  size : Nat
  bytes : Nat
  agg : Bool
  zero : List ZC
  shp : Shp
  eqv : Option (List Shp)

def nth {α : Type} : List α → Nat → Option α
  | [], _ => none
  | a :: _, 0 => some a
  | _ :: l, n + 1 => nth l n

def nset {α : Type} : List α → Nat → α → List α
  | [], _, _ => []
  | _ :: l, 0, x => x :: l
  | a :: l, n + 1, x => a :: nset l n x

def splice {α : Type} : List α → Nat → List α → List α
  | l, 0, [] => l
  | [], _, _ => []
  | _ :: l, 0, x :: xs => x :: splice l 0 xs
  | a :: l, n + 1, xs => a :: splice l n xs

def seg {α : Type} (l : List α) (n k : Nat) : List α := (l.drop n).take k

structure Env where
  P : Program
  B : Type
  elt : B → TypeId
  sz : B → Nat
  cells : B → List SV
  len : B → Nat
  rowK : {α : Type} → B → Nat → (List SV → Option α) → Option α
  setK : {α : Type} → B → Nat → List SV → (B → Option α) → Option α
  appK : {α : Type} → B → B → (B → Option α) → Option α
  mkK : {α : Type} → TypeId → List (List SV) → (B → Option α) → Option α
  zeroK : {α : Type} → TypeId → Nat → (B → Option α) → Option α
  subK : {α : Type} → B → Nat → Nat → (B → Option α) → Option α
  strK : {α : Type} → B → Nat → Nat → (ByteArray → Option α) → Option α
  bytesK : {α : Type} → TypeId → ByteArray → (B → Option α) → Option α
  ovK : {α : Type} → B → Nat → B → (B → Option α) → Option α
  ty : TypeId → Option TI
  named : TypeId → Bool
  wide : FuncId → Bool

variable (E : Env)

inductive HB where
  | exp (t : Option TypeId) (l : List SV)
  | rows (b : E.B)
  | frz (b : E.B)

structure HE where
  ro : Bool
  b : HB E

abbrev Hp := List (Option (HE E))
abbrev Fr := List (Option AV)

variable {E}
def HB.cells : HB E → List SV
  | .exp _ l => l
  | .rows b => E.cells b
  | .frz b => E.cells b

def HB.frozen : HB E → Bool
  | .frz _ => true
  | _ => false

variable (E)

def constSV : Value → Option SV
  | .bool b => some (.bool b)
  | .int k n => some (.int k n)
  | .string s => some (.str s)
  | .pointer none => some .nilp
  | .nilFunc => some .nilf
  | .nilIface => some .nili
  | _ => none

def ev (F : Fr) : Operand → Option AV
  | .tmp t => (nth F t).getD none
  | .const v => (constSV v).map .sc
  | .func f => some (.sc (.fn f []))
  | .global _ => none

def avCells : AV → List SV
  | .sc v => [v]
  | .agg l => l
  | .tup _ => []

section
variable {R : Type}

def oK {α : Type} (x : Option α) (K : α → Option R) : Option R :=
  match x with
  | some a => K a
  | none => none

def scK (x : Option AV) (K : SV → Option R) : Option R :=
  match x with
  | some (.sc v) => K v
  | _ => none

def intK (x : Option AV) (K : IntKind → Int → Option R) : Option R :=
  match x with
  | some (.sc (.int k n)) => K k n
  | _ => none

def newK (H : Hp E) (b : HB E) (K : Nat → Hp E → Option R) : Option R := K H.length (H ++ [some ⟨false, b⟩])

def evK (F : Fr) (H : Hp E) (x : Operand) (t : TypeId) (K : AV → Hp E → Option R) : Option R :=
  match x with
  | .const (.slice none 0 0) =>
    match E.ty t with
    | some { shp := .slice e, .. } => E.mkK e [] fun b => newK E H (.rows b) fun id H => K (.sc (.slc id none true)) H
    | _ => none
  | x => oK (ev F x) fun v => K v H

def zeroCellsK : List ZC → Hp E → List SV → (List SV → Hp E → Option R) → Option R
  | [], H, acc, K => K acc.reverse H
  | .v x :: l, H, acc, K => zeroCellsK l H (x :: acc) K
  | .nils e :: l, H, acc, K => E.mkK e [] fun b => newK E H (.rows b) fun id H => zeroCellsK l H (.slc id none true :: acc) K

def cellsK (H : Hp E) (id row : Nat) (K : List SV → Option R) : Option R :=
  match nth H id with
  | some (some he) =>
    match he.b with
    | .exp _ l => cond (Nat.beq row 0) (K l) none
    | .rows b => E.rowK b row K
    | .frz _ => none
  | _ => none

def loadK (H : Hp E) (t : TypeId) (id row fld : Nat) (K : AV → Option R) : Option R :=
  oK (E.ty t) fun ti => cellsK E H id row fun l =>
    cond ti.agg
      (cond (Nat.ble (fld + ti.size) l.length) (K (.agg (seg l fld ti.size))) none)
      (oK (nth l fld) fun v => K (.sc v))

def storeCellsK (H : Hp E) (id row fld : Nat) (vs : List SV) (K : Hp E → Option R) : Option R :=
  match nth H id with
  | some (some he) =>
    cond he.ro none <|
    match he.b with
    | .exp t l => cond (Nat.beq row 0 && Nat.ble (fld + vs.length) l.length) (K (nset H id (some ⟨false, .exp t (splice l fld vs)⟩))) none
    | .rows b => E.rowK b row fun l => cond (Nat.ble (fld + vs.length) l.length) (E.setK b row (splice l fld vs) fun b' => K (nset H id (some ⟨false, .rows b'⟩))) none
    | .frz _ => none
  | _ => none

def aliveK (H : Hp E) (id : Nat) (x : Option R) : Option R :=
  match nth H id with
  | some (some _) => x
  | _ => none

def aliveAV (H : Hp E) : Option AV → Bool
  | some (.sc (.slc id _ _)) => match nth H id with
    | some (some _) => true
    | _ => false
  | _ => true

def rowsOf (H : Hp E) (id : Nat) (K : E.B → Option R) : Option R :=
  match nth H id with
  | some (some ⟨_, .rows b⟩) => K b
  | _ => none

def winK (H : Hp E) (id : Nat) (w : Option (Nat × Nat × Nat)) (K : E.B → Nat → Nat → Nat → Option R) : Option R :=
  rowsOf E H id fun b => match w with
  | none => K b 0 (E.len b) 0
  | some (r, n, e) => K b r n e

def rowsK (H : Hp E) (id : Nat) (w : Option (Nat × Nat × Nat)) (K : E.B → Option R) : Option R :=
  rowsOf E H id fun b => match w with
    | none => K b
    | some (r, n, _) => E.subK b r n K

def bt (s : ByteArray) (i : Nat) : Int := ((s.data.toList.getD i 0).toNat : Int)

def eqCells : List Shp → List SV → List SV → Option Bool
  | [], [], [] => some true
  | .int _ :: fs, .int k a :: l, .int k' b :: m => match eqCells fs l m with
    | some r => cond (decide (k = k')) (some ((a == b) && r)) none
    | none => none
  | .bool :: fs, .bool a :: l, .bool b :: m => match eqCells fs l m with
    | some r => some ((a == b) && r)
    | none => none
  | .str :: fs, .str a :: l, .str b :: m => match eqCells fs l m with
    | some r => some (decide (a = b) && r)
    | none => none
  | _, _, _ => none

def intBin (op : BinOp) (k : IntKind) (a b : Int) (K : SV → Option R) : Option R :=
  match op with
  | .add => K (.int k (k.wrap (a + b)))
  | .sub => K (.int k (k.wrap (a - b)))
  | .mul => K (.int k (k.wrap (a * b)))
  | .quo => cond (b == 0) none (K (.int k (k.wrap (a.tdiv b))))
  | .rem => cond (b == 0) none (K (.int k (a.tmod b)))
  | .and => K (.int k (k.wrap ((BitVec.ofInt k.bits a &&& BitVec.ofInt k.bits b).toNat)))
  | .or => K (.int k (k.wrap ((BitVec.ofInt k.bits a ||| BitVec.ofInt k.bits b).toNat)))
  | .xor => K (.int k (k.wrap ((BitVec.ofInt k.bits a ^^^ BitVec.ofInt k.bits b).toNat)))
  | .andNot => K (.int k (k.wrap ((BitVec.ofInt k.bits a &&& ~~~ BitVec.ofInt k.bits b).toNat)))
  | .eql => K (.bool (a == b))
  | .neq => K (.bool (a != b))
  | .lss => K (.bool (decide (a < b)))
  | .leq => K (.bool (decide (a ≤ b)))
  | .gtr => K (.bool (decide (a > b)))
  | .geq => K (.bool (decide (a ≥ b)))
  | _ => none

def shiftK (op : BinOp) (k : IntKind) (a b : Int) (K : SV → Option R) : Option R :=
  cond (decide (b < 0)) none <| match op with
  | .shl => K (.int k (k.wrap (a * 2 ^ (min b.toNat k.bits))))
  | .shr => K (.int k (a.fdiv (2 ^ (min b.toNat k.bits))))
  | _ => none

def isNilSlice : Operand → Bool
  | .const (.slice none _ _) => true
  | _ => false

def binK (op : BinOp) (ty : Option TI) (x y : Option AV) (yNil : Bool) (K : SV → Option R) : Option R :=
  match op, x, y with
  | .shl, some (.sc (.int k a)), some (.sc (.int _ b)) => shiftK .shl k a b K
  | .shr, some (.sc (.int k a)), some (.sc (.int _ b)) => shiftK .shr k a b K
  | op, some (.sc (.int k a)), some (.sc (.int k' b)) => cond (decide (k = k')) (intBin op k a b K) none
  | .add, some (.sc (.str a)), some (.sc (.str b)) => cond (Nat.ble (a.size + b.size) (2 ^ 63 - 1)) (K (.str (a ++ b))) none
  | .eql, some (.sc (.str a)), some (.sc (.str b)) => K (.bool (decide (a = b)))
  | .neq, some (.sc (.str a)), some (.sc (.str b)) => K (.bool (!decide (a = b)))
  | .eql, some (.sc (.bool a)), some (.sc (.bool b)) => oK ty fun ti => match ti.shp with
    | .bool => K (.bool (a == b))
    | _ => none
  | .neq, some (.sc (.bool a)), some (.sc (.bool b)) => oK ty fun ti => match ti.shp with
    | .bool => K (.bool (!(a == b)))
    | _ => none
  | .eql, some (.sc (.slc _ _ nl)), _ => oK ty fun ti => match ti.shp with
    | .slice _ => cond yNil (K (.bool nl)) none
    | _ => none
  | .neq, some (.sc (.slc _ _ nl)), _ => oK ty fun ti => match ti.shp with
    | .slice _ => cond yNil (K (.bool (!nl))) none
    | _ => none
  | .eql, some (.agg l), some (.agg m) => oK ty fun ti => oK ti.eqv fun fs => oK (eqCells fs l m) fun r => K (.bool r)
  | .neq, some (.agg l), some (.agg m) => oK ty fun ti => oK ti.eqv fun fs => oK (eqCells fs l m) fun r => K (.bool (!r))
  | _, _, _ => none

def unK (op : UnOp) (x : Option AV) (K : SV → Option R) : Option R :=
  match op, x with
  | .neg, some (.sc (.int k n)) => intBin .sub k 0 n K
  | .xor, some (.sc (.int k n)) => intBin .xor k (if k.signed then -1 else k.max) n K
  | .not, some (.sc (.bool b)) => K (.bool (!b))
  | _, _ => none

def fillCells (fs : List FI) : List SV → List (Nat × List SV) → Option (List SV)
  | l, [] => some l
  | l, (i, vs) :: rest =>
    match nth fs i with
    | some f => cond (Nat.beq vs.length f.size && Nat.ble (f.off + vs.length) l.length) (fillCells fs (splice l f.off vs) rest) none
    | none => none

def arrFI (size : Nat) : Nat → Nat → List FI
  | _, 0 => []
  | i, n + 1 => ⟨i * size, size, false⟩ :: arrFI size (i + 1) n

def partsOf (F : Fr) : List (Nat × Operand) → Option (List (Nat × List SV))
  | [] => some []
  | (i, x) :: l => match ev F x, partsOf F l with
    | some (.tup _), _ => none
    | some v, some r => some ((i, avCells v) :: r)
    | _, _ => none

def litRows : List (List SV) → List (Nat × List SV) → List (List SV)
  | rows, [] => rows
  | rows, (i, vs) :: l => litRows (nset rows i vs) l

def plainZero : List ZC → Option (List SV)
  | [] => some []
  | .v x :: l => match plainZero l with
    | some r => some (x :: r)
    | none => none
  | .nils _ :: _ => none

def maxRoom : Nat := 2 ^ 47

def strSlice (s : ByteArray) (lo hi : Option Int) (K : ByteArray → Option R) : Option R :=
  cond (decide (0 ≤ lo.getD 0) && decide (lo.getD 0 ≤ hi.getD s.size) && decide (hi.getD s.size ≤ s.size)) (K (s.extract (lo.getD 0).toNat (hi.getD s.size).toNat)) none

def optInt (F : Fr) : Option Operand → Option (Option Int)
  | none => some none
  | some x => match ev F x with
    | some (.sc (.int _ n)) => some (some n)
    | _ => none

abbrev Orc := ∀ {R : Type}, FuncId → List AV → Hp E → (AV → Hp E → Option R) → Option R

end

section
variable {R : Type}

structure Hand where
  id : Nat
  w : Option (Nat × Nat × Nat)

def handAt (h : Nat) : List Hand → Nat → Option Nat
  | [], _ => none
  | x :: l, i => cond (Nat.beq x.id h && x.w.isNone) (some i) (handAt h l (i + 1))

def handId (id : Nat) (hs : List Hand) : Nat × List Hand :=
  match handAt id hs 0 with
  | some j => (j, hs)
  | none => (hs.length, hs ++ [⟨id, none⟩])

def handCaps : List (Nat × Nat × Nat) → List Hand → List (Nat × Nat × Nat) × List Hand
  | [], hs => ([], hs)
  | (id, row, fld) :: l, hs =>
    let a := handId id hs
    let b := handCaps l a.2
    ((a.1, row, fld) :: b.1, b.2)

def handSV (wd : Bool) (v : SV) (hs : List Hand) : SV × List Hand :=
  match v with
  | .ptr id row fld => let a := handId id hs; (.ptr a.1 row fld, a.2)
  | .slc id none nl => let a := handId id hs; (.slc a.1 none nl, a.2)
  | .slc id (some w) nl => cond wd (let a := handId id hs; (.slc a.1 (some w) nl, a.2)) (.slc hs.length none nl, hs ++ [⟨id, some w⟩])
  | .fn f caps => let a := handCaps caps hs; (.fn f a.1, a.2)
  | v => (v, hs)

def handSVs (wd : Bool) : List SV → List Hand → List SV × List Hand
  | [], hs => ([], hs)
  | v :: l, hs =>
    let a := handSV wd v hs
    let b := handSVs wd l a.2
    (a.1 :: b.1, b.2)

def handAV (wd : Bool) (v : AV) (hs : List Hand) : Option (AV × List Hand) :=
  match v with
  | .sc v => let a := handSV wd v hs; some (.sc a.1, a.2)
  | .agg l => let a := handSVs wd l hs; some (.agg a.1, a.2)
  | .tup _ => none

def handAVs (wd : Bool) : List AV → List Hand → Option (List AV × List Hand)
  | [], hs => some ([], hs)
  | v :: l, hs => match handAV wd v hs with
    | none => none
    | some a => match handAVs wd l a.2 with
      | none => none
      | some b => some (a.1 :: b.1, b.2)

def packK (wd : Bool) (H : Hp E) (fro : Bool) : Nat → Nat → List Hand → Hp E → (List Hand → Hp E → Option R) → Option R
  | 0, _, _, _, _ => none
  | fuel + 1, j, hs, acc, K =>
    match nth hs j with
    | none => K hs acc
    | some h => match nth H h.id with
      | some none => packK wd H fro fuel (j + 1) hs (acc ++ [none]) K
      | some (some he) => match h.w, he.b with
        | none, .exp t l =>
          let a := handSVs wd l hs
          packK wd H fro fuel (j + 1) a.2 (acc ++ [some ⟨fro || he.ro, .exp t a.1⟩]) K
        | none, .rows b => packK wd H fro fuel (j + 1) hs (acc ++ [some ⟨fro || he.ro, .rows b⟩]) K
        | none, .frz b => packK wd H fro fuel (j + 1) hs (acc ++ [some ⟨fro || he.ro, .frz b⟩]) K
        | some (r, n, _), .rows b => E.subK b r n fun b' => packK wd H fro fuel (j + 1) hs (acc ++ [some ⟨true, .rows b'⟩]) K
        | some _, .exp _ _ => none
        | some _, .frz _ => none
      | none => none

def handsOk (H : Hp E) (fro : Bool) (hs : List Hand) : Bool :=
  fro || hs.all fun h => h.w.isNone || hs.all fun g => !(Nat.beq g.id h.id && g.w.isNone) || (match nth H h.id with | some (some he) => he.ro | _ => true)

def backSV (hs : List Hand) (m n : Nat) (v : SV) : SV :=
  match v with
  | .ptr j row fld => cond (Nat.ble m j) (.ptr (n + (j - m)) row fld) <| match nth hs j with
    | some ⟨id, none⟩ => .ptr id row fld
    | _ => .top
  | .slc j w nl => cond (Nat.ble m j) (.slc (n + (j - m)) w nl) <| match nth hs j with
    | some ⟨id, none⟩ => .slc id w nl
    | _ => .top
  | .fn f caps => cond (caps.all fun c => Nat.ble m c.1 || (match nth hs c.1 with | some ⟨_, none⟩ => true | _ => false))
      (.fn f (caps.map fun c => (cond (Nat.ble m c.1) (n + (c.1 - m)) (((nth hs c.1).map (·.id)).getD 0), c.2))) .top
  | v => v

def mapAV (f : SV → SV) : AV → AV
  | .sc v => .sc (f v)
  | .agg l => .agg (l.map f)
  | .tup l => .tup (l.map fun x => (x.1, x.2.map f))

def mapHE (f : SV → SV) (he : HE E) : HE E :=
  match he.b with
  | .exp t l => ⟨he.ro, .exp t (l.map f)⟩
  | .rows b => ⟨he.ro, .rows b⟩
  | .frz b => ⟨he.ro, .frz b⟩

def backL {α β : Type} (upd : Hand → Bool) (g : α → β) : List Hand → List α → List β → List β
  | [], xs, l => l ++ xs.map g
  | h :: hs, x :: xs, l => backL upd g hs xs (cond (upd h) (nset l h.id (g x)) l)
  | _ :: _, [], l => l

def wrB (H : Hp E) (fro : Bool) (h : Hand) : Bool := !fro && h.w.isNone && (match nth H h.id with | some (some he) => !he.ro | _ => false)

def callK (O : Orc E) (fro : Bool) (H : Hp E) (f : FuncId) (args : List AV) (K : AV → Hp E → Option R) : Option R :=
  match handAVs (E.wide f) args [] with
  | none => none
  | some (args', hs) => packK E (E.wide f) H fro 50 0 hs [] fun hs Hc =>
    cond (handsOk E H fro hs)
      (O f args' Hc fun v H' => K (mapAV (backSV hs hs.length H.length) v) (backL (wrB E H fro) (Option.map (mapHE E (backSV hs hs.length H.length))) hs H' H)) none

def argsK (F : Fr) (tys : List TypeId) : List Operand → Hp E → List AV → (List AV → Hp E → Option R) → Option R
  | [], H, acc, K => K acc.reverse H
  | x :: l, H, acc, K => evK E F H x (tys.headD 0) fun v H => argsK F tys.tail l H (v :: acc) K

def capAVs (caps : List (Nat × Nat × Nat)) : List AV := caps.map fun c => .sc (.ptr c.1 c.2.1 c.2.2)

def ptrsOf : List AV → Option (List (Nat × Nat × Nat))
  | [] => some []
  | .sc (.ptr a b c) :: l => (ptrsOf l).map ((a, b, c) :: ·)
  | _ => none

def evs (F : Fr) : List Operand → Option (List AV)
  | [] => some []
  | x :: l => match ev F x, evs F l with
    | some v, some r => some (v :: r)
    | _, _ => none

def srcK (H : Hp E) (e : TypeId) (x : Option AV) (K : E.B → Option R) : Option R :=
  match x with
  | some (.sc (.slc id w _)) => rowsK E H id w K
  | some (.sc (.str s)) => E.bytesK e s K
  | _ => none

def ovHK (H : Hp E) (id i : Nat) (b : E.B) (K : Hp E → Option R) : Option R :=
  match nth H id with
  | some (some ⟨false, .rows a⟩) => E.ovK a i b fun a' => K (nset H id (some ⟨false, .rows a'⟩))
  | _ => none

def roomOk (n bytes : Nat) : Bool := Nat.ble n (2 ^ 47) && Nat.ble (n * bytes) (2 ^ 47)

def appendK (H : Hp E) (e : TypeId) (size bytes : Nat) (s x : Option AV) (K : AV → Hp E → Option R) : Option R :=
  match s with
  | some (.sc (.slc id w nl)) =>
    srcK E H e x fun b => match w with
    | none => rowsOf E H id fun a => cond (match nth H id with | some (some he) => he.ro | _ => true) none <|
        cond (Nat.beq size (E.sz a) && Nat.beq e (E.elt a) && roomOk (E.len a + E.len b) bytes) (E.appK a b fun c => newK E (nset H id none) (.rows c) fun j H => K (.sc (.slc j none (cond (Nat.beq (E.len b) 0) nl false))) H) none
    | some (i, n, ex) => rowsOf E H id fun a => cond (Nat.beq size (E.sz a) && Nat.beq e (E.elt a) && Nat.ble (E.len b) ex) (ovHK E H id (i + n) b fun H => K (.sc (.slc id (some (i, n + E.len b, ex - E.len b)) nl)) H) none
  | _ => none

def copyK (H : Hp E) (e : TypeId) (id : Nat) (w : Option (Nat × Nat × Nat)) (x : Option AV) (K : AV → Hp E → Option R) : Option R :=
  srcK E H e x fun b => winK E H id w fun a r n _ => cond (Nat.beq e (E.elt a) && Nat.ble (E.len b) n) (ovHK E H id r b fun H => K (.sc (.int .i64 (E.len b : Nat))) H) none

def minMaxGo (mx : Bool) (k : IntKind) : Int → List AV → Option SV
  | a, [] => some (.int k a)
  | a, .sc (.int _ b) :: l => minMaxGo mx k (if (cond mx (decide (b > a)) (decide (b < a))) then b else a) l
  | _, _ => none

def minMax (mx : Bool) : List AV → Option SV
  | .sc (.int k a) :: l => minMaxGo mx k a l
  | _ => none

def expWin (H : Hp E) (id : Nat) (w : Option (Nat × Nat × Nat)) : Option Nat :=
  match nth H id, w with
  | some (some ⟨_, .exp _ _⟩), some (0, k, _) => some k
  | _, _ => none

def builtinK (b : Builtin) (tys : List TypeId) (H : Hp E) (args : List AV) (K : AV → Hp E → Option R) : Option R :=
  match b, tys, args with
  | .len, [t], [x] => oK (E.ty t) fun ti => match ti.shp, x with
    | .str, .sc (.str s) => K (.sc (.int .i64 s.size)) H
    | .slice _, .sc (.slc id w _) => match expWin E H id w with
      | some k => K (.sc (.int .i64 (k : Nat))) H
      | none => winK E H id w fun _ _ n _ => K (.sc (.int .i64 n)) H
    | _, _ => none
  | .append, [t, u], [s, x] => oK (E.ty t) fun ti => oK (E.ty u) fun tu => match ti.shp, tu.shp, x with
    | .slice e, .slice _, .sc (.slc i w n) => oK (E.ty e) fun te => appendK E H e te.size te.bytes (some s) (some (.sc (.slc i w n))) K
    | .slice e, .str, .sc (.str y) => oK (E.ty e) fun te => appendK E H e te.size te.bytes (some s) (some (.sc (.str y))) K
    | _, _, _ => none
  | .copy, [t, u], [.sc (.slc id w nl), x] => oK (E.ty t) fun ti => oK (E.ty u) fun tu => match ti.shp, tu.shp, x with
    | .slice e, .slice _, .sc (.slc i w' n') => copyK E H e id w (some (.sc (.slc i w' n'))) K
    | .slice e, .str, .sc (.str y) => copyK E H e id w (some (.sc (.str y))) K
    | _, _, _ => none
  | .clear, [t], [.sc (.slc id w nl)] => oK (E.ty t) fun ti => match ti.shp with
    | .slice e => winK E H id w fun a r n _ => cond (Nat.beq e (E.elt a)) (E.zeroK e n fun z => ovHK E H id r z fun H => K (.tup []) H) none
    | _ => none
  | .min, _, args => oK (minMax false args) fun v => K (.sc v) H
  | .max, _, args => oK (minMax true args) fun v => K (.sc v) H
  | _, _, _ => none

def pickIx : Nat → Nat → Int → (Nat → Option R) → Option R
  | 0, _, _, _ => none
  | k + 1, i, n, K => cond (decide (n = (i : Int))) (K i) (pickIx k (i + 1) n K)

def evalOp (O : Orc E) (fro : Bool) (o : Oper) (F : Fr) (H : Hp E) (K : AV → Hp E → Option R) : Option R :=
  match o.op with
  | .move x | .assign x => evK E F H x o.type K
  | .pick c a b => match ev F c with
    | some (.sc (.bool t)) => cond t (oK (ev F a) fun v => K v H) (oK (ev F b) fun v => K v H)
    | _ => none
  | .alloc t => oK (E.ty t) fun ti => zeroCellsK E ti.zero H [] fun l H => newK E H (.exp (cond (E.named t) (some t) none) l) fun id H => K (.sc (.ptr id 0 0)) H
  | .box _ x => match ev F x with
    | some (.sc v) => newK E H (.exp none [v]) fun id H => K (.sc (.ptr id 0 0)) H
    | some (.agg l) => newK E H (.exp none l) fun id H => K (.sc (.ptr id 0 0)) H
    | _ => none
  | .build t parts => oK (E.ty t) fun ti => match ti.shp with
    | .struct fs => oK (partsOf F parts.toList) fun ps => zeroCellsK E ti.zero H [] fun l H => oK (fillCells fs l ps) fun l => K (.agg l) H
    | .array n e => oK (E.ty e) fun te => oK (partsOf F parts.toList) fun ps => zeroCellsK E ti.zero H [] fun l H => oK (fillCells (arrFI te.size 0 n) l ps) fun l => K (.agg l) H
    | _ => none
  | .buildSlice t n parts => oK (E.ty t) fun ti => match ti.shp with
    | .slice e => oK (E.ty e) fun te => oK (partsOf F parts.toList) fun ps =>
        cond (Nat.ble (n * te.size) (2 ^ 24) && ps.all fun p => Nat.blt p.1 n && Nat.beq p.2.length te.size)
          (match plainZero te.zero with
            | some z => E.mkK e (litRows (List.replicate n z) ps) fun b => newK E H (.rows b) fun id H => K (.sc (.slc id none false)) H
            | none => newK E H (.exp none (litRows (List.replicate n (List.replicate te.size .top)) ps).flatten) fun id H => K (.sc (.slc id (some (0, n, 0)) false)) H) none
    | _ => none
  | .load t x => match ev F x with
    | some (.sc (.ptr id row fld)) => loadK E H t id row fld fun v => K v H
    | _ => none
  | .store t x y => cond fro none <| match ev F x with
    | some (.sc (.ptr id row fld)) => evK E F H y t fun v H => oK (E.ty t) fun ti => match v with
      | .tup _ => none
      | v => cond (Nat.beq (avCells v).length ti.size) (storeCellsK E H id row fld (avCells v) fun H => K (.tup []) H) none
    | _ => none
  | .nilCheck x => match ev F x with
    | some (.sc (.ptr id row fld)) => aliveK E H id (K (.sc (.ptr id row fld)) H)
    | some (.sc (.fn f caps)) => K (.sc (.fn f caps)) H
    | _ => none
  | .binOp op t x y _ => cond (aliveAV E H (ev F x)) (binK op (E.ty t) (ev F x) (ev F y) (isNilSlice y) fun v => K (.sc v) H) none
  | .unOp op _ x => unK op (ev F x) fun v => K (.sc v) H
  | .convert src dst x => oK (E.ty src) fun ts => oK (E.ty dst) fun td => match ts.shp, td.shp, ev F x with
    | .int _, .int k, some (.sc (.int _ n)) => K (.sc (.int k (k.wrap n))) H
    | .str, .str, some (.sc (.str s)) => K (.sc (.str s)) H
    | .str, .slice e, some (.sc (.str s)) => oK (E.ty e) fun te => match te.shp with
      | .int .u8 => E.bytesK e s fun b => newK E H (.rows b) fun id H => K (.sc (.slc id none false)) H
      | _ => none
    | .slice e, .str, some (.sc (.slc id w _)) => oK (E.ty e) fun te => match te.shp with
      | .int .u8 => winK E H id w fun b r n _ => E.strK b r n fun s => K (.sc (.str s)) H
      | _ => none
    | _, _, _ => none
  | .makeSlice t l c => oK (E.ty t) fun ti => match ti.shp with
    | .slice e => oK (E.ty e) fun te => intK (ev F l) fun _ n => intK (ev F c) fun _ m =>
        cond (decide (n = m) && decide (0 ≤ n) && roomOk n.toNat te.bytes) (E.zeroK e n.toNat fun b => newK E H (.rows b) fun id H => K (.sc (.slc id none false)) H) none
    | _ => none
  | .slice t x lo hi mx => oK (E.ty t) fun ti => match mx, optInt F lo, optInt F hi with
    | none, some lo, some hi => match ti.shp, ev F x with
      | .str, some (.sc (.str s)) => strSlice s lo hi fun s => K (.sc (.str s)) H
      | .slice e, some (.sc (.slc id w nl)) => oK (E.ty e) fun te => winK E H id w fun b r n e =>
          cond (Nat.beq te.size (E.sz b) && (decide (0 ≤ lo.getD 0) && decide (lo.getD 0 ≤ hi.getD n) && decide (hi.getD n ≤ (n + e : Nat))))
            (K (.sc (.slc id (some ((lo.getD 0).toNat + r, (hi.getD n).toNat - (lo.getD 0).toNat, n + e - (hi.getD n).toNat)) nl)) H) none
      | _, _ => none
    | some mx, some lo, some hi => match ti.shp, ev F x, ev F mx with
      | .slice e, some (.sc (.slc id w nl)), some (.sc (.int _ m)) => cond hi.isSome (oK (E.ty e) fun te => winK E H id w fun b r n e =>
          cond (Nat.beq te.size (E.sz b) && (decide (0 ≤ lo.getD 0) && decide (lo.getD 0 ≤ hi.getD n) && decide (hi.getD n ≤ m) && decide (m ≤ (n + e : Nat))))
            (K (.sc (.slc id (some ((lo.getD 0).toNat + r, (hi.getD n).toNat - (lo.getD 0).toNat, m.toNat - (hi.getD n).toNat)) nl)) H) none) none
      | _, _, _ => none
    | _, _, _ => none
  | .fieldAddr t x f => oK (E.ty t) fun ti => match ti.shp, ev F x with
    | .struct fs, some (.sc (.ptr id row fld)) => aliveK E H id (oK (nth fs f) fun fi => cond (Nat.beq fi.size 0) none (K (.sc (.ptr id row (fld + fi.off))) H))
    | _, _ => none
  | .field t x f => oK (E.ty t) fun ti => match ti.shp, ev F x with
    | .struct fs, some (.agg l) => oK (nth fs f) fun fi => cond fi.agg
        (cond (Nat.ble (fi.off + fi.size) l.length) (K (.agg (seg l fi.off fi.size)) H) none)
        (oK (nth l fi.off) fun v => K (.sc v) H)
    | _, _ => none
  | .indexAddr t x i => oK (E.ty t) fun ti => intK (ev F i) fun _ n => match ti.shp, ev F x with
    | .slice e, some (.sc (.slc id w _)) => oK (E.ty e) fun te => match expWin E H id w with
      | some k => pickIx k 0 n fun i => K (.sc (.ptr id 0 (i * te.size))) H
      | none => winK E H id w fun b r k _ => cond (Nat.beq te.size (E.sz b) && (decide (0 ≤ n) && decide (n < k))) (K (.sc (.ptr id (n.toNat + r) 0)) H) none
    | .array k e, some (.sc (.ptr id row fld)) => aliveK E H id (oK (E.ty e) fun te => cond (decide (0 ≤ n) && decide (n < k)) (K (.sc (.ptr id row (fld + n.toNat * te.size))) H) none)
    | _, _ => none
  | .index t x i => oK (E.ty t) fun ti => intK (ev F i) fun _ n => match ti.shp, ev F x with
    | .str, some (.sc (.str s)) => cond (decide (0 ≤ n) && decide (n < s.size)) (K (.sc (.int .u8 (bt s n.toNat))) H) none
    | _, _ => none
  | .extract x i => match ev F x with
    | some (.tup l) => match nth l i with
      | some (true, l) => K (.agg l) H
      | some (false, [v]) => K (.sc v) H
      | _ => none
    | _ => none
  | .makeFunc (.func f) first caps => cond first.isEmpty (oK (evs F caps.toList) fun l => oK (ptrsOf l) fun c => K (.sc (.fn f c)) H) none
  | .call c => match c.callee with
    | .builtin b => argsK E F c.argTypes.toList c.args.toList H [] fun args H => builtinK E b c.argTypes.toList H args K
    | .value g => match ev F g with
      | some (.sc (.fn f caps)) => argsK E F c.argTypes.toList c.args.toList H [] fun args H => callK E O fro H f (args ++ capAVs caps) K
      | _ => none
    | _ => none
  | _ => none

inductive Ex where
  | normal
  | exit (id : Nat)
  | goto (l : Nat)
  | ret

def putK (F : Fr) (dst : Option Tmp) (v : AV) (K : Fr → Option R) : Option R :=
  match dst with
  | none => K F
  | some d => cond (Nat.blt d F.length) (K (nset F d (some v))) none

def guardK (ops : Array Oper) (F : Fr) (g : Option (Nat × Bool)) (K : Bool → Fr → Option R) : Option R :=
  match g with
  | none => K true F
  | some (j, want) =>
    match (nth ops.toList j).bind (·.dst) with
    | none => none
    | some t => match nth F t with
      | some (some (.sc (.bool b))) => cond b (K want (nset F t (some (.sc (.bool true))))) (K (!want) (nset F t (some (.sc (.bool false)))))
      | some (some (.tup [])) => K false F
      | _ => none

def pickSplit (o : Oper) (F : Fr) (K : Fr → Option R) : Option R :=
  match o.op with
  | .pick (.tmp t) _ _ => match nth F t with
    | some (some (.sc (.bool b))) => cond b (K (nset F t (some (.sc (.bool true))))) (K (nset F t (some (.sc (.bool false)))))
    | _ => none
  | _ => K F

def evalOps (O : Orc E) (fro : Bool) (ops : Array Oper) : List Oper → Fr → Hp E → (Fr → Hp E → Option R) → Option R
  | [], F, H, K => K F H
  | o :: l, F, H, K => guardK ops F o.guard fun go F =>
    cond go
      (pickSplit o F fun F => evalOp E O fro o F H fun v H => putK F o.dst v fun F => evalOps O fro ops l F H K)
      (putK F o.dst (.tup []) fun F => evalOps O fro ops l F H K)

def metIds (H : Hp E) (m : Nat) : Nat → List SV → List Nat → List Nat
  | 0, _, acc => acc
  | _, [], acc => acc
  | fuel + 1, v :: todo, acc =>
    let go (id : Nat) : List Nat :=
      cond (Nat.blt id m || acc.any (Nat.beq id)) (metIds H m fuel todo acc) <| match nth H id with
        | some (some ⟨_, .exp _ l⟩) => metIds H m fuel (l ++ todo) (acc ++ [id])
        | some (some ⟨_, .rows _⟩) => metIds H m fuel todo (acc ++ [id])
        | some (some ⟨_, .frz _⟩) => metIds H m fuel todo (acc ++ [id])
        | _ => metIds H m fuel todo acc
    match v with
    | .ptr id _ _ => go id
    | .slc id _ _ => go id
    | .fn f ((id, _, _) :: caps) => cond (Nat.blt id m || acc.any (Nat.beq id)) (metIds H m fuel (.fn f caps :: todo) acc) <| match nth H id with
        | some (some ⟨_, .exp _ l⟩) => metIds H m fuel (l ++ .fn f caps :: todo) (acc ++ [id])
        | some (some ⟨_, .rows _⟩) => metIds H m fuel (.fn f caps :: todo) (acc ++ [id])
        | some (some ⟨_, .frz _⟩) => metIds H m fuel (.fn f caps :: todo) (acc ++ [id])
        | _ => metIds H m fuel (.fn f caps :: todo) acc
    | _ => metIds H m fuel todo acc

def fuelMet : Nat := 400

def roAll (H : Hp E) : Hp E := H.map (Option.map fun he => ⟨true, he.b⟩)

def calmOp : Op → Bool
  | .move _ | .assign _ | .pick .. | .alloc _ | .box .. | .build .. | .buildSlice .. | .load .. | .nilCheck _ | .binOp .. | .unOp .. | .convert .. | .makeSlice .. | .slice .. | .fieldAddr .. | .field ..
  | .indexAddr .. | .index .. | .extract .. | .makeFunc .. => true
  | .call { callee := .builtin .append, .. } => false
  | .call { callee := .builtin .copy, .. } => false
  | .call { callee := .builtin .clear, .. } => false
  | .call _ => true
  | _ => false

def opTmps (o : Oper) : List Tmp := o.op.operands.toList.filterMap fun | .tmp t => some t | _ => none

def dstOf (ops : Array Oper) (j : Nat) : Option Tmp := (nth ops.toList j).bind (·.dst)

def looks (ops : Array Oper) (o : Oper) : List Tmp := opTmps o ++ (match o.guard with
  | some (g, _) => (dstOf ops g).toList
  | none => [])

def hasEdge (o : Oper) (i : Nat) : Bool := o.after.toList.any fun e => Nat.beq e.on i && Region.binds .any e

def clash (ops : Array Oper) (x y : Oper) : Bool :=
  (match x.dst with
   | some d => (looks ops y).any (Nat.beq d) || (match y.dst with | some e => Nat.beq d e | none => false)
   | none => false) ||
  (match y.dst with
   | some d => (looks ops x).any (Nat.beq d)
   | none => false)

def clashOk (ops : Array Oper) (x : Oper) (i : Nat) : List Oper → Bool
  | [] => true
  | y :: l => (!clash ops x y || hasEdge y i) && clashOk ops x i l

def clashAll (ops : Array Oper) : Nat → List Oper → Bool
  | _, [] => true
  | i, x :: l => clashOk ops x i l && clashAll ops (i + 1) l

def backEdges : Nat → List Oper → Bool
  | _, [] => true
  | i, o :: l => o.after.toList.all (fun e => !Region.binds .any e || Nat.blt e.on i) && backEdges (i + 1) l

def pathB (ops : Array Oper) (j : Nat) : Nat → Oper → Bool
  | 0, _ => false
  | f + 1, o => o.after.toList.any fun e => Region.binds .any e && (Nat.beq e.on j || (Nat.blt j e.on && match nth ops.toList e.on with
    | some o' => pathB ops j f o'
    | none => false))

def drawOk (ops : Array Oper) : Bool := clashAll ops 0 ops.toList && backEdges 0 ops.toList

def maskF (ts : List Tmp) : Nat → Fr → Fr
  | _, [] => []
  | i, x :: F => cond (ts.any (Nat.beq i)) x none :: maskF ts (i + 1) F

def forceBs : List Bool → (List Bool → Option R) → Option R
  | [], K => K []
  | b :: l, K => forceBs l fun l => cond b (K (true :: l)) (K (false :: l))

def visL (ids : List Nat) : Nat → Hp E → List Bool
  | _, [] => []
  | i, _ :: H => ids.any (Nat.beq i) :: visL ids (i + 1) H

def opSVs (F : Fr) (o : Oper) : List SV := (opTmps o).flatMap fun t => match nth F t with
  | some (some (.sc v)) => [v]
  | some (some (.agg l)) => l
  | some (some (.tup l)) => l.flatMap (·.2)
  | _ => []

def maskH : List Bool → List Bool → Hp E → Hp E
  | _, _, [] => []
  | wm, [], _ :: H => none :: maskH wm [] H
  | wm, b :: vs, x :: H => cond b (x.map fun he => ⟨cond (wm.headD false) he.ro true, he.b⟩) none :: maskH wm.tail vs H

def mergeK : List Bool → List Bool → Hp E → Hp E → (Hp E → Option R) → Option R
  | wm, b :: vs, x :: H, y :: H1, K => mergeK wm.tail vs H H1 fun r => cond (wm.headD false && b) (K (y :: r)) (K (x :: r))
  | _, [], [], H1, K => K H1
  | _, _, _, _, _ => none

def meets : List Bool → List Bool → Bool
  | a :: l, b :: m => (a && b) || meets l m
  | _, _ => false

def idsOk (p : Nat → Bool) : SV → Bool
  | .ptr id _ _ => p id
  | .slc id _ _ => p id
  | .fn _ caps => caps.all fun c => p c.1
  | _ => true

def cellsOf : AV → List SV
  | .sc v => [v]
  | .agg l => l
  | .tup l => l.flatMap (·.2)

def heOk (p : Nat → Bool) : Option (HE E) → Bool
  | some he => match he.b with
    | .exp _ l => l.all (idsOk p)
    | _ => true
  | none => true

def entsOk (p : Nat → Bool) : List Bool → List Bool → Hp E → Bool
  | wm, b :: vs, x :: H => (!(wm.headD false && b) || heOk E p x) && entsOk p wm.tail vs H
  | _, [], H => H.all (heOk E p)
  | _, _, [] => true

def newMask : List Bool → List Bool → Hp E → List Bool
  | wm, b :: vs, _ :: H => (wm.headD false && b) :: newMask wm.tail vs H
  | _, [], H => H.map fun _ => true
  | _, _, [] => []

def recsOk (ops : Array Oper) (o : Oper) (wm vs : List Bool) (rs : List (Nat × List Bool × List Bool)) : Bool :=
  rs.all fun r => (!(meets r.2.2 vs) && !(meets r.2.1 wm)) || pathB ops r.1 12 o

def visIn (vs : List Bool) (i : Nat) : Bool := (nth vs i).getD false || Nat.ble vs.length i

def svOf (F : Fr) (x : Operand) : List SV := match x with
  | .tmp t => match nth F t with
    | some (some (.sc v)) => [v]
    | _ => []
  | _ => []

def wrSVs (F : Fr) : Op → Option (List SV)
  | .store _ x _ => some (svOf F x)
  | .call c => match c.callee with
    | .builtin _ => match c.args.toList with
      | x :: _ => some (svOf F x)
      | [] => none
    | _ => none
  | _ => none

def ownIds : List SV → List Nat
  | [] => []
  | .ptr id _ _ :: l => id :: ownIds l
  | .slc id _ _ :: l => id :: ownIds l
  | _ :: l => ownIds l

def moveV (o : Oper) (F : Fr) : Option AV := match o.op with
  | .move (.tmp t) | .assign (.tmp t) => match nth F t with
    | some x => x
    | none => none
  | _ => none

def evalD1 (O : Orc E) (ops : Array Oper) (fro : Bool) (o : Oper) (k : Nat) (rs : List (Nat × List Bool × List Bool)) (wm vs : List Bool) (F : Fr) (H : Hp E) (K : List (Nat × List Bool × List Bool) → Fr → Hp E → Option R) : Option R :=
  cond (recsOk ops o wm vs rs)
    (evalOp E O fro o (maskF (looks ops o) 0 F) (maskH E wm vs H) fun v H1 => cond ((cellsOf v).all (idsOk (visIn vs)) && entsOk E (visIn vs) wm vs H1)
      (forceBs (newMask E wm vs H1) fun wn => mergeK E wm vs H H1 fun H' => putK F o.dst v fun F => K ((k, vs, wn) :: rs) F H') none) none

def evalD (O : Orc E) (ops : Array Oper) (ws : List Nat) : List Oper → Nat → List (Nat × List Bool × List Bool) → Fr → Hp E → (Fr → Hp E → Option R) → Option R
  | [], _, _, F, H, K => K F H
  | o :: l, k, rs, F, H, K => guardK ops F o.guard fun go F =>
    cond go
      (match moveV o F with
       | some v => putK F o.dst v fun F => evalD O ops ws l (k + 1) rs F H K
       | none => pickSplit o F fun F => forceBs (visL E (metIds E H 0 fuelMet (opSVs F o) []) 0 H) fun vs =>
        cond (calmOp o.op)
          (cond (ws.any (Nat.beq k))
            (evalD1 E O ops false o k rs vs vs F H fun rs F H => evalD O ops ws l (k + 1) rs F H K)
            (evalD1 E O ops true o k rs [] vs F H fun rs F H => evalD O ops ws l (k + 1) rs F H K))
          (match wrSVs F o.op with
            | some svs => forceBs (visL E (ownIds svs) 0 H) fun wm => evalD1 E O ops false o k rs wm vs F H fun rs F H => evalD O ops ws l (k + 1) rs F H K
            | none => evalD1 E O ops false o k rs vs vs F H fun rs F H => evalD O ops ws l (k + 1) rs F H K))
      (putK F o.dst (.tup []) fun F => evalD O ops ws l (k + 1) rs F H K)

def evalDraw (O : Orc E) (ws : List Nat) (ops : Array Oper) (F : Fr) (H : Hp E) (K : Fr → Hp E → Option R) : Option R :=
  cond (drawOk ops) (evalD E O ops ws ops.toList 0 [] F H K) none

abbrev Lps := ∀ {R : Type}, Nat → Fr → Hp E → (Ex → Fr → Hp E → Option R) → Option R

def condK (c : Operand) (F : Fr) (K : Bool → Fr → Option R) : Option R :=
  match c with
  | .tmp t => match nth F t with
    | some (some (.sc (.bool b))) => cond b (K true (nset F t (some (.sc (.bool true))))) (K false (nset F t (some (.sc (.bool false)))))
    | _ => none
  | .const (.bool b) => K b F
  | _ => none

inductive Kd where
  | b
  | i (k : IntKind)
  | s

abbrev Kd.T : Kd → Type
  | .b => Bool
  | .i _ => Int
  | .s => ByteArray

def Kd.sv : (k : Kd) → k.T → SV
  | .b, x => .bool x
  | .i k, x => .int k x
  | .s, x => .str x

def Kd.pick (F : Fr) (t : Tmp) : (k : Kd) → Option k.T
  | .b => match nth F t with
    | some (some (.sc (.bool z))) => some z
    | _ => none
  | .i k => match nth F t with
    | some (some (.sc (.int k' n))) => cond (decide (k = k')) (some n) none
    | _ => none
  | .s => match nth F t with
    | some (some (.sc (.str z))) => some z
    | _ => none

def JV1 (k : Kd) : List (Tmp × Kd) → Type
  | [] => k.T
  | d :: ds => k.T × JV1 d.2 ds

def JV : List (Tmp × Kd) → Type
  | [] => Unit
  | d :: ds => JV1 d.2 ds

def pickJ1 (F : Fr) (t : Tmp) (k : Kd) : (ds : List (Tmp × Kd)) → Option (JV1 k ds)
  | [] => k.pick F t
  | d :: ds => match k.pick F t with
    | some x => match pickJ1 F d.1 d.2 ds with
      | some y => some (x, y)
      | none => none
    | none => none

def pickJ (F : Fr) : (ds : List (Tmp × Kd)) → Option (JV ds)
  | [] => some ()
  | d :: ds => pickJ1 F d.1 d.2 ds

def putJ1 (t : Tmp) (k : Kd) : (ds : List (Tmp × Kd)) → JV1 k ds → Fr → Fr
  | [], x, F => nset F t (some (.sc (k.sv x)))
  | d :: ds, x, F => putJ1 d.1 d.2 ds x.2 (nset F t (some (.sc (k.sv x.1))))

def putJ : (ds : List (Tmp × Kd)) → JV ds → Fr → Fr
  | [], _, F => F
  | d :: ds, x, F => putJ1 d.1 d.2 ds x F

def unsetF : List Tmp → Fr → Fr
  | [], F => F
  | t :: ts, F => unsetF ts (nset F t none)

structure JT where
  reg : List (Nat × List (Tmp × Kd))
  cnd : List (Nat × List (Tmp × Kd))
  wr : List (Nat × List Nat)
  cut : ∀ {A R : Type}, Option A → (A → Option R) → Option R

def lookJ (i : Nat) : List (Nat × List (Tmp × Kd)) → Option (List (Tmp × Kd))
  | [] => none
  | x :: l => cond (Nat.beq x.1 i) (some x.2) (lookJ i l)

def lookW (i : Nat) : List (Nat × List Nat) → List Nat
  | [] => []
  | x :: l => cond (Nat.beq x.1 i) x.2 (lookW i l)

def dstsOf : List Oper → List Tmp
  | [] => []
  | o :: l => match o.dst with
    | some d => d :: dstsOf l
    | none => dstsOf l

def wrC : Code → List Tmp
  | .seq a b => wrC a ++ wrC b
  | .cond _ a b => wrC a ++ wrC b
  | .block _ c => wrC c
  | .region _ ops _ => dstsOf ops.toList
  | _ => []

def plainC : Code → Bool
  | .seq a b => plainC a && plainC b
  | .cond _ a b => plainC a && plainC b
  | .block _ (.loop _) => false
  | .block _ c => plainC c
  | .loop _ => false
  | .scope _ => false
  | _ => true

def cndJ (J : JT) : Operand → Option (List (Tmp × Kd))
  | .tmp t => lookJ t J.cnd
  | _ => none

def pickN (n : Nat) (ds : List (Tmp × Kd)) (ex : Ex) (F : Fr) (_ : Hp E) : Option (JV ds) :=
  match ex with
  | .normal => cond (Nat.beq F.length n) (pickJ F ds) none
  | _ => none

def evalReg (O : Orc E) (dr : Bool) (ws : List Nat) (ops : Array Oper) (F : Fr) (H : Hp E) (K : Fr → Hp E → Option R) : Option R :=
  match dr with
  | false => evalOps E O false ops ops.toList F H K
  | true => evalDraw E O ws ops F H K

def evalCode (O : Orc E) (L : Lps E) (J : JT) : Code → {R : Type} → Fr → Hp E → (Ex → Fr → Hp E → Option R) → Option R
  | .skip, _, F, H, K => K .normal F H
  | .label _, _, F, H, K => K .normal F H
  | .region id ops dr, _, F, H, K => match lookJ id J.reg with
    | none => evalReg E O dr (lookW id J.wr) ops F H fun F H => K .normal F H
    | some ds => J.cut (evalReg E O dr (lookW id J.wr) ops F (roAll E H) (pickN E F.length ds .normal)) fun x => K .normal (putJ ds x (unsetF (dstsOf ops.toList) F)) H
  | .seq a b, _, F, H, K => evalCode O L J a F H fun ex F H => match ex with
    | .normal => evalCode O L J b F H K
    | ex => K ex F H
  | .cond c a b, _, F, H, K => match cndJ J c with
    | none => condK c F fun t F => match t with
      | true => evalCode O L J a F H K
      | false => evalCode O L J b F H K
    | some ds => cond (plainC a && plainC b)
      (J.cut (condK c F fun t F => match t with
        | true => evalCode O L J a F (roAll E H) (pickN E F.length ds)
        | false => evalCode O L J b F (roAll E H) (pickN E F.length ds)) fun x => K .normal (putJ ds x (unsetF (wrC a ++ wrC b) F)) H) none
  | .block id (.loop _), _, F, H, K => L id F H K
  | .block id c, _, F, H, K => evalCode O L J c F H fun ex F H => match ex with
    | .exit j => cond (Nat.beq j id) (K .normal F H) (K (.exit j) F H)
    | ex => K ex F H
  | .exit id, _, F, H, K => K (.exit id) F H
  | .goto l, _, F, H, K => K (.goto l) F H
  | .ret, _, F, H, K => K .ret F H
  | _, _, _, _, _ => none

def resK (H : Hp E) (F : Fr) : List ResultVar → List (Bool × List SV) → (List (Bool × List SV) → Option R) → Option R
  | [], acc, K => K acc.reverse
  | .tmp t :: l, acc, K => match (nth F t).getD none with
    | some (.sc v) => resK H F l ((false, [v]) :: acc) K
    | some (.agg v) => resK H F l ((true, v) :: acc) K
    | _ => none
  | .cell a t :: l, acc, K => match (nth F a).getD none with
    | some (.sc (.ptr id row fld)) => loadK E H t id row fld fun v => match v with
      | .sc v => resK H F l ((false, [v]) :: acc) K
      | .agg v => resK H F l ((true, v) :: acc) K
      | _ => none
    | _ => none

def resAV : List (Bool × List SV) → Option AV
  | [(true, l)] => some (.agg l)
  | [(false, [v])] => some (.sc v)
  | l => some (.tup l)

def idxIn (id : Nat) : List Nat → Nat → Option Nat
  | [], _ => none
  | x :: l, i => cond (Nat.beq x id) (some i) (idxIn id l (i + 1))

def selId (m : Nat) (sel : List Nat) (id : Nat) : Option Nat := cond (Nat.blt id m) (some id) (idxIn id sel m)

def selSV (m : Nat) (sel : List Nat) (v : SV) : SV :=
  match v with
  | .ptr id row fld => match selId m sel id with
    | some j => .ptr j row fld
    | none => .top
  | .slc id w nl => match selId m sel id with
    | some j => .slc j w nl
    | none => .top
  | .fn f caps => cond (caps.all fun c => (selId m sel c.1).isSome) (.fn f (caps.map fun c => ((selId m sel c.1).getD 0, c.2))) .top
  | v => v

def selHeap (m : Nat) (sel : List Nat) (H : Hp E) : Hp E :=
  ((H.take m) ++ sel.map fun id => (nth H id).getD none).map (Option.map (mapHE E (selSV m sel)))

def heapSVs (H : Hp E) : List SV := H.flatMap fun
  | some he => match he.b with
    | .exp _ l => cond he.ro [] l
    | .rows _ => []
    | .frz _ => []
  | none => []

def nodupB : List Nat → Bool
  | [] => true
  | a :: l => !(l.any (Nat.beq a)) && nodupB l

def avSVs : AV → List SV
  | .sc v => [v]
  | .agg l => l
  | .tup l => l.flatMap (·.2)

def sweepK (m : Nat) (v : AV) (H : Hp E) (K : AV → Hp E → Option R) : Option R :=
  let sel := metIds E H m fuelMet (avSVs v ++ heapSVs E (H.take m)) []
  cond (nodupB sel && sel.all (fun id => Nat.ble m id && Nat.blt id H.length)) (K (mapAV (selSV m sel) v) (selHeap E m sel H)) none

end
end Go.Eng
