import Derived.Test.YtnopbegjbbbdhaaSpec
import Derived.Test.YtnopbegjbbbdhaaPLb
import Derived.Test.YtnopbegjbbbdhaaW4
set_option linter.all false
namespace Go.Sa
open Go Go.Eng Go.Proofs
set_option maxRecDepth 100000
/-! ### loop.example/g00038/spec.PutTables -/
abbrev sl_spec_PutTables_w : SlotT := [(0, ([0, 1, 2, 7, 8, 9], [0, 1, 6, 7, 8]))]
abbrev J_spec_PutTables_w : JT := jn [(1, [(33, .b)])] [] []
noncomputable def O_spec_PutTables_w (N : Nat) : Orc E := addFn 92 (o_spec_l10In N) (addFn 94 (o_spec_l21Words N) (addFn 110 (o_spec_l21Table N) (addFn 109 (o_spec_PutWord N) (addFn 58 (o_spec_MemFault N) (noFn)))))
def pa_spec_PutTables_w__o_spec_l10In (N : Nat) (G_spec_l10In : ∀ {R : Type} (s : ByteArray) (n : Int) (n1 : Int) (k : Bool → Option R), Option R) (G_spec_l21Words : ∀ {R : Type} (s : ByteArray) (k : Int → Option R), Option R) (G_spec_l21Table : ∀ {R : Type} (s : ByteArray) (n : Int) (s1 : ByteArray) (k : ByteArray → Option R), Option R) (G_spec_PutWord : ∀ {R : Type} (n : Int) (k : ByteArray → Option R), Option R) (G_spec_MemFault : ∀ {R : Type} (s : ByteArray) (k : Int → Option R), Option R) {R : Type} (args : List AV) (H : Hp E) (K : AV → Hp E → Option R) : Option R :=
  match args, H with
  | [(Go.Eng.AV.sc (Go.Eng.SV.str s)), (Go.Eng.AV.sc (Go.Eng.SV.int Go.IntKind.i64 n)), (Go.Eng.AV.sc (Go.Eng.SV.int Go.IntKind.i64 n1))], [] => G_spec_l10In s n n1 (fun b => K (Go.Eng.AV.sc (Go.Eng.SV.bool b)) [])
  | _, _ => none
def pa_spec_PutTables_w__o_spec_l21Words (N : Nat) (G_spec_l10In : ∀ {R : Type} (s : ByteArray) (n : Int) (n1 : Int) (k : Bool → Option R), Option R) (G_spec_l21Words : ∀ {R : Type} (s : ByteArray) (k : Int → Option R), Option R) (G_spec_l21Table : ∀ {R : Type} (s : ByteArray) (n : Int) (s1 : ByteArray) (k : ByteArray → Option R), Option R) (G_spec_PutWord : ∀ {R : Type} (n : Int) (k : ByteArray → Option R), Option R) (G_spec_MemFault : ∀ {R : Type} (s : ByteArray) (k : Int → Option R), Option R) {R : Type} (args : List AV) (H : Hp E) (K : AV → Hp E → Option R) : Option R :=
  match args, H with
  | [(Go.Eng.AV.sc (Go.Eng.SV.str s))], [] => G_spec_l21Words s (fun n4 => K (Go.Eng.AV.sc (Go.Eng.SV.int Go.IntKind.i64 n4)) [])
  | _, _ => none
def pa_spec_PutTables_w__o_spec_l21Table (N : Nat) (G_spec_l10In : ∀ {R : Type} (s : ByteArray) (n : Int) (n1 : Int) (k : Bool → Option R), Option R) (G_spec_l21Words : ∀ {R : Type} (s : ByteArray) (k : Int → Option R), Option R) (G_spec_l21Table : ∀ {R : Type} (s : ByteArray) (n : Int) (s1 : ByteArray) (k : ByteArray → Option R), Option R) (G_spec_PutWord : ∀ {R : Type} (n : Int) (k : ByteArray → Option R), Option R) (G_spec_MemFault : ∀ {R : Type} (s : ByteArray) (k : Int → Option R), Option R) {R : Type} (args : List AV) (H : Hp E) (K : AV → Hp E → Option R) : Option R :=
  match args, H with
  | [(Go.Eng.AV.agg [(Go.Eng.SV.str s), (Go.Eng.SV.int Go.IntKind.i64 n), (Go.Eng.SV.str s1)])], [] => G_spec_l21Table s n s1 (fun s4 => K (Go.Eng.AV.sc (Go.Eng.SV.str s4)) [])
  | _, _ => none
def pa_spec_PutTables_w__o_spec_PutWord (N : Nat) (G_spec_l10In : ∀ {R : Type} (s : ByteArray) (n : Int) (n1 : Int) (k : Bool → Option R), Option R) (G_spec_l21Words : ∀ {R : Type} (s : ByteArray) (k : Int → Option R), Option R) (G_spec_l21Table : ∀ {R : Type} (s : ByteArray) (n : Int) (s1 : ByteArray) (k : ByteArray → Option R), Option R) (G_spec_PutWord : ∀ {R : Type} (n : Int) (k : ByteArray → Option R), Option R) (G_spec_MemFault : ∀ {R : Type} (s : ByteArray) (k : Int → Option R), Option R) {R : Type} (args : List AV) (H : Hp E) (K : AV → Hp E → Option R) : Option R :=
  match args, H with
  | [(Go.Eng.AV.sc (Go.Eng.SV.int Go.IntKind.i64 n))], [] => G_spec_PutWord n (fun s => K (Go.Eng.AV.sc (Go.Eng.SV.str s)) [])
  | _, _ => none
def pa_spec_PutTables_w__o_spec_MemFault (N : Nat) (G_spec_l10In : ∀ {R : Type} (s : ByteArray) (n : Int) (n1 : Int) (k : Bool → Option R), Option R) (G_spec_l21Words : ∀ {R : Type} (s : ByteArray) (k : Int → Option R), Option R) (G_spec_l21Table : ∀ {R : Type} (s : ByteArray) (n : Int) (s1 : ByteArray) (k : ByteArray → Option R), Option R) (G_spec_PutWord : ∀ {R : Type} (n : Int) (k : ByteArray → Option R), Option R) (G_spec_MemFault : ∀ {R : Type} (s : ByteArray) (k : Int → Option R), Option R) {R : Type} (args : List AV) (H : Hp E) (K : AV → Hp E → Option R) : Option R :=
  match args, H with
  | [(Go.Eng.AV.sc (Go.Eng.SV.str s))], [] => G_spec_MemFault s (fun n => K (Go.Eng.AV.sc (Go.Eng.SV.int Go.IntKind.i64 n)) [])
  | _, _ => none
noncomputable def OA_spec_PutTables_w (N : Nat) (G_spec_l10In : ∀ {R : Type} (s : ByteArray) (n : Int) (n1 : Int) (k : Bool → Option R), Option R) (G_spec_l21Words : ∀ {R : Type} (s : ByteArray) (k : Int → Option R), Option R) (G_spec_l21Table : ∀ {R : Type} (s : ByteArray) (n : Int) (s1 : ByteArray) (k : ByteArray → Option R), Option R) (G_spec_PutWord : ∀ {R : Type} (n : Int) (k : ByteArray → Option R), Option R) (G_spec_MemFault : ∀ {R : Type} (s : ByteArray) (k : Int → Option R), Option R) : Orc E := addFn 92 (pa_spec_PutTables_w__o_spec_l10In N G_spec_l10In G_spec_l21Words G_spec_l21Table G_spec_PutWord G_spec_MemFault) (addFn 94 (pa_spec_PutTables_w__o_spec_l21Words N G_spec_l10In G_spec_l21Words G_spec_l21Table G_spec_PutWord G_spec_MemFault) (addFn 110 (pa_spec_PutTables_w__o_spec_l21Table N G_spec_l10In G_spec_l21Words G_spec_l21Table G_spec_PutWord G_spec_MemFault) (addFn 109 (pa_spec_PutTables_w__o_spec_PutWord N G_spec_l10In G_spec_l21Words G_spec_l21Table G_spec_PutWord G_spec_MemFault) (addFn 58 (pa_spec_PutTables_w__o_spec_MemFault N G_spec_l10In G_spec_l21Words G_spec_l21Table G_spec_PutWord G_spec_MemFault) (noFn)))))
theorem O_spec_PutTables_w_ok (N : Nat) : OrcOk (O_spec_PutTables_w N) := addFn_ok (o_spec_l10In_ok N) (addFn_ok (o_spec_l21Words_ok N) (addFn_ok (o_spec_l21Table_ok N) (addFn_ok (o_spec_PutWord_ok N) (addFn_ok (o_spec_MemFault_ok N) (noFn_ok)))))
def s_spec_PutTables_w_0 (N : Nat) {R : Type} (s2 : ByteArray) (n2 : Int) (b1 : Bool) (l1 : List Go.Sa.FirmTable) (s3 : ByteArray) (s4 : ByteArray) (n3 : Int) (ag : ByteArray → ByteArray → Int → Option R)  (kR : ByteArray → ByteArray → Option R) (kN : ByteArray → ByteArray → Option R) : Option R :=
  (cond (decide ((n3 < (((List.length l1) : Nat) : Int))))
  (cond ((decide (((0 : Int) ≤ n3))) && (decide ((n3 < (((List.length l1) : Nat) : Int)))))
    (elemK l1 (Int.toNat n3) fun x =>
      (g_spec_l21Table N (Go.Sa.FirmTable.fName x) (Go.Sa.FirmTable.fRev x) (Go.Sa.FirmTable.fBody x) fun s5 =>
      (cond (decide ((s5 = (ByteArray.mk (List.toArray [])))))
      (kR s3 s4)
      (g_spec_PutWord N (Go.IntKind.wrap Go.IntKind.i64 ((Go.IntKind.wrap Go.IntKind.i64 ((Go.IntKind.wrap Go.IntKind.i64 (n2 + (12 : Int))) + (Go.IntKind.wrap Go.IntKind.i64 ((4 : Int) * (((List.length l1) : Nat) : Int))))) + (((ByteArray.size s4) : Nat) : Int))) fun s6 =>
        (cond (Nat.ble ((ByteArray.size s3) + (ByteArray.size s6)) 9223372036854775807)
        (cond (Nat.ble ((ByteArray.size s4) + (ByteArray.size s5)) 9223372036854775807)
          (ag (s3 ++ s6) (s4 ++ s5) (Go.IntKind.wrap Go.IntKind.i64 (n3 + (1 : Int))))
          none)
        none)))))
    none)
  (kN s3 s4))
def ga_s_spec_PutTables_w_0 (N : Nat) (G_spec_l10In : ∀ {R : Type} (s : ByteArray) (n : Int) (n1 : Int) (k : Bool → Option R), Option R) (G_spec_l21Words : ∀ {R : Type} (s : ByteArray) (k : Int → Option R), Option R) (G_spec_l21Table : ∀ {R : Type} (s : ByteArray) (n : Int) (s1 : ByteArray) (k : ByteArray → Option R), Option R) (G_spec_PutWord : ∀ {R : Type} (n : Int) (k : ByteArray → Option R), Option R) (G_spec_MemFault : ∀ {R : Type} (s : ByteArray) (k : Int → Option R), Option R) {R : Type} (s2 : ByteArray) (n2 : Int) (b1 : Bool) (l1 : List Go.Sa.FirmTable) (s3 : ByteArray) (s4 : ByteArray) (n3 : Int) (ag : ByteArray → ByteArray → Int → Option R)  (kR : ByteArray → ByteArray → Option R) (kN : ByteArray → ByteArray → Option R) : Option R :=
  (cond (decide ((n3 < (((List.length l1) : Nat) : Int))))
  (cond ((decide (((0 : Int) ≤ n3))) && (decide ((n3 < (((List.length l1) : Nat) : Int)))))
    (elemK l1 (Int.toNat n3) fun x =>
      (G_spec_l21Table (Go.Sa.FirmTable.fName x) (Go.Sa.FirmTable.fRev x) (Go.Sa.FirmTable.fBody x) fun s5 =>
      (cond (decide ((s5 = (ByteArray.mk (List.toArray [])))))
      (kR s3 s4)
      (G_spec_PutWord (Go.IntKind.wrap Go.IntKind.i64 ((Go.IntKind.wrap Go.IntKind.i64 ((Go.IntKind.wrap Go.IntKind.i64 (n2 + (12 : Int))) + (Go.IntKind.wrap Go.IntKind.i64 ((4 : Int) * (((List.length l1) : Nat) : Int))))) + (((ByteArray.size s4) : Nat) : Int))) fun s6 =>
        (cond (Nat.ble ((ByteArray.size s3) + (ByteArray.size s6)) 9223372036854775807)
        (cond (Nat.ble ((ByteArray.size s4) + (ByteArray.size s5)) 9223372036854775807)
          (ag (s3 ++ s6) (s4 ++ s5) (Go.IntKind.wrap Go.IntKind.i64 (n3 + (1 : Int))))
          none)
        none)))))
    none)
  (kN s3 s4))
def l_spec_PutTables_w_0 (N : Nat) {R : Type} (s2 : ByteArray) (n2 : Int) (b1 : Bool) (l1 : List Go.Sa.FirmTable) (kR : ByteArray → ByteArray → Option R) (kN : ByteArray → ByteArray → Option R) : Nat → ByteArray → ByteArray → Int → Option R
  | 0, _, _, _ => none
  | f + 1, s3, s4, n3 => s_spec_PutTables_w_0 N s2 n2 b1 l1 s3 s4 n3 (fun s3 s4 n3 => l_spec_PutTables_w_0 N s2 n2 b1 l1 kR kN f s3 s4 n3)  kR kN
def c_spec_PutTables_w_0 (N : Nat) {R : Type} (s2 : ByteArray) (n2 : Int) (b1 : Bool) (l1 : List Go.Sa.FirmTable) (s3 : ByteArray) (s4 : ByteArray) (n3 : Int) (kR : ByteArray → ByteArray → Option R) (kN : ByteArray → ByteArray → Option R) : Option R := l_spec_PutTables_w_0 N s2 n2 b1 l1 kR kN N s3 s4 n3
theorem ea_se_spec_PutTables_w_0 (N : Nat) (G_spec_l10In : ∀ {R : Type} (s : ByteArray) (n : Int) (n1 : Int) (k : Bool → Option R), Option R) (G_spec_l21Words : ∀ {R : Type} (s : ByteArray) (k : Int → Option R), Option R) (G_spec_l21Table : ∀ {R : Type} (s : ByteArray) (n : Int) (s1 : ByteArray) (k : ByteArray → Option R), Option R) (G_spec_PutWord : ∀ {R : Type} (n : Int) (k : ByteArray → Option R), Option R) (G_spec_MemFault : ∀ {R : Type} (s : ByteArray) (k : Int → Option R), Option R) {R : Type} (s2 : ByteArray) (n2 : Int) (b1 : Bool) (l1 : List Go.Sa.FirmTable) (s3 : ByteArray) (s4 : ByteArray) (n3 : Int) (AG : List (Option AV) → Hp E → Option R) (KL : Ex → List (Option AV) → Hp E → Option R) :
    iterStep (E := E) (OA_spec_PutTables_w N G_spec_l10In G_spec_l21Words G_spec_l21Table G_spec_PutWord G_spec_MemFault) (fun {R} => LI (noIt) 1 98 sl_spec_PutTables_w (R := R)) J_spec_PutTables_w 1 98 0 [0, 1, 2, 7, 8, 9] [0, 1, 6, 7, 8] (body Go.Proofs.Try.f41 0) AG KL [(Option.some (Go.Eng.AV.sc (Go.Eng.SV.str s2))), (Option.some (Go.Eng.AV.sc (Go.Eng.SV.int Go.IntKind.i64 n2))), (Option.some (Go.Eng.AV.sc (Go.Eng.SV.slc 0 Option.none b1))), (Option.some (Go.Eng.AV.sc (Go.Eng.SV.str s3))), (Option.some (Go.Eng.AV.sc (Go.Eng.SV.str s4))), (Option.some (Go.Eng.AV.sc (Go.Eng.SV.int Go.IntKind.i64 n3)))] [(Option.some (Go.Eng.HE.mk Bool.false (Go.Eng.HB.rows (Go.Sa.B.iFirmTable l1))))] =
      ga_s_spec_PutTables_w_0 N G_spec_l10In G_spec_l21Words G_spec_l21Table G_spec_PutWord G_spec_MemFault s2 n2 b1 l1 s3 s4 n3 (fun s3 s4 n3 => AG [(Option.some (Go.Eng.AV.sc (Go.Eng.SV.str s2))), (Option.some (Go.Eng.AV.sc (Go.Eng.SV.int Go.IntKind.i64 n2))), (Option.some (Go.Eng.AV.sc (Go.Eng.SV.slc 0 Option.none b1))), (Option.some (Go.Eng.AV.sc (Go.Eng.SV.str s3))), (Option.some (Go.Eng.AV.sc (Go.Eng.SV.str s4))), (Option.some (Go.Eng.AV.sc (Go.Eng.SV.int Go.IntKind.i64 n3)))] [(Option.some (Go.Eng.HE.mk Bool.false (Go.Eng.HB.rows (Go.Sa.B.iFirmTable l1))))])  (fun s13 s14 => KL Go.Eng.Ex.ret [(Option.some (Go.Eng.AV.sc (Go.Eng.SV.str s2))), (Option.some (Go.Eng.AV.sc (Go.Eng.SV.int Go.IntKind.i64 n2))), (Option.some (Go.Eng.AV.sc (Go.Eng.SV.str (ByteArray.mk (List.toArray []))))), (Option.some (Go.Eng.AV.sc (Go.Eng.SV.str s13))), (Option.some (Go.Eng.AV.sc (Go.Eng.SV.str s14)))] [(Option.some (Go.Eng.HE.mk Bool.false (Go.Eng.HB.rows (Go.Sa.B.iFirmTable l1))))]) (fun s15 s16 => KL Go.Eng.Ex.normal [(Option.some (Go.Eng.AV.sc (Go.Eng.SV.str s2))), (Option.some (Go.Eng.AV.sc (Go.Eng.SV.int Go.IntKind.i64 n2))), Option.none, (Option.some (Go.Eng.AV.sc (Go.Eng.SV.str s15))), (Option.some (Go.Eng.AV.sc (Go.Eng.SV.str s16)))] [(Option.some (Go.Eng.HE.mk Bool.false (Go.Eng.HB.rows (Go.Sa.B.iFirmTable l1))))]) := by kernel_rfl
theorem se_spec_PutTables_w_0 (N : Nat) {R : Type} (s2 : ByteArray) (n2 : Int) (b1 : Bool) (l1 : List Go.Sa.FirmTable) (s3 : ByteArray) (s4 : ByteArray) (n3 : Int) (AG : List (Option AV) → Hp E → Option R) (KL : Ex → List (Option AV) → Hp E → Option R) :
    iterStep (E := E) (O_spec_PutTables_w N) (fun {R} => LI (noIt) 1 98 sl_spec_PutTables_w (R := R)) J_spec_PutTables_w 1 98 0 [0, 1, 2, 7, 8, 9] [0, 1, 6, 7, 8] (body Go.Proofs.Try.f41 0) AG KL [(Option.some (Go.Eng.AV.sc (Go.Eng.SV.str s2))), (Option.some (Go.Eng.AV.sc (Go.Eng.SV.int Go.IntKind.i64 n2))), (Option.some (Go.Eng.AV.sc (Go.Eng.SV.slc 0 Option.none b1))), (Option.some (Go.Eng.AV.sc (Go.Eng.SV.str s3))), (Option.some (Go.Eng.AV.sc (Go.Eng.SV.str s4))), (Option.some (Go.Eng.AV.sc (Go.Eng.SV.int Go.IntKind.i64 n3)))] [(Option.some (Go.Eng.HE.mk Bool.false (Go.Eng.HB.rows (Go.Sa.B.iFirmTable l1))))] =
      s_spec_PutTables_w_0 N s2 n2 b1 l1 s3 s4 n3 (fun s3 s4 n3 => AG [(Option.some (Go.Eng.AV.sc (Go.Eng.SV.str s2))), (Option.some (Go.Eng.AV.sc (Go.Eng.SV.int Go.IntKind.i64 n2))), (Option.some (Go.Eng.AV.sc (Go.Eng.SV.slc 0 Option.none b1))), (Option.some (Go.Eng.AV.sc (Go.Eng.SV.str s3))), (Option.some (Go.Eng.AV.sc (Go.Eng.SV.str s4))), (Option.some (Go.Eng.AV.sc (Go.Eng.SV.int Go.IntKind.i64 n3)))] [(Option.some (Go.Eng.HE.mk Bool.false (Go.Eng.HB.rows (Go.Sa.B.iFirmTable l1))))])  (fun s13 s14 => KL Go.Eng.Ex.ret [(Option.some (Go.Eng.AV.sc (Go.Eng.SV.str s2))), (Option.some (Go.Eng.AV.sc (Go.Eng.SV.int Go.IntKind.i64 n2))), (Option.some (Go.Eng.AV.sc (Go.Eng.SV.str (ByteArray.mk (List.toArray []))))), (Option.some (Go.Eng.AV.sc (Go.Eng.SV.str s13))), (Option.some (Go.Eng.AV.sc (Go.Eng.SV.str s14)))] [(Option.some (Go.Eng.HE.mk Bool.false (Go.Eng.HB.rows (Go.Sa.B.iFirmTable l1))))]) (fun s15 s16 => KL Go.Eng.Ex.normal [(Option.some (Go.Eng.AV.sc (Go.Eng.SV.str s2))), (Option.some (Go.Eng.AV.sc (Go.Eng.SV.int Go.IntKind.i64 n2))), Option.none, (Option.some (Go.Eng.AV.sc (Go.Eng.SV.str s15))), (Option.some (Go.Eng.AV.sc (Go.Eng.SV.str s16)))] [(Option.some (Go.Eng.HE.mk Bool.false (Go.Eng.HB.rows (Go.Sa.B.iFirmTable l1))))]) := castPr (by kernel_rfl) (ea_se_spec_PutTables_w_0 N (g_spec_l10In N) (g_spec_l21Words N) (g_spec_l21Table N) (g_spec_PutWord N) (g_spec_MemFault N) s2 n2 b1 l1 s3 s4 n3 AG KL)
theorem le_spec_PutTables_w_0 (N : Nat) {R : Type} (s2 : ByteArray) (n2 : Int) (b1 : Bool) (l1 : List Go.Sa.FirmTable) (KL : Ex → List (Option AV) → Hp E → Option R) : ∀ (f : Nat), ∀ (s3 : ByteArray) (s4 : ByteArray) (n3 : Int), iterK (E := E) (O_spec_PutTables_w N) (fun {R} => LI (noIt) 1 98 sl_spec_PutTables_w (R := R)) J_spec_PutTables_w 1 98 0 [0, 1, 2, 7, 8, 9] [0, 1, 6, 7, 8] (body Go.Proofs.Try.f41 0) f [(Option.some (Go.Eng.AV.sc (Go.Eng.SV.str s2))), (Option.some (Go.Eng.AV.sc (Go.Eng.SV.int Go.IntKind.i64 n2))), (Option.some (Go.Eng.AV.sc (Go.Eng.SV.slc 0 Option.none b1))), (Option.some (Go.Eng.AV.sc (Go.Eng.SV.str s3))), (Option.some (Go.Eng.AV.sc (Go.Eng.SV.str s4))), (Option.some (Go.Eng.AV.sc (Go.Eng.SV.int Go.IntKind.i64 n3)))] [(Option.some (Go.Eng.HE.mk Bool.false (Go.Eng.HB.rows (Go.Sa.B.iFirmTable l1))))] KL = l_spec_PutTables_w_0 N s2 n2 b1 l1 (fun s13 s14 => KL Go.Eng.Ex.ret [(Option.some (Go.Eng.AV.sc (Go.Eng.SV.str s2))), (Option.some (Go.Eng.AV.sc (Go.Eng.SV.int Go.IntKind.i64 n2))), (Option.some (Go.Eng.AV.sc (Go.Eng.SV.str (ByteArray.mk (List.toArray []))))), (Option.some (Go.Eng.AV.sc (Go.Eng.SV.str s13))), (Option.some (Go.Eng.AV.sc (Go.Eng.SV.str s14)))] [(Option.some (Go.Eng.HE.mk Bool.false (Go.Eng.HB.rows (Go.Sa.B.iFirmTable l1))))]) (fun s15 s16 => KL Go.Eng.Ex.normal [(Option.some (Go.Eng.AV.sc (Go.Eng.SV.str s2))), (Option.some (Go.Eng.AV.sc (Go.Eng.SV.int Go.IntKind.i64 n2))), Option.none, (Option.some (Go.Eng.AV.sc (Go.Eng.SV.str s15))), (Option.some (Go.Eng.AV.sc (Go.Eng.SV.str s16)))] [(Option.some (Go.Eng.HE.mk Bool.false (Go.Eng.HB.rows (Go.Sa.B.iFirmTable l1))))]) f s3 s4 n3 := by
  intro f
  induction f with
  | zero => intros; rfl
  | succ f ih =>
    intro s3 s4 n3
    rw [iterK_succ, se_spec_PutTables_w_0]
    exact (congrArg (fun z0 => s_spec_PutTables_w_0 N s2 n2 b1 l1 s3 s4 n3 z0 (fun s13 s14 => KL Go.Eng.Ex.ret [(Option.some (Go.Eng.AV.sc (Go.Eng.SV.str s2))), (Option.some (Go.Eng.AV.sc (Go.Eng.SV.int Go.IntKind.i64 n2))), (Option.some (Go.Eng.AV.sc (Go.Eng.SV.str (ByteArray.mk (List.toArray []))))), (Option.some (Go.Eng.AV.sc (Go.Eng.SV.str s13))), (Option.some (Go.Eng.AV.sc (Go.Eng.SV.str s14)))] [(Option.some (Go.Eng.HE.mk Bool.false (Go.Eng.HB.rows (Go.Sa.B.iFirmTable l1))))]) (fun s15 s16 => KL Go.Eng.Ex.normal [(Option.some (Go.Eng.AV.sc (Go.Eng.SV.str s2))), (Option.some (Go.Eng.AV.sc (Go.Eng.SV.int Go.IntKind.i64 n2))), Option.none, (Option.some (Go.Eng.AV.sc (Go.Eng.SV.str s15))), (Option.some (Go.Eng.AV.sc (Go.Eng.SV.str s16)))] [(Option.some (Go.Eng.HE.mk Bool.false (Go.Eng.HB.rows (Go.Sa.B.iFirmTable l1))))])) (funext fun s3 => funext fun s4 => funext fun n3 => ih s3 s4 n3))
def i_spec_PutTables_w_0 (N : Nat) {R : Type} (vs : List (Option AV)) (H : Hp E) (KL : Ex → List (Option AV) → Hp E → Option R) : Option R :=
  match vs, H with
  | [(Option.some (Go.Eng.AV.sc (Go.Eng.SV.str s2))), (Option.some (Go.Eng.AV.sc (Go.Eng.SV.int Go.IntKind.i64 n2))), (Option.some (Go.Eng.AV.sc (Go.Eng.SV.slc 0 Option.none b1))), (Option.some (Go.Eng.AV.sc (Go.Eng.SV.str s3))), (Option.some (Go.Eng.AV.sc (Go.Eng.SV.str s4))), (Option.some (Go.Eng.AV.sc (Go.Eng.SV.int Go.IntKind.i64 n3)))], [(Option.some (Go.Eng.HE.mk Bool.false (Go.Eng.HB.rows (Go.Sa.B.iFirmTable l1))))] => c_spec_PutTables_w_0 N s2 n2 b1 l1 s3 s4 n3 (fun s17 s18 => KL Go.Eng.Ex.ret [(Option.some (Go.Eng.AV.sc (Go.Eng.SV.str s2))), (Option.some (Go.Eng.AV.sc (Go.Eng.SV.int Go.IntKind.i64 n2))), (Option.some (Go.Eng.AV.sc (Go.Eng.SV.str (ByteArray.mk (List.toArray []))))), (Option.some (Go.Eng.AV.sc (Go.Eng.SV.str s17))), (Option.some (Go.Eng.AV.sc (Go.Eng.SV.str s18)))] [(Option.some (Go.Eng.HE.mk Bool.false (Go.Eng.HB.rows (Go.Sa.B.iFirmTable l1))))]) (fun s19 s20 => KL Go.Eng.Ex.normal [(Option.some (Go.Eng.AV.sc (Go.Eng.SV.str s2))), (Option.some (Go.Eng.AV.sc (Go.Eng.SV.int Go.IntKind.i64 n2))), Option.none, (Option.some (Go.Eng.AV.sc (Go.Eng.SV.str s19))), (Option.some (Go.Eng.AV.sc (Go.Eng.SV.str s20)))] [(Option.some (Go.Eng.HE.mk Bool.false (Go.Eng.HB.rows (Go.Sa.B.iFirmTable l1))))])
  | _, _ => none
noncomputable def IT_spec_PutTables_w_0 (N : Nat) : Its E := addIt 0 (i_spec_PutTables_w_0 N) (noIt)
theorem IT_spec_PutTables_w_0_ok (N : Nat) : ItOk (IT_spec_PutTables_w_0 N) 1 98 sl_spec_PutTables_w (lsB Go.Proofs.Try.f41 [0]) :=
  addItB_ok (inner := []) ok (O_spec_PutTables_w_ok N) (jn_ok _ _ _) (noIt_ok) rfl (by kernel_rfl) rfl fun vs H KL r h => by
    unfold i_spec_PutTables_w_0 at h
    split at h
    · exact ⟨_, (le_spec_PutTables_w_0 N _ _ _ _ KL N _ _ _).trans h⟩
    · cases h
def g_spec_PutTables_w (N : Nat) {R : Type} (s : ByteArray) (n : Int) (b : Bool) (l : List Go.Sa.FirmTable) (k : ByteArray → Option R) : Option R :=
  (oK (g_spec_MemFault N s fun n1 =>
    (cond (n1 != (0 : Int))
    (some Bool.true)
    (cond (decide ((n < (0 : Int))))
      (some Bool.true)
      (cond ((Int.tmod n (4 : Int)) != (0 : Int))
        (some Bool.true)
        (cond (decide ((n > (((ByteArray.size s) : Nat) : Int))))
          (some Bool.true)
          (some (decide (((((List.length l) : Nat) : Int) > (10 : Int)))))))))) fun j =>
  (cond j
  (k (ByteArray.mk (List.toArray [])))
  (g_spec_PutWord N (((List.length l) : Nat) : Int) fun s1 =>
    (cond (Nat.ble (4 + (ByteArray.size s1)) 9223372036854775807)
    (c_spec_PutTables_w_0 N s n b l ((ByteArray.mk (List.toArray [(70 : UInt8), (73 : UInt8), (82 : UInt8), (77 : UInt8)])) ++ s1) (ByteArray.mk (List.toArray [])) (0 : Int) (fun s7 s8 =>
      (k (ByteArray.mk (List.toArray [])))) (fun s9 s10 =>
      (g_spec_l21Words N s9 fun n4 =>
      (g_spec_PutWord N (Go.IntKind.wrap Go.IntKind.i64 ((0 : Int) - n4)) fun s11 =>
      (cond (Nat.ble ((ByteArray.size s9) + (ByteArray.size s11)) 9223372036854775807)
      (g_spec_l10In N s n (Go.IntKind.wrap Go.IntKind.i64 ((((ByteArray.size (s9 ++ s11)) : Nat) : Int) + (((ByteArray.size s10) : Nat) : Int))) fun b2 =>
        (cond (!b2)
        (k (ByteArray.mk (List.toArray [])))
        (cond ((decide (((0 : Int) ≤ n))) && (decide ((n ≤ (((ByteArray.size s) : Nat) : Int)))))
          (cond (Nat.ble ((ByteArray.size (ByteArray.extract s 0 (Int.toNat n))) + (ByteArray.size (s9 ++ s11))) 9223372036854775807)
            (cond (Nat.ble ((ByteArray.size ((ByteArray.extract s 0 (Int.toNat n)) ++ (s9 ++ s11))) + (ByteArray.size s10)) 9223372036854775807)
              (cond (((decide (((0 : Int) ≤ (Go.IntKind.wrap Go.IntKind.i64 (n + (Go.IntKind.wrap Go.IntKind.i64 ((((ByteArray.size (s9 ++ s11)) : Nat) : Int) + (((ByteArray.size s10) : Nat) : Int)))))))) && (decide (((Go.IntKind.wrap Go.IntKind.i64 (n + (Go.IntKind.wrap Go.IntKind.i64 ((((ByteArray.size (s9 ++ s11)) : Nat) : Int) + (((ByteArray.size s10) : Nat) : Int))))) ≤ (((ByteArray.size s) : Nat) : Int))))) && (decide (((((ByteArray.size s) : Nat) : Int) ≤ (((ByteArray.size s) : Nat) : Int)))))
                (cond (Nat.ble ((ByteArray.size (((ByteArray.extract s 0 (Int.toNat n)) ++ (s9 ++ s11)) ++ s10)) + (ByteArray.size (ByteArray.extract s (Int.toNat (Go.IntKind.wrap Go.IntKind.i64 (n + (Go.IntKind.wrap Go.IntKind.i64 ((((ByteArray.size (s9 ++ s11)) : Nat) : Int) + (((ByteArray.size s10) : Nat) : Int)))))) (Int.toNat (((ByteArray.size s) : Nat) : Int))))) 9223372036854775807)
                  (k ((((ByteArray.extract s 0 (Int.toNat n)) ++ (s9 ++ s11)) ++ s10) ++ (ByteArray.extract s (Int.toNat (Go.IntKind.wrap Go.IntKind.i64 (n + (Go.IntKind.wrap Go.IntKind.i64 ((((ByteArray.size (s9 ++ s11)) : Nat) : Int) + (((ByteArray.size s10) : Nat) : Int)))))) (Int.toNat (((ByteArray.size s) : Nat) : Int)))))
                  none)
                none)
              none)
            none)
          none)))
      none)))))
    none))))
def ga_g_spec_PutTables_w (N : Nat) (G_spec_l10In : ∀ {R : Type} (s : ByteArray) (n : Int) (n1 : Int) (k : Bool → Option R), Option R) (G_spec_l21Words : ∀ {R : Type} (s : ByteArray) (k : Int → Option R), Option R) (G_spec_l21Table : ∀ {R : Type} (s : ByteArray) (n : Int) (s1 : ByteArray) (k : ByteArray → Option R), Option R) (G_spec_PutWord : ∀ {R : Type} (n : Int) (k : ByteArray → Option R), Option R) (G_spec_MemFault : ∀ {R : Type} (s : ByteArray) (k : Int → Option R), Option R) {R : Type} (s : ByteArray) (n : Int) (b : Bool) (l : List Go.Sa.FirmTable) (k : ByteArray → Option R) : Option R :=
  (oK (G_spec_MemFault s fun n1 =>
    (cond (n1 != (0 : Int))
    (some Bool.true)
    (cond (decide ((n < (0 : Int))))
      (some Bool.true)
      (cond ((Int.tmod n (4 : Int)) != (0 : Int))
        (some Bool.true)
        (cond (decide ((n > (((ByteArray.size s) : Nat) : Int))))
          (some Bool.true)
          (some (decide (((((List.length l) : Nat) : Int) > (10 : Int)))))))))) fun j =>
  (cond j
  (k (ByteArray.mk (List.toArray [])))
  (G_spec_PutWord (((List.length l) : Nat) : Int) fun s1 =>
    (cond (Nat.ble (4 + (ByteArray.size s1)) 9223372036854775807)
    (c_spec_PutTables_w_0 N s n b l ((ByteArray.mk (List.toArray [(70 : UInt8), (73 : UInt8), (82 : UInt8), (77 : UInt8)])) ++ s1) (ByteArray.mk (List.toArray [])) (0 : Int) (fun s7 s8 =>
      (k (ByteArray.mk (List.toArray [])))) (fun s9 s10 =>
      (G_spec_l21Words s9 fun n4 =>
      (G_spec_PutWord (Go.IntKind.wrap Go.IntKind.i64 ((0 : Int) - n4)) fun s11 =>
      (cond (Nat.ble ((ByteArray.size s9) + (ByteArray.size s11)) 9223372036854775807)
      (G_spec_l10In s n (Go.IntKind.wrap Go.IntKind.i64 ((((ByteArray.size (s9 ++ s11)) : Nat) : Int) + (((ByteArray.size s10) : Nat) : Int))) fun b2 =>
        (cond (!b2)
        (k (ByteArray.mk (List.toArray [])))
        (cond ((decide (((0 : Int) ≤ n))) && (decide ((n ≤ (((ByteArray.size s) : Nat) : Int)))))
          (cond (Nat.ble ((ByteArray.size (ByteArray.extract s 0 (Int.toNat n))) + (ByteArray.size (s9 ++ s11))) 9223372036854775807)
            (cond (Nat.ble ((ByteArray.size ((ByteArray.extract s 0 (Int.toNat n)) ++ (s9 ++ s11))) + (ByteArray.size s10)) 9223372036854775807)
              (cond (((decide (((0 : Int) ≤ (Go.IntKind.wrap Go.IntKind.i64 (n + (Go.IntKind.wrap Go.IntKind.i64 ((((ByteArray.size (s9 ++ s11)) : Nat) : Int) + (((ByteArray.size s10) : Nat) : Int)))))))) && (decide (((Go.IntKind.wrap Go.IntKind.i64 (n + (Go.IntKind.wrap Go.IntKind.i64 ((((ByteArray.size (s9 ++ s11)) : Nat) : Int) + (((ByteArray.size s10) : Nat) : Int))))) ≤ (((ByteArray.size s) : Nat) : Int))))) && (decide (((((ByteArray.size s) : Nat) : Int) ≤ (((ByteArray.size s) : Nat) : Int)))))
                (cond (Nat.ble ((ByteArray.size (((ByteArray.extract s 0 (Int.toNat n)) ++ (s9 ++ s11)) ++ s10)) + (ByteArray.size (ByteArray.extract s (Int.toNat (Go.IntKind.wrap Go.IntKind.i64 (n + (Go.IntKind.wrap Go.IntKind.i64 ((((ByteArray.size (s9 ++ s11)) : Nat) : Int) + (((ByteArray.size s10) : Nat) : Int)))))) (Int.toNat (((ByteArray.size s) : Nat) : Int))))) 9223372036854775807)
                  (k ((((ByteArray.extract s 0 (Int.toNat n)) ++ (s9 ++ s11)) ++ s10) ++ (ByteArray.extract s (Int.toNat (Go.IntKind.wrap Go.IntKind.i64 (n + (Go.IntKind.wrap Go.IntKind.i64 ((((ByteArray.size (s9 ++ s11)) : Nat) : Int) + (((ByteArray.size s10) : Nat) : Int)))))) (Int.toNat (((ByteArray.size s) : Nat) : Int)))))
                  none)
                none)
              none)
            none)
          none)))
      none)))))
    none))))
theorem ea_e_spec_PutTables_w (N : Nat) (G_spec_l10In : ∀ {R : Type} (s : ByteArray) (n : Int) (n1 : Int) (k : Bool → Option R), Option R) (G_spec_l21Words : ∀ {R : Type} (s : ByteArray) (k : Int → Option R), Option R) (G_spec_l21Table : ∀ {R : Type} (s : ByteArray) (n : Int) (s1 : ByteArray) (k : ByteArray → Option R), Option R) (G_spec_PutWord : ∀ {R : Type} (n : Int) (k : ByteArray → Option R), Option R) (G_spec_MemFault : ∀ {R : Type} (s : ByteArray) (k : Int → Option R), Option R) {R : Type} (s : ByteArray) (n : Int) (b : Bool) (l : List Go.Sa.FirmTable) (K : AV → Hp E → Option R) :
    runFnI (E := E) (OA_spec_PutTables_w N G_spec_l10In G_spec_l21Words G_spec_l21Table G_spec_PutWord G_spec_MemFault) (IT_spec_PutTables_w_0 N) sl_spec_PutTables_w J_spec_PutTables_w Go.Proofs.Try.f41 [(Go.Eng.AV.sc (Go.Eng.SV.str s)), (Go.Eng.AV.sc (Go.Eng.SV.int Go.IntKind.i64 n)), (Go.Eng.AV.sc (Go.Eng.SV.slc 0 Option.none b))] [(Option.some (Go.Eng.HE.mk Bool.false (Go.Eng.HB.rows (Go.Sa.B.iFirmTable l))))] K =
      ga_g_spec_PutTables_w N G_spec_l10In G_spec_l21Words G_spec_l21Table G_spec_PutWord G_spec_MemFault s n b l (fun s12 => K (Go.Eng.AV.sc (Go.Eng.SV.str s12)) [(Option.some (Go.Eng.HE.mk Bool.false (Go.Eng.HB.rows (Go.Sa.B.iFirmTable l))))]) := by kernel_rfl
theorem e_spec_PutTables_w (N : Nat) {R : Type} (s : ByteArray) (n : Int) (b : Bool) (l : List Go.Sa.FirmTable) (K : AV → Hp E → Option R) :
    runFnI (E := E) (O_spec_PutTables_w N) (IT_spec_PutTables_w_0 N) sl_spec_PutTables_w J_spec_PutTables_w Go.Proofs.Try.f41 [(Go.Eng.AV.sc (Go.Eng.SV.str s)), (Go.Eng.AV.sc (Go.Eng.SV.int Go.IntKind.i64 n)), (Go.Eng.AV.sc (Go.Eng.SV.slc 0 Option.none b))] [(Option.some (Go.Eng.HE.mk Bool.false (Go.Eng.HB.rows (Go.Sa.B.iFirmTable l))))] K =
      g_spec_PutTables_w N s n b l (fun s12 => K (Go.Eng.AV.sc (Go.Eng.SV.str s12)) [(Option.some (Go.Eng.HE.mk Bool.false (Go.Eng.HB.rows (Go.Sa.B.iFirmTable l))))]) := castPr (by kernel_rfl) (ea_e_spec_PutTables_w N (g_spec_l10In N) (g_spec_l21Words N) (g_spec_l21Table N) (g_spec_PutWord N) (g_spec_MemFault N) s n b l K)
def o_spec_PutTables_w (N : Nat) {R : Type} (args : List AV) (H : Hp E) (K : AV → Hp E → Option R) : Option R :=
  match args, H with
  | [(Go.Eng.AV.sc (Go.Eng.SV.str s)), (Go.Eng.AV.sc (Go.Eng.SV.int Go.IntKind.i64 n)), (Go.Eng.AV.sc (Go.Eng.SV.slc 0 Option.none b))], [(Option.some (Go.Eng.HE.mk Bool.false (Go.Eng.HB.rows (Go.Sa.B.iFirmTable l))))] => g_spec_PutTables_w N s n b l (fun s12 => K (Go.Eng.AV.sc (Go.Eng.SV.str s12)) [(Option.some (Go.Eng.HE.mk Bool.false (Go.Eng.HB.rows (Go.Sa.B.iFirmTable l))))])
  | _, _ => none
theorem o_spec_PutTables_w_ok (N : Nat) : FnOk E 41 (o_spec_PutTables_w N) := by
  intro R args H K r h
  unfold o_spec_PutTables_w at h
  dsimp only at h
  split at h
  · exact fnB_ok (ids := [0]) (top := [0]) ok (O_spec_PutTables_w_ok N) (jn_ok _ _ _) Go.Proofs.Try.func41 (by kernel_rfl) (IT := IT_spec_PutTables_w_0 N) (sl := sl_spec_PutTables_w) (J := J_spec_PutTables_w) (K := K) (H := [(Option.some (Go.Eng.HE.mk Bool.false (Go.Eng.HB.rows (Go.Sa.B.iFirmTable _))))]) (IT_spec_PutTables_w_0_ok N) (by kernel_rfl) rfl ((e_spec_PutTables_w N _ _ _ _ K).trans h)
  · cases h
/-! ### loop.example/g00038/impl.ybig -/
abbrev sl_impl_ybig_w : SlotT := [(0, ([5, 6, 7], [2]))]
abbrev J_impl_ybig_w : JT := jn [] [] []
noncomputable def O_impl_ybig_w (N : Nat) : Orc E := noFn
theorem O_impl_ybig_w_ok (N : Nat) : OrcOk (O_impl_ybig_w N) := noFn_ok
def s_impl_ybig_w_0 (N : Nat) {R : Type} (b1 : Bool) (n : Int) (l1 : List ByteArray) (n1 : Int) (ag : Int → Option R)  (kR : Option R) (kN : Option R) : Option R :=
  (cond (decide ((n1 < n)))
  (cond ((decide (((0 : Int) ≤ n1))) && (decide ((n1 < (((List.length l1) : Nat) : Int)))))
    (elemK l1 (Int.toNat n1) fun x =>
      (cond (decide (((((ByteArray.size x) : Nat) : Int) > (65536 : Int))))
      kR
      (ag (Go.IntKind.wrap Go.IntKind.i64 (n1 + (1 : Int))))))
    none)
  kN)
def l_impl_ybig_w_0 (N : Nat) {R : Type} (b1 : Bool) (n : Int) (l1 : List ByteArray) (kR : Option R) (kN : Option R) : Nat → Int → Option R
  | 0, _ => none
  | f + 1, n1 => s_impl_ybig_w_0 N b1 n l1 n1 (fun n1 => l_impl_ybig_w_0 N b1 n l1 kR kN f n1)  kR kN
def c_impl_ybig_w_0 (N : Nat) {R : Type} (b1 : Bool) (n : Int) (l1 : List ByteArray) (n1 : Int) (kR : Option R) (kN : Option R) : Option R := l_impl_ybig_w_0 N b1 n l1 kR kN N n1
theorem se_impl_ybig_w_0 (N : Nat) {R : Type} (b1 : Bool) (n : Int) (l1 : List ByteArray) (n1 : Int) (AG : List (Option AV) → Hp E → Option R) (KL : Ex → List (Option AV) → Hp E → Option R) :
    iterStep (E := E) (O_impl_ybig_w N) (fun {R} => LI (noIt) 1 15 sl_impl_ybig_w (R := R)) J_impl_ybig_w 1 15 0 [5, 6, 7] [2] (body Go.Proofs.Try.f76 0) AG KL [(Option.some (Go.Eng.AV.sc (Go.Eng.SV.slc 0 Option.none b1))), (Option.some (Go.Eng.AV.sc (Go.Eng.SV.int Go.IntKind.i64 n))), (Option.some (Go.Eng.AV.sc (Go.Eng.SV.int Go.IntKind.i64 n1)))] [(Option.some (Go.Eng.HE.mk Bool.false (Go.Eng.HB.rows (Go.Sa.B.str l1))))] =
      s_impl_ybig_w_0 N b1 n l1 n1 (fun n1 => AG [(Option.some (Go.Eng.AV.sc (Go.Eng.SV.slc 0 Option.none b1))), (Option.some (Go.Eng.AV.sc (Go.Eng.SV.int Go.IntKind.i64 n))), (Option.some (Go.Eng.AV.sc (Go.Eng.SV.int Go.IntKind.i64 n1)))] [(Option.some (Go.Eng.HE.mk Bool.false (Go.Eng.HB.rows (Go.Sa.B.str l1))))])  (KL Go.Eng.Ex.ret [(Option.some (Go.Eng.AV.sc (Go.Eng.SV.bool Bool.true)))] [(Option.some (Go.Eng.HE.mk Bool.false (Go.Eng.HB.rows (Go.Sa.B.str l1))))]) (KL Go.Eng.Ex.normal [Option.none] [(Option.some (Go.Eng.HE.mk Bool.false (Go.Eng.HB.rows (Go.Sa.B.str l1))))]) := by kernel_rfl
theorem le_impl_ybig_w_0 (N : Nat) {R : Type} (b1 : Bool) (n : Int) (l1 : List ByteArray) (KL : Ex → List (Option AV) → Hp E → Option R) : ∀ (f : Nat), ∀ (n1 : Int), iterK (E := E) (O_impl_ybig_w N) (fun {R} => LI (noIt) 1 15 sl_impl_ybig_w (R := R)) J_impl_ybig_w 1 15 0 [5, 6, 7] [2] (body Go.Proofs.Try.f76 0) f [(Option.some (Go.Eng.AV.sc (Go.Eng.SV.slc 0 Option.none b1))), (Option.some (Go.Eng.AV.sc (Go.Eng.SV.int Go.IntKind.i64 n))), (Option.some (Go.Eng.AV.sc (Go.Eng.SV.int Go.IntKind.i64 n1)))] [(Option.some (Go.Eng.HE.mk Bool.false (Go.Eng.HB.rows (Go.Sa.B.str l1))))] KL = l_impl_ybig_w_0 N b1 n l1 (KL Go.Eng.Ex.ret [(Option.some (Go.Eng.AV.sc (Go.Eng.SV.bool Bool.true)))] [(Option.some (Go.Eng.HE.mk Bool.false (Go.Eng.HB.rows (Go.Sa.B.str l1))))]) (KL Go.Eng.Ex.normal [Option.none] [(Option.some (Go.Eng.HE.mk Bool.false (Go.Eng.HB.rows (Go.Sa.B.str l1))))]) f n1 := by
  intro f
  induction f with
  | zero => intros; rfl
  | succ f ih =>
    intro n1
    rw [iterK_succ, se_impl_ybig_w_0]
    exact (congrArg (fun z0 => s_impl_ybig_w_0 N b1 n l1 n1 z0 (KL Go.Eng.Ex.ret [(Option.some (Go.Eng.AV.sc (Go.Eng.SV.bool Bool.true)))] [(Option.some (Go.Eng.HE.mk Bool.false (Go.Eng.HB.rows (Go.Sa.B.str l1))))]) (KL Go.Eng.Ex.normal [Option.none] [(Option.some (Go.Eng.HE.mk Bool.false (Go.Eng.HB.rows (Go.Sa.B.str l1))))])) (funext fun n1 => ih n1))
def i_impl_ybig_w_0 (N : Nat) {R : Type} (vs : List (Option AV)) (H : Hp E) (KL : Ex → List (Option AV) → Hp E → Option R) : Option R :=
  match vs, H with
  | [(Option.some (Go.Eng.AV.sc (Go.Eng.SV.slc 0 Option.none b1))), (Option.some (Go.Eng.AV.sc (Go.Eng.SV.int Go.IntKind.i64 n))), (Option.some (Go.Eng.AV.sc (Go.Eng.SV.int Go.IntKind.i64 n1)))], [(Option.some (Go.Eng.HE.mk Bool.false (Go.Eng.HB.rows (Go.Sa.B.str l1))))] => c_impl_ybig_w_0 N b1 n l1 n1 (KL Go.Eng.Ex.ret [(Option.some (Go.Eng.AV.sc (Go.Eng.SV.bool Bool.true)))] [(Option.some (Go.Eng.HE.mk Bool.false (Go.Eng.HB.rows (Go.Sa.B.str l1))))]) (KL Go.Eng.Ex.normal [Option.none] [(Option.some (Go.Eng.HE.mk Bool.false (Go.Eng.HB.rows (Go.Sa.B.str l1))))])
  | _, _ => none
noncomputable def IT_impl_ybig_w_0 (N : Nat) : Its E := addIt 0 (i_impl_ybig_w_0 N) (noIt)
theorem IT_impl_ybig_w_0_ok (N : Nat) : ItOk (IT_impl_ybig_w_0 N) 1 15 sl_impl_ybig_w (lsB Go.Proofs.Try.f76 [0]) :=
  addItB_ok (inner := []) ok (O_impl_ybig_w_ok N) (jn_ok _ _ _) (noIt_ok) rfl (by kernel_rfl) rfl fun vs H KL r h => by
    unfold i_impl_ybig_w_0 at h
    split at h
    · exact ⟨_, (le_impl_ybig_w_0 N _ _ _ KL N _).trans h⟩
    · cases h
def g_impl_ybig_w (N : Nat) {R : Type} (b : Bool) (l : List ByteArray) (k : Bool → Option R) : Option R :=
  (c_impl_ybig_w_0 N b (((List.length l) : Nat) : Int) l (0 : Int) (
  (k Bool.true)) (
  (k Bool.false)))
theorem e_impl_ybig_w (N : Nat) {R : Type} (b : Bool) (l : List ByteArray) (K : AV → Hp E → Option R) :
    runFnI (E := E) (O_impl_ybig_w N) (IT_impl_ybig_w_0 N) sl_impl_ybig_w J_impl_ybig_w Go.Proofs.Try.f76 [(Go.Eng.AV.sc (Go.Eng.SV.slc 0 Option.none b))] [(Option.some (Go.Eng.HE.mk Bool.false (Go.Eng.HB.rows (Go.Sa.B.str l))))] K =
      g_impl_ybig_w N b l (fun b2 => K (Go.Eng.AV.sc (Go.Eng.SV.bool b2)) [(Option.some (Go.Eng.HE.mk Bool.false (Go.Eng.HB.rows (Go.Sa.B.str l))))]) := by kernel_rfl
def o_impl_ybig_w (N : Nat) {R : Type} (args : List AV) (H : Hp E) (K : AV → Hp E → Option R) : Option R :=
  match args, H with
  | [(Go.Eng.AV.sc (Go.Eng.SV.slc 0 Option.none b))], [(Option.some (Go.Eng.HE.mk Bool.false (Go.Eng.HB.rows (Go.Sa.B.str l))))] => g_impl_ybig_w N b l (fun b2 => K (Go.Eng.AV.sc (Go.Eng.SV.bool b2)) [(Option.some (Go.Eng.HE.mk Bool.false (Go.Eng.HB.rows (Go.Sa.B.str l))))])
  | _, _ => none
theorem o_impl_ybig_w_ok (N : Nat) : FnOk E 76 (o_impl_ybig_w N) := by
  intro R args H K r h
  unfold o_impl_ybig_w at h
  dsimp only at h
  split at h
  · exact fnB_ok (ids := [0]) (top := [0]) ok (O_impl_ybig_w_ok N) (jn_ok _ _ _) Go.Proofs.Try.func76 (by kernel_rfl) (IT := IT_impl_ybig_w_0 N) (sl := sl_impl_ybig_w) (J := J_impl_ybig_w) (K := K) (H := [(Option.some (Go.Eng.HE.mk Bool.false (Go.Eng.HB.rows (Go.Sa.B.str _))))]) (IT_impl_ybig_w_0_ok N) (by kernel_rfl) rfl ((e_impl_ybig_w N _ _ K).trans h)
  · cases h
/-! ### loop.example/g00038/impl.ytableAt -/
abbrev sl_impl_ytableAt : SlotT := []
abbrev J_impl_ytableAt : JT := jn [] [] []
noncomputable def O_impl_ytableAt (N : Nat) : Orc E := addFn 107 (o_impl_ybyteSum N) (addFn 154 (o_impl_ytableName N) (addFn 85 (o_impl_ywordAt N) (addFn 97 (o_impl_yfits N) (noFn))))
def pa_impl_ytableAt__o_impl_ybyteSum (N : Nat) (G_impl_ybyteSum : ∀ {R : Type} (s : ByteArray) (k : Int → Option R), Option R) (G_impl_ytableName : ∀ {R : Type} (s : ByteArray) (k : Bool → Option R), Option R) (G_impl_ywordAt : ∀ {R : Type} (s : ByteArray) (n : Int) (k : Int → Option R), Option R) (G_impl_yfits : ∀ {R : Type} (n : Int) (n1 : Int) (n2 : Int) (k : Bool → Option R), Option R) {R : Type} (args : List AV) (H : Hp E) (K : AV → Hp E → Option R) : Option R :=
  match args, H with
  | [(Go.Eng.AV.sc (Go.Eng.SV.str s))], [] => G_impl_ybyteSum s (fun n4 => K (Go.Eng.AV.sc (Go.Eng.SV.int Go.IntKind.i64 n4)) [])
  | _, _ => none
def pa_impl_ytableAt__o_impl_ytableName (N : Nat) (G_impl_ybyteSum : ∀ {R : Type} (s : ByteArray) (k : Int → Option R), Option R) (G_impl_ytableName : ∀ {R : Type} (s : ByteArray) (k : Bool → Option R), Option R) (G_impl_ywordAt : ∀ {R : Type} (s : ByteArray) (n : Int) (k : Int → Option R), Option R) (G_impl_yfits : ∀ {R : Type} (n : Int) (n1 : Int) (n2 : Int) (k : Bool → Option R), Option R) {R : Type} (args : List AV) (H : Hp E) (K : AV → Hp E → Option R) : Option R :=
  match args, H with
  | [(Go.Eng.AV.sc (Go.Eng.SV.str s))], [] => G_impl_ytableName s (fun b => K (Go.Eng.AV.sc (Go.Eng.SV.bool b)) [])
  | _, _ => none
def pa_impl_ytableAt__o_impl_ywordAt (N : Nat) (G_impl_ybyteSum : ∀ {R : Type} (s : ByteArray) (k : Int → Option R), Option R) (G_impl_ytableName : ∀ {R : Type} (s : ByteArray) (k : Bool → Option R), Option R) (G_impl_ywordAt : ∀ {R : Type} (s : ByteArray) (n : Int) (k : Int → Option R), Option R) (G_impl_yfits : ∀ {R : Type} (n : Int) (n1 : Int) (n2 : Int) (k : Bool → Option R), Option R) {R : Type} (args : List AV) (H : Hp E) (K : AV → Hp E → Option R) : Option R :=
  match args, H with
  | [(Go.Eng.AV.sc (Go.Eng.SV.str s)), (Go.Eng.AV.sc (Go.Eng.SV.int Go.IntKind.i64 n))], [] => G_impl_ywordAt s n (fun n1 => K (Go.Eng.AV.sc (Go.Eng.SV.int Go.IntKind.i64 n1)) [])
  | _, _ => none
def pa_impl_ytableAt__o_impl_yfits (N : Nat) (G_impl_ybyteSum : ∀ {R : Type} (s : ByteArray) (k : Int → Option R), Option R) (G_impl_ytableName : ∀ {R : Type} (s : ByteArray) (k : Bool → Option R), Option R) (G_impl_ywordAt : ∀ {R : Type} (s : ByteArray) (n : Int) (k : Int → Option R), Option R) (G_impl_yfits : ∀ {R : Type} (n : Int) (n1 : Int) (n2 : Int) (k : Bool → Option R), Option R) {R : Type} (args : List AV) (H : Hp E) (K : AV → Hp E → Option R) : Option R :=
  match args, H with
  | [(Go.Eng.AV.sc (Go.Eng.SV.int Go.IntKind.i64 n)), (Go.Eng.AV.sc (Go.Eng.SV.int Go.IntKind.i64 n1)), (Go.Eng.AV.sc (Go.Eng.SV.int Go.IntKind.i64 n2))], [] => G_impl_yfits n n1 n2 (fun b => K (Go.Eng.AV.sc (Go.Eng.SV.bool b)) [])
  | _, _ => none
noncomputable def OA_impl_ytableAt (N : Nat) (G_impl_ybyteSum : ∀ {R : Type} (s : ByteArray) (k : Int → Option R), Option R) (G_impl_ytableName : ∀ {R : Type} (s : ByteArray) (k : Bool → Option R), Option R) (G_impl_ywordAt : ∀ {R : Type} (s : ByteArray) (n : Int) (k : Int → Option R), Option R) (G_impl_yfits : ∀ {R : Type} (n : Int) (n1 : Int) (n2 : Int) (k : Bool → Option R), Option R) : Orc E := addFn 107 (pa_impl_ytableAt__o_impl_ybyteSum N G_impl_ybyteSum G_impl_ytableName G_impl_ywordAt G_impl_yfits) (addFn 154 (pa_impl_ytableAt__o_impl_ytableName N G_impl_ybyteSum G_impl_ytableName G_impl_ywordAt G_impl_yfits) (addFn 85 (pa_impl_ytableAt__o_impl_ywordAt N G_impl_ybyteSum G_impl_ytableName G_impl_ywordAt G_impl_yfits) (addFn 97 (pa_impl_ytableAt__o_impl_yfits N G_impl_ybyteSum G_impl_ytableName G_impl_ywordAt G_impl_yfits) (noFn))))
theorem O_impl_ytableAt_ok (N : Nat) : OrcOk (O_impl_ytableAt N) := addFn_ok (o_impl_ybyteSum_ok N) (addFn_ok (o_impl_ytableName_ok N) (addFn_ok (o_impl_ywordAt_ok N) (addFn_ok (o_impl_yfits_ok N) (noFn_ok))))
def g_impl_ytableAt (N : Nat) {R : Type} (s : ByteArray) (n : Int) (k : ByteArray → Int → ByteArray → Int → Option R) : Option R :=
  (cond ((Int.tmod n (4 : Int)) != (0 : Int))
  (k (ByteArray.mk (List.toArray [])) (0 : Int) (ByteArray.mk (List.toArray [])) (5 : Int))
  (g_impl_yfits N (((ByteArray.size s) : Nat) : Int) n (8 : Int) fun b =>
    (cond (!b)
    (k (ByteArray.mk (List.toArray [])) (0 : Int) (ByteArray.mk (List.toArray [])) (5 : Int))
    (cond (((decide (((0 : Int) ≤ n))) && (decide ((n ≤ (Go.IntKind.wrap Go.IntKind.i64 (n + (4 : Int))))))) && (decide (((Go.IntKind.wrap Go.IntKind.i64 (n + (4 : Int))) ≤ (((ByteArray.size s) : Nat) : Int)))))
      (g_impl_ywordAt N s (Go.IntKind.wrap Go.IntKind.i64 (n + (4 : Int))) fun n1 =>
        (g_impl_ywordAt N s (Go.IntKind.wrap Go.IntKind.i64 (n + (4 : Int))) fun n2 =>
        (g_impl_ytableName N (ByteArray.extract s (Int.toNat n) (Int.toNat (Go.IntKind.wrap Go.IntKind.i64 (n + (4 : Int))))) fun b1 =>
        (cond (!b1)
        (k (ByteArray.mk (List.toArray [])) (0 : Int) (ByteArray.mk (List.toArray [])) (3 : Int))
        (cond (decide (((Int.fdiv n1 (65536 : Int)) < (8 : Int))))
          (k (ByteArray.mk (List.toArray [])) (0 : Int) (ByteArray.mk (List.toArray [])) (3 : Int))
          (cond (decide (((Int.fdiv n1 (65536 : Int)) > (208 : Int))))
            (k (ByteArray.mk (List.toArray [])) (0 : Int) (ByteArray.mk (List.toArray [])) (3 : Int))
            (cond ((Int.tmod (Int.fdiv n1 (65536 : Int)) (4 : Int)) != (0 : Int))
              (k (ByteArray.mk (List.toArray [])) (0 : Int) (ByteArray.mk (List.toArray [])) (3 : Int))
              (g_impl_yfits N (((ByteArray.size s) : Nat) : Int) n (Int.fdiv n1 (65536 : Int)) fun b2 =>
                (cond (!b2)
                (k (ByteArray.mk (List.toArray [])) (0 : Int) (ByteArray.mk (List.toArray [])) (5 : Int))
                (cond (((decide (((0 : Int) ≤ n))) && (decide ((n ≤ (Go.IntKind.wrap Go.IntKind.i64 (n + (Int.fdiv n1 (65536 : Int)))))))) && (decide (((Go.IntKind.wrap Go.IntKind.i64 (n + (Int.fdiv n1 (65536 : Int)))) ≤ (((ByteArray.size s) : Nat) : Int)))))
                  (g_impl_ybyteSum N (ByteArray.extract s (Int.toNat n) (Int.toNat (Go.IntKind.wrap Go.IntKind.i64 (n + (Int.fdiv n1 (65536 : Int)))))) fun n3 =>
                    (cond (n3 != (0 : Int))
                    (k (ByteArray.mk (List.toArray [])) (0 : Int) (ByteArray.mk (List.toArray [])) (10 : Int))
                    (cond (((decide (((0 : Int) ≤ (Go.IntKind.wrap Go.IntKind.i64 (n + (8 : Int)))))) && (decide (((Go.IntKind.wrap Go.IntKind.i64 (n + (8 : Int))) ≤ (Go.IntKind.wrap Go.IntKind.i64 (n + (Int.fdiv n1 (65536 : Int)))))))) && (decide (((Go.IntKind.wrap Go.IntKind.i64 (n + (Int.fdiv n1 (65536 : Int)))) ≤ (((ByteArray.size s) : Nat) : Int)))))
                      (k (ByteArray.extract s (Int.toNat n) (Int.toNat (Go.IntKind.wrap Go.IntKind.i64 (n + (4 : Int))))) (Go.IntKind.wrap Go.IntKind.i64 (((BitVec.toNat ((BitVec.ofInt 64 (Int.fdiv n2 (256 : Int))) &&& (BitVec.ofInt 64 (255 : Int)))) : Nat) : Int)) (ByteArray.extract s (Int.toNat (Go.IntKind.wrap Go.IntKind.i64 (n + (8 : Int)))) (Int.toNat (Go.IntKind.wrap Go.IntKind.i64 (n + (Int.fdiv n1 (65536 : Int)))))) (0 : Int))
                      none)))
                  none))))))))))
      none))))
def ga_g_impl_ytableAt (N : Nat) (G_impl_ybyteSum : ∀ {R : Type} (s : ByteArray) (k : Int → Option R), Option R) (G_impl_ytableName : ∀ {R : Type} (s : ByteArray) (k : Bool → Option R), Option R) (G_impl_ywordAt : ∀ {R : Type} (s : ByteArray) (n : Int) (k : Int → Option R), Option R) (G_impl_yfits : ∀ {R : Type} (n : Int) (n1 : Int) (n2 : Int) (k : Bool → Option R), Option R) {R : Type} (s : ByteArray) (n : Int) (k : ByteArray → Int → ByteArray → Int → Option R) : Option R :=
  (cond ((Int.tmod n (4 : Int)) != (0 : Int))
  (k (ByteArray.mk (List.toArray [])) (0 : Int) (ByteArray.mk (List.toArray [])) (5 : Int))
  (G_impl_yfits (((ByteArray.size s) : Nat) : Int) n (8 : Int) fun b =>
    (cond (!b)
    (k (ByteArray.mk (List.toArray [])) (0 : Int) (ByteArray.mk (List.toArray [])) (5 : Int))
    (cond (((decide (((0 : Int) ≤ n))) && (decide ((n ≤ (Go.IntKind.wrap Go.IntKind.i64 (n + (4 : Int))))))) && (decide (((Go.IntKind.wrap Go.IntKind.i64 (n + (4 : Int))) ≤ (((ByteArray.size s) : Nat) : Int)))))
      (G_impl_ywordAt s (Go.IntKind.wrap Go.IntKind.i64 (n + (4 : Int))) fun n1 =>
        (G_impl_ywordAt s (Go.IntKind.wrap Go.IntKind.i64 (n + (4 : Int))) fun n2 =>
        (G_impl_ytableName (ByteArray.extract s (Int.toNat n) (Int.toNat (Go.IntKind.wrap Go.IntKind.i64 (n + (4 : Int))))) fun b1 =>
        (cond (!b1)
        (k (ByteArray.mk (List.toArray [])) (0 : Int) (ByteArray.mk (List.toArray [])) (3 : Int))
        (cond (decide (((Int.fdiv n1 (65536 : Int)) < (8 : Int))))
          (k (ByteArray.mk (List.toArray [])) (0 : Int) (ByteArray.mk (List.toArray [])) (3 : Int))
          (cond (decide (((Int.fdiv n1 (65536 : Int)) > (208 : Int))))
            (k (ByteArray.mk (List.toArray [])) (0 : Int) (ByteArray.mk (List.toArray [])) (3 : Int))
            (cond ((Int.tmod (Int.fdiv n1 (65536 : Int)) (4 : Int)) != (0 : Int))
              (k (ByteArray.mk (List.toArray [])) (0 : Int) (ByteArray.mk (List.toArray [])) (3 : Int))
              (G_impl_yfits (((ByteArray.size s) : Nat) : Int) n (Int.fdiv n1 (65536 : Int)) fun b2 =>
                (cond (!b2)
                (k (ByteArray.mk (List.toArray [])) (0 : Int) (ByteArray.mk (List.toArray [])) (5 : Int))
                (cond (((decide (((0 : Int) ≤ n))) && (decide ((n ≤ (Go.IntKind.wrap Go.IntKind.i64 (n + (Int.fdiv n1 (65536 : Int)))))))) && (decide (((Go.IntKind.wrap Go.IntKind.i64 (n + (Int.fdiv n1 (65536 : Int)))) ≤ (((ByteArray.size s) : Nat) : Int)))))
                  (G_impl_ybyteSum (ByteArray.extract s (Int.toNat n) (Int.toNat (Go.IntKind.wrap Go.IntKind.i64 (n + (Int.fdiv n1 (65536 : Int)))))) fun n3 =>
                    (cond (n3 != (0 : Int))
                    (k (ByteArray.mk (List.toArray [])) (0 : Int) (ByteArray.mk (List.toArray [])) (10 : Int))
                    (cond (((decide (((0 : Int) ≤ (Go.IntKind.wrap Go.IntKind.i64 (n + (8 : Int)))))) && (decide (((Go.IntKind.wrap Go.IntKind.i64 (n + (8 : Int))) ≤ (Go.IntKind.wrap Go.IntKind.i64 (n + (Int.fdiv n1 (65536 : Int)))))))) && (decide (((Go.IntKind.wrap Go.IntKind.i64 (n + (Int.fdiv n1 (65536 : Int)))) ≤ (((ByteArray.size s) : Nat) : Int)))))
                      (k (ByteArray.extract s (Int.toNat n) (Int.toNat (Go.IntKind.wrap Go.IntKind.i64 (n + (4 : Int))))) (Go.IntKind.wrap Go.IntKind.i64 (((BitVec.toNat ((BitVec.ofInt 64 (Int.fdiv n2 (256 : Int))) &&& (BitVec.ofInt 64 (255 : Int)))) : Nat) : Int)) (ByteArray.extract s (Int.toNat (Go.IntKind.wrap Go.IntKind.i64 (n + (8 : Int)))) (Int.toNat (Go.IntKind.wrap Go.IntKind.i64 (n + (Int.fdiv n1 (65536 : Int)))))) (0 : Int))
                      none)))
                  none))))))))))
      none))))
theorem ea_e_impl_ytableAt (N : Nat) (G_impl_ybyteSum : ∀ {R : Type} (s : ByteArray) (k : Int → Option R), Option R) (G_impl_ytableName : ∀ {R : Type} (s : ByteArray) (k : Bool → Option R), Option R) (G_impl_ywordAt : ∀ {R : Type} (s : ByteArray) (n : Int) (k : Int → Option R), Option R) (G_impl_yfits : ∀ {R : Type} (n : Int) (n1 : Int) (n2 : Int) (k : Bool → Option R), Option R) {R : Type} (s : ByteArray) (n : Int) (K : AV → Hp E → Option R) :
    runFnI (E := E) (OA_impl_ytableAt N G_impl_ybyteSum G_impl_ytableName G_impl_ywordAt G_impl_yfits) (noIt) sl_impl_ytableAt J_impl_ytableAt Go.Proofs.Try.f99 [(Go.Eng.AV.sc (Go.Eng.SV.str s)), (Go.Eng.AV.sc (Go.Eng.SV.int Go.IntKind.i64 n))] [] K =
      ga_g_impl_ytableAt N G_impl_ybyteSum G_impl_ytableName G_impl_ywordAt G_impl_yfits s n (fun s1 n4 s2 n5 => K (Go.Eng.AV.tup [(Bool.true, [(Go.Eng.SV.str s1), (Go.Eng.SV.int Go.IntKind.i64 n4), (Go.Eng.SV.str s2)]), (Bool.false, [(Go.Eng.SV.int Go.IntKind.i64 n5)])]) []) := by kernel_rfl
theorem e_impl_ytableAt (N : Nat) {R : Type} (s : ByteArray) (n : Int) (K : AV → Hp E → Option R) :
    runFnI (E := E) (O_impl_ytableAt N) (noIt) sl_impl_ytableAt J_impl_ytableAt Go.Proofs.Try.f99 [(Go.Eng.AV.sc (Go.Eng.SV.str s)), (Go.Eng.AV.sc (Go.Eng.SV.int Go.IntKind.i64 n))] [] K =
      g_impl_ytableAt N s n (fun s1 n4 s2 n5 => K (Go.Eng.AV.tup [(Bool.true, [(Go.Eng.SV.str s1), (Go.Eng.SV.int Go.IntKind.i64 n4), (Go.Eng.SV.str s2)]), (Bool.false, [(Go.Eng.SV.int Go.IntKind.i64 n5)])]) []) := castPr (by kernel_rfl) (ea_e_impl_ytableAt N (g_impl_ybyteSum N) (g_impl_ytableName N) (g_impl_ywordAt N) (g_impl_yfits N) s n K)
def o_impl_ytableAt (N : Nat) {R : Type} (args : List AV) (H : Hp E) (K : AV → Hp E → Option R) : Option R :=
  match args, H with
  | [(Go.Eng.AV.sc (Go.Eng.SV.str s)), (Go.Eng.AV.sc (Go.Eng.SV.int Go.IntKind.i64 n))], [] => g_impl_ytableAt N s n (fun s1 n4 s2 n5 => K (Go.Eng.AV.tup [(Bool.true, [(Go.Eng.SV.str s1), (Go.Eng.SV.int Go.IntKind.i64 n4), (Go.Eng.SV.str s2)]), (Bool.false, [(Go.Eng.SV.int Go.IntKind.i64 n5)])]) [])
  | _, _ => none
theorem o_impl_ytableAt_ok (N : Nat) : FnOk E 99 (o_impl_ytableAt N) := by
  intro R args H K r h
  unfold o_impl_ytableAt at h
  dsimp only at h
  split at h
  · exact fnB_ok (ids := []) (top := []) ok (O_impl_ytableAt_ok N) (jn_ok _ _ _) Go.Proofs.Try.func99 (by kernel_rfl) (IT := noIt) (sl := sl_impl_ytableAt) (J := J_impl_ytableAt) (K := K) (H := []) (noIt_ok) (by kernel_rfl) rfl ((e_impl_ytableAt N _ _ K).trans h)
  · cases h
end Go.Sa
