import Derived.Test.YtnopbegjbbbdhaaSpec
import Derived.Test.YtnopbegjbbbdhaaPLb
set_option linter.all false
namespace Go.Sa
open Go Go.Eng Go.Proofs
set_option maxRecDepth 100000
theorem castPr {p q : Prop} (e : p = q) (h : p) : q := e ▸ h
/-! ### loop.example/g00038/spec.MemFault -/
abbrev sl_spec_MemFault : SlotT := []
abbrev J_spec_MemFault : JT := jn [(1, [(16, .b)])] [] []
noncomputable def O_spec_MemFault (N : Nat) : Orc E := noFn
theorem O_spec_MemFault_ok (N : Nat) : OrcOk (O_spec_MemFault N) := noFn_ok
def g_spec_MemFault (N : Nat) {R : Type} (s : ByteArray) (k : Int → Option R) : Option R :=
  (oK (cond ((((ByteArray.size s) : Nat) : Int) == (0 : Int))
    (some Bool.true)
    (cond ((Int.tmod (((ByteArray.size s) : Nat) : Int) (256 : Int)) != (0 : Int))
      (some Bool.true)
      (some (decide (((((ByteArray.size s) : Nat) : Int) > (65536 : Int))))))) fun j =>
  (cond j
  (k (1 : Int))
  (k (0 : Int))))
theorem e_spec_MemFault (N : Nat) {R : Type} (s : ByteArray) (K : AV → Hp E → Option R) :
    runFnI (E := E) (O_spec_MemFault N) (noIt) sl_spec_MemFault J_spec_MemFault Go.Proofs.Try.f58 [(Go.Eng.AV.sc (Go.Eng.SV.str s))] [] K =
      g_spec_MemFault N s (fun n => K (Go.Eng.AV.sc (Go.Eng.SV.int Go.IntKind.i64 n)) []) := by kernel_rfl
def o_spec_MemFault (N : Nat) {R : Type} (args : List AV) (H : Hp E) (K : AV → Hp E → Option R) : Option R :=
  match args, H with
  | [(Go.Eng.AV.sc (Go.Eng.SV.str s))], [] => g_spec_MemFault N s (fun n => K (Go.Eng.AV.sc (Go.Eng.SV.int Go.IntKind.i64 n)) [])
  | _, _ => none
theorem o_spec_MemFault_ok (N : Nat) : FnOk E 58 (o_spec_MemFault N) := by
  intro R args H K r h
  unfold o_spec_MemFault at h
  dsimp only at h
  split at h
  · exact fnB_ok (ids := []) (top := []) ok (O_spec_MemFault_ok N) (jn_ok _ _ _) Go.Proofs.Try.func58 (by kernel_rfl) (IT := noIt) (sl := sl_spec_MemFault) (J := J_spec_MemFault) (K := K) (H := []) (noIt_ok) (by kernel_rfl) rfl ((e_spec_MemFault N _ K).trans h)
  · cases h
/-! ### loop.example/g00038/spec.l03Acc -/
abbrev sl_spec_l03Acc : SlotT := []
abbrev J_spec_l03Acc : JT := jn [(1, [(2, .b)])] [] []
noncomputable def O_spec_l03Acc (N : Nat) : Orc E := noFn
theorem O_spec_l03Acc_ok (N : Nat) : OrcOk (O_spec_l03Acc N) := noFn_ok
def g_spec_l03Acc (N : Nat) {R : Type} (n : Int) (k : Bool → Option R) : Option R :=
  (oK (cond (n == (1 : Int))
    (some Bool.true)
    (cond (n == (2 : Int))
      (some Bool.true)
      (some (n == (3 : Int))))) fun j =>
  (k j))
theorem e_spec_l03Acc (N : Nat) {R : Type} (n : Int) (K : AV → Hp E → Option R) :
    runFnI (E := E) (O_spec_l03Acc N) (noIt) sl_spec_l03Acc J_spec_l03Acc Go.Proofs.Try.f64 [(Go.Eng.AV.sc (Go.Eng.SV.int Go.IntKind.i64 n))] [] K =
      g_spec_l03Acc N n (fun b => K (Go.Eng.AV.sc (Go.Eng.SV.bool b)) []) := by kernel_rfl
def o_spec_l03Acc (N : Nat) {R : Type} (args : List AV) (H : Hp E) (K : AV → Hp E → Option R) : Option R :=
  match args, H with
  | [(Go.Eng.AV.sc (Go.Eng.SV.int Go.IntKind.i64 n))], [] => g_spec_l03Acc N n (fun b => K (Go.Eng.AV.sc (Go.Eng.SV.bool b)) [])
  | _, _ => none
theorem o_spec_l03Acc_ok (N : Nat) : FnOk E 64 (o_spec_l03Acc N) := by
  intro R args H K r h
  unfold o_spec_l03Acc at h
  dsimp only at h
  split at h
  · exact fnB_ok (ids := []) (top := []) ok (O_spec_l03Acc_ok N) (jn_ok _ _ _) Go.Proofs.Try.func64 (by kernel_rfl) (IT := noIt) (sl := sl_spec_l03Acc) (J := J_spec_l03Acc) (K := K) (H := []) (noIt_ok) (by kernel_rfl) rfl ((e_spec_l03Acc N _ K).trans h)
  · cases h
/-! ### loop.example/g00038/spec.l01Word -/
abbrev sl_spec_l01Word : SlotT := []
abbrev J_spec_l01Word : JT := jn [] [] []
noncomputable def O_spec_l01Word (N : Nat) : Orc E := noFn
theorem O_spec_l01Word_ok (N : Nat) : OrcOk (O_spec_l01Word N) := noFn_ok
def g_spec_l01Word (N : Nat) {R : Type} (s : ByteArray) (n : Int) (k : Int → Option R) : Option R :=
  (cond ((decide (((0 : Int) ≤ n))) && (decide ((n < (((ByteArray.size s) : Nat) : Int)))))
  (cond ((decide (((0 : Int) ≤ (Go.IntKind.wrap Go.IntKind.i64 (n + (1 : Int)))))) && (decide (((Go.IntKind.wrap Go.IntKind.i64 (n + (1 : Int))) < (((ByteArray.size s) : Nat) : Int)))))
    (cond ((decide (((0 : Int) ≤ (Go.IntKind.wrap Go.IntKind.i64 (n + (2 : Int)))))) && (decide (((Go.IntKind.wrap Go.IntKind.i64 (n + (2 : Int))) < (((ByteArray.size s) : Nat) : Int)))))
      (cond ((decide (((0 : Int) ≤ (Go.IntKind.wrap Go.IntKind.i64 (n + (3 : Int)))))) && (decide (((Go.IntKind.wrap Go.IntKind.i64 (n + (3 : Int))) < (((ByteArray.size s) : Nat) : Int)))))
        (k (Go.IntKind.wrap Go.IntKind.i64 ((Go.IntKind.wrap Go.IntKind.i64 ((Go.IntKind.wrap Go.IntKind.i64 ((Go.IntKind.wrap Go.IntKind.i64 (Go.Eng.bt s (Int.toNat n))) + (Go.IntKind.wrap Go.IntKind.i64 ((Go.IntKind.wrap Go.IntKind.i64 (Go.Eng.bt s (Int.toNat (Go.IntKind.wrap Go.IntKind.i64 (n + (1 : Int)))))) * (256 : Int))))) + (Go.IntKind.wrap Go.IntKind.i64 ((Go.IntKind.wrap Go.IntKind.i64 (Go.Eng.bt s (Int.toNat (Go.IntKind.wrap Go.IntKind.i64 (n + (2 : Int)))))) * (65536 : Int))))) + (Go.IntKind.wrap Go.IntKind.i64 ((Go.IntKind.wrap Go.IntKind.i64 (Go.Eng.bt s (Int.toNat (Go.IntKind.wrap Go.IntKind.i64 (n + (3 : Int)))))) * (16777216 : Int))))))
        none)
      none)
    none)
  none)
theorem e_spec_l01Word (N : Nat) {R : Type} (s : ByteArray) (n : Int) (K : AV → Hp E → Option R) :
    runFnI (E := E) (O_spec_l01Word N) (noIt) sl_spec_l01Word J_spec_l01Word Go.Proofs.Try.f79 [(Go.Eng.AV.sc (Go.Eng.SV.str s)), (Go.Eng.AV.sc (Go.Eng.SV.int Go.IntKind.i64 n))] [] K =
      g_spec_l01Word N s n (fun n1 => K (Go.Eng.AV.sc (Go.Eng.SV.int Go.IntKind.i64 n1)) []) := by kernel_rfl
def o_spec_l01Word (N : Nat) {R : Type} (args : List AV) (H : Hp E) (K : AV → Hp E → Option R) : Option R :=
  match args, H with
  | [(Go.Eng.AV.sc (Go.Eng.SV.str s)), (Go.Eng.AV.sc (Go.Eng.SV.int Go.IntKind.i64 n))], [] => g_spec_l01Word N s n (fun n1 => K (Go.Eng.AV.sc (Go.Eng.SV.int Go.IntKind.i64 n1)) [])
  | _, _ => none
theorem o_spec_l01Word_ok (N : Nat) : FnOk E 79 (o_spec_l01Word N) := by
  intro R args H K r h
  unfold o_spec_l01Word at h
  dsimp only at h
  split at h
  · exact fnB_ok (ids := []) (top := []) ok (O_spec_l01Word_ok N) (jn_ok _ _ _) Go.Proofs.Try.func79 (by kernel_rfl) (IT := noIt) (sl := sl_spec_l01Word) (J := J_spec_l01Word) (K := K) (H := []) (noIt_ok) (by kernel_rfl) rfl ((e_spec_l01Word N _ _ K).trans h)
  · cases h
/-! ### loop.example/g00038/spec.l03Entry -/
abbrev sl_spec_l03Entry : SlotT := []
abbrev J_spec_l03Entry : JT := jn [] [] []
noncomputable def O_spec_l03Entry (N : Nat) : Orc E := addFn 79 (o_spec_l01Word N) (noFn)
theorem O_spec_l03Entry_ok (N : Nat) : OrcOk (O_spec_l03Entry N) := addFn_ok (o_spec_l01Word_ok N) (noFn_ok)
def g_spec_l03Entry (N : Nat) {R : Type} (s : ByteArray) (n : Int) (n1 : Int) (k : Int → Bool → Option R) : Option R :=
  (cond (decide (((Go.IntKind.wrap Go.IntKind.i64 ((Go.IntKind.wrap Go.IntKind.i64 (n + (1 : Int))) * (256 : Int))) > (((ByteArray.size s) : Nat) : Int))))
  (k (0 : Int) Bool.false)
  (g_spec_l01Word N s (Go.IntKind.wrap Go.IntKind.i64 ((Go.IntKind.wrap Go.IntKind.i64 (n * (256 : Int))) + (Go.IntKind.wrap Go.IntKind.i64 ((4 : Int) * n1)))) fun n2 =>
    (k n2 Bool.true)))
theorem e_spec_l03Entry (N : Nat) {R : Type} (s : ByteArray) (n : Int) (n1 : Int) (K : AV → Hp E → Option R) :
    runFnI (E := E) (O_spec_l03Entry N) (noIt) sl_spec_l03Entry J_spec_l03Entry Go.Proofs.Try.f65 [(Go.Eng.AV.sc (Go.Eng.SV.str s)), (Go.Eng.AV.sc (Go.Eng.SV.int Go.IntKind.i64 n)), (Go.Eng.AV.sc (Go.Eng.SV.int Go.IntKind.i64 n1))] [] K =
      g_spec_l03Entry N s n n1 (fun n3 b => K (Go.Eng.AV.tup [(Bool.false, [(Go.Eng.SV.int Go.IntKind.i64 n3)]), (Bool.false, [(Go.Eng.SV.bool b)])]) []) := by kernel_rfl
def o_spec_l03Entry (N : Nat) {R : Type} (args : List AV) (H : Hp E) (K : AV → Hp E → Option R) : Option R :=
  match args, H with
  | [(Go.Eng.AV.sc (Go.Eng.SV.str s)), (Go.Eng.AV.sc (Go.Eng.SV.int Go.IntKind.i64 n)), (Go.Eng.AV.sc (Go.Eng.SV.int Go.IntKind.i64 n1))], [] => g_spec_l03Entry N s n n1 (fun n3 b => K (Go.Eng.AV.tup [(Bool.false, [(Go.Eng.SV.int Go.IntKind.i64 n3)]), (Bool.false, [(Go.Eng.SV.bool b)])]) [])
  | _, _ => none
theorem o_spec_l03Entry_ok (N : Nat) : FnOk E 65 (o_spec_l03Entry N) := by
  intro R args H K r h
  unfold o_spec_l03Entry at h
  dsimp only at h
  split at h
  · exact fnB_ok (ids := []) (top := []) ok (O_spec_l03Entry_ok N) (jn_ok _ _ _) Go.Proofs.Try.func65 (by kernel_rfl) (IT := noIt) (sl := sl_spec_l03Entry) (J := J_spec_l03Entry) (K := K) (H := []) (noIt_ok) (by kernel_rfl) rfl ((e_spec_l03Entry N _ _ _ K).trans h)
  · cases h
/-! ### loop.example/g00038/spec.l03May -/
abbrev sl_spec_l03May : SlotT := []
abbrev J_spec_l03May : JT := jn [(11, [(6, .b)])] [(9, [(7, .i .i64)]), (11, [(7, .i .i64)])] []
noncomputable def O_spec_l03May (N : Nat) : Orc E := noFn
theorem O_spec_l03May_ok (N : Nat) : OrcOk (O_spec_l03May N) := noFn_ok
def g_spec_l03May (N : Nat) {R : Type} (n : Int) (n1 : Int) (b : Bool) (k : Bool → Option R) : Option R :=
  (oK (cond (n1 == (2 : Int))
    (some (4 : Int))
    (oK (cond (n1 == (3 : Int))
        (some (8 : Int))
        (some (2 : Int))) fun j =>
      (some j))) fun j1 =>
  (cond ((Go.IntKind.wrap Go.IntKind.i64 (((BitVec.toNat ((BitVec.ofInt 64 n) &&& (BitVec.ofInt 64 j1))) : Nat) : Int)) == (0 : Int))
  (k Bool.false)
  (cond b
    (k ((Go.IntKind.wrap Go.IntKind.i64 (((BitVec.toNat ((BitVec.ofInt 64 n) &&& (BitVec.ofInt 64 (16 : Int)))) : Nat) : Int)) != (0 : Int)))
    (oK (cond (n1 != (3 : Int))
        (some Bool.true)
        (some ((Go.IntKind.wrap Go.IntKind.i64 (((BitVec.toNat ((BitVec.ofInt 64 n) &&& (BitVec.ofInt 64 (16 : Int)))) : Nat) : Int)) == (0 : Int)))) fun j2 =>
      (k j2)))))
theorem e_spec_l03May (N : Nat) {R : Type} (n : Int) (n1 : Int) (b : Bool) (K : AV → Hp E → Option R) :
    runFnI (E := E) (O_spec_l03May N) (noIt) sl_spec_l03May J_spec_l03May Go.Proofs.Try.f66 [(Go.Eng.AV.sc (Go.Eng.SV.int Go.IntKind.i64 n)), (Go.Eng.AV.sc (Go.Eng.SV.int Go.IntKind.i64 n1)), (Go.Eng.AV.sc (Go.Eng.SV.bool b))] [] K =
      g_spec_l03May N n n1 b (fun b1 => K (Go.Eng.AV.sc (Go.Eng.SV.bool b1)) []) := by kernel_rfl
def o_spec_l03May (N : Nat) {R : Type} (args : List AV) (H : Hp E) (K : AV → Hp E → Option R) : Option R :=
  match args, H with
  | [(Go.Eng.AV.sc (Go.Eng.SV.int Go.IntKind.i64 n)), (Go.Eng.AV.sc (Go.Eng.SV.int Go.IntKind.i64 n1)), (Go.Eng.AV.sc (Go.Eng.SV.bool b))], [] => g_spec_l03May N n n1 b (fun b1 => K (Go.Eng.AV.sc (Go.Eng.SV.bool b1)) [])
  | _, _ => none
theorem o_spec_l03May_ok (N : Nat) : FnOk E 66 (o_spec_l03May N) := by
  intro R args H K r h
  unfold o_spec_l03May at h
  dsimp only at h
  split at h
  · exact fnB_ok (ids := []) (top := []) ok (O_spec_l03May_ok N) (jn_ok _ _ _) Go.Proofs.Try.func66 (by kernel_rfl) (IT := noIt) (sl := sl_spec_l03May) (J := J_spec_l03May) (K := K) (H := []) (noIt_ok) (by kernel_rfl) rfl ((e_spec_l03May N _ _ _ K).trans h)
  · cases h
/-! ### loop.example/g00038/spec.GetWord -/
abbrev sl_spec_GetWord : SlotT := []
abbrev J_spec_GetWord : JT := jn [(1, [(18, .b)])] [] []
noncomputable def O_spec_GetWord (N : Nat) : Orc E := addFn 79 (o_spec_l01Word N) (noFn)
theorem O_spec_GetWord_ok (N : Nat) : OrcOk (O_spec_GetWord N) := addFn_ok (o_spec_l01Word_ok N) (noFn_ok)
def g_spec_GetWord (N : Nat) {R : Type} (s : ByteArray) (n : Int) (k : Bool → Int → Option R) : Option R :=
  (oK (cond (decide (((((ByteArray.size s) : Nat) : Int) > (65536 : Int))))
    (some Bool.true)
    (cond (decide ((n < (0 : Int))))
      (some Bool.true)
      (some (decide ((n > (Go.IntKind.wrap Go.IntKind.i64 ((((ByteArray.size s) : Nat) : Int) - (4 : Int))))))))) fun j =>
  (cond j
  (k Bool.false (0 : Int))
  (g_spec_l01Word N s n fun n1 =>
    (k Bool.true n1))))
theorem e_spec_GetWord (N : Nat) {R : Type} (s : ByteArray) (n : Int) (K : AV → Hp E → Option R) :
    runFnI (E := E) (O_spec_GetWord N) (noIt) sl_spec_GetWord J_spec_GetWord Go.Proofs.Try.f148 [(Go.Eng.AV.sc (Go.Eng.SV.str s)), (Go.Eng.AV.sc (Go.Eng.SV.int Go.IntKind.i64 n))] [] K =
      g_spec_GetWord N s n (fun b n2 => K (Go.Eng.AV.agg [(Go.Eng.SV.bool b), (Go.Eng.SV.int Go.IntKind.i64 n2)]) []) := by kernel_rfl
def o_spec_GetWord (N : Nat) {R : Type} (args : List AV) (H : Hp E) (K : AV → Hp E → Option R) : Option R :=
  match args, H with
  | [(Go.Eng.AV.sc (Go.Eng.SV.str s)), (Go.Eng.AV.sc (Go.Eng.SV.int Go.IntKind.i64 n))], [] => g_spec_GetWord N s n (fun b n2 => K (Go.Eng.AV.agg [(Go.Eng.SV.bool b), (Go.Eng.SV.int Go.IntKind.i64 n2)]) [])
  | _, _ => none
theorem o_spec_GetWord_ok (N : Nat) : FnOk E 148 (o_spec_GetWord N) := by
  intro R args H K r h
  unfold o_spec_GetWord at h
  dsimp only at h
  split at h
  · exact fnB_ok (ids := []) (top := []) ok (O_spec_GetWord_ok N) (jn_ok _ _ _) Go.Proofs.Try.func148 (by kernel_rfl) (IT := noIt) (sl := sl_spec_GetWord) (J := J_spec_GetWord) (K := K) (H := []) (noIt_ok) (by kernel_rfl) rfl ((e_spec_GetWord N _ _ K).trans h)
  · cases h
/-! ### loop.example/g00038/spec.l01Mod -/
abbrev sl_spec_l01Mod : SlotT := []
abbrev J_spec_l01Mod : JT := jn [] [(10, [(5, .i .i64)])] []
noncomputable def O_spec_l01Mod (N : Nat) : Orc E := noFn
theorem O_spec_l01Mod_ok (N : Nat) : OrcOk (O_spec_l01Mod N) := noFn_ok
def g_spec_l01Mod (N : Nat) {R : Type} (n : Int) (n1 : Int) (k : Int → Option R) : Option R :=
  (cond (n1 == (0 : Int))
  none
  (oK (cond (decide (((Int.tmod n n1) < (0 : Int))))
      (some (Go.IntKind.wrap Go.IntKind.i64 ((Int.tmod n n1) + n1)))
      (some (Int.tmod n n1))) fun j =>
    (k j)))
theorem e_spec_l01Mod (N : Nat) {R : Type} (n : Int) (n1 : Int) (K : AV → Hp E → Option R) :
    runFnI (E := E) (O_spec_l01Mod N) (noIt) sl_spec_l01Mod J_spec_l01Mod Go.Proofs.Try.f158 [(Go.Eng.AV.sc (Go.Eng.SV.int Go.IntKind.i64 n)), (Go.Eng.AV.sc (Go.Eng.SV.int Go.IntKind.i64 n1))] [] K =
      g_spec_l01Mod N n n1 (fun n2 => K (Go.Eng.AV.sc (Go.Eng.SV.int Go.IntKind.i64 n2)) []) := by kernel_rfl
def o_spec_l01Mod (N : Nat) {R : Type} (args : List AV) (H : Hp E) (K : AV → Hp E → Option R) : Option R :=
  match args, H with
  | [(Go.Eng.AV.sc (Go.Eng.SV.int Go.IntKind.i64 n)), (Go.Eng.AV.sc (Go.Eng.SV.int Go.IntKind.i64 n1))], [] => g_spec_l01Mod N n n1 (fun n2 => K (Go.Eng.AV.sc (Go.Eng.SV.int Go.IntKind.i64 n2)) [])
  | _, _ => none
theorem o_spec_l01Mod_ok (N : Nat) : FnOk E 158 (o_spec_l01Mod N) := by
  intro R args H K r h
  unfold o_spec_l01Mod at h
  dsimp only at h
  split at h
  · exact fnB_ok (ids := []) (top := []) ok (O_spec_l01Mod_ok N) (jn_ok _ _ _) Go.Proofs.Try.func158 (by kernel_rfl) (IT := noIt) (sl := sl_spec_l01Mod) (J := J_spec_l01Mod) (K := K) (H := []) (noIt_ok) (by kernel_rfl) rfl ((e_spec_l01Mod N _ _ K).trans h)
  · cases h
/-! ### loop.example/g00038/spec.Word -/
abbrev sl_spec_Word : SlotT := []
abbrev J_spec_Word : JT := jn [] [] []
noncomputable def O_spec_Word (N : Nat) : Orc E := addFn 158 (o_spec_l01Mod N) (noFn)
theorem O_spec_Word_ok (N : Nat) : OrcOk (O_spec_Word N) := addFn_ok (o_spec_l01Mod_ok N) (noFn_ok)
def g_spec_Word (N : Nat) {R : Type} (n : Int) (k : Int → Option R) : Option R :=
  (g_spec_l01Mod N n (4294967296 : Int) fun n1 =>
  (k n1))
theorem e_spec_Word (N : Nat) {R : Type} (n : Int) (K : AV → Hp E → Option R) :
    runFnI (E := E) (O_spec_Word N) (noIt) sl_spec_Word J_spec_Word Go.Proofs.Try.f93 [(Go.Eng.AV.sc (Go.Eng.SV.int Go.IntKind.i64 n))] [] K =
      g_spec_Word N n (fun n2 => K (Go.Eng.AV.sc (Go.Eng.SV.int Go.IntKind.i64 n2)) []) := by kernel_rfl
def o_spec_Word (N : Nat) {R : Type} (args : List AV) (H : Hp E) (K : AV → Hp E → Option R) : Option R :=
  match args, H with
  | [(Go.Eng.AV.sc (Go.Eng.SV.int Go.IntKind.i64 n))], [] => g_spec_Word N n (fun n2 => K (Go.Eng.AV.sc (Go.Eng.SV.int Go.IntKind.i64 n2)) [])
  | _, _ => none
theorem o_spec_Word_ok (N : Nat) : FnOk E 93 (o_spec_Word N) := by
  intro R args H K r h
  unfold o_spec_Word at h
  dsimp only at h
  split at h
  · exact fnB_ok (ids := []) (top := []) ok (O_spec_Word_ok N) (jn_ok _ _ _) Go.Proofs.Try.func93 (by kernel_rfl) (IT := noIt) (sl := sl_spec_Word) (J := J_spec_Word) (K := K) (H := []) (noIt_ok) (by kernel_rfl) rfl ((e_spec_Word N _ K).trans h)
  · cases h
/-! ### loop.example/g00038/spec.PutWord -/
abbrev sl_spec_PutWord : SlotT := []
abbrev J_spec_PutWord : JT := jn [] [] []
noncomputable def O_spec_PutWord (N : Nat) : Orc E := addFn 93 (o_spec_Word N) (noFn)
theorem O_spec_PutWord_ok (N : Nat) : OrcOk (O_spec_PutWord N) := addFn_ok (o_spec_Word_ok N) (noFn_ok)
def g_spec_PutWord (N : Nat) {R : Type} (n : Int) (k : ByteArray → Option R) : Option R :=
  (g_spec_Word N n fun n1 =>
  (k (Go.Eng.toBytes (Go.Eng.seg [(Go.IntKind.wrap Go.IntKind.u8 n1), (Go.IntKind.wrap Go.IntKind.u8 (Int.fdiv n1 (256 : Int))), (Go.IntKind.wrap Go.IntKind.u8 (Int.fdiv n1 (65536 : Int))), (Go.IntKind.wrap Go.IntKind.u8 (Int.fdiv n1 (16777216 : Int)))] 0 (List.length [(Go.IntKind.wrap Go.IntKind.u8 n1), (Go.IntKind.wrap Go.IntKind.u8 (Int.fdiv n1 (256 : Int))), (Go.IntKind.wrap Go.IntKind.u8 (Int.fdiv n1 (65536 : Int))), (Go.IntKind.wrap Go.IntKind.u8 (Int.fdiv n1 (16777216 : Int)))])))))
theorem e_spec_PutWord (N : Nat) {R : Type} (n : Int) (K : AV → Hp E → Option R) :
    runFnI (E := E) (O_spec_PutWord N) (noIt) sl_spec_PutWord J_spec_PutWord Go.Proofs.Try.f109 [(Go.Eng.AV.sc (Go.Eng.SV.int Go.IntKind.i64 n))] [] K =
      g_spec_PutWord N n (fun s => K (Go.Eng.AV.sc (Go.Eng.SV.str s)) []) := by kernel_rfl
def o_spec_PutWord (N : Nat) {R : Type} (args : List AV) (H : Hp E) (K : AV → Hp E → Option R) : Option R :=
  match args, H with
  | [(Go.Eng.AV.sc (Go.Eng.SV.int Go.IntKind.i64 n))], [] => g_spec_PutWord N n (fun s => K (Go.Eng.AV.sc (Go.Eng.SV.str s)) [])
  | _, _ => none
theorem o_spec_PutWord_ok (N : Nat) : FnOk E 109 (o_spec_PutWord N) := by
  intro R args H K r h
  unfold o_spec_PutWord at h
  dsimp only at h
  split at h
  · exact fnB_ok (ids := []) (top := []) ok (O_spec_PutWord_ok N) (jn_ok _ _ _) Go.Proofs.Try.func109 (by kernel_rfl) (IT := noIt) (sl := sl_spec_PutWord) (J := J_spec_PutWord) (K := K) (H := []) (noIt_ok) (by kernel_rfl) rfl ((e_spec_PutWord N _ K).trans h)
  · cases h
/-! ### loop.example/g00038/spec.SetWord -/
abbrev sl_spec_SetWord : SlotT := []
abbrev J_spec_SetWord : JT := jn [] [] []
noncomputable def O_spec_SetWord (N : Nat) : Orc E := addFn 109 (o_spec_PutWord N) (addFn 148 (o_spec_GetWord N) (noFn))
theorem O_spec_SetWord_ok (N : Nat) : OrcOk (O_spec_SetWord N) := addFn_ok (o_spec_PutWord_ok N) (addFn_ok (o_spec_GetWord_ok N) (noFn_ok))
def g_spec_SetWord (N : Nat) {R : Type} (s : ByteArray) (n : Int) (n1 : Int) (k : ByteArray → Option R) : Option R :=
  (g_spec_GetWord N s n fun b n2 =>
  (cond (!b)
  (k (ByteArray.mk (List.toArray [])))
  (cond ((decide (((0 : Int) ≤ n))) && (decide ((n ≤ (((ByteArray.size s) : Nat) : Int)))))
    (g_spec_PutWord N n1 fun s1 =>
      (cond (Nat.ble ((ByteArray.size (ByteArray.extract s 0 (Int.toNat n))) + (ByteArray.size s1)) 9223372036854775807)
      (cond (((decide (((0 : Int) ≤ (Go.IntKind.wrap Go.IntKind.i64 (n + (4 : Int)))))) && (decide (((Go.IntKind.wrap Go.IntKind.i64 (n + (4 : Int))) ≤ (((ByteArray.size s) : Nat) : Int))))) && (decide (((((ByteArray.size s) : Nat) : Int) ≤ (((ByteArray.size s) : Nat) : Int)))))
        (cond (Nat.ble ((ByteArray.size ((ByteArray.extract s 0 (Int.toNat n)) ++ s1)) + (ByteArray.size (ByteArray.extract s (Int.toNat (Go.IntKind.wrap Go.IntKind.i64 (n + (4 : Int)))) (Int.toNat (((ByteArray.size s) : Nat) : Int))))) 9223372036854775807)
          (k (((ByteArray.extract s 0 (Int.toNat n)) ++ s1) ++ (ByteArray.extract s (Int.toNat (Go.IntKind.wrap Go.IntKind.i64 (n + (4 : Int)))) (Int.toNat (((ByteArray.size s) : Nat) : Int)))))
          none)
        none)
      none))
    none)))
theorem e_spec_SetWord (N : Nat) {R : Type} (s : ByteArray) (n : Int) (n1 : Int) (K : AV → Hp E → Option R) :
    runFnI (E := E) (O_spec_SetWord N) (noIt) sl_spec_SetWord J_spec_SetWord Go.Proofs.Try.f67 [(Go.Eng.AV.sc (Go.Eng.SV.str s)), (Go.Eng.AV.sc (Go.Eng.SV.int Go.IntKind.i64 n)), (Go.Eng.AV.sc (Go.Eng.SV.int Go.IntKind.i64 n1))] [] K =
      g_spec_SetWord N s n n1 (fun s2 => K (Go.Eng.AV.sc (Go.Eng.SV.str s2)) []) := by kernel_rfl
def o_spec_SetWord (N : Nat) {R : Type} (args : List AV) (H : Hp E) (K : AV → Hp E → Option R) : Option R :=
  match args, H with
  | [(Go.Eng.AV.sc (Go.Eng.SV.str s)), (Go.Eng.AV.sc (Go.Eng.SV.int Go.IntKind.i64 n)), (Go.Eng.AV.sc (Go.Eng.SV.int Go.IntKind.i64 n1))], [] => g_spec_SetWord N s n n1 (fun s2 => K (Go.Eng.AV.sc (Go.Eng.SV.str s2)) [])
  | _, _ => none
theorem o_spec_SetWord_ok (N : Nat) : FnOk E 67 (o_spec_SetWord N) := by
  intro R args H K r h
  unfold o_spec_SetWord at h
  dsimp only at h
  split at h
  · exact fnB_ok (ids := []) (top := []) ok (O_spec_SetWord_ok N) (jn_ok _ _ _) Go.Proofs.Try.func67 (by kernel_rfl) (IT := noIt) (sl := sl_spec_SetWord) (J := J_spec_SetWord) (K := K) (H := []) (noIt_ok) (by kernel_rfl) rfl ((e_spec_SetWord N _ _ _ K).trans h)
  · cases h
/-! ### loop.example/g00038/spec.Walk -/
abbrev sl_spec_Walk : SlotT := []
abbrev J_spec_Walk : JT := jn [(1, [(41, .b)]), (11, [(74, .b)]), (21, [(127, .b)])] [(130, [(17, .i .i64)]), (147, [(13, .i .i64)])] []
noncomputable def O_spec_Walk (N : Nat) : Orc E := addFn 67 (o_spec_SetWord N) (addFn 66 (o_spec_l03May N) (addFn 65 (o_spec_l03Entry N) (addFn 64 (o_spec_l03Acc N) (addFn 58 (o_spec_MemFault N) (noFn)))))
def pa_spec_Walk__o_spec_SetWord (N : Nat) (G_spec_SetWord : ∀ {R : Type} (s : ByteArray) (n : Int) (n1 : Int) (k : ByteArray → Option R), Option R) (G_spec_l03May : ∀ {R : Type} (n : Int) (n1 : Int) (b : Bool) (k : Bool → Option R), Option R) (G_spec_l03Entry : ∀ {R : Type} (s : ByteArray) (n : Int) (n1 : Int) (k : Int → Bool → Option R), Option R) (G_spec_l03Acc : ∀ {R : Type} (n : Int) (k : Bool → Option R), Option R) (G_spec_MemFault : ∀ {R : Type} (s : ByteArray) (k : Int → Option R), Option R) {R : Type} (args : List AV) (H : Hp E) (K : AV → Hp E → Option R) : Option R :=
  match args, H with
  | [(Go.Eng.AV.sc (Go.Eng.SV.str s)), (Go.Eng.AV.sc (Go.Eng.SV.int Go.IntKind.i64 n)), (Go.Eng.AV.sc (Go.Eng.SV.int Go.IntKind.i64 n1))], [] => G_spec_SetWord s n n1 (fun s2 => K (Go.Eng.AV.sc (Go.Eng.SV.str s2)) [])
  | _, _ => none
def pa_spec_Walk__o_spec_l03May (N : Nat) (G_spec_SetWord : ∀ {R : Type} (s : ByteArray) (n : Int) (n1 : Int) (k : ByteArray → Option R), Option R) (G_spec_l03May : ∀ {R : Type} (n : Int) (n1 : Int) (b : Bool) (k : Bool → Option R), Option R) (G_spec_l03Entry : ∀ {R : Type} (s : ByteArray) (n : Int) (n1 : Int) (k : Int → Bool → Option R), Option R) (G_spec_l03Acc : ∀ {R : Type} (n : Int) (k : Bool → Option R), Option R) (G_spec_MemFault : ∀ {R : Type} (s : ByteArray) (k : Int → Option R), Option R) {R : Type} (args : List AV) (H : Hp E) (K : AV → Hp E → Option R) : Option R :=
  match args, H with
  | [(Go.Eng.AV.sc (Go.Eng.SV.int Go.IntKind.i64 n)), (Go.Eng.AV.sc (Go.Eng.SV.int Go.IntKind.i64 n1)), (Go.Eng.AV.sc (Go.Eng.SV.bool b))], [] => G_spec_l03May n n1 b (fun b1 => K (Go.Eng.AV.sc (Go.Eng.SV.bool b1)) [])
  | _, _ => none
def pa_spec_Walk__o_spec_l03Entry (N : Nat) (G_spec_SetWord : ∀ {R : Type} (s : ByteArray) (n : Int) (n1 : Int) (k : ByteArray → Option R), Option R) (G_spec_l03May : ∀ {R : Type} (n : Int) (n1 : Int) (b : Bool) (k : Bool → Option R), Option R) (G_spec_l03Entry : ∀ {R : Type} (s : ByteArray) (n : Int) (n1 : Int) (k : Int → Bool → Option R), Option R) (G_spec_l03Acc : ∀ {R : Type} (n : Int) (k : Bool → Option R), Option R) (G_spec_MemFault : ∀ {R : Type} (s : ByteArray) (k : Int → Option R), Option R) {R : Type} (args : List AV) (H : Hp E) (K : AV → Hp E → Option R) : Option R :=
  match args, H with
  | [(Go.Eng.AV.sc (Go.Eng.SV.str s)), (Go.Eng.AV.sc (Go.Eng.SV.int Go.IntKind.i64 n)), (Go.Eng.AV.sc (Go.Eng.SV.int Go.IntKind.i64 n1))], [] => G_spec_l03Entry s n n1 (fun n3 b => K (Go.Eng.AV.tup [(Bool.false, [(Go.Eng.SV.int Go.IntKind.i64 n3)]), (Bool.false, [(Go.Eng.SV.bool b)])]) [])
  | _, _ => none
def pa_spec_Walk__o_spec_l03Acc (N : Nat) (G_spec_SetWord : ∀ {R : Type} (s : ByteArray) (n : Int) (n1 : Int) (k : ByteArray → Option R), Option R) (G_spec_l03May : ∀ {R : Type} (n : Int) (n1 : Int) (b : Bool) (k : Bool → Option R), Option R) (G_spec_l03Entry : ∀ {R : Type} (s : ByteArray) (n : Int) (n1 : Int) (k : Int → Bool → Option R), Option R) (G_spec_l03Acc : ∀ {R : Type} (n : Int) (k : Bool → Option R), Option R) (G_spec_MemFault : ∀ {R : Type} (s : ByteArray) (k : Int → Option R), Option R) {R : Type} (args : List AV) (H : Hp E) (K : AV → Hp E → Option R) : Option R :=
  match args, H with
  | [(Go.Eng.AV.sc (Go.Eng.SV.int Go.IntKind.i64 n))], [] => G_spec_l03Acc n (fun b => K (Go.Eng.AV.sc (Go.Eng.SV.bool b)) [])
  | _, _ => none
def pa_spec_Walk__o_spec_MemFault (N : Nat) (G_spec_SetWord : ∀ {R : Type} (s : ByteArray) (n : Int) (n1 : Int) (k : ByteArray → Option R), Option R) (G_spec_l03May : ∀ {R : Type} (n : Int) (n1 : Int) (b : Bool) (k : Bool → Option R), Option R) (G_spec_l03Entry : ∀ {R : Type} (s : ByteArray) (n : Int) (n1 : Int) (k : Int → Bool → Option R), Option R) (G_spec_l03Acc : ∀ {R : Type} (n : Int) (k : Bool → Option R), Option R) (G_spec_MemFault : ∀ {R : Type} (s : ByteArray) (k : Int → Option R), Option R) {R : Type} (args : List AV) (H : Hp E) (K : AV → Hp E → Option R) : Option R :=
  match args, H with
  | [(Go.Eng.AV.sc (Go.Eng.SV.str s))], [] => G_spec_MemFault s (fun n => K (Go.Eng.AV.sc (Go.Eng.SV.int Go.IntKind.i64 n)) [])
  | _, _ => none
noncomputable def OA_spec_Walk (N : Nat) (G_spec_SetWord : ∀ {R : Type} (s : ByteArray) (n : Int) (n1 : Int) (k : ByteArray → Option R), Option R) (G_spec_l03May : ∀ {R : Type} (n : Int) (n1 : Int) (b : Bool) (k : Bool → Option R), Option R) (G_spec_l03Entry : ∀ {R : Type} (s : ByteArray) (n : Int) (n1 : Int) (k : Int → Bool → Option R), Option R) (G_spec_l03Acc : ∀ {R : Type} (n : Int) (k : Bool → Option R), Option R) (G_spec_MemFault : ∀ {R : Type} (s : ByteArray) (k : Int → Option R), Option R) : Orc E := addFn 67 (pa_spec_Walk__o_spec_SetWord N G_spec_SetWord G_spec_l03May G_spec_l03Entry G_spec_l03Acc G_spec_MemFault) (addFn 66 (pa_spec_Walk__o_spec_l03May N G_spec_SetWord G_spec_l03May G_spec_l03Entry G_spec_l03Acc G_spec_MemFault) (addFn 65 (pa_spec_Walk__o_spec_l03Entry N G_spec_SetWord G_spec_l03May G_spec_l03Entry G_spec_l03Acc G_spec_MemFault) (addFn 64 (pa_spec_Walk__o_spec_l03Acc N G_spec_SetWord G_spec_l03May G_spec_l03Entry G_spec_l03Acc G_spec_MemFault) (addFn 58 (pa_spec_Walk__o_spec_MemFault N G_spec_SetWord G_spec_l03May G_spec_l03Entry G_spec_l03Acc G_spec_MemFault) (noFn)))))
theorem O_spec_Walk_ok (N : Nat) : OrcOk (O_spec_Walk N) := addFn_ok (o_spec_SetWord_ok N) (addFn_ok (o_spec_l03May_ok N) (addFn_ok (o_spec_l03Entry_ok N) (addFn_ok (o_spec_l03Acc_ok N) (addFn_ok (o_spec_MemFault_ok N) (noFn_ok)))))
def g_spec_Walk (N : Nat) {R : Type} (s : ByteArray) (n : Int) (n1 : Int) (n2 : Int) (b : Bool) (k : Int → Int → Int → Bool → Bool → ByteArray → (List Int) → Option R) : Option R :=
  (oK (g_spec_MemFault N s fun n3 =>
    (cond (n3 != (0 : Int))
    (some Bool.true)
    (cond (decide ((n < (0 : Int))))
      (some Bool.true)
      (cond (decide ((n > (255 : Int))))
        (some Bool.true)
        (cond (decide ((n1 < (0 : Int))))
          (some Bool.true)
          (cond (decide ((n1 ≥ (262144 : Int))))
            (some Bool.true)
            (g_spec_l03Acc N n2 fun b1 =>
              (some (!b1))))))))) fun j =>
  (cond j
  (k (0 : Int) (0 : Int) (0 : Int) Bool.false Bool.true (ByteArray.mk (List.toArray [])) [])
  (g_spec_l03Entry N s n (Int.fdiv n1 (8192 : Int)) fun n4 b2 =>
    (cond (!b2)
    (k (2 : Int) (0 : Int) (0 : Int) Bool.false Bool.false s [])
    (oK (cond ((Go.IntKind.wrap Go.IntKind.i64 (((BitVec.toNat ((BitVec.ofInt 64 n4) &&& (BitVec.ofInt 64 (1 : Int)))) : Nat) : Int)) != (0 : Int))
        (some ((Go.IntKind.wrap Go.IntKind.i64 (((BitVec.toNat ((BitVec.ofInt 64 n4) &&& (BitVec.ofInt 64 (14 : Int)))) : Nat) : Int)) == (0 : Int)))
        (some Bool.false)) fun j1 =>
      (cond j1
      (g_spec_l03Entry N s (Int.fdiv n4 (256 : Int)) (Int.tmod (Int.fdiv n1 (256 : Int)) (32 : Int)) fun n5 b3 =>
        (cond (!b3)
        (k (2 : Int) (0 : Int) (0 : Int) Bool.false Bool.false s [n])
        (oK (cond ((Go.IntKind.wrap Go.IntKind.i64 (((BitVec.toNat ((BitVec.ofInt 64 n5) &&& (BitVec.ofInt 64 (1 : Int)))) : Nat) : Int)) == (0 : Int))
            (some Bool.true)
            (cond ((Go.IntKind.wrap Go.IntKind.i64 (((BitVec.toNat ((BitVec.ofInt 64 n5) &&& (BitVec.ofInt 64 (14 : Int)))) : Nat) : Int)) == (0 : Int))
              (some Bool.true)
              (g_spec_l03May N n5 n2 b fun b4 =>
                (some (!b4))))) fun j2 =>
          (cond j2
          (k (1 : Int) (0 : Int) (0 : Int) Bool.false (cond (Nat.beq (List.length [(Int.fdiv n4 (256 : Int))]) 0) Bool.false Bool.false) s ([n] ++ [(Int.fdiv n4 (256 : Int))]))
          (oK (some (Int.fdiv n5 (256 : Int))) fun j3 =>
            (cond (decide (((Go.IntKind.wrap Go.IntKind.i64 ((Go.IntKind.wrap Go.IntKind.i64 (j3 + (1 : Int))) * (256 : Int))) > (((ByteArray.size s) : Nat) : Int))))
            (k (2 : Int) (0 : Int) (0 : Int) Bool.false (cond (Nat.beq (List.length [(Int.fdiv n4 (256 : Int))]) 0) Bool.false Bool.false) s ([n] ++ [(Int.fdiv n4 (256 : Int))]))
            (oK (cond (n2 == (2 : Int))
                (some (Go.IntKind.wrap Go.IntKind.i64 (((BitVec.toNat ((BitVec.ofInt 64 (Go.IntKind.wrap Go.IntKind.i64 (((BitVec.toNat ((BitVec.ofInt 64 n5) ||| (BitVec.ofInt 64 (32 : Int)))) : Nat) : Int))) ||| (BitVec.ofInt 64 (64 : Int)))) : Nat) : Int)))
                (some (Go.IntKind.wrap Go.IntKind.i64 (((BitVec.toNat ((BitVec.ofInt 64 n5) ||| (BitVec.ofInt 64 (32 : Int)))) : Nat) : Int)))) fun j4 =>
              (g_spec_SetWord N s (Go.IntKind.wrap Go.IntKind.i64 ((Go.IntKind.wrap Go.IntKind.i64 ((Int.fdiv n4 (256 : Int)) * (256 : Int))) + (Go.IntKind.wrap Go.IntKind.i64 ((4 : Int) * (Int.tmod (Int.fdiv n1 (256 : Int)) (32 : Int)))))) j4 fun s1 =>
              (k (0 : Int) (Go.IntKind.wrap Go.IntKind.i64 ((Go.IntKind.wrap Go.IntKind.i64 (j3 * (256 : Int))) + (Int.tmod n1 (256 : Int)))) j4 Bool.false (cond (Nat.beq (List.length [(Int.fdiv n4 (256 : Int))]) 0) Bool.false Bool.false) s1 ([n] ++ [(Int.fdiv n4 (256 : Int))]))))))))))
      (oK (cond ((Go.IntKind.wrap Go.IntKind.i64 (((BitVec.toNat ((BitVec.ofInt 64 n4) &&& (BitVec.ofInt 64 (1 : Int)))) : Nat) : Int)) == (0 : Int))
          (some Bool.true)
          (cond ((Go.IntKind.wrap Go.IntKind.i64 (((BitVec.toNat ((BitVec.ofInt 64 n4) &&& (BitVec.ofInt 64 (14 : Int)))) : Nat) : Int)) == (0 : Int))
            (some Bool.true)
            (cond ((Int.tmod (Int.fdiv n4 (256 : Int)) (32 : Int)) != (0 : Int))
              (some Bool.true)
              (g_spec_l03May N n4 n2 b fun b5 =>
                (some (!b5)))))) fun j5 =>
        (cond j5
        (k (1 : Int) (0 : Int) (0 : Int) Bool.false Bool.false s [n])
        (oK (some (Go.IntKind.wrap Go.IntKind.i64 ((Int.fdiv n4 (256 : Int)) + (Int.tmod (Int.fdiv n1 (256 : Int)) (32 : Int))))) fun j6 =>
          (cond (decide (((Go.IntKind.wrap Go.IntKind.i64 ((Go.IntKind.wrap Go.IntKind.i64 (j6 + (1 : Int))) * (256 : Int))) > (((ByteArray.size s) : Nat) : Int))))
          (k (2 : Int) (0 : Int) (0 : Int) Bool.false Bool.false s [n])
          (oK (cond (n2 == (2 : Int))
              (some (Go.IntKind.wrap Go.IntKind.i64 (((BitVec.toNat ((BitVec.ofInt 64 (Go.IntKind.wrap Go.IntKind.i64 (((BitVec.toNat ((BitVec.ofInt 64 n4) ||| (BitVec.ofInt 64 (32 : Int)))) : Nat) : Int))) ||| (BitVec.ofInt 64 (64 : Int)))) : Nat) : Int)))
              (some (Go.IntKind.wrap Go.IntKind.i64 (((BitVec.toNat ((BitVec.ofInt 64 n4) ||| (BitVec.ofInt 64 (32 : Int)))) : Nat) : Int)))) fun j7 =>
            (g_spec_SetWord N s (Go.IntKind.wrap Go.IntKind.i64 ((Go.IntKind.wrap Go.IntKind.i64 (n * (256 : Int))) + (Go.IntKind.wrap Go.IntKind.i64 ((4 : Int) * (Int.fdiv n1 (8192 : Int)))))) j7 fun s2 =>
            (k (0 : Int) (Go.IntKind.wrap Go.IntKind.i64 ((Go.IntKind.wrap Go.IntKind.i64 (j6 * (256 : Int))) + (Int.tmod n1 (256 : Int)))) j7 Bool.true Bool.false s2 [n])))))))))))))
def ga_g_spec_Walk (N : Nat) (G_spec_SetWord : ∀ {R : Type} (s : ByteArray) (n : Int) (n1 : Int) (k : ByteArray → Option R), Option R) (G_spec_l03May : ∀ {R : Type} (n : Int) (n1 : Int) (b : Bool) (k : Bool → Option R), Option R) (G_spec_l03Entry : ∀ {R : Type} (s : ByteArray) (n : Int) (n1 : Int) (k : Int → Bool → Option R), Option R) (G_spec_l03Acc : ∀ {R : Type} (n : Int) (k : Bool → Option R), Option R) (G_spec_MemFault : ∀ {R : Type} (s : ByteArray) (k : Int → Option R), Option R) {R : Type} (s : ByteArray) (n : Int) (n1 : Int) (n2 : Int) (b : Bool) (k : Int → Int → Int → Bool → Bool → ByteArray → (List Int) → Option R) : Option R :=
  (oK (G_spec_MemFault s fun n3 =>
    (cond (n3 != (0 : Int))
    (some Bool.true)
    (cond (decide ((n < (0 : Int))))
      (some Bool.true)
      (cond (decide ((n > (255 : Int))))
        (some Bool.true)
        (cond (decide ((n1 < (0 : Int))))
          (some Bool.true)
          (cond (decide ((n1 ≥ (262144 : Int))))
            (some Bool.true)
            (G_spec_l03Acc n2 fun b1 =>
              (some (!b1))))))))) fun j =>
  (cond j
  (k (0 : Int) (0 : Int) (0 : Int) Bool.false Bool.true (ByteArray.mk (List.toArray [])) [])
  (G_spec_l03Entry s n (Int.fdiv n1 (8192 : Int)) fun n4 b2 =>
    (cond (!b2)
    (k (2 : Int) (0 : Int) (0 : Int) Bool.false Bool.false s [])
    (oK (cond ((Go.IntKind.wrap Go.IntKind.i64 (((BitVec.toNat ((BitVec.ofInt 64 n4) &&& (BitVec.ofInt 64 (1 : Int)))) : Nat) : Int)) != (0 : Int))
        (some ((Go.IntKind.wrap Go.IntKind.i64 (((BitVec.toNat ((BitVec.ofInt 64 n4) &&& (BitVec.ofInt 64 (14 : Int)))) : Nat) : Int)) == (0 : Int)))
        (some Bool.false)) fun j1 =>
      (cond j1
      (G_spec_l03Entry s (Int.fdiv n4 (256 : Int)) (Int.tmod (Int.fdiv n1 (256 : Int)) (32 : Int)) fun n5 b3 =>
        (cond (!b3)
        (k (2 : Int) (0 : Int) (0 : Int) Bool.false Bool.false s [n])
        (oK (cond ((Go.IntKind.wrap Go.IntKind.i64 (((BitVec.toNat ((BitVec.ofInt 64 n5) &&& (BitVec.ofInt 64 (1 : Int)))) : Nat) : Int)) == (0 : Int))
            (some Bool.true)
            (cond ((Go.IntKind.wrap Go.IntKind.i64 (((BitVec.toNat ((BitVec.ofInt 64 n5) &&& (BitVec.ofInt 64 (14 : Int)))) : Nat) : Int)) == (0 : Int))
              (some Bool.true)
              (G_spec_l03May n5 n2 b fun b4 =>
                (some (!b4))))) fun j2 =>
          (cond j2
          (k (1 : Int) (0 : Int) (0 : Int) Bool.false (cond (Nat.beq (List.length [(Int.fdiv n4 (256 : Int))]) 0) Bool.false Bool.false) s ([n] ++ [(Int.fdiv n4 (256 : Int))]))
          (oK (some (Int.fdiv n5 (256 : Int))) fun j3 =>
            (cond (decide (((Go.IntKind.wrap Go.IntKind.i64 ((Go.IntKind.wrap Go.IntKind.i64 (j3 + (1 : Int))) * (256 : Int))) > (((ByteArray.size s) : Nat) : Int))))
            (k (2 : Int) (0 : Int) (0 : Int) Bool.false (cond (Nat.beq (List.length [(Int.fdiv n4 (256 : Int))]) 0) Bool.false Bool.false) s ([n] ++ [(Int.fdiv n4 (256 : Int))]))
            (oK (cond (n2 == (2 : Int))
                (some (Go.IntKind.wrap Go.IntKind.i64 (((BitVec.toNat ((BitVec.ofInt 64 (Go.IntKind.wrap Go.IntKind.i64 (((BitVec.toNat ((BitVec.ofInt 64 n5) ||| (BitVec.ofInt 64 (32 : Int)))) : Nat) : Int))) ||| (BitVec.ofInt 64 (64 : Int)))) : Nat) : Int)))
                (some (Go.IntKind.wrap Go.IntKind.i64 (((BitVec.toNat ((BitVec.ofInt 64 n5) ||| (BitVec.ofInt 64 (32 : Int)))) : Nat) : Int)))) fun j4 =>
              (G_spec_SetWord s (Go.IntKind.wrap Go.IntKind.i64 ((Go.IntKind.wrap Go.IntKind.i64 ((Int.fdiv n4 (256 : Int)) * (256 : Int))) + (Go.IntKind.wrap Go.IntKind.i64 ((4 : Int) * (Int.tmod (Int.fdiv n1 (256 : Int)) (32 : Int)))))) j4 fun s1 =>
              (k (0 : Int) (Go.IntKind.wrap Go.IntKind.i64 ((Go.IntKind.wrap Go.IntKind.i64 (j3 * (256 : Int))) + (Int.tmod n1 (256 : Int)))) j4 Bool.false (cond (Nat.beq (List.length [(Int.fdiv n4 (256 : Int))]) 0) Bool.false Bool.false) s1 ([n] ++ [(Int.fdiv n4 (256 : Int))]))))))))))
      (oK (cond ((Go.IntKind.wrap Go.IntKind.i64 (((BitVec.toNat ((BitVec.ofInt 64 n4) &&& (BitVec.ofInt 64 (1 : Int)))) : Nat) : Int)) == (0 : Int))
          (some Bool.true)
          (cond ((Go.IntKind.wrap Go.IntKind.i64 (((BitVec.toNat ((BitVec.ofInt 64 n4) &&& (BitVec.ofInt 64 (14 : Int)))) : Nat) : Int)) == (0 : Int))
            (some Bool.true)
            (cond ((Int.tmod (Int.fdiv n4 (256 : Int)) (32 : Int)) != (0 : Int))
              (some Bool.true)
              (G_spec_l03May n4 n2 b fun b5 =>
                (some (!b5)))))) fun j5 =>
        (cond j5
        (k (1 : Int) (0 : Int) (0 : Int) Bool.false Bool.false s [n])
        (oK (some (Go.IntKind.wrap Go.IntKind.i64 ((Int.fdiv n4 (256 : Int)) + (Int.tmod (Int.fdiv n1 (256 : Int)) (32 : Int))))) fun j6 =>
          (cond (decide (((Go.IntKind.wrap Go.IntKind.i64 ((Go.IntKind.wrap Go.IntKind.i64 (j6 + (1 : Int))) * (256 : Int))) > (((ByteArray.size s) : Nat) : Int))))
          (k (2 : Int) (0 : Int) (0 : Int) Bool.false Bool.false s [n])
          (oK (cond (n2 == (2 : Int))
              (some (Go.IntKind.wrap Go.IntKind.i64 (((BitVec.toNat ((BitVec.ofInt 64 (Go.IntKind.wrap Go.IntKind.i64 (((BitVec.toNat ((BitVec.ofInt 64 n4) ||| (BitVec.ofInt 64 (32 : Int)))) : Nat) : Int))) ||| (BitVec.ofInt 64 (64 : Int)))) : Nat) : Int)))
              (some (Go.IntKind.wrap Go.IntKind.i64 (((BitVec.toNat ((BitVec.ofInt 64 n4) ||| (BitVec.ofInt 64 (32 : Int)))) : Nat) : Int)))) fun j7 =>
            (G_spec_SetWord s (Go.IntKind.wrap Go.IntKind.i64 ((Go.IntKind.wrap Go.IntKind.i64 (n * (256 : Int))) + (Go.IntKind.wrap Go.IntKind.i64 ((4 : Int) * (Int.fdiv n1 (8192 : Int)))))) j7 fun s2 =>
            (k (0 : Int) (Go.IntKind.wrap Go.IntKind.i64 ((Go.IntKind.wrap Go.IntKind.i64 (j6 * (256 : Int))) + (Int.tmod n1 (256 : Int)))) j7 Bool.true Bool.false s2 [n])))))))))))))
theorem ea_e_spec_Walk (N : Nat) (G_spec_SetWord : ∀ {R : Type} (s : ByteArray) (n : Int) (n1 : Int) (k : ByteArray → Option R), Option R) (G_spec_l03May : ∀ {R : Type} (n : Int) (n1 : Int) (b : Bool) (k : Bool → Option R), Option R) (G_spec_l03Entry : ∀ {R : Type} (s : ByteArray) (n : Int) (n1 : Int) (k : Int → Bool → Option R), Option R) (G_spec_l03Acc : ∀ {R : Type} (n : Int) (k : Bool → Option R), Option R) (G_spec_MemFault : ∀ {R : Type} (s : ByteArray) (k : Int → Option R), Option R) {R : Type} (s : ByteArray) (n : Int) (n1 : Int) (n2 : Int) (b : Bool) (K : AV → Hp E → Option R) :
    runFnI (E := E) (OA_spec_Walk N G_spec_SetWord G_spec_l03May G_spec_l03Entry G_spec_l03Acc G_spec_MemFault) (noIt) sl_spec_Walk J_spec_Walk Go.Proofs.Try.f15 [(Go.Eng.AV.sc (Go.Eng.SV.str s)), (Go.Eng.AV.sc (Go.Eng.SV.int Go.IntKind.i64 n)), (Go.Eng.AV.sc (Go.Eng.SV.int Go.IntKind.i64 n1)), (Go.Eng.AV.sc (Go.Eng.SV.int Go.IntKind.i64 n2)), (Go.Eng.AV.sc (Go.Eng.SV.bool b))] [] K =
      ga_g_spec_Walk N G_spec_SetWord G_spec_l03May G_spec_l03Entry G_spec_l03Acc G_spec_MemFault s n n1 n2 b (fun n6 n7 n8 b6 b7 s3 l => K (Go.Eng.AV.agg [(Go.Eng.SV.int Go.IntKind.i64 n6), (Go.Eng.SV.int Go.IntKind.i64 n7), (Go.Eng.SV.int Go.IntKind.i64 n8), (Go.Eng.SV.bool b6), (Go.Eng.SV.slc 0 Option.none b7), (Go.Eng.SV.str s3)]) [(Option.some (Go.Eng.HE.mk Bool.false (Go.Eng.HB.rows (Go.Sa.B.i64 l))))]) := by kernel_rfl
theorem e_spec_Walk (N : Nat) {R : Type} (s : ByteArray) (n : Int) (n1 : Int) (n2 : Int) (b : Bool) (K : AV → Hp E → Option R) :
    runFnI (E := E) (O_spec_Walk N) (noIt) sl_spec_Walk J_spec_Walk Go.Proofs.Try.f15 [(Go.Eng.AV.sc (Go.Eng.SV.str s)), (Go.Eng.AV.sc (Go.Eng.SV.int Go.IntKind.i64 n)), (Go.Eng.AV.sc (Go.Eng.SV.int Go.IntKind.i64 n1)), (Go.Eng.AV.sc (Go.Eng.SV.int Go.IntKind.i64 n2)), (Go.Eng.AV.sc (Go.Eng.SV.bool b))] [] K =
      g_spec_Walk N s n n1 n2 b (fun n6 n7 n8 b6 b7 s3 l => K (Go.Eng.AV.agg [(Go.Eng.SV.int Go.IntKind.i64 n6), (Go.Eng.SV.int Go.IntKind.i64 n7), (Go.Eng.SV.int Go.IntKind.i64 n8), (Go.Eng.SV.bool b6), (Go.Eng.SV.slc 0 Option.none b7), (Go.Eng.SV.str s3)]) [(Option.some (Go.Eng.HE.mk Bool.false (Go.Eng.HB.rows (Go.Sa.B.i64 l))))]) := castPr (by kernel_rfl) (ea_e_spec_Walk N (g_spec_SetWord N) (g_spec_l03May N) (g_spec_l03Entry N) (g_spec_l03Acc N) (g_spec_MemFault N) s n n1 n2 b K)
def o_spec_Walk (N : Nat) {R : Type} (args : List AV) (H : Hp E) (K : AV → Hp E → Option R) : Option R :=
  match args, H with
  | [(Go.Eng.AV.sc (Go.Eng.SV.str s)), (Go.Eng.AV.sc (Go.Eng.SV.int Go.IntKind.i64 n)), (Go.Eng.AV.sc (Go.Eng.SV.int Go.IntKind.i64 n1)), (Go.Eng.AV.sc (Go.Eng.SV.int Go.IntKind.i64 n2)), (Go.Eng.AV.sc (Go.Eng.SV.bool b))], [] => g_spec_Walk N s n n1 n2 b (fun n6 n7 n8 b6 b7 s3 l => K (Go.Eng.AV.agg [(Go.Eng.SV.int Go.IntKind.i64 n6), (Go.Eng.SV.int Go.IntKind.i64 n7), (Go.Eng.SV.int Go.IntKind.i64 n8), (Go.Eng.SV.bool b6), (Go.Eng.SV.slc 0 Option.none b7), (Go.Eng.SV.str s3)]) [(Option.some (Go.Eng.HE.mk Bool.false (Go.Eng.HB.rows (Go.Sa.B.i64 l))))])
  | _, _ => none
theorem o_spec_Walk_ok (N : Nat) : FnOk E 15 (o_spec_Walk N) := by
  intro R args H K r h
  unfold o_spec_Walk at h
  dsimp only at h
  split at h
  · exact fnB_ok (ids := []) (top := []) ok (O_spec_Walk_ok N) (jn_ok _ _ _) Go.Proofs.Try.func15 (by kernel_rfl) (IT := noIt) (sl := sl_spec_Walk) (J := J_spec_Walk) (K := K) (H := []) (noIt_ok) (by kernel_rfl) rfl ((e_spec_Walk N _ _ _ _ _ K).trans h)
  · cases h
/-! ### (*loop.example/g00038/spec.l03Two).place -/
abbrev sl_spec_l03Two_place_W : SlotT := []
abbrev J_spec_l03Two_place_W : JT := jn [] [] []
noncomputable def O_spec_l03Two_place_W (N : Nat) : Orc E := addFn 15 (o_spec_Walk N) (noFn)
def pa_spec_l03Two_place_W__o_spec_Walk (N : Nat) (G_spec_Walk : ∀ {R : Type} (s : ByteArray) (n : Int) (n1 : Int) (n2 : Int) (b : Bool) (k : Int → Int → Int → Bool → Bool → ByteArray → (List Int) → Option R), Option R) {R : Type} (args : List AV) (H : Hp E) (K : AV → Hp E → Option R) : Option R :=
  match args, H with
  | [(Go.Eng.AV.sc (Go.Eng.SV.str s)), (Go.Eng.AV.sc (Go.Eng.SV.int Go.IntKind.i64 n)), (Go.Eng.AV.sc (Go.Eng.SV.int Go.IntKind.i64 n1)), (Go.Eng.AV.sc (Go.Eng.SV.int Go.IntKind.i64 n2)), (Go.Eng.AV.sc (Go.Eng.SV.bool b))], [] => G_spec_Walk s n n1 n2 b (fun n6 n7 n8 b6 b7 s3 l => K (Go.Eng.AV.agg [(Go.Eng.SV.int Go.IntKind.i64 n6), (Go.Eng.SV.int Go.IntKind.i64 n7), (Go.Eng.SV.int Go.IntKind.i64 n8), (Go.Eng.SV.bool b6), (Go.Eng.SV.slc 0 Option.none b7), (Go.Eng.SV.str s3)]) [(Option.some (Go.Eng.HE.mk Bool.false (Go.Eng.HB.rows (Go.Sa.B.i64 l))))])
  | _, _ => none
noncomputable def OA_spec_l03Two_place_W (N : Nat) (G_spec_Walk : ∀ {R : Type} (s : ByteArray) (n : Int) (n1 : Int) (n2 : Int) (b : Bool) (k : Int → Int → Int → Bool → Bool → ByteArray → (List Int) → Option R), Option R) : Orc E := addFn 15 (pa_spec_l03Two_place_W__o_spec_Walk N G_spec_Walk) (noFn)
theorem O_spec_l03Two_place_W_ok (N : Nat) : OrcOk (O_spec_l03Two_place_W N) := addFn_ok (o_spec_Walk_ok N) (noFn_ok)
def g_spec_l03Two_place_W (N : Nat) {R : Type} (n : Int) (n1 : Int) (s : ByteArray) (n2 : Int) (n3 : Int) (n4 : Int) (k : Int → ByteArray → Int → Int → Option R) : Option R :=
  (g_spec_Walk N s n2 n n1 Bool.false fun n5 n6 n7 b b1 s1 l =>
  (cond (n5 != (0 : Int))
  (k (-(1 : Int)) s (Go.IntKind.wrap Go.IntKind.i64 (n3 + (((List.length l) : Nat) : Int))) n)
  (k n6 s1 (Go.IntKind.wrap Go.IntKind.i64 (n3 + (((List.length l) : Nat) : Int))) n4)))
def ga_g_spec_l03Two_place_W (N : Nat) (G_spec_Walk : ∀ {R : Type} (s : ByteArray) (n : Int) (n1 : Int) (n2 : Int) (b : Bool) (k : Int → Int → Int → Bool → Bool → ByteArray → (List Int) → Option R), Option R) {R : Type} (n : Int) (n1 : Int) (s : ByteArray) (n2 : Int) (n3 : Int) (n4 : Int) (k : Int → ByteArray → Int → Int → Option R) : Option R :=
  (G_spec_Walk s n2 n n1 Bool.false fun n5 n6 n7 b b1 s1 l =>
  (cond (n5 != (0 : Int))
  (k (-(1 : Int)) s (Go.IntKind.wrap Go.IntKind.i64 (n3 + (((List.length l) : Nat) : Int))) n)
  (k n6 s1 (Go.IntKind.wrap Go.IntKind.i64 (n3 + (((List.length l) : Nat) : Int))) n4)))
theorem ea_e_spec_l03Two_place_W (N : Nat) (G_spec_Walk : ∀ {R : Type} (s : ByteArray) (n : Int) (n1 : Int) (n2 : Int) (b : Bool) (k : Int → Int → Int → Bool → Bool → ByteArray → (List Int) → Option R), Option R) {R : Type} (n : Int) (n1 : Int) (s : ByteArray) (n2 : Int) (n3 : Int) (n4 : Int) (K : AV → Hp E → Option R) :
    runFnI (E := E) (OA_spec_l03Two_place_W N G_spec_Walk) (noIt) sl_spec_l03Two_place_W J_spec_l03Two_place_W Go.Proofs.Try.f132 [(Go.Eng.AV.sc (Go.Eng.SV.ptr 0 0 0)), (Go.Eng.AV.sc (Go.Eng.SV.int Go.IntKind.i64 n)), (Go.Eng.AV.sc (Go.Eng.SV.int Go.IntKind.i64 n1))] [(Option.some (Go.Eng.HE.mk Bool.false (Go.Eng.HB.exp Option.none [(Go.Eng.SV.str s), (Go.Eng.SV.int Go.IntKind.i64 n2), (Go.Eng.SV.int Go.IntKind.i64 n3), (Go.Eng.SV.int Go.IntKind.i64 n4)])))] K =
      ga_g_spec_l03Two_place_W N G_spec_Walk n n1 s n2 n3 n4 (fun n8 s2 n9 n10 => K (Go.Eng.AV.sc (Go.Eng.SV.int Go.IntKind.i64 n8)) [(Option.some (Go.Eng.HE.mk Bool.false (Go.Eng.HB.exp Option.none [(Go.Eng.SV.str s2), (Go.Eng.SV.int Go.IntKind.i64 n2), (Go.Eng.SV.int Go.IntKind.i64 n9), (Go.Eng.SV.int Go.IntKind.i64 n10)])))]) := by kernel_rfl
theorem e_spec_l03Two_place_W (N : Nat) {R : Type} (n : Int) (n1 : Int) (s : ByteArray) (n2 : Int) (n3 : Int) (n4 : Int) (K : AV → Hp E → Option R) :
    runFnI (E := E) (O_spec_l03Two_place_W N) (noIt) sl_spec_l03Two_place_W J_spec_l03Two_place_W Go.Proofs.Try.f132 [(Go.Eng.AV.sc (Go.Eng.SV.ptr 0 0 0)), (Go.Eng.AV.sc (Go.Eng.SV.int Go.IntKind.i64 n)), (Go.Eng.AV.sc (Go.Eng.SV.int Go.IntKind.i64 n1))] [(Option.some (Go.Eng.HE.mk Bool.false (Go.Eng.HB.exp Option.none [(Go.Eng.SV.str s), (Go.Eng.SV.int Go.IntKind.i64 n2), (Go.Eng.SV.int Go.IntKind.i64 n3), (Go.Eng.SV.int Go.IntKind.i64 n4)])))] K =
      g_spec_l03Two_place_W N n n1 s n2 n3 n4 (fun n8 s2 n9 n10 => K (Go.Eng.AV.sc (Go.Eng.SV.int Go.IntKind.i64 n8)) [(Option.some (Go.Eng.HE.mk Bool.false (Go.Eng.HB.exp Option.none [(Go.Eng.SV.str s2), (Go.Eng.SV.int Go.IntKind.i64 n2), (Go.Eng.SV.int Go.IntKind.i64 n9), (Go.Eng.SV.int Go.IntKind.i64 n10)])))]) := castPr (by kernel_rfl) (ea_e_spec_l03Two_place_W N (g_spec_Walk N) n n1 s n2 n3 n4 K)
def o_spec_l03Two_place_W (N : Nat) {R : Type} (args : List AV) (H : Hp E) (K : AV → Hp E → Option R) : Option R :=
  match args, H with
  | [(Go.Eng.AV.sc (Go.Eng.SV.ptr 0 0 0)), (Go.Eng.AV.sc (Go.Eng.SV.int Go.IntKind.i64 n)), (Go.Eng.AV.sc (Go.Eng.SV.int Go.IntKind.i64 n1))], [(Option.some (Go.Eng.HE.mk Bool.false (Go.Eng.HB.exp Option.none [(Go.Eng.SV.str s), (Go.Eng.SV.int Go.IntKind.i64 n2), (Go.Eng.SV.int Go.IntKind.i64 n3), (Go.Eng.SV.int Go.IntKind.i64 n4)])))] => g_spec_l03Two_place_W N n n1 s n2 n3 n4 (fun n8 s2 n9 n10 => K (Go.Eng.AV.sc (Go.Eng.SV.int Go.IntKind.i64 n8)) [(Option.some (Go.Eng.HE.mk Bool.false (Go.Eng.HB.exp Option.none [(Go.Eng.SV.str s2), (Go.Eng.SV.int Go.IntKind.i64 n2), (Go.Eng.SV.int Go.IntKind.i64 n9), (Go.Eng.SV.int Go.IntKind.i64 n10)])))])
  | _, _ => none
theorem o_spec_l03Two_place_W_ok (N : Nat) : FnOk E 132 (o_spec_l03Two_place_W N) := by
  intro R args H K r h
  unfold o_spec_l03Two_place_W at h
  dsimp only at h
  split at h
  · exact fnB_ok (ids := []) (top := []) ok (O_spec_l03Two_place_W_ok N) (jn_ok _ _ _) Go.Proofs.Try.func132 (by kernel_rfl) (IT := noIt) (sl := sl_spec_l03Two_place_W) (J := J_spec_l03Two_place_W) (K := K) (H := [(Option.some (Go.Eng.HE.mk Bool.false (Go.Eng.HB.exp Option.none [(Go.Eng.SV.str _), (Go.Eng.SV.int Go.IntKind.i64 _), (Go.Eng.SV.int Go.IntKind.i64 _), (Go.Eng.SV.int Go.IntKind.i64 _)])))]) (noIt_ok) (by kernel_rfl) rfl ((e_spec_l03Two_place_W N _ _ _ _ _ _ K).trans h)
  · cases h
/-! ### (*loop.example/g00038/spec.l03Two).answer -/
abbrev sl_spec_l03Two_answer_W : SlotT := []
abbrev J_spec_l03Two_answer_W : JT := jn [] [] []
noncomputable def O_spec_l03Two_answer_W (N : Nat) : Orc E := noFn
theorem O_spec_l03Two_answer_W_ok (N : Nat) : OrcOk (O_spec_l03Two_answer_W N) := noFn_ok
def g_spec_l03Two_answer_W (N : Nat) {R : Type} (n : Int) (n1 : Int) (n2 : Int) (s : ByteArray) (n3 : Int) (n4 : Int) (n5 : Int) (k : Option R) : Option R :=
  k
theorem e_spec_l03Two_answer_W (N : Nat) {R : Type} (n : Int) (n1 : Int) (n2 : Int) (s : ByteArray) (n3 : Int) (n4 : Int) (n5 : Int) (K : AV → Hp E → Option R) :
    runFnI (E := E) (O_spec_l03Two_answer_W N) (noIt) sl_spec_l03Two_answer_W J_spec_l03Two_answer_W Go.Proofs.Try.f133 [(Go.Eng.AV.sc (Go.Eng.SV.ptr 0 0 0)), (Go.Eng.AV.sc (Go.Eng.SV.int Go.IntKind.i64 n)), (Go.Eng.AV.sc (Go.Eng.SV.int Go.IntKind.i64 n1)), (Go.Eng.AV.sc (Go.Eng.SV.int Go.IntKind.i64 n2))] [(Option.some (Go.Eng.HE.mk Bool.false (Go.Eng.HB.exp Option.none [(Go.Eng.SV.str s), (Go.Eng.SV.int Go.IntKind.i64 n3), (Go.Eng.SV.int Go.IntKind.i64 n4), (Go.Eng.SV.int Go.IntKind.i64 n5)])))] K =
      g_spec_l03Two_answer_W N n n1 n2 s n3 n4 n5 (K (Go.Eng.AV.agg [(Go.Eng.SV.int Go.IntKind.i64 n), (Go.Eng.SV.int Go.IntKind.i64 n1), (Go.Eng.SV.int Go.IntKind.i64 n2), (Go.Eng.SV.int Go.IntKind.i64 n4), (Go.Eng.SV.str s)]) [(Option.some (Go.Eng.HE.mk Bool.false (Go.Eng.HB.exp Option.none [(Go.Eng.SV.str s), (Go.Eng.SV.int Go.IntKind.i64 n3), (Go.Eng.SV.int Go.IntKind.i64 n4), (Go.Eng.SV.int Go.IntKind.i64 n5)])))]) := by kernel_rfl
def o_spec_l03Two_answer_W (N : Nat) {R : Type} (args : List AV) (H : Hp E) (K : AV → Hp E → Option R) : Option R :=
  match args, H with
  | [(Go.Eng.AV.sc (Go.Eng.SV.ptr 0 0 0)), (Go.Eng.AV.sc (Go.Eng.SV.int Go.IntKind.i64 n)), (Go.Eng.AV.sc (Go.Eng.SV.int Go.IntKind.i64 n1)), (Go.Eng.AV.sc (Go.Eng.SV.int Go.IntKind.i64 n2))], [(Option.some (Go.Eng.HE.mk Bool.false (Go.Eng.HB.exp Option.none [(Go.Eng.SV.str s), (Go.Eng.SV.int Go.IntKind.i64 n3), (Go.Eng.SV.int Go.IntKind.i64 n4), (Go.Eng.SV.int Go.IntKind.i64 n5)])))] => g_spec_l03Two_answer_W N n n1 n2 s n3 n4 n5 (K (Go.Eng.AV.agg [(Go.Eng.SV.int Go.IntKind.i64 n), (Go.Eng.SV.int Go.IntKind.i64 n1), (Go.Eng.SV.int Go.IntKind.i64 n2), (Go.Eng.SV.int Go.IntKind.i64 n4), (Go.Eng.SV.str s)]) [(Option.some (Go.Eng.HE.mk Bool.false (Go.Eng.HB.exp Option.none [(Go.Eng.SV.str s), (Go.Eng.SV.int Go.IntKind.i64 n3), (Go.Eng.SV.int Go.IntKind.i64 n4), (Go.Eng.SV.int Go.IntKind.i64 n5)])))])
  | _, _ => none
theorem o_spec_l03Two_answer_W_ok (N : Nat) : FnOk E 133 (o_spec_l03Two_answer_W N) := by
  intro R args H K r h
  unfold o_spec_l03Two_answer_W at h
  dsimp only at h
  split at h
  · exact fnB_ok (ids := []) (top := []) ok (O_spec_l03Two_answer_W_ok N) (jn_ok _ _ _) Go.Proofs.Try.func133 (by kernel_rfl) (IT := noIt) (sl := sl_spec_l03Two_answer_W) (J := J_spec_l03Two_answer_W) (K := K) (H := [(Option.some (Go.Eng.HE.mk Bool.false (Go.Eng.HB.exp Option.none [(Go.Eng.SV.str _), (Go.Eng.SV.int Go.IntKind.i64 _), (Go.Eng.SV.int Go.IntKind.i64 _), (Go.Eng.SV.int Go.IntKind.i64 _)])))]) (noIt_ok) (by kernel_rfl) rfl ((e_spec_l03Two_answer_W N _ _ _ _ _ _ _ K).trans h)
  · cases h
end Go.Sa
