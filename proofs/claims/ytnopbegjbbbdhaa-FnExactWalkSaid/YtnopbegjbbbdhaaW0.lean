import Derived.Test.YtnopbegjbbbdhaaSpec
import Derived.Test.YtnopbegjbbbdhaaPLb
set_option linter.all false
namespace Go.Sa
open Go Go.Eng Go.Proofs
set_option maxRecDepth 100000
/-! ### loop.example/g00038/spec.MemFault -/
abbrev sl_spec_MemFault : SlotT := []
abbrev J_spec_MemFault : JT := jn [(1, [(16, .b)])] [] []
noncomputable def O_spec_MemFault (N : Nat) : Orc E := noFn
theorem O_spec_MemFault_ok (N : Nat) : OrcOk (O_spec_MemFault N) := noFn_ok
def g_spec_MemFault (N : Nat) {R : Type} (s : ByteArray) (k : Int → Option R) : Option R :=
  (oK (cond ((((ByteArray.size s) : Nat) : Int) == (0 : Int))
    (some Bool.true)
    (cond ((Int.tmod (((ByteArray.size s) : Nat) : Int) (256 : Int)) != (0 : Int))
      (some Bool.true)
      (some (decide (((((ByteArray.size s) : Nat) : Int) > (65536 : Int))))))) fun j =>
  (cond j
  (k (1 : Int))
  (k (0 : Int))))
theorem e_spec_MemFault (N : Nat) {R : Type} (s : ByteArray) (K : AV → Hp E → Option R) :
    runFnI (E := E) (O_spec_MemFault N) (noIt) sl_spec_MemFault J_spec_MemFault Go.Proofs.Try.f58 [(Go.Eng.AV.sc (Go.Eng.SV.str s))] [] K =
      g_spec_MemFault N s (fun n => K (Go.Eng.AV.sc (Go.Eng.SV.int Go.IntKind.i64 n)) []) := by kernel_rfl
def o_spec_MemFault (N : Nat) {R : Type} (args : List AV) (H : Hp E) (K : AV → Hp E → Option R) : Option R :=
  match args, H with
  | [(Go.Eng.AV.sc (Go.Eng.SV.str s))], [] => g_spec_MemFault N s (fun n => K (Go.Eng.AV.sc (Go.Eng.SV.int Go.IntKind.i64 n)) [])
  | _, _ => none
theorem o_spec_MemFault_ok (N : Nat) : FnOk E 58 (o_spec_MemFault N) := by
  intro R args H K r h
  unfold o_spec_MemFault at h
  dsimp only at h
  split at h
  · exact fnB_ok (ids := []) (top := []) ok (O_spec_MemFault_ok N) (jn_ok _ _ _) Go.Proofs.Try.func58 (by kernel_rfl) (IT := noIt) (sl := sl_spec_MemFault) (J := J_spec_MemFault) (K := K) (H := []) (noIt_ok) (by kernel_rfl) rfl ((e_spec_MemFault N _ K).trans h)
  · cases h
/-! ### loop.example/g00038/spec.l03Acc -/
abbrev sl_spec_l03Acc : SlotT := []
abbrev J_spec_l03Acc : JT := jn [(1, [(2, .b)])] [] []
noncomputable def O_spec_l03Acc (N : Nat) : Orc E := noFn
theorem O_spec_l03Acc_ok (N : Nat) : OrcOk (O_spec_l03Acc N) := noFn_ok
def g_spec_l03Acc (N : Nat) {R : Type} (n : Int) (k : Bool → Option R) : Option R :=
  (oK (cond (n == (1 : Int))
    (some Bool.true)
    (cond (n == (2 : Int))
      (some Bool.true)
      (some (n == (3 : Int))))) fun j =>
  (k j))
theorem e_spec_l03Acc (N : Nat) {R : Type} (n : Int) (K : AV → Hp E → Option R) :
    runFnI (E := E) (O_spec_l03Acc N) (noIt) sl_spec_l03Acc J_spec_l03Acc Go.Proofs.Try.f64 [(Go.Eng.AV.sc (Go.Eng.SV.int Go.IntKind.i64 n))] [] K =
      g_spec_l03Acc N n (fun b => K (Go.Eng.AV.sc (Go.Eng.SV.bool b)) []) := by kernel_rfl
def o_spec_l03Acc (N : Nat) {R : Type} (args : List AV) (H : Hp E) (K : AV → Hp E → Option R) : Option R :=
  match args, H with
  | [(Go.Eng.AV.sc (Go.Eng.SV.int Go.IntKind.i64 n))], [] => g_spec_l03Acc N n (fun b => K (Go.Eng.AV.sc (Go.Eng.SV.bool b)) [])
  | _, _ => none
theorem o_spec_l03Acc_ok (N : Nat) : FnOk E 64 (o_spec_l03Acc N) := by
  intro R args H K r h
  unfold o_spec_l03Acc at h
  dsimp only at h
  split at h
  · exact fnB_ok (ids := []) (top := []) ok (O_spec_l03Acc_ok N) (jn_ok _ _ _) Go.Proofs.Try.func64 (by kernel_rfl) (IT := noIt) (sl := sl_spec_l03Acc) (J := J_spec_l03Acc) (K := K) (H := []) (noIt_ok) (by kernel_rfl) rfl ((e_spec_l03Acc N _ K).trans h)
  · cases h
/-! ### loop.example/g00038/spec.l01Word -/
abbrev sl_spec_l01Word : SlotT := []
abbrev J_spec_l01Word : JT := jn [] [] []
noncomputable def O_spec_l01Word (N : Nat) : Orc E := noFn
theorem O_spec_l01Word_ok (N : Nat) : OrcOk (O_spec_l01Word N) := noFn_ok
def g_spec_l01Word (N : Nat) {R : Type} (s : ByteArray) (n : Int) (k : Int → Option R) : Option R :=
  (cond ((decide (((0 : Int) ≤ n))) && (decide ((n < (((ByteArray.size s) : Nat) : Int)))))
  (cond ((decide (((0 : Int) ≤ (Go.IntKind.wrap Go.IntKind.i64 (n + (1 : Int)))))) && (decide (((Go.IntKind.wrap Go.IntKind.i64 (n + (1 : Int))) < (((ByteArray.size s) : Nat) : Int)))))
    (cond ((decide (((0 : Int) ≤ (Go.IntKind.wrap Go.IntKind.i64 (n + (2 : Int)))))) && (decide (((Go.IntKind.wrap Go.IntKind.i64 (n + (2 : Int))) < (((ByteArray.size s) : Nat) : Int)))))
      (cond ((decide (((0 : Int) ≤ (Go.IntKind.wrap Go.IntKind.i64 (n + (3 : Int)))))) && (decide (((Go.IntKind.wrap Go.IntKind.i64 (n + (3 : Int))) < (((ByteArray.size s) : Nat) : Int)))))
        (k (Go.IntKind.wrap Go.IntKind.i64 ((Go.IntKind.wrap Go.IntKind.i64 ((Go.IntKind.wrap Go.IntKind.i64 ((Go.IntKind.wrap Go.IntKind.i64 (Go.Eng.bt s (Int.toNat n))) + (Go.IntKind.wrap Go.IntKind.i64 ((Go.IntKind.wrap Go.IntKind.i64 (Go.Eng.bt s (Int.toNat (Go.IntKind.wrap Go.IntKind.i64 (n + (1 : Int)))))) * (256 : Int))))) + (Go.IntKind.wrap Go.IntKind.i64 ((Go.IntKind.wrap Go.IntKind.i64 (Go.Eng.bt s (Int.toNat (Go.IntKind.wrap Go.IntKind.i64 (n + (2 : Int)))))) * (65536 : Int))))) + (Go.IntKind.wrap Go.IntKind.i64 ((Go.IntKind.wrap Go.IntKind.i64 (Go.Eng.bt s (Int.toNat (Go.IntKind.wrap Go.IntKind.i64 (n + (3 : Int)))))) * (16777216 : Int))))))
        none)
      none)
    none)
  none)
theorem e_spec_l01Word (N : Nat) {R : Type} (s : ByteArray) (n : Int) (K : AV → Hp E → Option R) :
    runFnI (E := E) (O_spec_l01Word N) (noIt) sl_spec_l01Word J_spec_l01Word Go.Proofs.Try.f79 [(Go.Eng.AV.sc (Go.Eng.SV.str s)), (Go.Eng.AV.sc (Go.Eng.SV.int Go.IntKind.i64 n))] [] K =
      g_spec_l01Word N s n (fun n1 => K (Go.Eng.AV.sc (Go.Eng.SV.int Go.IntKind.i64 n1)) []) := by kernel_rfl
def o_spec_l01Word (N : Nat) {R : Type} (args : List AV) (H : Hp E) (K : AV → Hp E → Option R) : Option R :=
  match args, H with
  | [(Go.Eng.AV.sc (Go.Eng.SV.str s)), (Go.Eng.AV.sc (Go.Eng.SV.int Go.IntKind.i64 n))], [] => g_spec_l01Word N s n (fun n1 => K (Go.Eng.AV.sc (Go.Eng.SV.int Go.IntKind.i64 n1)) [])
  | _, _ => none
theorem o_spec_l01Word_ok (N : Nat) : FnOk E 79 (o_spec_l01Word N) := by
  intro R args H K r h
  unfold o_spec_l01Word at h
  dsimp only at h
  split at h
  · exact fnB_ok (ids := []) (top := []) ok (O_spec_l01Word_ok N) (jn_ok _ _ _) Go.Proofs.Try.func79 (by kernel_rfl) (IT := noIt) (sl := sl_spec_l01Word) (J := J_spec_l01Word) (K := K) (H := []) (noIt_ok) (by kernel_rfl) rfl ((e_spec_l01Word N _ _ K).trans h)
  · cases h
/-! ### loop.example/g00038/spec.l03Entry -/
abbrev sl_spec_l03Entry : SlotT := []
abbrev J_spec_l03Entry : JT := jn [] [] []
noncomputable def O_spec_l03Entry (N : Nat) : Orc E := addFn 79 (o_spec_l01Word N) (noFn)
theorem O_spec_l03Entry_ok (N : Nat) : OrcOk (O_spec_l03Entry N) := addFn_ok (o_spec_l01Word_ok N) (noFn_ok)
def g_spec_l03Entry (N : Nat) {R : Type} (s : ByteArray) (n : Int) (n1 : Int) (k : Int → Bool → Option R) : Option R :=
  (cond (decide (((Go.IntKind.wrap Go.IntKind.i64 ((Go.IntKind.wrap Go.IntKind.i64 (n + (1 : Int))) * (256 : Int))) > (((ByteArray.size s) : Nat) : Int))))
  (k (0 : Int) Bool.false)
  (g_spec_l01Word N s (Go.IntKind.wrap Go.IntKind.i64 ((Go.IntKind.wrap Go.IntKind.i64 (n * (256 : Int))) + (Go.IntKind.wrap Go.IntKind.i64 ((4 : Int) * n1)))) fun n2 =>
    (k n2 Bool.true)))
theorem e_spec_l03Entry (N : Nat) {R : Type} (s : ByteArray) (n : Int) (n1 : Int) (K : AV → Hp E → Option R) :
    runFnI (E := E) (O_spec_l03Entry N) (noIt) sl_spec_l03Entry J_spec_l03Entry Go.Proofs.Try.f65 [(Go.Eng.AV.sc (Go.Eng.SV.str s)), (Go.Eng.AV.sc (Go.Eng.SV.int Go.IntKind.i64 n)), (Go.Eng.AV.sc (Go.Eng.SV.int Go.IntKind.i64 n1))] [] K =
      g_spec_l03Entry N s n n1 (fun n3 b => K (Go.Eng.AV.tup [(Bool.false, [(Go.Eng.SV.int Go.IntKind.i64 n3)]), (Bool.false, [(Go.Eng.SV.bool b)])]) []) := by kernel_rfl
def o_spec_l03Entry (N : Nat) {R : Type} (args : List AV) (H : Hp E) (K : AV → Hp E → Option R) : Option R :=
  match args, H with
  | [(Go.Eng.AV.sc (Go.Eng.SV.str s)), (Go.Eng.AV.sc (Go.Eng.SV.int Go.IntKind.i64 n)), (Go.Eng.AV.sc (Go.Eng.SV.int Go.IntKind.i64 n1))], [] => g_spec_l03Entry N s n n1 (fun n3 b => K (Go.Eng.AV.tup [(Bool.false, [(Go.Eng.SV.int Go.IntKind.i64 n3)]), (Bool.false, [(Go.Eng.SV.bool b)])]) [])
  | _, _ => none
theorem o_spec_l03Entry_ok (N : Nat) : FnOk E 65 (o_spec_l03Entry N) := by
  intro R args H K r h
  unfold o_spec_l03Entry at h
  dsimp only at h
  split at h
  · exact fnB_ok (ids := []) (top := []) ok (O_spec_l03Entry_ok N) (jn_ok _ _ _) Go.Proofs.Try.func65 (by kernel_rfl) (IT := noIt) (sl := sl_spec_l03Entry) (J := J_spec_l03Entry) (K := K) (H := []) (noIt_ok) (by kernel_rfl) rfl ((e_spec_l03Entry N _ _ _ K).trans h)
  · cases h
/-! ### loop.example/g00038/spec.l03May -/
abbrev sl_spec_l03May : SlotT := []
abbrev J_spec_l03May : JT := jn [(11, [(6, .b)])] [(9, [(7, .i .i64)]), (11, [(7, .i .i64)])] []
noncomputable def O_spec_l03May (N : Nat) : Orc E := noFn
theorem O_spec_l03May_ok (N : Nat) : OrcOk (O_spec_l03May N) := noFn_ok
def g_spec_l03May (N : Nat) {R : Type} (n : Int) (n1 : Int) (b : Bool) (k : Bool → Option R) : Option R :=
  (oK (cond (n1 == (2 : Int))
    (some (4 : Int))
    (oK (cond (n1 == (3 : Int))
        (some (8 : Int))
        (some (2 : Int))) fun j =>
      (some j))) fun j1 =>
  (cond ((Go.IntKind.wrap Go.IntKind.i64 (((BitVec.toNat ((BitVec.ofInt 64 n) &&& (BitVec.ofInt 64 j1))) : Nat) : Int)) == (0 : Int))
  (k Bool.false)
  (cond b
    (k ((Go.IntKind.wrap Go.IntKind.i64 (((BitVec.toNat ((BitVec.ofInt 64 n) &&& (BitVec.ofInt 64 (16 : Int)))) : Nat) : Int)) != (0 : Int)))
    (oK (cond (n1 != (3 : Int))
        (some Bool.true)
        (some ((Go.IntKind.wrap Go.IntKind.i64 (((BitVec.toNat ((BitVec.ofInt 64 n) &&& (BitVec.ofInt 64 (16 : Int)))) : Nat) : Int)) == (0 : Int)))) fun j2 =>
      (k j2)))))
theorem e_spec_l03May (N : Nat) {R : Type} (n : Int) (n1 : Int) (b : Bool) (K : AV → Hp E → Option R) :
    runFnI (E := E) (O_spec_l03May N) (noIt) sl_spec_l03May J_spec_l03May Go.Proofs.Try.f66 [(Go.Eng.AV.sc (Go.Eng.SV.int Go.IntKind.i64 n)), (Go.Eng.AV.sc (Go.Eng.SV.int Go.IntKind.i64 n1)), (Go.Eng.AV.sc (Go.Eng.SV.bool b))] [] K =
      g_spec_l03May N n n1 b (fun b1 => K (Go.Eng.AV.sc (Go.Eng.SV.bool b1)) []) := by kernel_rfl
def o_spec_l03May (N : Nat) {R : Type} (args : List AV) (H : Hp E) (K : AV → Hp E → Option R) : Option R :=
  match args, H with
  | [(Go.Eng.AV.sc (Go.Eng.SV.int Go.IntKind.i64 n)), (Go.Eng.AV.sc (Go.Eng.SV.int Go.IntKind.i64 n1)), (Go.Eng.AV.sc (Go.Eng.SV.bool b))], [] => g_spec_l03May N n n1 b (fun b1 => K (Go.Eng.AV.sc (Go.Eng.SV.bool b1)) [])
  | _, _ => none
theorem o_spec_l03May_ok (N : Nat) : FnOk E 66 (o_spec_l03May N) := by
  intro R args H K r h
  unfold o_spec_l03May at h
  dsimp only at h
  split at h
  · exact fnB_ok (ids := []) (top := []) ok (O_spec_l03May_ok N) (jn_ok _ _ _) Go.Proofs.Try.func66 (by kernel_rfl) (IT := noIt) (sl := sl_spec_l03May) (J := J_spec_l03May) (K := K) (H := []) (noIt_ok) (by kernel_rfl) rfl ((e_spec_l03May N _ _ _ K).trans h)
  · cases h
/-! ### loop.example/g00038/spec.GetWord -/
abbrev sl_spec_GetWord : SlotT := []
abbrev J_spec_GetWord : JT := jn [(1, [(18, .b)])] [] []
noncomputable def O_spec_GetWord (N : Nat) : Orc E := addFn 79 (o_spec_l01Word N) (noFn)
theorem O_spec_GetWord_ok (N : Nat) : OrcOk (O_spec_GetWord N) := addFn_ok (o_spec_l01Word_ok N) (noFn_ok)
def g_spec_GetWord (N : Nat) {R : Type} (s : ByteArray) (n : Int) (k : Bool → Int → Option R) : Option R :=
  (oK (cond (decide (((((ByteArray.size s) : Nat) : Int) > (65536 : Int))))
    (some Bool.true)
    (cond (decide ((n < (0 : Int))))
      (some Bool.true)
      (some (decide ((n > (Go.IntKind.wrap Go.IntKind.i64 ((((ByteArray.size s) : Nat) : Int) - (4 : Int))))))))) fun j =>
  (cond j
  (k Bool.false (0 : Int))
  (g_spec_l01Word N s n fun n1 =>
    (k Bool.true n1))))
theorem e_spec_GetWord (N : Nat) {R : Type} (s : ByteArray) (n : Int) (K : AV → Hp E → Option R) :
    runFnI (E := E) (O_spec_GetWord N) (noIt) sl_spec_GetWord J_spec_GetWord Go.Proofs.Try.f148 [(Go.Eng.AV.sc (Go.Eng.SV.str s)), (Go.Eng.AV.sc (Go.Eng.SV.int Go.IntKind.i64 n))] [] K =
      g_spec_GetWord N s n (fun b n2 => K (Go.Eng.AV.agg [(Go.Eng.SV.bool b), (Go.Eng.SV.int Go.IntKind.i64 n2)]) []) := by kernel_rfl
def o_spec_GetWord (N : Nat) {R : Type} (args : List AV) (H : Hp E) (K : AV → Hp E → Option R) : Option R :=
  match args, H with
  | [(Go.Eng.AV.sc (Go.Eng.SV.str s)), (Go.Eng.AV.sc (Go.Eng.SV.int Go.IntKind.i64 n))], [] => g_spec_GetWord N s n (fun b n2 => K (Go.Eng.AV.agg [(Go.Eng.SV.bool b), (Go.Eng.SV.int Go.IntKind.i64 n2)]) [])
  | _, _ => none
theorem o_spec_GetWord_ok (N : Nat) : FnOk E 148 (o_spec_GetWord N) := by
  intro R args H K r h
  unfold o_spec_GetWord at h
  dsimp only at h
  split at h
  · exact fnB_ok (ids := []) (top := []) ok (O_spec_GetWord_ok N) (jn_ok _ _ _) Go.Proofs.Try.func148 (by kernel_rfl) (IT := noIt) (sl := sl_spec_GetWord) (J := J_spec_GetWord) (K := K) (H := []) (noIt_ok) (by kernel_rfl) rfl ((e_spec_GetWord N _ _ K).trans h)
  · cases h
/-! ### loop.example/g00038/spec.l01Mod -/
abbrev sl_spec_l01Mod : SlotT := []
abbrev J_spec_l01Mod : JT := jn [] [(10, [(5, .i .i64)])] []
noncomputable def O_spec_l01Mod (N : Nat) : Orc E := noFn
theorem O_spec_l01Mod_ok (N : Nat) : OrcOk (O_spec_l01Mod N) := noFn_ok
def g_spec_l01Mod (N : Nat) {R : Type} (n : Int) (n1 : Int) (k : Int → Option R) : Option R :=
  (cond (n1 == (0 : Int))
  none
  (oK (cond (decide (((Int.tmod n n1) < (0 : Int))))
      (some (Go.IntKind.wrap Go.IntKind.i64 ((Int.tmod n n1) + n1)))
      (some (Int.tmod n n1))) fun j =>
    (k j)))
theorem e_spec_l01Mod (N : Nat) {R : Type} (n : Int) (n1 : Int) (K : AV → Hp E → Option R) :
    runFnI (E := E) (O_spec_l01Mod N) (noIt) sl_spec_l01Mod J_spec_l01Mod Go.Proofs.Try.f158 [(Go.Eng.AV.sc (Go.Eng.SV.int Go.IntKind.i64 n)), (Go.Eng.AV.sc (Go.Eng.SV.int Go.IntKind.i64 n1))] [] K =
      g_spec_l01Mod N n n1 (fun n2 => K (Go.Eng.AV.sc (Go.Eng.SV.int Go.IntKind.i64 n2)) []) := by kernel_rfl
def o_spec_l01Mod (N : Nat) {R : Type} (args : List AV) (H : Hp E) (K : AV → Hp E → Option R) : Option R :=
  match args, H with
  | [(Go.Eng.AV.sc (Go.Eng.SV.int Go.IntKind.i64 n)), (Go.Eng.AV.sc (Go.Eng.SV.int Go.IntKind.i64 n1))], [] => g_spec_l01Mod N n n1 (fun n2 => K (Go.Eng.AV.sc (Go.Eng.SV.int Go.IntKind.i64 n2)) [])
  | _, _ => none
theorem o_spec_l01Mod_ok (N : Nat) : FnOk E 158 (o_spec_l01Mod N) := by
  intro R args H K r h
  unfold o_spec_l01Mod at h
  dsimp only at h
  split at h
  · exact fnB_ok (ids := []) (top := []) ok (O_spec_l01Mod_ok N) (jn_ok _ _ _) Go.Proofs.Try.func158 (by kernel_rfl) (IT := noIt) (sl := sl_spec_l01Mod) (J := J_spec_l01Mod) (K := K) (H := []) (noIt_ok) (by kernel_rfl) rfl ((e_spec_l01Mod N _ _ K).trans h)
  · cases h
/-! ### loop.example/g00038/spec.Word -/
abbrev sl_spec_Word : SlotT := []
abbrev J_spec_Word : JT := jn [] [] []
noncomputable def O_spec_Word (N : Nat) : Orc E := addFn 158 (o_spec_l01Mod N) (noFn)
theorem O_spec_Word_ok (N : Nat) : OrcOk (O_spec_Word N) := addFn_ok (o_spec_l01Mod_ok N) (noFn_ok)
def g_spec_Word (N : Nat) {R : Type} (n : Int) (k : Int → Option R) : Option R :=
  (g_spec_l01Mod N n (4294967296 : Int) fun n1 =>
  (k n1))
theorem e_spec_Word (N : Nat) {R : Type} (n : Int) (K : AV → Hp E → Option R) :
    runFnI (E := E) (O_spec_Word N) (noIt) sl_spec_Word J_spec_Word Go.Proofs.Try.f93 [(Go.Eng.AV.sc (Go.Eng.SV.int Go.IntKind.i64 n))] [] K =
      g_spec_Word N n (fun n2 => K (Go.Eng.AV.sc (Go.Eng.SV.int Go.IntKind.i64 n2)) []) := by kernel_rfl
def o_spec_Word (N : Nat) {R : Type} (args : List AV) (H : Hp E) (K : AV → Hp E → Option R) : Option R :=
  match args, H with
  | [(Go.Eng.AV.sc (Go.Eng.SV.int Go.IntKind.i64 n))], [] => g_spec_Word N n (fun n2 => K (Go.Eng.AV.sc (Go.Eng.SV.int Go.IntKind.i64 n2)) [])
  | _, _ => none
theorem o_spec_Word_ok (N : Nat) : FnOk E 93 (o_spec_Word N) := by
  intro R args H K r h
  unfold o_spec_Word at h
  dsimp only at h
  split at h
  · exact fnB_ok (ids := []) (top := []) ok (O_spec_Word_ok N) (jn_ok _ _ _) Go.Proofs.Try.func93 (by kernel_rfl) (IT := noIt) (sl := sl_spec_Word) (J := J_spec_Word) (K := K) (H := []) (noIt_ok) (by kernel_rfl) rfl ((e_spec_Word N _ K).trans h)
  · cases h
/-! ### loop.example/g00038/spec.PutWord -/
abbrev sl_spec_PutWord : SlotT := []
abbrev J_spec_PutWord : JT := jn [] [] []
noncomputable def O_spec_PutWord (N : Nat) : Orc E := addFn 93 (o_spec_Word N) (noFn)
theorem O_spec_PutWord_ok (N : Nat) : OrcOk (O_spec_PutWord N) := addFn_ok (o_spec_Word_ok N) (noFn_ok)
def g_spec_PutWord (N : Nat) {R : Type} (n : Int) (k : ByteArray → Option R) : Option R :=
  (g_spec_Word N n fun n1 =>
  (k (Go.Eng.toBytes (Go.Eng.seg [(Go.IntKind.wrap Go.IntKind.u8 n1), (Go.IntKind.wrap Go.IntKind.u8 (Int.fdiv n1 (256 : Int))), (Go.IntKind.wrap Go.IntKind.u8 (Int.fdiv n1 (65536 : Int))), (Go.IntKind.wrap Go.IntKind.u8 (Int.fdiv n1 (16777216 : Int)))] 0 (List.length [(Go.IntKind.wrap Go.IntKind.u8 n1), (Go.IntKind.wrap Go.IntKind.u8 (Int.fdiv n1 (256 : Int))), (Go.IntKind.wrap Go.IntKind.u8 (Int.fdiv n1 (65536 : Int))), (Go.IntKind.wrap Go.IntKind.u8 (Int.fdiv n1 (16777216 : Int)))])))))
theorem e_spec_PutWord (N : Nat) {R : Type} (n : Int) (K : AV → Hp E → Option R) :
    runFnI (E := E) (O_spec_PutWord N) (noIt) sl_spec_PutWord J_spec_PutWord Go.Proofs.Try.f109 [(Go.Eng.AV.sc (Go.Eng.SV.int Go.IntKind.i64 n))] [] K =
      g_spec_PutWord N n (fun s => K (Go.Eng.AV.sc (Go.Eng.SV.str s)) []) := by kernel_rfl
def o_spec_PutWord (N : Nat) {R : Type} (args : List AV) (H : Hp E) (K : AV → Hp E → Option R) : Option R :=
  match args, H with
  | [(Go.Eng.AV.sc (Go.Eng.SV.int Go.IntKind.i64 n))], [] => g_spec_PutWord N n (fun s => K (Go.Eng.AV.sc (Go.Eng.SV.str s)) [])
  | _, _ => none
theorem o_spec_PutWord_ok (N : Nat) : FnOk E 109 (o_spec_PutWord N) := by
  intro R args H K r h
  unfold o_spec_PutWord at h
  dsimp only at h
  split at h
  · exact fnB_ok (ids := []) (top := []) ok (O_spec_PutWord_ok N) (jn_ok _ _ _) Go.Proofs.Try.func109 (by kernel_rfl) (IT := noIt) (sl := sl_spec_PutWord) (J := J_spec_PutWord) (K := K) (H := []) (noIt_ok) (by kernel_rfl) rfl ((e_spec_PutWord N _ K).trans h)
  · cases h
/-! ### loop.example/g00038/spec.SetWord -/
abbrev sl_spec_SetWord : SlotT := []
abbrev J_spec_SetWord : JT := jn [] [] []
noncomputable def O_spec_SetWord (N : Nat) : Orc E := addFn 109 (o_spec_PutWord N) (addFn 148 (o_spec_GetWord N) (noFn))
theorem O_spec_SetWord_ok (N : Nat) : OrcOk (O_spec_SetWord N) := addFn_ok (o_spec_PutWord_ok N) (addFn_ok (o_spec_GetWord_ok N) (noFn_ok))
def g_spec_SetWord (N : Nat) {R : Type} (s : ByteArray) (n : Int) (n1 : Int) (k : ByteArray → Option R) : Option R :=
  (g_spec_GetWord N s n fun b n2 =>
  (cond (!b)
  (k (ByteArray.mk (List.toArray [])))
  (cond ((decide (((0 : Int) ≤ n))) && (decide ((n ≤ (((ByteArray.size s) : Nat) : Int)))))
    (g_spec_PutWord N n1 fun s1 =>
      (cond (Nat.ble ((ByteArray.size (ByteArray.extract s 0 (Int.toNat n))) + (ByteArray.size s1)) 9223372036854775807)
      (cond (((decide (((0 : Int) ≤ (Go.IntKind.wrap Go.IntKind.i64 (n + (4 : Int)))))) && (decide (((Go.IntKind.wrap Go.IntKind.i64 (n + (4 : Int))) ≤ (((ByteArray.size s) : Nat) : Int))))) && (decide (((((ByteArray.size s) : Nat) : Int) ≤ (((ByteArray.size s) : Nat) : Int)))))
        (cond (Nat.ble ((ByteArray.size ((ByteArray.extract s 0 (Int.toNat n)) ++ s1)) + (ByteArray.size (ByteArray.extract s (Int.toNat (Go.IntKind.wrap Go.IntKind.i64 (n + (4 : Int)))) (Int.toNat (((ByteArray.size s) : Nat) : Int))))) 9223372036854775807)
          (k (((ByteArray.extract s 0 (Int.toNat n)) ++ s1) ++ (ByteArray.extract s (Int.toNat (Go.IntKind.wrap Go.IntKind.i64 (n + (4 : Int)))) (Int.toNat (((ByteArray.size s) : Nat) : Int)))))
          none)
        none)
      none))
    none)))
theorem e_spec_SetWord (N : Nat) {R : Type} (s : ByteArray) (n : Int) (n1 : Int) (K : AV → Hp E → Option R) :
    runFnI (E := E) (O_spec_SetWord N) (noIt) sl_spec_SetWord J_spec_SetWord Go.Proofs.Try.f67 [(Go.Eng.AV.sc (Go.Eng.SV.str s)), (Go.Eng.AV.sc (Go.Eng.SV.int Go.IntKind.i64 n)), (Go.Eng.AV.sc (Go.Eng.SV.int Go.IntKind.i64 n1))] [] K =
      g_spec_SetWord N s n n1 (fun s2 => K (Go.Eng.AV.sc (Go.Eng.SV.str s2)) []) := by kernel_rfl
def o_spec_SetWord (N : Nat) {R : Type} (args : List AV) (H : Hp E) (K : AV → Hp E → Option R) : Option R :=
  match args, H with
  | [(Go.Eng.AV.sc (Go.Eng.SV.str s)), (Go.Eng.AV.sc (Go.Eng.SV.int Go.IntKind.i64 n)), (Go.Eng.AV.sc (Go.Eng.SV.int Go.IntKind.i64 n1))], [] => g_spec_SetWord N s n n1 (fun s2 => K (Go.Eng.AV.sc (Go.Eng.SV.str s2)) [])
  | _, _ => none
theorem o_spec_SetWord_ok (N : Nat) : FnOk E 67 (o_spec_SetWord N) := by
  intro R args H K r h
  unfold o_spec_SetWord at h
  dsimp only at h
  split at h
  · exact fnB_ok (ids := []) (top := []) ok (O_spec_SetWord_ok N) (jn_ok _ _ _) Go.Proofs.Try.func67 (by kernel_rfl) (IT := noIt) (sl := sl_spec_SetWord) (J := J_spec_SetWord) (K := K) (H := []) (noIt_ok) (by kernel_rfl) rfl ((e_spec_SetWord N _ _ _ K).trans h)
  · cases h
/-! ### loop.example/g00038/spec.Walk -/
abbrev sl_spec_Walk : SlotT := []
abbrev J_spec_Walk : JT := jn [(1, [(41, .b)]), (11, [(74, .b)]), (21, [(127, .b)])] [(130, [(17, .i .i64)]), (147, [(13, .i .i64)])] []
noncomputable def O_spec_Walk (N : Nat) : Orc E := addFn 67 (o_spec_SetWord N) (addFn 66 (o_spec_l03May N) (addFn 65 (o_spec_l03Entry N) (addFn 64 (o_spec_l03Acc N) (addFn 58 (o_spec_MemFault N) (noFn)))))
theorem O_spec_Walk_ok (N : Nat) : OrcOk (O_spec_Walk N) := addFn_ok (o_spec_SetWord_ok N) (addFn_ok (o_spec_l03May_ok N) (addFn_ok (o_spec_l03Entry_ok N) (addFn_ok (o_spec_l03Acc_ok N) (addFn_ok (o_spec_MemFault_ok N) (noFn_ok)))))
def g_spec_Walk (N : Nat) {R : Type} (s : ByteArray) (n : Int) (n1 : Int) (n2 : Int) (b : Bool) (k : Int → Int → Int → Bool → Bool → ByteArray → (List Int) → Option R) : Option R :=
  (oK (g_spec_MemFault N s fun n3 =>
    (cond (n3 != (0 : Int))
    (some Bool.true)
    (cond (decide ((n < (0 : Int))))
      (some Bool.true)
      (cond (decide ((n > (255 : Int))))
        (some Bool.true)
        (cond (decide ((n1 < (0 : Int))))
          (some Bool.true)
          (cond (decide ((n1 ≥ (262144 : Int))))
            (some Bool.true)
            (g_spec_l03Acc N n2 fun b1 =>
              (some (!b1))))))))) fun j =>
  (cond j
  (k (0 : Int) (0 : Int) (0 : Int) Bool.false Bool.true (ByteArray.mk (List.toArray [])) [])
  (g_spec_l03Entry N s n (Int.fdiv n1 (8192 : Int)) fun n4 b2 =>
    (cond (!b2)
    (k (2 : Int) (0 : Int) (0 : Int) Bool.false Bool.false s [])
    (oK (cond ((Go.IntKind.wrap Go.IntKind.i64 (((BitVec.toNat ((BitVec.ofInt 64 n4) &&& (BitVec.ofInt 64 (1 : Int)))) : Nat) : Int)) != (0 : Int))
        (some ((Go.IntKind.wrap Go.IntKind.i64 (((BitVec.toNat ((BitVec.ofInt 64 n4) &&& (BitVec.ofInt 64 (14 : Int)))) : Nat) : Int)) == (0 : Int)))
        (some Bool.false)) fun j1 =>
      (cond j1
      (g_spec_l03Entry N s (Int.fdiv n4 (256 : Int)) (Int.tmod (Int.fdiv n1 (256 : Int)) (32 : Int)) fun n5 b3 =>
        (cond (!b3)
        (k (2 : Int) (0 : Int) (0 : Int) Bool.false Bool.false s [n])
        (oK (cond ((Go.IntKind.wrap Go.IntKind.i64 (((BitVec.toNat ((BitVec.ofInt 64 n5) &&& (BitVec.ofInt 64 (1 : Int)))) : Nat) : Int)) == (0 : Int))
            (some Bool.true)
            (cond ((Go.IntKind.wrap Go.IntKind.i64 (((BitVec.toNat ((BitVec.ofInt 64 n5) &&& (BitVec.ofInt 64 (14 : Int)))) : Nat) : Int)) == (0 : Int))
              (some Bool.true)
              (g_spec_l03May N n5 n2 b fun b4 =>
                (some (!b4))))) fun j2 =>
          (cond j2
          (k (1 : Int) (0 : Int) (0 : Int) Bool.false (cond (Nat.beq (List.length [(Int.fdiv n4 (256 : Int))]) 0) Bool.false Bool.false) s ([n] ++ [(Int.fdiv n4 (256 : Int))]))
          (oK (some (Int.fdiv n5 (256 : Int))) fun j3 =>
            (cond (decide (((Go.IntKind.wrap Go.IntKind.i64 ((Go.IntKind.wrap Go.IntKind.i64 (j3 + (1 : Int))) * (256 : Int))) > (((ByteArray.size s) : Nat) : Int))))
            (k (2 : Int) (0 : Int) (0 : Int) Bool.false (cond (Nat.beq (List.length [(Int.fdiv n4 (256 : Int))]) 0) Bool.false Bool.false) s ([n] ++ [(Int.fdiv n4 (256 : Int))]))
            (oK (cond (n2 == (2 : Int))
                (some (Go.IntKind.wrap Go.IntKind.i64 (((BitVec.toNat ((BitVec.ofInt 64 (Go.IntKind.wrap Go.IntKind.i64 (((BitVec.toNat ((BitVec.ofInt 64 n5) ||| (BitVec.ofInt 64 (32 : Int)))) : Nat) : Int))) ||| (BitVec.ofInt 64 (64 : Int)))) : Nat) : Int)))
                (some (Go.IntKind.wrap Go.IntKind.i64 (((BitVec.toNat ((BitVec.ofInt 64 n5) ||| (BitVec.ofInt 64 (32 : Int)))) : Nat) : Int)))) fun j4 =>
              (g_spec_SetWord N s (Go.IntKind.wrap Go.IntKind.i64 ((Go.IntKind.wrap Go.IntKind.i64 ((Int.fdiv n4 (256 : Int)) * (256 : Int))) + (Go.IntKind.wrap Go.IntKind.i64 ((4 : Int) * (Int.tmod (Int.fdiv n1 (256 : Int)) (32 : Int)))))) j4 fun s1 =>
              (k (0 : Int) (Go.IntKind.wrap Go.IntKind.i64 ((Go.IntKind.wrap Go.IntKind.i64 (j3 * (256 : Int))) + (Int.tmod n1 (256 : Int)))) j4 Bool.false (cond (Nat.beq (List.length [(Int.fdiv n4 (256 : Int))]) 0) Bool.false Bool.false) s1 ([n] ++ [(Int.fdiv n4 (256 : Int))]))))))))))
      (oK (cond ((Go.IntKind.wrap Go.IntKind.i64 (((BitVec.toNat ((BitVec.ofInt 64 n4) &&& (BitVec.ofInt 64 (1 : Int)))) : Nat) : Int)) == (0 : Int))
          (some Bool.true)
          (cond ((Go.IntKind.wrap Go.IntKind.i64 (((BitVec.toNat ((BitVec.ofInt 64 n4) &&& (BitVec.ofInt 64 (14 : Int)))) : Nat) : Int)) == (0 : Int))
            (some Bool.true)
            (cond ((Int.tmod (Int.fdiv n4 (256 : Int)) (32 : Int)) != (0 : Int))
              (some Bool.true)
              (g_spec_l03May N n4 n2 b fun b5 =>
                (some (!b5)))))) fun j5 =>
        (cond j5
        (k (1 : Int) (0 : Int) (0 : Int) Bool.false Bool.false s [n])
        (oK (some (Go.IntKind.wrap Go.IntKind.i64 ((Int.fdiv n4 (256 : Int)) + (Int.tmod (Int.fdiv n1 (256 : Int)) (32 : Int))))) fun j6 =>
          (cond (decide (((Go.IntKind.wrap Go.IntKind.i64 ((Go.IntKind.wrap Go.IntKind.i64 (j6 + (1 : Int))) * (256 : Int))) > (((ByteArray.size s) : Nat) : Int))))
          (k (2 : Int) (0 : Int) (0 : Int) Bool.false Bool.false s [n])
          (oK (cond (n2 == (2 : Int))
              (some (Go.IntKind.wrap Go.IntKind.i64 (((BitVec.toNat ((BitVec.ofInt 64 (Go.IntKind.wrap Go.IntKind.i64 (((BitVec.toNat ((BitVec.ofInt 64 n4) ||| (BitVec.ofInt 64 (32 : Int)))) : Nat) : Int))) ||| (BitVec.ofInt 64 (64 : Int)))) : Nat) : Int)))
              (some (Go.IntKind.wrap Go.IntKind.i64 (((BitVec.toNat ((BitVec.ofInt 64 n4) ||| (BitVec.ofInt 64 (32 : Int)))) : Nat) : Int)))) fun j7 =>
            (g_spec_SetWord N s (Go.IntKind.wrap Go.IntKind.i64 ((Go.IntKind.wrap Go.IntKind.i64 (n * (256 : Int))) + (Go.IntKind.wrap Go.IntKind.i64 ((4 : Int) * (Int.fdiv n1 (8192 : Int)))))) j7 fun s2 =>
            (k (0 : Int) (Go.IntKind.wrap Go.IntKind.i64 ((Go.IntKind.wrap Go.IntKind.i64 (j6 * (256 : Int))) + (Int.tmod n1 (256 : Int)))) j7 Bool.true Bool.false s2 [n])))))))))))))
theorem e_spec_Walk (N : Nat) {R : Type} (s : ByteArray) (n : Int) (n1 : Int) (n2 : Int) (b : Bool) (K : AV → Hp E → Option R) :
    runFnI (E := E) (O_spec_Walk N) (noIt) sl_spec_Walk J_spec_Walk Go.Proofs.Try.f15 [(Go.Eng.AV.sc (Go.Eng.SV.str s)), (Go.Eng.AV.sc (Go.Eng.SV.int Go.IntKind.i64 n)), (Go.Eng.AV.sc (Go.Eng.SV.int Go.IntKind.i64 n1)), (Go.Eng.AV.sc (Go.Eng.SV.int Go.IntKind.i64 n2)), (Go.Eng.AV.sc (Go.Eng.SV.bool b))] [] K =
      g_spec_Walk N s n n1 n2 b (fun n6 n7 n8 b6 b7 s3 l => K (Go.Eng.AV.agg [(Go.Eng.SV.int Go.IntKind.i64 n6), (Go.Eng.SV.int Go.IntKind.i64 n7), (Go.Eng.SV.int Go.IntKind.i64 n8), (Go.Eng.SV.bool b6), (Go.Eng.SV.slc 0 Option.none b7), (Go.Eng.SV.str s3)]) [(Option.some (Go.Eng.HE.mk Bool.false (Go.Eng.HB.rows (Go.Sa.B.i64 l))))]) := by kernel_rfl
def o_spec_Walk (N : Nat) {R : Type} (args : List AV) (H : Hp E) (K : AV → Hp E → Option R) : Option R :=
  match args, H with
  | [(Go.Eng.AV.sc (Go.Eng.SV.str s)), (Go.Eng.AV.sc (Go.Eng.SV.int Go.IntKind.i64 n)), (Go.Eng.AV.sc (Go.Eng.SV.int Go.IntKind.i64 n1)), (Go.Eng.AV.sc (Go.Eng.SV.int Go.IntKind.i64 n2)), (Go.Eng.AV.sc (Go.Eng.SV.bool b))], [] => g_spec_Walk N s n n1 n2 b (fun n6 n7 n8 b6 b7 s3 l => K (Go.Eng.AV.agg [(Go.Eng.SV.int Go.IntKind.i64 n6), (Go.Eng.SV.int Go.IntKind.i64 n7), (Go.Eng.SV.int Go.IntKind.i64 n8), (Go.Eng.SV.bool b6), (Go.Eng.SV.slc 0 Option.none b7), (Go.Eng.SV.str s3)]) [(Option.some (Go.Eng.HE.mk Bool.false (Go.Eng.HB.rows (Go.Sa.B.i64 l))))])
  | _, _ => none
theorem o_spec_Walk_ok (N : Nat) : FnOk E 15 (o_spec_Walk N) := by
  intro R args H K r h
  unfold o_spec_Walk at h
  dsimp only at h
  split at h
  · exact fnB_ok (ids := []) (top := []) ok (O_spec_Walk_ok N) (jn_ok _ _ _) Go.Proofs.Try.func15 (by kernel_rfl) (IT := noIt) (sl := sl_spec_Walk) (J := J_spec_Walk) (K := K) (H := []) (noIt_ok) (by kernel_rfl) rfl ((e_spec_Walk N _ _ _ _ _ K).trans h)
  · cases h
/-! ### loop.example/g00038/impl.ymemOk -/
abbrev sl_impl_ymemOk : SlotT := []
abbrev J_impl_ymemOk : JT := jn [(1, [(2, .b)])] [] []
noncomputable def O_impl_ymemOk (N : Nat) : Orc E := noFn
theorem O_impl_ymemOk_ok (N : Nat) : OrcOk (O_impl_ymemOk N) := noFn_ok
def g_impl_ymemOk (N : Nat) {R : Type} (s : ByteArray) (k : Bool → Option R) : Option R :=
  (oK (cond (decide (((((ByteArray.size s) : Nat) : Int) ≥ (256 : Int))))
    (cond (decide (((((ByteArray.size s) : Nat) : Int) ≤ (65536 : Int))))
      (some ((Int.tmod (((ByteArray.size s) : Nat) : Int) (256 : Int)) == (0 : Int)))
      (some Bool.false))
    (some Bool.false)) fun j =>
  (k j))
theorem e_impl_ymemOk (N : Nat) {R : Type} (s : ByteArray) (K : AV → Hp E → Option R) :
    runFnI (E := E) (O_impl_ymemOk N) (noIt) sl_impl_ymemOk J_impl_ymemOk Go.Proofs.Try.f68 [(Go.Eng.AV.sc (Go.Eng.SV.str s))] [] K =
      g_impl_ymemOk N s (fun b => K (Go.Eng.AV.sc (Go.Eng.SV.bool b)) []) := by kernel_rfl
def o_impl_ymemOk (N : Nat) {R : Type} (args : List AV) (H : Hp E) (K : AV → Hp E → Option R) : Option R :=
  match args, H with
  | [(Go.Eng.AV.sc (Go.Eng.SV.str s))], [] => g_impl_ymemOk N s (fun b => K (Go.Eng.AV.sc (Go.Eng.SV.bool b)) [])
  | _, _ => none
theorem o_impl_ymemOk_ok (N : Nat) : FnOk E 68 (o_impl_ymemOk N) := by
  intro R args H K r h
  unfold o_impl_ymemOk at h
  dsimp only at h
  split at h
  · exact fnB_ok (ids := []) (top := []) ok (O_impl_ymemOk_ok N) (jn_ok _ _ _) Go.Proofs.Try.func68 (by kernel_rfl) (IT := noIt) (sl := sl_impl_ymemOk) (J := J_impl_ymemOk) (K := K) (H := []) (noIt_ok) (by kernel_rfl) rfl ((e_impl_ymemOk N _ K).trans h)
  · cases h
/-! ### loop.example/g00038/impl.yin -/
abbrev sl_impl_yin : SlotT := []
abbrev J_impl_yin : JT := jn [(1, [(6, .b)])] [] []
noncomputable def O_impl_yin (N : Nat) : Orc E := noFn
theorem O_impl_yin_ok (N : Nat) : OrcOk (O_impl_yin N) := noFn_ok
def g_impl_yin (N : Nat) {R : Type} (n : Int) (n1 : Int) (n2 : Int) (k : Bool → Option R) : Option R :=
  (oK (cond (decide ((n ≥ n1)))
    (some (decide ((n ≤ n2))))
    (some Bool.false)) fun j =>
  (k j))
theorem e_impl_yin (N : Nat) {R : Type} (n : Int) (n1 : Int) (n2 : Int) (K : AV → Hp E → Option R) :
    runFnI (E := E) (O_impl_yin N) (noIt) sl_impl_yin J_impl_yin Go.Proofs.Try.f96 [(Go.Eng.AV.sc (Go.Eng.SV.int Go.IntKind.i64 n)), (Go.Eng.AV.sc (Go.Eng.SV.int Go.IntKind.i64 n1)), (Go.Eng.AV.sc (Go.Eng.SV.int Go.IntKind.i64 n2))] [] K =
      g_impl_yin N n n1 n2 (fun b => K (Go.Eng.AV.sc (Go.Eng.SV.bool b)) []) := by kernel_rfl
def o_impl_yin (N : Nat) {R : Type} (args : List AV) (H : Hp E) (K : AV → Hp E → Option R) : Option R :=
  match args, H with
  | [(Go.Eng.AV.sc (Go.Eng.SV.int Go.IntKind.i64 n)), (Go.Eng.AV.sc (Go.Eng.SV.int Go.IntKind.i64 n1)), (Go.Eng.AV.sc (Go.Eng.SV.int Go.IntKind.i64 n2))], [] => g_impl_yin N n n1 n2 (fun b => K (Go.Eng.AV.sc (Go.Eng.SV.bool b)) [])
  | _, _ => none
theorem o_impl_yin_ok (N : Nat) : FnOk E 96 (o_impl_yin N) := by
  intro R args H K r h
  unfold o_impl_yin at h
  dsimp only at h
  split at h
  · exact fnB_ok (ids := []) (top := []) ok (O_impl_yin_ok N) (jn_ok _ _ _) Go.Proofs.Try.func96 (by kernel_rfl) (IT := noIt) (sl := sl_impl_yin) (J := J_impl_yin) (K := K) (H := []) (noIt_ok) (by kernel_rfl) rfl ((e_impl_yin N _ _ _ K).trans h)
  · cases h
/-! ### loop.example/g00038/impl.ywalkOk -/
abbrev sl_impl_ywalkOk : SlotT := []
abbrev J_impl_ywalkOk : JT := jn [(1, [(6, .b)])] [] []
noncomputable def O_impl_ywalkOk (N : Nat) : Orc E := addFn 96 (o_impl_yin N) (noFn)
theorem O_impl_ywalkOk_ok (N : Nat) : OrcOk (O_impl_ywalkOk N) := addFn_ok (o_impl_yin_ok N) (noFn_ok)
def g_impl_ywalkOk (N : Nat) {R : Type} (n : Int) (n1 : Int) (n2 : Int) (k : Bool → Option R) : Option R :=
  (oK (g_impl_yin N n (0 : Int) (255 : Int) fun b =>
    (cond b
    (g_impl_yin N n1 (0 : Int) (262143 : Int) fun b1 =>
      (cond b1
      (g_impl_yin N n2 (1 : Int) (3 : Int) fun b2 =>
        (some b2))
      (some Bool.false)))
    (some Bool.false))) fun j =>
  (k j))
theorem e_impl_ywalkOk (N : Nat) {R : Type} (n : Int) (n1 : Int) (n2 : Int) (K : AV → Hp E → Option R) :
    runFnI (E := E) (O_impl_ywalkOk N) (noIt) sl_impl_ywalkOk J_impl_ywalkOk Go.Proofs.Try.f69 [(Go.Eng.AV.sc (Go.Eng.SV.int Go.IntKind.i64 n)), (Go.Eng.AV.sc (Go.Eng.SV.int Go.IntKind.i64 n1)), (Go.Eng.AV.sc (Go.Eng.SV.int Go.IntKind.i64 n2))] [] K =
      g_impl_ywalkOk N n n1 n2 (fun b3 => K (Go.Eng.AV.sc (Go.Eng.SV.bool b3)) []) := by kernel_rfl
def o_impl_ywalkOk (N : Nat) {R : Type} (args : List AV) (H : Hp E) (K : AV → Hp E → Option R) : Option R :=
  match args, H with
  | [(Go.Eng.AV.sc (Go.Eng.SV.int Go.IntKind.i64 n)), (Go.Eng.AV.sc (Go.Eng.SV.int Go.IntKind.i64 n1)), (Go.Eng.AV.sc (Go.Eng.SV.int Go.IntKind.i64 n2))], [] => g_impl_ywalkOk N n n1 n2 (fun b3 => K (Go.Eng.AV.sc (Go.Eng.SV.bool b3)) [])
  | _, _ => none
theorem o_impl_ywalkOk_ok (N : Nat) : FnOk E 69 (o_impl_ywalkOk N) := by
  intro R args H K r h
  unfold o_impl_ywalkOk at h
  dsimp only at h
  split at h
  · exact fnB_ok (ids := []) (top := []) ok (O_impl_ywalkOk_ok N) (jn_ok _ _ _) Go.Proofs.Try.func69 (by kernel_rfl) (IT := noIt) (sl := sl_impl_ywalkOk) (J := J_impl_ywalkOk) (K := K) (H := []) (noIt_ok) (by kernel_rfl) rfl ((e_impl_ywalkOk N _ _ _ K).trans h)
  · cases h
/-! ### loop.example/g00038/impl.yframes -/
abbrev sl_impl_yframes_w : SlotT := []
abbrev J_impl_yframes_w : JT := jn [] [] []
noncomputable def O_impl_yframes_w (N : Nat) : Orc E := noFn
theorem O_impl_yframes_w_ok (N : Nat) : OrcOk (O_impl_yframes_w N) := noFn_ok
def g_impl_yframes_w (N : Nat) {R : Type} (b : Bool) (l : List Int) (k : Int → Option R) : Option R :=
  (k (Go.IntKind.wrap Go.IntKind.i64 (Int.tdiv (((List.length l) : Nat) : Int) (256 : Int))))
theorem e_impl_yframes_w (N : Nat) {R : Type} (b : Bool) (l : List Int) (K : AV → Hp E → Option R) :
    runFnI (E := E) (O_impl_yframes_w N) (noIt) sl_impl_yframes_w J_impl_yframes_w Go.Proofs.Try.f151 [(Go.Eng.AV.sc (Go.Eng.SV.slc 0 Option.none b))] [(Option.some (Go.Eng.HE.mk Bool.false (Go.Eng.HB.rows (Go.Sa.B.u8 l))))] K =
      g_impl_yframes_w N b l (fun n => K (Go.Eng.AV.sc (Go.Eng.SV.int Go.IntKind.i64 n)) [(Option.some (Go.Eng.HE.mk Bool.false (Go.Eng.HB.rows (Go.Sa.B.u8 l))))]) := by kernel_rfl
def o_impl_yframes_w (N : Nat) {R : Type} (args : List AV) (H : Hp E) (K : AV → Hp E → Option R) : Option R :=
  match args, H with
  | [(Go.Eng.AV.sc (Go.Eng.SV.slc 0 Option.none b))], [(Option.some (Go.Eng.HE.mk Bool.false (Go.Eng.HB.rows (Go.Sa.B.u8 l))))] => g_impl_yframes_w N b l (fun n => K (Go.Eng.AV.sc (Go.Eng.SV.int Go.IntKind.i64 n)) [(Option.some (Go.Eng.HE.mk Bool.false (Go.Eng.HB.rows (Go.Sa.B.u8 l))))])
  | _, _ => none
theorem o_impl_yframes_w_ok (N : Nat) : FnOk E 151 (o_impl_yframes_w N) := by
  intro R args H K r h
  unfold o_impl_yframes_w at h
  dsimp only at h
  split at h
  · exact fnB_ok (ids := []) (top := []) ok (O_impl_yframes_w_ok N) (jn_ok _ _ _) Go.Proofs.Try.func151 (by kernel_rfl) (IT := noIt) (sl := sl_impl_yframes_w) (J := J_impl_yframes_w) (K := K) (H := [(Option.some (Go.Eng.HE.mk Bool.false (Go.Eng.HB.rows (Go.Sa.B.u8 _))))]) (noIt_ok) (by kernel_rfl) rfl ((e_impl_yframes_w N _ _ K).trans h)
  · cases h
/-! ### loop.example/g00038/impl.ygetWord -/
abbrev sl_impl_ygetWord_w : SlotT := []
abbrev J_impl_ygetWord_w : JT := jn [] [] []
noncomputable def O_impl_ygetWord_w (N : Nat) : Orc E := noFn
theorem O_impl_ygetWord_w_ok (N : Nat) : OrcOk (O_impl_ygetWord_w N) := noFn_ok
def g_impl_ygetWord_w (N : Nat) {R : Type} (b : Bool) (n : Int) (l : List Int) (k : Int → Option R) : Option R :=
  (cond ((decide (((0 : Int) ≤ n))) && (decide ((n < (((List.length l) : Nat) : Int)))))
  (elemK l (Int.toNat n) fun x =>
    (cond ((decide (((0 : Int) ≤ (Go.IntKind.wrap Go.IntKind.i64 (n + (1 : Int)))))) && (decide (((Go.IntKind.wrap Go.IntKind.i64 (n + (1 : Int))) < (((List.length l) : Nat) : Int)))))
    (elemK l (Int.toNat (Go.IntKind.wrap Go.IntKind.i64 (n + (1 : Int)))) fun x1 =>
      (cond ((decide (((0 : Int) ≤ (Go.IntKind.wrap Go.IntKind.i64 (n + (2 : Int)))))) && (decide (((Go.IntKind.wrap Go.IntKind.i64 (n + (2 : Int))) < (((List.length l) : Nat) : Int)))))
      (elemK l (Int.toNat (Go.IntKind.wrap Go.IntKind.i64 (n + (2 : Int)))) fun x2 =>
        (cond ((decide (((0 : Int) ≤ (Go.IntKind.wrap Go.IntKind.i64 (n + (3 : Int)))))) && (decide (((Go.IntKind.wrap Go.IntKind.i64 (n + (3 : Int))) < (((List.length l) : Nat) : Int)))))
        (elemK l (Int.toNat (Go.IntKind.wrap Go.IntKind.i64 (n + (3 : Int)))) fun x3 =>
          (k (Go.IntKind.wrap Go.IntKind.i64 (((BitVec.toNat ((BitVec.ofInt 64 (Go.IntKind.wrap Go.IntKind.i64 (((BitVec.toNat ((BitVec.ofInt 64 (Go.IntKind.wrap Go.IntKind.i64 (((BitVec.toNat ((BitVec.ofInt 64 (Go.IntKind.wrap Go.IntKind.i64 x)) ||| (BitVec.ofInt 64 (Go.IntKind.wrap Go.IntKind.i64 ((Go.IntKind.wrap Go.IntKind.i64 x1) * (256 : Int)))))) : Nat) : Int))) ||| (BitVec.ofInt 64 (Go.IntKind.wrap Go.IntKind.i64 ((Go.IntKind.wrap Go.IntKind.i64 x2) * (65536 : Int)))))) : Nat) : Int))) ||| (BitVec.ofInt 64 (Go.IntKind.wrap Go.IntKind.i64 ((Go.IntKind.wrap Go.IntKind.i64 x3) * (16777216 : Int)))))) : Nat) : Int))))
        none))
      none))
    none))
  none)
theorem e_impl_ygetWord_w (N : Nat) {R : Type} (b : Bool) (n : Int) (l : List Int) (K : AV → Hp E → Option R) :
    runFnI (E := E) (O_impl_ygetWord_w N) (noIt) sl_impl_ygetWord_w J_impl_ygetWord_w Go.Proofs.Try.f137 [(Go.Eng.AV.sc (Go.Eng.SV.slc 0 Option.none b)), (Go.Eng.AV.sc (Go.Eng.SV.int Go.IntKind.i64 n))] [(Option.some (Go.Eng.HE.mk Bool.false (Go.Eng.HB.rows (Go.Sa.B.u8 l))))] K =
      g_impl_ygetWord_w N b n l (fun n1 => K (Go.Eng.AV.sc (Go.Eng.SV.int Go.IntKind.i64 n1)) [(Option.some (Go.Eng.HE.mk Bool.false (Go.Eng.HB.rows (Go.Sa.B.u8 l))))]) := by kernel_rfl
def o_impl_ygetWord_w (N : Nat) {R : Type} (args : List AV) (H : Hp E) (K : AV → Hp E → Option R) : Option R :=
  match args, H with
  | [(Go.Eng.AV.sc (Go.Eng.SV.slc 0 Option.none b)), (Go.Eng.AV.sc (Go.Eng.SV.int Go.IntKind.i64 n))], [(Option.some (Go.Eng.HE.mk Bool.false (Go.Eng.HB.rows (Go.Sa.B.u8 l))))] => g_impl_ygetWord_w N b n l (fun n1 => K (Go.Eng.AV.sc (Go.Eng.SV.int Go.IntKind.i64 n1)) [(Option.some (Go.Eng.HE.mk Bool.false (Go.Eng.HB.rows (Go.Sa.B.u8 l))))])
  | _, _ => none
theorem o_impl_ygetWord_w_ok (N : Nat) : FnOk E 137 (o_impl_ygetWord_w N) := by
  intro R args H K r h
  unfold o_impl_ygetWord_w at h
  dsimp only at h
  split at h
  · exact fnB_ok (ids := []) (top := []) ok (O_impl_ygetWord_w_ok N) (jn_ok _ _ _) Go.Proofs.Try.func137 (by kernel_rfl) (IT := noIt) (sl := sl_impl_ygetWord_w) (J := J_impl_ygetWord_w) (K := K) (H := [(Option.some (Go.Eng.HE.mk Bool.false (Go.Eng.HB.rows (Go.Sa.B.u8 _))))]) (noIt_ok) (by kernel_rfl) rfl ((e_impl_ygetWord_w N _ _ _ K).trans h)
  · cases h
/-! ### loop.example/g00038/impl.ylets -/
abbrev sl_impl_ylets : SlotT := []
abbrev J_impl_ylets : JT := jn [(11, [(6, .b)])] [(8, [(7, .i .i64)]), (10, [(7, .i .i64)]), (14, [(7, .i .i64)]), (18, [(7, .i .i64)])] []
noncomputable def O_impl_ylets (N : Nat) : Orc E := noFn
theorem O_impl_ylets_ok (N : Nat) : OrcOk (O_impl_ylets N) := noFn_ok
def g_impl_ylets (N : Nat) {R : Type} (n : Int) (n1 : Int) (b : Bool) (k : Bool → Option R) : Option R :=
  (oK (cond b
    (some (16 : Int))
    (some (0 : Int))) fun j =>
  (oK (cond (n1 == (1 : Int))
    (some (Go.IntKind.wrap Go.IntKind.i64 (((BitVec.toNat ((BitVec.ofInt 64 j) ||| (BitVec.ofInt 64 (2 : Int)))) : Nat) : Int)))
    (oK (cond (n1 == (2 : Int))
        (some (Go.IntKind.wrap Go.IntKind.i64 (((BitVec.toNat ((BitVec.ofInt 64 j) ||| (BitVec.ofInt 64 (4 : Int)))) : Nat) : Int)))
        (oK (cond (n1 == (3 : Int))
            (some (Go.IntKind.wrap Go.IntKind.i64 (((BitVec.toNat ((BitVec.ofInt 64 j) ||| (BitVec.ofInt 64 (8 : Int)))) : Nat) : Int)))
            (some j)) fun j1 =>
          (some j1))) fun j2 =>
      (some j2))) fun j3 =>
  (oK (cond ((Go.IntKind.wrap Go.IntKind.i64 (((BitVec.toNat ((BitVec.ofInt 64 n) &&& (BitVec.ofInt 64 (Go.IntKind.wrap Go.IntKind.i64 (((BitVec.toNat ((BitVec.ofInt 64 j3) ||| (BitVec.ofInt 64 (1 : Int)))) : Nat) : Int))))) : Nat) : Int)) == (Go.IntKind.wrap Go.IntKind.i64 (((BitVec.toNat ((BitVec.ofInt 64 j3) ||| (BitVec.ofInt 64 (1 : Int)))) : Nat) : Int)))
    (cond b
      (some Bool.true)
      (cond (n1 != (3 : Int))
        (some Bool.true)
        (some ((Go.IntKind.wrap Go.IntKind.i64 (((BitVec.toNat ((BitVec.ofInt 64 n) &&& (BitVec.ofInt 64 (16 : Int)))) : Nat) : Int)) == (0 : Int)))))
    (some Bool.false)) fun j4 =>
  (k j4))))
theorem e_impl_ylets (N : Nat) {R : Type} (n : Int) (n1 : Int) (b : Bool) (K : AV → Hp E → Option R) :
    runFnI (E := E) (O_impl_ylets N) (noIt) sl_impl_ylets J_impl_ylets Go.Proofs.Try.f138 [(Go.Eng.AV.sc (Go.Eng.SV.int Go.IntKind.i64 n)), (Go.Eng.AV.sc (Go.Eng.SV.int Go.IntKind.i64 n1)), (Go.Eng.AV.sc (Go.Eng.SV.bool b))] [] K =
      g_impl_ylets N n n1 b (fun b1 => K (Go.Eng.AV.sc (Go.Eng.SV.bool b1)) []) := by kernel_rfl
def o_impl_ylets (N : Nat) {R : Type} (args : List AV) (H : Hp E) (K : AV → Hp E → Option R) : Option R :=
  match args, H with
  | [(Go.Eng.AV.sc (Go.Eng.SV.int Go.IntKind.i64 n)), (Go.Eng.AV.sc (Go.Eng.SV.int Go.IntKind.i64 n1)), (Go.Eng.AV.sc (Go.Eng.SV.bool b))], [] => g_impl_ylets N n n1 b (fun b1 => K (Go.Eng.AV.sc (Go.Eng.SV.bool b1)) [])
  | _, _ => none
theorem o_impl_ylets_ok (N : Nat) : FnOk E 138 (o_impl_ylets N) := by
  intro R args H K r h
  unfold o_impl_ylets at h
  dsimp only at h
  split at h
  · exact fnB_ok (ids := []) (top := []) ok (O_impl_ylets_ok N) (jn_ok _ _ _) Go.Proofs.Try.func138 (by kernel_rfl) (IT := noIt) (sl := sl_impl_ylets) (J := J_impl_ylets) (K := K) (H := []) (noIt_ok) (by kernel_rfl) rfl ((e_impl_ylets N _ _ _ K).trans h)
  · cases h
/-! ### loop.example/g00038/impl.yputs -/
abbrev sl_impl_yputs : SlotT := []
abbrev J_impl_yputs : JT := jn [] [] []
noncomputable def O_impl_yputs (N : Nat) : Orc E := noFn
theorem O_impl_yputs_ok (N : Nat) : OrcOk (O_impl_yputs N) := noFn_ok
def g_impl_yputs (N : Nat) {R : Type} (n : Int) (k : Int → Option R) : Option R :=
  (cond (n == (2 : Int))
  (k (96 : Int))
  (k (32 : Int)))
theorem e_impl_yputs (N : Nat) {R : Type} (n : Int) (K : AV → Hp E → Option R) :
    runFnI (E := E) (O_impl_yputs N) (noIt) sl_impl_yputs J_impl_yputs Go.Proofs.Try.f139 [(Go.Eng.AV.sc (Go.Eng.SV.int Go.IntKind.i64 n))] [] K =
      g_impl_yputs N n (fun n1 => K (Go.Eng.AV.sc (Go.Eng.SV.int Go.IntKind.i64 n1)) []) := by kernel_rfl
def o_impl_yputs (N : Nat) {R : Type} (args : List AV) (H : Hp E) (K : AV → Hp E → Option R) : Option R :=
  match args, H with
  | [(Go.Eng.AV.sc (Go.Eng.SV.int Go.IntKind.i64 n))], [] => g_impl_yputs N n (fun n1 => K (Go.Eng.AV.sc (Go.Eng.SV.int Go.IntKind.i64 n1)) [])
  | _, _ => none
theorem o_impl_yputs_ok (N : Nat) : FnOk E 139 (o_impl_yputs N) := by
  intro R args H K r h
  unfold o_impl_yputs at h
  dsimp only at h
  split at h
  · exact fnB_ok (ids := []) (top := []) ok (O_impl_yputs_ok N) (jn_ok _ _ _) Go.Proofs.Try.func139 (by kernel_rfl) (IT := noIt) (sl := sl_impl_yputs) (J := J_impl_yputs) (K := K) (H := []) (noIt_ok) (by kernel_rfl) rfl ((e_impl_yputs N _ K).trans h)
  · cases h
/-! ### loop.example/g00038/impl.ylookup -/
abbrev sl_impl_ylookup_w : SlotT := []
abbrev J_impl_ylookup_w : JT := jn [(10, [(52, .b)])] [] []
noncomputable def O_impl_ylookup_w (N : Nat) : Orc E := addFn 139 (o_impl_yputs N) (addFn 138 (o_impl_ylets N) (addFn 137 (o_impl_ygetWord_w N) (addFn 151 (o_impl_yframes_w N) (noFn))))
theorem O_impl_ylookup_w_ok (N : Nat) : OrcOk (O_impl_ylookup_w N) := addFn_ok (o_impl_yputs_ok N) (addFn_ok (o_impl_ylets_ok N) (addFn_ok (o_impl_ygetWord_w_ok N) (addFn_ok (o_impl_yframes_w_ok N) (noFn_ok))))
def g_impl_ylookup_w (N : Nat) {R : Type} (b : Bool) (n : Int) (n1 : Int) (n2 : Int) (b1 : Bool) (l : List Int) (k : Int → Int → Int → Int → Int → Bool → Int → Int → Int → Option R) : Option R :=
  (g_impl_yframes_w N b l fun n3 =>
  (cond (decide ((n ≥ n3)))
  (k (2 : Int) (0 : Int) (0 : Int) (0 : Int) (0 : Int) Bool.false (0 : Int) (0 : Int) (0 : Int))
  (g_impl_ygetWord_w N b (Go.IntKind.wrap Go.IntKind.i64 ((Go.IntKind.wrap Go.IntKind.i64 (n * (256 : Int))) + (Go.IntKind.wrap Go.IntKind.i64 ((4 : Int) * (Go.IntKind.wrap Go.IntKind.i64 (((BitVec.toNat ((BitVec.ofInt 64 (Int.fdiv n1 (8192 : Int))) &&& (BitVec.ofInt 64 (31 : Int)))) : Nat) : Int)))))) l fun n4 =>
    (oK (cond ((Go.IntKind.wrap Go.IntKind.i64 (((BitVec.toNat ((BitVec.ofInt 64 n4) &&& (BitVec.ofInt 64 (1 : Int)))) : Nat) : Int)) != (0 : Int))
      (some ((Go.IntKind.wrap Go.IntKind.i64 (((BitVec.toNat ((BitVec.ofInt 64 n4) &&& (BitVec.ofInt 64 (14 : Int)))) : Nat) : Int)) == (0 : Int)))
      (some Bool.false)) fun j =>
    (cond j
    (g_impl_yframes_w N b l fun n5 =>
      (cond (decide (((Int.fdiv n4 (256 : Int)) ≥ n5)))
      (k (2 : Int) (0 : Int) (Go.IntKind.wrap Go.IntKind.i64 ((Go.IntKind.wrap Go.IntKind.i64 (n * (256 : Int))) + (Go.IntKind.wrap Go.IntKind.i64 ((4 : Int) * (Go.IntKind.wrap Go.IntKind.i64 (((BitVec.toNat ((BitVec.ofInt 64 (Int.fdiv n1 (8192 : Int))) &&& (BitVec.ofInt 64 (31 : Int)))) : Nat) : Int)))))) (0 : Int) (0 : Int) Bool.false n (0 : Int) (1 : Int))
      (g_impl_ygetWord_w N b (Go.IntKind.wrap Go.IntKind.i64 ((Go.IntKind.wrap Go.IntKind.i64 ((Int.fdiv n4 (256 : Int)) * (256 : Int))) + (Go.IntKind.wrap Go.IntKind.i64 ((4 : Int) * (Go.IntKind.wrap Go.IntKind.i64 (((BitVec.toNat ((BitVec.ofInt 64 (Int.fdiv n1 (256 : Int))) &&& (BitVec.ofInt 64 (31 : Int)))) : Nat) : Int)))))) l fun n6 =>
        (g_impl_ylets N (Go.IntKind.wrap Go.IntKind.i64 (((BitVec.toNat ((BitVec.ofInt 64 n6) &&& (BitVec.ofInt 64 (255 : Int)))) : Nat) : Int)) n2 b1 fun b2 =>
        (cond (!b2)
        (k (1 : Int) (0 : Int) (Go.IntKind.wrap Go.IntKind.i64 ((Go.IntKind.wrap Go.IntKind.i64 ((Int.fdiv n4 (256 : Int)) * (256 : Int))) + (Go.IntKind.wrap Go.IntKind.i64 ((4 : Int) * (Go.IntKind.wrap Go.IntKind.i64 (((BitVec.toNat ((BitVec.ofInt 64 (Int.fdiv n1 (256 : Int))) &&& (BitVec.ofInt 64 (31 : Int)))) : Nat) : Int)))))) (0 : Int) (0 : Int) Bool.false n (Int.fdiv n4 (256 : Int)) (2 : Int))
        (g_impl_yframes_w N b l fun n7 =>
          (cond (decide (((Int.fdiv n6 (256 : Int)) ≥ n7)))
          (k (2 : Int) (0 : Int) (Go.IntKind.wrap Go.IntKind.i64 ((Go.IntKind.wrap Go.IntKind.i64 ((Int.fdiv n4 (256 : Int)) * (256 : Int))) + (Go.IntKind.wrap Go.IntKind.i64 ((4 : Int) * (Go.IntKind.wrap Go.IntKind.i64 (((BitVec.toNat ((BitVec.ofInt 64 (Int.fdiv n1 (256 : Int))) &&& (BitVec.ofInt 64 (31 : Int)))) : Nat) : Int)))))) (0 : Int) (0 : Int) Bool.false n (Int.fdiv n4 (256 : Int)) (2 : Int))
          (g_impl_yputs N n2 fun n8 =>
            (k (0 : Int) (Go.IntKind.wrap Go.IntKind.i64 ((Go.IntKind.wrap Go.IntKind.i64 ((Int.fdiv n6 (256 : Int)) * (256 : Int))) + (Go.IntKind.wrap Go.IntKind.i64 (((BitVec.toNat ((BitVec.ofInt 64 n1) &&& (BitVec.ofInt 64 (255 : Int)))) : Nat) : Int)))) (Go.IntKind.wrap Go.IntKind.i64 ((Go.IntKind.wrap Go.IntKind.i64 ((Int.fdiv n4 (256 : Int)) * (256 : Int))) + (Go.IntKind.wrap Go.IntKind.i64 ((4 : Int) * (Go.IntKind.wrap Go.IntKind.i64 (((BitVec.toNat ((BitVec.ofInt 64 (Int.fdiv n1 (256 : Int))) &&& (BitVec.ofInt 64 (31 : Int)))) : Nat) : Int)))))) n6 (Go.IntKind.wrap Go.IntKind.i64 (((BitVec.toNat ((BitVec.ofInt 64 n6) ||| (BitVec.ofInt 64 n8))) : Nat) : Int)) Bool.false n (Int.fdiv n4 (256 : Int)) (2 : Int))))))))))
    (cond ((Int.tmod (Int.fdiv n4 (256 : Int)) (32 : Int)) != (0 : Int))
      (k (1 : Int) (0 : Int) (Go.IntKind.wrap Go.IntKind.i64 ((Go.IntKind.wrap Go.IntKind.i64 (n * (256 : Int))) + (Go.IntKind.wrap Go.IntKind.i64 ((4 : Int) * (Go.IntKind.wrap Go.IntKind.i64 (((BitVec.toNat ((BitVec.ofInt 64 (Int.fdiv n1 (8192 : Int))) &&& (BitVec.ofInt 64 (31 : Int)))) : Nat) : Int)))))) (0 : Int) (0 : Int) Bool.false n (0 : Int) (1 : Int))
      (g_impl_ylets N (Go.IntKind.wrap Go.IntKind.i64 (((BitVec.toNat ((BitVec.ofInt 64 n4) &&& (BitVec.ofInt 64 (255 : Int)))) : Nat) : Int)) n2 b1 fun b3 =>
        (cond (!b3)
        (k (1 : Int) (0 : Int) (Go.IntKind.wrap Go.IntKind.i64 ((Go.IntKind.wrap Go.IntKind.i64 (n * (256 : Int))) + (Go.IntKind.wrap Go.IntKind.i64 ((4 : Int) * (Go.IntKind.wrap Go.IntKind.i64 (((BitVec.toNat ((BitVec.ofInt 64 (Int.fdiv n1 (8192 : Int))) &&& (BitVec.ofInt 64 (31 : Int)))) : Nat) : Int)))))) (0 : Int) (0 : Int) Bool.false n (0 : Int) (1 : Int))
        (g_impl_yframes_w N b l fun n9 =>
          (cond (decide (((Go.IntKind.wrap Go.IntKind.i64 ((Int.fdiv n4 (256 : Int)) + (Go.IntKind.wrap Go.IntKind.i64 (((BitVec.toNat ((BitVec.ofInt 64 (Int.fdiv n1 (256 : Int))) &&& (BitVec.ofInt 64 (31 : Int)))) : Nat) : Int)))) ≥ n9)))
          (k (2 : Int) (0 : Int) (Go.IntKind.wrap Go.IntKind.i64 ((Go.IntKind.wrap Go.IntKind.i64 (n * (256 : Int))) + (Go.IntKind.wrap Go.IntKind.i64 ((4 : Int) * (Go.IntKind.wrap Go.IntKind.i64 (((BitVec.toNat ((BitVec.ofInt 64 (Int.fdiv n1 (8192 : Int))) &&& (BitVec.ofInt 64 (31 : Int)))) : Nat) : Int)))))) (0 : Int) (0 : Int) Bool.false n (0 : Int) (1 : Int))
          (g_impl_yputs N n2 fun n10 =>
            (k (0 : Int) (Go.IntKind.wrap Go.IntKind.i64 ((Go.IntKind.wrap Go.IntKind.i64 ((Go.IntKind.wrap Go.IntKind.i64 ((Int.fdiv n4 (256 : Int)) + (Go.IntKind.wrap Go.IntKind.i64 (((BitVec.toNat ((BitVec.ofInt 64 (Int.fdiv n1 (256 : Int))) &&& (BitVec.ofInt 64 (31 : Int)))) : Nat) : Int)))) * (256 : Int))) + (Go.IntKind.wrap Go.IntKind.i64 (((BitVec.toNat ((BitVec.ofInt 64 n1) &&& (BitVec.ofInt 64 (255 : Int)))) : Nat) : Int)))) (Go.IntKind.wrap Go.IntKind.i64 ((Go.IntKind.wrap Go.IntKind.i64 (n * (256 : Int))) + (Go.IntKind.wrap Go.IntKind.i64 ((4 : Int) * (Go.IntKind.wrap Go.IntKind.i64 (((BitVec.toNat ((BitVec.ofInt 64 (Int.fdiv n1 (8192 : Int))) &&& (BitVec.ofInt 64 (31 : Int)))) : Nat) : Int)))))) n4 (Go.IntKind.wrap Go.IntKind.i64 (((BitVec.toNat ((BitVec.ofInt 64 n4) ||| (BitVec.ofInt 64 n10))) : Nat) : Int)) Bool.true n (0 : Int) (1 : Int)))))))))))))
theorem e_impl_ylookup_w (N : Nat) {R : Type} (b : Bool) (n : Int) (n1 : Int) (n2 : Int) (b1 : Bool) (l : List Int) (K : AV → Hp E → Option R) :
    runFnI (E := E) (O_impl_ylookup_w N) (noIt) sl_impl_ylookup_w J_impl_ylookup_w Go.Proofs.Try.f70 [(Go.Eng.AV.sc (Go.Eng.SV.slc 0 Option.none b)), (Go.Eng.AV.sc (Go.Eng.SV.int Go.IntKind.i64 n)), (Go.Eng.AV.sc (Go.Eng.SV.int Go.IntKind.i64 n1)), (Go.Eng.AV.sc (Go.Eng.SV.int Go.IntKind.i64 n2)), (Go.Eng.AV.sc (Go.Eng.SV.bool b1))] [(Option.some (Go.Eng.HE.mk Bool.false (Go.Eng.HB.rows (Go.Sa.B.u8 l))))] K =
      g_impl_ylookup_w N b n n1 n2 b1 l (fun n11 n12 n13 n14 n15 b4 n16 n17 n18 => K (Go.Eng.AV.agg [(Go.Eng.SV.int Go.IntKind.i64 n11), (Go.Eng.SV.int Go.IntKind.i64 n12), (Go.Eng.SV.int Go.IntKind.i64 n13), (Go.Eng.SV.int Go.IntKind.i64 n14), (Go.Eng.SV.int Go.IntKind.i64 n15), (Go.Eng.SV.bool b4), (Go.Eng.SV.int Go.IntKind.i64 n16), (Go.Eng.SV.int Go.IntKind.i64 n17), (Go.Eng.SV.int Go.IntKind.i64 n18)]) [(Option.some (Go.Eng.HE.mk Bool.false (Go.Eng.HB.rows (Go.Sa.B.u8 l))))]) := by kernel_rfl
def o_impl_ylookup_w (N : Nat) {R : Type} (args : List AV) (H : Hp E) (K : AV → Hp E → Option R) : Option R :=
  match args, H with
  | [(Go.Eng.AV.sc (Go.Eng.SV.slc 0 Option.none b)), (Go.Eng.AV.sc (Go.Eng.SV.int Go.IntKind.i64 n)), (Go.Eng.AV.sc (Go.Eng.SV.int Go.IntKind.i64 n1)), (Go.Eng.AV.sc (Go.Eng.SV.int Go.IntKind.i64 n2)), (Go.Eng.AV.sc (Go.Eng.SV.bool b1))], [(Option.some (Go.Eng.HE.mk Bool.false (Go.Eng.HB.rows (Go.Sa.B.u8 l))))] => g_impl_ylookup_w N b n n1 n2 b1 l (fun n11 n12 n13 n14 n15 b4 n16 n17 n18 => K (Go.Eng.AV.agg [(Go.Eng.SV.int Go.IntKind.i64 n11), (Go.Eng.SV.int Go.IntKind.i64 n12), (Go.Eng.SV.int Go.IntKind.i64 n13), (Go.Eng.SV.int Go.IntKind.i64 n14), (Go.Eng.SV.int Go.IntKind.i64 n15), (Go.Eng.SV.bool b4), (Go.Eng.SV.int Go.IntKind.i64 n16), (Go.Eng.SV.int Go.IntKind.i64 n17), (Go.Eng.SV.int Go.IntKind.i64 n18)]) [(Option.some (Go.Eng.HE.mk Bool.false (Go.Eng.HB.rows (Go.Sa.B.u8 l))))])
  | _, _ => none
theorem o_impl_ylookup_w_ok (N : Nat) : FnOk E 70 (o_impl_ylookup_w N) := by
  intro R args H K r h
  unfold o_impl_ylookup_w at h
  dsimp only at h
  split at h
  · exact fnB_ok (ids := []) (top := []) ok (O_impl_ylookup_w_ok N) (jn_ok _ _ _) Go.Proofs.Try.func70 (by kernel_rfl) (IT := noIt) (sl := sl_impl_ylookup_w) (J := J_impl_ylookup_w) (K := K) (H := [(Option.some (Go.Eng.HE.mk Bool.false (Go.Eng.HB.rows (Go.Sa.B.u8 _))))]) (noIt_ok) (by kernel_rfl) rfl ((e_impl_ylookup_w N _ _ _ _ _ _ K).trans h)
  · cases h
/-! ### loop.example/g00038/impl.yputWord -/
abbrev sl_impl_yputWord_w : SlotT := []
abbrev J_impl_yputWord_w : JT := jn [] [] []
noncomputable def O_impl_yputWord_w (N : Nat) : Orc E := noFn
theorem O_impl_yputWord_w_ok (N : Nat) : OrcOk (O_impl_yputWord_w N) := noFn_ok
def g_impl_yputWord_w (N : Nat) {R : Type} (b : Bool) (n : Int) (n1 : Int) (l : List Int) (k : (List Int) → Option R) : Option R :=
  (cond ((decide (((0 : Int) ≤ n))) && (decide ((n < (((List.length l) : Nat) : Int)))))
  (elemK l (Int.toNat n) fun x =>
    (cond (Nat.blt (Int.toNat n) (List.length l))
    (cond ((decide (((0 : Int) ≤ (Go.IntKind.wrap Go.IntKind.i64 (n + (1 : Int)))))) && (decide (((Go.IntKind.wrap Go.IntKind.i64 (n + (1 : Int))) < (((List.length (Go.Eng.nset l (Int.toNat n) (Go.IntKind.wrap Go.IntKind.u8 n1))) : Nat) : Int)))))
      (elemK (Go.Eng.nset l (Int.toNat n) (Go.IntKind.wrap Go.IntKind.u8 n1)) (Int.toNat (Go.IntKind.wrap Go.IntKind.i64 (n + (1 : Int)))) fun x1 =>
        (cond (Nat.blt (Int.toNat (Go.IntKind.wrap Go.IntKind.i64 (n + (1 : Int)))) (List.length (Go.Eng.nset l (Int.toNat n) (Go.IntKind.wrap Go.IntKind.u8 n1))))
        (cond ((decide (((0 : Int) ≤ (Go.IntKind.wrap Go.IntKind.i64 (n + (2 : Int)))))) && (decide (((Go.IntKind.wrap Go.IntKind.i64 (n + (2 : Int))) < (((List.length (Go.Eng.nset (Go.Eng.nset l (Int.toNat n) (Go.IntKind.wrap Go.IntKind.u8 n1)) (Int.toNat (Go.IntKind.wrap Go.IntKind.i64 (n + (1 : Int)))) (Go.IntKind.wrap Go.IntKind.u8 (Int.fdiv n1 (256 : Int))))) : Nat) : Int)))))
          (elemK (Go.Eng.nset (Go.Eng.nset l (Int.toNat n) (Go.IntKind.wrap Go.IntKind.u8 n1)) (Int.toNat (Go.IntKind.wrap Go.IntKind.i64 (n + (1 : Int)))) (Go.IntKind.wrap Go.IntKind.u8 (Int.fdiv n1 (256 : Int)))) (Int.toNat (Go.IntKind.wrap Go.IntKind.i64 (n + (2 : Int)))) fun x2 =>
            (cond (Nat.blt (Int.toNat (Go.IntKind.wrap Go.IntKind.i64 (n + (2 : Int)))) (List.length (Go.Eng.nset (Go.Eng.nset l (Int.toNat n) (Go.IntKind.wrap Go.IntKind.u8 n1)) (Int.toNat (Go.IntKind.wrap Go.IntKind.i64 (n + (1 : Int)))) (Go.IntKind.wrap Go.IntKind.u8 (Int.fdiv n1 (256 : Int))))))
            (cond ((decide (((0 : Int) ≤ (Go.IntKind.wrap Go.IntKind.i64 (n + (3 : Int)))))) && (decide (((Go.IntKind.wrap Go.IntKind.i64 (n + (3 : Int))) < (((List.length (Go.Eng.nset (Go.Eng.nset (Go.Eng.nset l (Int.toNat n) (Go.IntKind.wrap Go.IntKind.u8 n1)) (Int.toNat (Go.IntKind.wrap Go.IntKind.i64 (n + (1 : Int)))) (Go.IntKind.wrap Go.IntKind.u8 (Int.fdiv n1 (256 : Int)))) (Int.toNat (Go.IntKind.wrap Go.IntKind.i64 (n + (2 : Int)))) (Go.IntKind.wrap Go.IntKind.u8 (Int.fdiv n1 (65536 : Int))))) : Nat) : Int)))))
              (elemK (Go.Eng.nset (Go.Eng.nset (Go.Eng.nset l (Int.toNat n) (Go.IntKind.wrap Go.IntKind.u8 n1)) (Int.toNat (Go.IntKind.wrap Go.IntKind.i64 (n + (1 : Int)))) (Go.IntKind.wrap Go.IntKind.u8 (Int.fdiv n1 (256 : Int)))) (Int.toNat (Go.IntKind.wrap Go.IntKind.i64 (n + (2 : Int)))) (Go.IntKind.wrap Go.IntKind.u8 (Int.fdiv n1 (65536 : Int)))) (Int.toNat (Go.IntKind.wrap Go.IntKind.i64 (n + (3 : Int)))) fun x3 =>
                (cond (Nat.blt (Int.toNat (Go.IntKind.wrap Go.IntKind.i64 (n + (3 : Int)))) (List.length (Go.Eng.nset (Go.Eng.nset (Go.Eng.nset l (Int.toNat n) (Go.IntKind.wrap Go.IntKind.u8 n1)) (Int.toNat (Go.IntKind.wrap Go.IntKind.i64 (n + (1 : Int)))) (Go.IntKind.wrap Go.IntKind.u8 (Int.fdiv n1 (256 : Int)))) (Int.toNat (Go.IntKind.wrap Go.IntKind.i64 (n + (2 : Int)))) (Go.IntKind.wrap Go.IntKind.u8 (Int.fdiv n1 (65536 : Int))))))
                (k (Go.Eng.nset (Go.Eng.nset (Go.Eng.nset (Go.Eng.nset l (Int.toNat n) (Go.IntKind.wrap Go.IntKind.u8 n1)) (Int.toNat (Go.IntKind.wrap Go.IntKind.i64 (n + (1 : Int)))) (Go.IntKind.wrap Go.IntKind.u8 (Int.fdiv n1 (256 : Int)))) (Int.toNat (Go.IntKind.wrap Go.IntKind.i64 (n + (2 : Int)))) (Go.IntKind.wrap Go.IntKind.u8 (Int.fdiv n1 (65536 : Int)))) (Int.toNat (Go.IntKind.wrap Go.IntKind.i64 (n + (3 : Int)))) (Go.IntKind.wrap Go.IntKind.u8 (Int.fdiv n1 (16777216 : Int)))))
                none))
              none)
            none))
          none)
        none))
      none)
    none))
  none)
theorem e_impl_yputWord_w (N : Nat) {R : Type} (b : Bool) (n : Int) (n1 : Int) (l : List Int) (K : AV → Hp E → Option R) :
    runFnI (E := E) (O_impl_yputWord_w N) (noIt) sl_impl_yputWord_w J_impl_yputWord_w Go.Proofs.Try.f72 [(Go.Eng.AV.sc (Go.Eng.SV.slc 0 Option.none b)), (Go.Eng.AV.sc (Go.Eng.SV.int Go.IntKind.i64 n)), (Go.Eng.AV.sc (Go.Eng.SV.int Go.IntKind.i64 n1))] [(Option.some (Go.Eng.HE.mk Bool.false (Go.Eng.HB.rows (Go.Sa.B.u8 l))))] K =
      g_impl_yputWord_w N b n n1 l (fun l1 => K (Go.Eng.AV.tup []) [(Option.some (Go.Eng.HE.mk Bool.false (Go.Eng.HB.rows (Go.Sa.B.u8 l1))))]) := by kernel_rfl
def o_impl_yputWord_w (N : Nat) {R : Type} (args : List AV) (H : Hp E) (K : AV → Hp E → Option R) : Option R :=
  match args, H with
  | [(Go.Eng.AV.sc (Go.Eng.SV.slc 0 Option.none b)), (Go.Eng.AV.sc (Go.Eng.SV.int Go.IntKind.i64 n)), (Go.Eng.AV.sc (Go.Eng.SV.int Go.IntKind.i64 n1))], [(Option.some (Go.Eng.HE.mk Bool.false (Go.Eng.HB.rows (Go.Sa.B.u8 l))))] => g_impl_yputWord_w N b n n1 l (fun l1 => K (Go.Eng.AV.tup []) [(Option.some (Go.Eng.HE.mk Bool.false (Go.Eng.HB.rows (Go.Sa.B.u8 l1))))])
  | _, _ => none
theorem o_impl_yputWord_w_ok (N : Nat) : FnOk E 72 (o_impl_yputWord_w N) := by
  intro R args H K r h
  unfold o_impl_yputWord_w at h
  dsimp only at h
  split at h
  · exact fnB_ok (ids := []) (top := []) ok (O_impl_yputWord_w_ok N) (jn_ok _ _ _) Go.Proofs.Try.func72 (by kernel_rfl) (IT := noIt) (sl := sl_impl_yputWord_w) (J := J_impl_yputWord_w) (K := K) (H := [(Option.some (Go.Eng.HE.mk Bool.false (Go.Eng.HB.rows (Go.Sa.B.u8 _))))]) (noIt_ok) (by kernel_rfl) rfl ((e_impl_yputWord_w N _ _ _ _ K).trans h)
  · cases h
/-! ### loop.example/g00038/impl.Walk -/
abbrev sl_impl_Walk : SlotT := []
abbrev J_impl_Walk : JT := jn [(1, [(22, .b)])] [] []
noncomputable def O_impl_Walk (N : Nat) : Orc E := addFn 71 osp_71 (addFn 72 (o_impl_yputWord_w N) (addFn 70 (o_impl_ylookup_w N) (addFn 69 (o_impl_ywalkOk N) (addFn 68 (o_impl_ymemOk N) (noFn)))))
theorem O_impl_Walk_ok (N : Nat) : OrcOk (O_impl_Walk N) := addFn_ok osp_71_ok (addFn_ok (o_impl_yputWord_w_ok N) (addFn_ok (o_impl_ylookup_w_ok N) (addFn_ok (o_impl_ywalkOk_ok N) (addFn_ok (o_impl_ymemOk_ok N) (noFn_ok)))))
def g_impl_Walk (N : Nat) {R : Type} (s : ByteArray) (n : Int) (n1 : Int) (n2 : Int) (b : Bool) (k : Int → Int → Int → Bool → Bool → ByteArray → (List Int) → Option R) : Option R :=
  (oK (g_impl_ymemOk N s fun b1 =>
    (cond (!b1)
    (some Bool.true)
    (g_impl_ywalkOk N n n1 n2 fun b2 =>
      (some (!b2))))) fun j =>
  (cond j
  (k (0 : Int) (0 : Int) (0 : Int) Bool.false Bool.true (ByteArray.mk (List.toArray [])) [])
  (g_impl_ylookup_w N Bool.false n n1 n2 b (Go.Eng.ofBytes s) fun n3 n4 n5 n6 n7 b3 n8 n9 n10 =>
    (cond (n3 != (0 : Int))
    (cond ((decide (((0 : Int) ≤ n10))) && (decide ((n10 ≤ (2 : Int)))))
      (k n3 (0 : Int) (0 : Int) Bool.false Bool.false s (Go.Eng.seg [n8, n9] 0 (Int.toNat n10)))
      none)
    (g_impl_yputWord_w N Bool.false n5 n7 (Go.Eng.ofBytes s) fun l =>
      (cond ((decide (((0 : Int) ≤ n10))) && (decide ((n10 ≤ (2 : Int)))))
      (cond (Nat.ble (0 + (List.length l)) (List.length l))
        (k (0 : Int) n4 n7 b3 Bool.false (Go.Eng.toBytes (Go.Eng.seg l 0 (List.length l))) (Go.Eng.seg [n8, n9] 0 (Int.toNat n10)))
        none)
      none))))))
theorem e_impl_Walk (N : Nat) {R : Type} (s : ByteArray) (n : Int) (n1 : Int) (n2 : Int) (b : Bool) (K : AV → Hp E → Option R) :
    runFnI (E := E) (O_impl_Walk N) (noIt) sl_impl_Walk J_impl_Walk Go.Proofs.Try.f16 [(Go.Eng.AV.sc (Go.Eng.SV.str s)), (Go.Eng.AV.sc (Go.Eng.SV.int Go.IntKind.i64 n)), (Go.Eng.AV.sc (Go.Eng.SV.int Go.IntKind.i64 n1)), (Go.Eng.AV.sc (Go.Eng.SV.int Go.IntKind.i64 n2)), (Go.Eng.AV.sc (Go.Eng.SV.bool b))] [] K =
      g_impl_Walk N s n n1 n2 b (fun n11 n12 n13 b4 b5 s1 l1 => K (Go.Eng.AV.agg [(Go.Eng.SV.int Go.IntKind.i64 n11), (Go.Eng.SV.int Go.IntKind.i64 n12), (Go.Eng.SV.int Go.IntKind.i64 n13), (Go.Eng.SV.bool b4), (Go.Eng.SV.slc 0 Option.none b5), (Go.Eng.SV.str s1)]) [(Option.some (Go.Eng.HE.mk Bool.false (Go.Eng.HB.rows (Go.Sa.B.i64 l1))))]) := by kernel_rfl
def o_impl_Walk (N : Nat) {R : Type} (args : List AV) (H : Hp E) (K : AV → Hp E → Option R) : Option R :=
  match args, H with
  | [(Go.Eng.AV.sc (Go.Eng.SV.str s)), (Go.Eng.AV.sc (Go.Eng.SV.int Go.IntKind.i64 n)), (Go.Eng.AV.sc (Go.Eng.SV.int Go.IntKind.i64 n1)), (Go.Eng.AV.sc (Go.Eng.SV.int Go.IntKind.i64 n2)), (Go.Eng.AV.sc (Go.Eng.SV.bool b))], [] => g_impl_Walk N s n n1 n2 b (fun n11 n12 n13 b4 b5 s1 l1 => K (Go.Eng.AV.agg [(Go.Eng.SV.int Go.IntKind.i64 n11), (Go.Eng.SV.int Go.IntKind.i64 n12), (Go.Eng.SV.int Go.IntKind.i64 n13), (Go.Eng.SV.bool b4), (Go.Eng.SV.slc 0 Option.none b5), (Go.Eng.SV.str s1)]) [(Option.some (Go.Eng.HE.mk Bool.false (Go.Eng.HB.rows (Go.Sa.B.i64 l1))))])
  | _, _ => none
theorem o_impl_Walk_ok (N : Nat) : FnOk E 16 (o_impl_Walk N) := by
  intro R args H K r h
  unfold o_impl_Walk at h
  dsimp only at h
  split at h
  · exact fnB_ok (ids := []) (top := []) ok (O_impl_Walk_ok N) (jn_ok _ _ _) Go.Proofs.Try.func16 (by kernel_rfl) (IT := noIt) (sl := sl_impl_Walk) (J := J_impl_Walk) (K := K) (H := []) (noIt_ok) (by kernel_rfl) rfl ((e_impl_Walk N _ _ _ _ _ K).trans h)
  · cases h
/-! ### loop.example/g00038/laws.eqInt64S -/
abbrev sl_laws_eqInt64S_ww : SlotT := [(0, ([0, 1, 5], [4]))]
abbrev J_laws_eqInt64S_ww : JT := jn [] [] []
noncomputable def O_laws_eqInt64S_ww (N : Nat) : Orc E := noFn
theorem O_laws_eqInt64S_ww_ok (N : Nat) : OrcOk (O_laws_eqInt64S_ww N) := noFn_ok
def s_laws_eqInt64S_ww_0 (N : Nat) {R : Type} (b2 : Bool) (b3 : Bool) (l2 : List Int) (l3 : List Int) (n : Int) (ag : Int → Option R)  (kR : Option R) (kN : Option R) : Option R :=
  (cond (decide ((n < (((List.length l2) : Nat) : Int))))
  (cond ((decide (((0 : Int) ≤ n))) && (decide ((n < (((List.length l2) : Nat) : Int)))))
    (elemK l2 (Int.toNat n) fun x =>
      (cond ((decide (((0 : Int) ≤ n))) && (decide ((n < (((List.length l3) : Nat) : Int)))))
      (elemK l3 (Int.toNat n) fun x1 =>
        (cond (x != x1)
        kR
        (ag (Go.IntKind.wrap Go.IntKind.i64 (n + (1 : Int))))))
      none))
    none)
  kN)
def l_laws_eqInt64S_ww_0 (N : Nat) {R : Type} (b2 : Bool) (b3 : Bool) (l2 : List Int) (l3 : List Int) (kR : Option R) (kN : Option R) : Nat → Int → Option R
  | 0, _ => none
  | f + 1, n => s_laws_eqInt64S_ww_0 N b2 b3 l2 l3 n (fun n => l_laws_eqInt64S_ww_0 N b2 b3 l2 l3 kR kN f n)  kR kN
def c_laws_eqInt64S_ww_0 (N : Nat) {R : Type} (b2 : Bool) (b3 : Bool) (l2 : List Int) (l3 : List Int) (n : Int) (kR : Option R) (kN : Option R) : Option R := l_laws_eqInt64S_ww_0 N b2 b3 l2 l3 kR kN N n
theorem se_laws_eqInt64S_ww_0 (N : Nat) {R : Type} (b2 : Bool) (b3 : Bool) (l2 : List Int) (l3 : List Int) (n : Int) (AG : List (Option AV) → Hp E → Option R) (KL : Ex → List (Option AV) → Hp E → Option R) :
    iterStep (E := E) (O_laws_eqInt64S_ww N) (fun {R} => LI (noIt) 2 26 sl_laws_eqInt64S_ww (R := R)) J_laws_eqInt64S_ww 2 26 0 [0, 1, 5] [4] (body Go.Proofs.Try.f48 0) AG KL [(Option.some (Go.Eng.AV.sc (Go.Eng.SV.slc 0 Option.none b2))), (Option.some (Go.Eng.AV.sc (Go.Eng.SV.slc 1 Option.none b3))), (Option.some (Go.Eng.AV.sc (Go.Eng.SV.int Go.IntKind.i64 n)))] [(Option.some (Go.Eng.HE.mk Bool.false (Go.Eng.HB.rows (Go.Sa.B.i64 l2)))), (Option.some (Go.Eng.HE.mk Bool.false (Go.Eng.HB.rows (Go.Sa.B.i64 l3))))] =
      s_laws_eqInt64S_ww_0 N b2 b3 l2 l3 n (fun n => AG [(Option.some (Go.Eng.AV.sc (Go.Eng.SV.slc 0 Option.none b2))), (Option.some (Go.Eng.AV.sc (Go.Eng.SV.slc 1 Option.none b3))), (Option.some (Go.Eng.AV.sc (Go.Eng.SV.int Go.IntKind.i64 n)))] [(Option.some (Go.Eng.HE.mk Bool.false (Go.Eng.HB.rows (Go.Sa.B.i64 l2)))), (Option.some (Go.Eng.HE.mk Bool.false (Go.Eng.HB.rows (Go.Sa.B.i64 l3))))])  (KL Go.Eng.Ex.ret [(Option.some (Go.Eng.AV.sc (Go.Eng.SV.bool Bool.false)))] [(Option.some (Go.Eng.HE.mk Bool.false (Go.Eng.HB.rows (Go.Sa.B.i64 l2)))), (Option.some (Go.Eng.HE.mk Bool.false (Go.Eng.HB.rows (Go.Sa.B.i64 l3))))]) (KL Go.Eng.Ex.normal [Option.none] [(Option.some (Go.Eng.HE.mk Bool.false (Go.Eng.HB.rows (Go.Sa.B.i64 l2)))), (Option.some (Go.Eng.HE.mk Bool.false (Go.Eng.HB.rows (Go.Sa.B.i64 l3))))]) := by kernel_rfl
theorem le_laws_eqInt64S_ww_0 (N : Nat) {R : Type} (b2 : Bool) (b3 : Bool) (l2 : List Int) (l3 : List Int) (KL : Ex → List (Option AV) → Hp E → Option R) : ∀ (f : Nat), ∀ (n : Int), iterK (E := E) (O_laws_eqInt64S_ww N) (fun {R} => LI (noIt) 2 26 sl_laws_eqInt64S_ww (R := R)) J_laws_eqInt64S_ww 2 26 0 [0, 1, 5] [4] (body Go.Proofs.Try.f48 0) f [(Option.some (Go.Eng.AV.sc (Go.Eng.SV.slc 0 Option.none b2))), (Option.some (Go.Eng.AV.sc (Go.Eng.SV.slc 1 Option.none b3))), (Option.some (Go.Eng.AV.sc (Go.Eng.SV.int Go.IntKind.i64 n)))] [(Option.some (Go.Eng.HE.mk Bool.false (Go.Eng.HB.rows (Go.Sa.B.i64 l2)))), (Option.some (Go.Eng.HE.mk Bool.false (Go.Eng.HB.rows (Go.Sa.B.i64 l3))))] KL = l_laws_eqInt64S_ww_0 N b2 b3 l2 l3 (KL Go.Eng.Ex.ret [(Option.some (Go.Eng.AV.sc (Go.Eng.SV.bool Bool.false)))] [(Option.some (Go.Eng.HE.mk Bool.false (Go.Eng.HB.rows (Go.Sa.B.i64 l2)))), (Option.some (Go.Eng.HE.mk Bool.false (Go.Eng.HB.rows (Go.Sa.B.i64 l3))))]) (KL Go.Eng.Ex.normal [Option.none] [(Option.some (Go.Eng.HE.mk Bool.false (Go.Eng.HB.rows (Go.Sa.B.i64 l2)))), (Option.some (Go.Eng.HE.mk Bool.false (Go.Eng.HB.rows (Go.Sa.B.i64 l3))))]) f n := by
  intro f
  induction f with
  | zero => intros; rfl
  | succ f ih =>
    intro n
    rw [iterK_succ, se_laws_eqInt64S_ww_0]
    exact (congrArg (fun z0 => s_laws_eqInt64S_ww_0 N b2 b3 l2 l3 n z0 (KL Go.Eng.Ex.ret [(Option.some (Go.Eng.AV.sc (Go.Eng.SV.bool Bool.false)))] [(Option.some (Go.Eng.HE.mk Bool.false (Go.Eng.HB.rows (Go.Sa.B.i64 l2)))), (Option.some (Go.Eng.HE.mk Bool.false (Go.Eng.HB.rows (Go.Sa.B.i64 l3))))]) (KL Go.Eng.Ex.normal [Option.none] [(Option.some (Go.Eng.HE.mk Bool.false (Go.Eng.HB.rows (Go.Sa.B.i64 l2)))), (Option.some (Go.Eng.HE.mk Bool.false (Go.Eng.HB.rows (Go.Sa.B.i64 l3))))])) (funext fun n => ih n))
def i_laws_eqInt64S_ww_0 (N : Nat) {R : Type} (vs : List (Option AV)) (H : Hp E) (KL : Ex → List (Option AV) → Hp E → Option R) : Option R :=
  match vs, H with
  | [(Option.some (Go.Eng.AV.sc (Go.Eng.SV.slc 0 Option.none b2))), (Option.some (Go.Eng.AV.sc (Go.Eng.SV.slc 1 Option.none b3))), (Option.some (Go.Eng.AV.sc (Go.Eng.SV.int Go.IntKind.i64 n)))], [(Option.some (Go.Eng.HE.mk Bool.false (Go.Eng.HB.rows (Go.Sa.B.i64 l2)))), (Option.some (Go.Eng.HE.mk Bool.false (Go.Eng.HB.rows (Go.Sa.B.i64 l3))))] => c_laws_eqInt64S_ww_0 N b2 b3 l2 l3 n (KL Go.Eng.Ex.ret [(Option.some (Go.Eng.AV.sc (Go.Eng.SV.bool Bool.false)))] [(Option.some (Go.Eng.HE.mk Bool.false (Go.Eng.HB.rows (Go.Sa.B.i64 l2)))), (Option.some (Go.Eng.HE.mk Bool.false (Go.Eng.HB.rows (Go.Sa.B.i64 l3))))]) (KL Go.Eng.Ex.normal [Option.none] [(Option.some (Go.Eng.HE.mk Bool.false (Go.Eng.HB.rows (Go.Sa.B.i64 l2)))), (Option.some (Go.Eng.HE.mk Bool.false (Go.Eng.HB.rows (Go.Sa.B.i64 l3))))])
  | _, _ => none
noncomputable def IT_laws_eqInt64S_ww_0 (N : Nat) : Its E := addIt 0 (i_laws_eqInt64S_ww_0 N) (noIt)
theorem IT_laws_eqInt64S_ww_0_ok (N : Nat) : ItOk (IT_laws_eqInt64S_ww_0 N) 2 26 sl_laws_eqInt64S_ww (lsB Go.Proofs.Try.f48 [0]) :=
  addItB_ok (inner := []) ok (O_laws_eqInt64S_ww_ok N) (jn_ok _ _ _) (noIt_ok) rfl (by kernel_rfl) rfl fun vs H KL r h => by
    unfold i_laws_eqInt64S_ww_0 at h
    split at h
    · exact ⟨_, (le_laws_eqInt64S_ww_0 N _ _ _ _ KL N _).trans h⟩
    · cases h
def g_laws_eqInt64S_ww (N : Nat) {R : Type} (b : Bool) (b1 : Bool) (l : List Int) (l1 : List Int) (k : Bool → Option R) : Option R :=
  (cond ((((List.length l) : Nat) : Int) != (((List.length l1) : Nat) : Int))
  (k Bool.false)
  (c_laws_eqInt64S_ww_0 N b b1 l l1 (0 : Int) (
    (k Bool.false)) (
    (k Bool.true))))
theorem e_laws_eqInt64S_ww (N : Nat) {R : Type} (b : Bool) (b1 : Bool) (l : List Int) (l1 : List Int) (K : AV → Hp E → Option R) :
    runFnI (E := E) (O_laws_eqInt64S_ww N) (IT_laws_eqInt64S_ww_0 N) sl_laws_eqInt64S_ww J_laws_eqInt64S_ww Go.Proofs.Try.f48 [(Go.Eng.AV.sc (Go.Eng.SV.slc 0 Option.none b)), (Go.Eng.AV.sc (Go.Eng.SV.slc 1 Option.none b1))] [(Option.some (Go.Eng.HE.mk Bool.false (Go.Eng.HB.rows (Go.Sa.B.i64 l)))), (Option.some (Go.Eng.HE.mk Bool.false (Go.Eng.HB.rows (Go.Sa.B.i64 l1))))] K =
      g_laws_eqInt64S_ww N b b1 l l1 (fun b4 => K (Go.Eng.AV.sc (Go.Eng.SV.bool b4)) [(Option.some (Go.Eng.HE.mk Bool.false (Go.Eng.HB.rows (Go.Sa.B.i64 l)))), (Option.some (Go.Eng.HE.mk Bool.false (Go.Eng.HB.rows (Go.Sa.B.i64 l1))))]) := by kernel_rfl
def o_laws_eqInt64S_ww (N : Nat) {R : Type} (args : List AV) (H : Hp E) (K : AV → Hp E → Option R) : Option R :=
  match args, H with
  | [(Go.Eng.AV.sc (Go.Eng.SV.slc 0 Option.none b)), (Go.Eng.AV.sc (Go.Eng.SV.slc 1 Option.none b1))], [(Option.some (Go.Eng.HE.mk Bool.false (Go.Eng.HB.rows (Go.Sa.B.i64 l)))), (Option.some (Go.Eng.HE.mk Bool.false (Go.Eng.HB.rows (Go.Sa.B.i64 l1))))] => g_laws_eqInt64S_ww N b b1 l l1 (fun b4 => K (Go.Eng.AV.sc (Go.Eng.SV.bool b4)) [(Option.some (Go.Eng.HE.mk Bool.false (Go.Eng.HB.rows (Go.Sa.B.i64 l)))), (Option.some (Go.Eng.HE.mk Bool.false (Go.Eng.HB.rows (Go.Sa.B.i64 l1))))])
  | _, _ => none
theorem o_laws_eqInt64S_ww_ok (N : Nat) : FnOk E 48 (o_laws_eqInt64S_ww N) := by
  intro R args H K r h
  unfold o_laws_eqInt64S_ww at h
  dsimp only at h
  split at h
  · exact fnB_ok (ids := [0]) (top := [0]) ok (O_laws_eqInt64S_ww_ok N) (jn_ok _ _ _) Go.Proofs.Try.func48 (by kernel_rfl) (IT := IT_laws_eqInt64S_ww_0 N) (sl := sl_laws_eqInt64S_ww) (J := J_laws_eqInt64S_ww) (K := K) (H := [(Option.some (Go.Eng.HE.mk Bool.false (Go.Eng.HB.rows (Go.Sa.B.i64 _)))), (Option.some (Go.Eng.HE.mk Bool.false (Go.Eng.HB.rows (Go.Sa.B.i64 _))))]) (IT_laws_eqInt64S_ww_0_ok N) (by kernel_rfl) rfl ((e_laws_eqInt64S_ww N _ _ _ _ K).trans h)
  · cases h
/-! ### loop.example/g00038/laws.eqWalked -/
abbrev sl_laws_eqWalked_ww : SlotT := []
abbrev J_laws_eqWalked_ww : JT := jn [] [] []
noncomputable def O_laws_eqWalked_ww (N : Nat) : Orc E := addFn 48 (o_laws_eqInt64S_ww N) (noFn)
theorem O_laws_eqWalked_ww_ok (N : Nat) : OrcOk (O_laws_eqWalked_ww N) := addFn_ok (o_laws_eqInt64S_ww_ok N) (noFn_ok)
def g_laws_eqWalked_ww (N : Nat) {R : Type} (n : Int) (n1 : Int) (n2 : Int) (b : Bool) (b1 : Bool) (s : ByteArray) (n3 : Int) (n4 : Int) (n5 : Int) (b2 : Bool) (b3 : Bool) (s1 : ByteArray) (l : List Int) (l1 : List Int) (k : Bool → Option R) : Option R :=
  (cond (n != n3)
  (k Bool.false)
  (cond (n1 != n4)
    (k Bool.false)
    (cond (n2 != n5)
      (k Bool.false)
      (cond (!(b == b2))
        (k Bool.false)
        (g_laws_eqInt64S_ww N b1 b3 l l1 fun b4 =>
          (cond (!b4)
          (k Bool.false)
          (cond (!(decide ((s = s1))))
            (k Bool.false)
            (k Bool.true))))))))
theorem e_laws_eqWalked_ww (N : Nat) {R : Type} (n : Int) (n1 : Int) (n2 : Int) (b : Bool) (b1 : Bool) (s : ByteArray) (n3 : Int) (n4 : Int) (n5 : Int) (b2 : Bool) (b3 : Bool) (s1 : ByteArray) (l : List Int) (l1 : List Int) (K : AV → Hp E → Option R) :
    runFnI (E := E) (O_laws_eqWalked_ww N) (noIt) sl_laws_eqWalked_ww J_laws_eqWalked_ww Go.Proofs.Try.f17 [(Go.Eng.AV.agg [(Go.Eng.SV.int Go.IntKind.i64 n), (Go.Eng.SV.int Go.IntKind.i64 n1), (Go.Eng.SV.int Go.IntKind.i64 n2), (Go.Eng.SV.bool b), (Go.Eng.SV.slc 0 Option.none b1), (Go.Eng.SV.str s)]), (Go.Eng.AV.agg [(Go.Eng.SV.int Go.IntKind.i64 n3), (Go.Eng.SV.int Go.IntKind.i64 n4), (Go.Eng.SV.int Go.IntKind.i64 n5), (Go.Eng.SV.bool b2), (Go.Eng.SV.slc 1 Option.none b3), (Go.Eng.SV.str s1)])] [(Option.some (Go.Eng.HE.mk Bool.false (Go.Eng.HB.rows (Go.Sa.B.i64 l)))), (Option.some (Go.Eng.HE.mk Bool.false (Go.Eng.HB.rows (Go.Sa.B.i64 l1))))] K =
      g_laws_eqWalked_ww N n n1 n2 b b1 s n3 n4 n5 b2 b3 s1 l l1 (fun b5 => K (Go.Eng.AV.sc (Go.Eng.SV.bool b5)) [(Option.some (Go.Eng.HE.mk Bool.false (Go.Eng.HB.rows (Go.Sa.B.i64 l)))), (Option.some (Go.Eng.HE.mk Bool.false (Go.Eng.HB.rows (Go.Sa.B.i64 l1))))]) := by kernel_rfl
def o_laws_eqWalked_ww (N : Nat) {R : Type} (args : List AV) (H : Hp E) (K : AV → Hp E → Option R) : Option R :=
  match args, H with
  | [(Go.Eng.AV.agg [(Go.Eng.SV.int Go.IntKind.i64 n), (Go.Eng.SV.int Go.IntKind.i64 n1), (Go.Eng.SV.int Go.IntKind.i64 n2), (Go.Eng.SV.bool b), (Go.Eng.SV.slc 0 Option.none b1), (Go.Eng.SV.str s)]), (Go.Eng.AV.agg [(Go.Eng.SV.int Go.IntKind.i64 n3), (Go.Eng.SV.int Go.IntKind.i64 n4), (Go.Eng.SV.int Go.IntKind.i64 n5), (Go.Eng.SV.bool b2), (Go.Eng.SV.slc 1 Option.none b3), (Go.Eng.SV.str s1)])], [(Option.some (Go.Eng.HE.mk Bool.false (Go.Eng.HB.rows (Go.Sa.B.i64 l)))), (Option.some (Go.Eng.HE.mk Bool.false (Go.Eng.HB.rows (Go.Sa.B.i64 l1))))] => g_laws_eqWalked_ww N n n1 n2 b b1 s n3 n4 n5 b2 b3 s1 l l1 (fun b5 => K (Go.Eng.AV.sc (Go.Eng.SV.bool b5)) [(Option.some (Go.Eng.HE.mk Bool.false (Go.Eng.HB.rows (Go.Sa.B.i64 l)))), (Option.some (Go.Eng.HE.mk Bool.false (Go.Eng.HB.rows (Go.Sa.B.i64 l1))))])
  | _, _ => none
theorem o_laws_eqWalked_ww_ok (N : Nat) : FnOk E 17 (o_laws_eqWalked_ww N) := by
  intro R args H K r h
  unfold o_laws_eqWalked_ww at h
  dsimp only at h
  split at h
  · exact fnB_ok (ids := []) (top := []) ok (O_laws_eqWalked_ww_ok N) (jn_ok _ _ _) Go.Proofs.Try.func17 (by kernel_rfl) (IT := noIt) (sl := sl_laws_eqWalked_ww) (J := J_laws_eqWalked_ww) (K := K) (H := [(Option.some (Go.Eng.HE.mk Bool.false (Go.Eng.HB.rows (Go.Sa.B.i64 _)))), (Option.some (Go.Eng.HE.mk Bool.false (Go.Eng.HB.rows (Go.Sa.B.i64 _))))]) (noIt_ok) (by kernel_rfl) rfl ((e_laws_eqWalked_ww N _ _ _ _ _ _ _ _ _ _ _ _ _ _ K).trans h)
  · cases h
/-! ### loop.example/g00038/laws.markInt64S -/
abbrev sl_laws_markInt64S_w : SlotT := [(0, ([0, 1, 5], [1]))]
abbrev J_laws_markInt64S_w : JT := jn [] [] []
noncomputable def O_laws_markInt64S_w (N : Nat) : Orc E := noFn
theorem O_laws_markInt64S_w_ok (N : Nat) : OrcOk (O_laws_markInt64S_w N) := noFn_ok
def s_laws_markInt64S_w_0 (N : Nat) {R : Type} (b1 : Bool) (n1 : Int) (n2 : Int) (l1 : List Int) (ag : Int → Int → (List Int) → Option R)  (kN : Int → (List Int) → Option R) : Option R :=
  (cond (decide ((n2 < (((List.length l1) : Nat) : Int))))
  (cond ((decide (((0 : Int) ≤ n2))) && (decide ((n2 < (((List.length l1) : Nat) : Int)))))
    (elemK l1 (Int.toNat n2) fun x =>
      (cond (Nat.blt (Int.toNat n2) (List.length l1))
      (ag (Go.IntKind.wrap Go.IntKind.i64 (n1 + (1 : Int))) (Go.IntKind.wrap Go.IntKind.i64 (n2 + (1 : Int))) (Go.Eng.nset l1 (Int.toNat n2) n1))
      none))
    none)
  (kN n1 l1))
def l_laws_markInt64S_w_0 (N : Nat) {R : Type} (b1 : Bool) (kN : Int → (List Int) → Option R) : Nat → Int → Int → (List Int) → Option R
  | 0, _, _, _ => none
  | f + 1, n1, n2, l1 => s_laws_markInt64S_w_0 N b1 n1 n2 l1 (fun n1 n2 l1 => l_laws_markInt64S_w_0 N b1 kN f n1 n2 l1)  kN
def c_laws_markInt64S_w_0 (N : Nat) {R : Type} (b1 : Bool) (n1 : Int) (n2 : Int) (l1 : List Int) (kN : Int → (List Int) → Option R) : Option R := l_laws_markInt64S_w_0 N b1 kN N n1 n2 l1
theorem se_laws_markInt64S_w_0 (N : Nat) {R : Type} (b1 : Bool) (n1 : Int) (n2 : Int) (l1 : List Int) (AG : List (Option AV) → Hp E → Option R) (KL : Ex → List (Option AV) → Hp E → Option R) :
    iterStep (E := E) (O_laws_markInt64S_w N) (fun {R} => LI (noIt) 1 19 sl_laws_markInt64S_w (R := R)) J_laws_markInt64S_w 1 19 0 [0, 1, 5] [1] (body Go.Proofs.Try.f73 0) AG KL [(Option.some (Go.Eng.AV.sc (Go.Eng.SV.slc 0 Option.none b1))), (Option.some (Go.Eng.AV.sc (Go.Eng.SV.int Go.IntKind.i64 n1))), (Option.some (Go.Eng.AV.sc (Go.Eng.SV.int Go.IntKind.i64 n2)))] [(Option.some (Go.Eng.HE.mk Bool.false (Go.Eng.HB.rows (Go.Sa.B.i64 l1))))] =
      s_laws_markInt64S_w_0 N b1 n1 n2 l1 (fun n1 n2 l1 => AG [(Option.some (Go.Eng.AV.sc (Go.Eng.SV.slc 0 Option.none b1))), (Option.some (Go.Eng.AV.sc (Go.Eng.SV.int Go.IntKind.i64 n1))), (Option.some (Go.Eng.AV.sc (Go.Eng.SV.int Go.IntKind.i64 n2)))] [(Option.some (Go.Eng.HE.mk Bool.false (Go.Eng.HB.rows (Go.Sa.B.i64 l1))))])  (fun n5 l4 => KL Go.Eng.Ex.normal [(Option.some (Go.Eng.AV.sc (Go.Eng.SV.int Go.IntKind.i64 n5)))] [(Option.some (Go.Eng.HE.mk Bool.false (Go.Eng.HB.rows (Go.Sa.B.i64 l4))))]) := by kernel_rfl
theorem le_laws_markInt64S_w_0 (N : Nat) {R : Type} (b1 : Bool) (KL : Ex → List (Option AV) → Hp E → Option R) : ∀ (f : Nat), ∀ (n1 : Int) (n2 : Int) (l1 : List Int), iterK (E := E) (O_laws_markInt64S_w N) (fun {R} => LI (noIt) 1 19 sl_laws_markInt64S_w (R := R)) J_laws_markInt64S_w 1 19 0 [0, 1, 5] [1] (body Go.Proofs.Try.f73 0) f [(Option.some (Go.Eng.AV.sc (Go.Eng.SV.slc 0 Option.none b1))), (Option.some (Go.Eng.AV.sc (Go.Eng.SV.int Go.IntKind.i64 n1))), (Option.some (Go.Eng.AV.sc (Go.Eng.SV.int Go.IntKind.i64 n2)))] [(Option.some (Go.Eng.HE.mk Bool.false (Go.Eng.HB.rows (Go.Sa.B.i64 l1))))] KL = l_laws_markInt64S_w_0 N b1 (fun n5 l4 => KL Go.Eng.Ex.normal [(Option.some (Go.Eng.AV.sc (Go.Eng.SV.int Go.IntKind.i64 n5)))] [(Option.some (Go.Eng.HE.mk Bool.false (Go.Eng.HB.rows (Go.Sa.B.i64 l4))))]) f n1 n2 l1 := by
  intro f
  induction f with
  | zero => intros; rfl
  | succ f ih =>
    intro n1 n2 l1
    rw [iterK_succ, se_laws_markInt64S_w_0]
    exact (congrArg (fun z0 => s_laws_markInt64S_w_0 N b1 n1 n2 l1 z0 (fun n5 l4 => KL Go.Eng.Ex.normal [(Option.some (Go.Eng.AV.sc (Go.Eng.SV.int Go.IntKind.i64 n5)))] [(Option.some (Go.Eng.HE.mk Bool.false (Go.Eng.HB.rows (Go.Sa.B.i64 l4))))])) (funext fun n1 => funext fun n2 => funext fun l1 => ih n1 n2 l1))
def i_laws_markInt64S_w_0 (N : Nat) {R : Type} (vs : List (Option AV)) (H : Hp E) (KL : Ex → List (Option AV) → Hp E → Option R) : Option R :=
  match vs, H with
  | [(Option.some (Go.Eng.AV.sc (Go.Eng.SV.slc 0 Option.none b1))), (Option.some (Go.Eng.AV.sc (Go.Eng.SV.int Go.IntKind.i64 n1))), (Option.some (Go.Eng.AV.sc (Go.Eng.SV.int Go.IntKind.i64 n2)))], [(Option.some (Go.Eng.HE.mk Bool.false (Go.Eng.HB.rows (Go.Sa.B.i64 l1))))] => c_laws_markInt64S_w_0 N b1 n1 n2 l1 (fun n6 l5 => KL Go.Eng.Ex.normal [(Option.some (Go.Eng.AV.sc (Go.Eng.SV.int Go.IntKind.i64 n6)))] [(Option.some (Go.Eng.HE.mk Bool.false (Go.Eng.HB.rows (Go.Sa.B.i64 l5))))])
  | _, _ => none
noncomputable def IT_laws_markInt64S_w_0 (N : Nat) : Its E := addIt 0 (i_laws_markInt64S_w_0 N) (noIt)
theorem IT_laws_markInt64S_w_0_ok (N : Nat) : ItOk (IT_laws_markInt64S_w_0 N) 1 19 sl_laws_markInt64S_w (lsB Go.Proofs.Try.f73 [0]) :=
  addItB_ok (inner := []) ok (O_laws_markInt64S_w_ok N) (jn_ok _ _ _) (noIt_ok) rfl (by kernel_rfl) rfl fun vs H KL r h => by
    unfold i_laws_markInt64S_w_0 at h
    split at h
    · exact ⟨_, (le_laws_markInt64S_w_0 N _ KL N _ _ _).trans h⟩
    · cases h
def g_laws_markInt64S_w (N : Nat) {R : Type} (b : Bool) (n : Int) (l : List Int) (k : Int → (List Int) → Option R) : Option R :=
  (c_laws_markInt64S_w_0 N b n (0 : Int) l fun n3 l2 =>
  (k n3 l2))
theorem e_laws_markInt64S_w (N : Nat) {R : Type} (b : Bool) (n : Int) (l : List Int) (K : AV → Hp E → Option R) :
    runFnI (E := E) (O_laws_markInt64S_w N) (IT_laws_markInt64S_w_0 N) sl_laws_markInt64S_w J_laws_markInt64S_w Go.Proofs.Try.f73 [(Go.Eng.AV.sc (Go.Eng.SV.slc 0 Option.none b)), (Go.Eng.AV.sc (Go.Eng.SV.int Go.IntKind.i64 n))] [(Option.some (Go.Eng.HE.mk Bool.false (Go.Eng.HB.rows (Go.Sa.B.i64 l))))] K =
      g_laws_markInt64S_w N b n l (fun n4 l3 => K (Go.Eng.AV.sc (Go.Eng.SV.int Go.IntKind.i64 n4)) [(Option.some (Go.Eng.HE.mk Bool.false (Go.Eng.HB.rows (Go.Sa.B.i64 l3))))]) := by kernel_rfl
def o_laws_markInt64S_w (N : Nat) {R : Type} (args : List AV) (H : Hp E) (K : AV → Hp E → Option R) : Option R :=
  match args, H with
  | [(Go.Eng.AV.sc (Go.Eng.SV.slc 0 Option.none b)), (Go.Eng.AV.sc (Go.Eng.SV.int Go.IntKind.i64 n))], [(Option.some (Go.Eng.HE.mk Bool.false (Go.Eng.HB.rows (Go.Sa.B.i64 l))))] => g_laws_markInt64S_w N b n l (fun n4 l3 => K (Go.Eng.AV.sc (Go.Eng.SV.int Go.IntKind.i64 n4)) [(Option.some (Go.Eng.HE.mk Bool.false (Go.Eng.HB.rows (Go.Sa.B.i64 l3))))])
  | _, _ => none
theorem o_laws_markInt64S_w_ok (N : Nat) : FnOk E 73 (o_laws_markInt64S_w N) := by
  intro R args H K r h
  unfold o_laws_markInt64S_w at h
  dsimp only at h
  split at h
  · exact fnB_ok (ids := [0]) (top := [0]) ok (O_laws_markInt64S_w_ok N) (jn_ok _ _ _) Go.Proofs.Try.func73 (by kernel_rfl) (IT := IT_laws_markInt64S_w_0 N) (sl := sl_laws_markInt64S_w) (J := J_laws_markInt64S_w) (K := K) (H := [(Option.some (Go.Eng.HE.mk Bool.false (Go.Eng.HB.rows (Go.Sa.B.i64 _))))]) (IT_laws_markInt64S_w_0_ok N) (by kernel_rfl) rfl ((e_laws_markInt64S_w N _ _ _ K).trans h)
  · cases h
/-! ### loop.example/g00038/laws.markWalked -/
abbrev sl_laws_markWalked_w : SlotT := []
abbrev J_laws_markWalked_w : JT := jn [] [] []
noncomputable def O_laws_markWalked_w (N : Nat) : Orc E := addFn 73 (o_laws_markInt64S_w N) (noFn)
theorem O_laws_markWalked_w_ok (N : Nat) : OrcOk (O_laws_markWalked_w N) := addFn_ok (o_laws_markInt64S_w_ok N) (noFn_ok)
def g_laws_markWalked_w (N : Nat) {R : Type} (n : Int) (n1 : Int) (n2 : Int) (b : Bool) (b1 : Bool) (s : ByteArray) (n3 : Int) (l : List Int) (k : Int → (List Int) → Option R) : Option R :=
  (g_laws_markInt64S_w N b1 n3 l fun n4 l1 =>
  (k n4 l1))
theorem e_laws_markWalked_w (N : Nat) {R : Type} (n : Int) (n1 : Int) (n2 : Int) (b : Bool) (b1 : Bool) (s : ByteArray) (n3 : Int) (l : List Int) (K : AV → Hp E → Option R) :
    runFnI (E := E) (O_laws_markWalked_w N) (noIt) sl_laws_markWalked_w J_laws_markWalked_w Go.Proofs.Try.f18 [(Go.Eng.AV.agg [(Go.Eng.SV.int Go.IntKind.i64 n), (Go.Eng.SV.int Go.IntKind.i64 n1), (Go.Eng.SV.int Go.IntKind.i64 n2), (Go.Eng.SV.bool b), (Go.Eng.SV.slc 0 Option.none b1), (Go.Eng.SV.str s)]), (Go.Eng.AV.sc (Go.Eng.SV.int Go.IntKind.i64 n3))] [(Option.some (Go.Eng.HE.mk Bool.false (Go.Eng.HB.rows (Go.Sa.B.i64 l))))] K =
      g_laws_markWalked_w N n n1 n2 b b1 s n3 l (fun n5 l2 => K (Go.Eng.AV.sc (Go.Eng.SV.int Go.IntKind.i64 n5)) [(Option.some (Go.Eng.HE.mk Bool.false (Go.Eng.HB.rows (Go.Sa.B.i64 l2))))]) := by kernel_rfl
def o_laws_markWalked_w (N : Nat) {R : Type} (args : List AV) (H : Hp E) (K : AV → Hp E → Option R) : Option R :=
  match args, H with
  | [(Go.Eng.AV.agg [(Go.Eng.SV.int Go.IntKind.i64 n), (Go.Eng.SV.int Go.IntKind.i64 n1), (Go.Eng.SV.int Go.IntKind.i64 n2), (Go.Eng.SV.bool b), (Go.Eng.SV.slc 0 Option.none b1), (Go.Eng.SV.str s)]), (Go.Eng.AV.sc (Go.Eng.SV.int Go.IntKind.i64 n3))], [(Option.some (Go.Eng.HE.mk Bool.false (Go.Eng.HB.rows (Go.Sa.B.i64 l))))] => g_laws_markWalked_w N n n1 n2 b b1 s n3 l (fun n5 l2 => K (Go.Eng.AV.sc (Go.Eng.SV.int Go.IntKind.i64 n5)) [(Option.some (Go.Eng.HE.mk Bool.false (Go.Eng.HB.rows (Go.Sa.B.i64 l2))))])
  | _, _ => none
theorem o_laws_markWalked_w_ok (N : Nat) : FnOk E 18 (o_laws_markWalked_w N) := by
  intro R args H K r h
  unfold o_laws_markWalked_w at h
  dsimp only at h
  split at h
  · exact fnB_ok (ids := []) (top := []) ok (O_laws_markWalked_w_ok N) (jn_ok _ _ _) Go.Proofs.Try.func18 (by kernel_rfl) (IT := noIt) (sl := sl_laws_markWalked_w) (J := J_laws_markWalked_w) (K := K) (H := [(Option.some (Go.Eng.HE.mk Bool.false (Go.Eng.HB.rows (Go.Sa.B.i64 _))))]) (noIt_ok) (by kernel_rfl) rfl ((e_laws_markWalked_w N _ _ _ _ _ _ _ _ K).trans h)
  · cases h
/-! ### loop.example/g00038/laws.heldInt64S -/
abbrev sl_laws_heldInt64S_w : SlotT := [(0, ([0, 1, 5], [1, 4]))]
abbrev J_laws_heldInt64S_w : JT := jn [] [] []
noncomputable def O_laws_heldInt64S_w (N : Nat) : Orc E := noFn
theorem O_laws_heldInt64S_w_ok (N : Nat) : OrcOk (O_laws_heldInt64S_w N) := noFn_ok
def s_laws_heldInt64S_w_0 (N : Nat) {R : Type} (b1 : Bool) (l1 : List Int) (n1 : Int) (n2 : Int) (ag : Int → Int → Option R)  (kR : Int → Option R) (kN : Int → Option R) : Option R :=
  (cond (decide ((n2 < (((List.length l1) : Nat) : Int))))
  (cond ((decide (((0 : Int) ≤ n2))) && (decide ((n2 < (((List.length l1) : Nat) : Int)))))
    (elemK l1 (Int.toNat n2) fun x =>
      (cond (x != n1)
      (kR n1)
      (ag (Go.IntKind.wrap Go.IntKind.i64 (n1 + (1 : Int))) (Go.IntKind.wrap Go.IntKind.i64 (n2 + (1 : Int))))))
    none)
  (kN n1))
def l_laws_heldInt64S_w_0 (N : Nat) {R : Type} (b1 : Bool) (l1 : List Int) (kR : Int → Option R) (kN : Int → Option R) : Nat → Int → Int → Option R
  | 0, _, _ => none
  | f + 1, n1, n2 => s_laws_heldInt64S_w_0 N b1 l1 n1 n2 (fun n1 n2 => l_laws_heldInt64S_w_0 N b1 l1 kR kN f n1 n2)  kR kN
def c_laws_heldInt64S_w_0 (N : Nat) {R : Type} (b1 : Bool) (l1 : List Int) (n1 : Int) (n2 : Int) (kR : Int → Option R) (kN : Int → Option R) : Option R := l_laws_heldInt64S_w_0 N b1 l1 kR kN N n1 n2
theorem se_laws_heldInt64S_w_0 (N : Nat) {R : Type} (b1 : Bool) (l1 : List Int) (n1 : Int) (n2 : Int) (AG : List (Option AV) → Hp E → Option R) (KL : Ex → List (Option AV) → Hp E → Option R) :
    iterStep (E := E) (O_laws_heldInt64S_w N) (fun {R} => LI (noIt) 1 21 sl_laws_heldInt64S_w (R := R)) J_laws_heldInt64S_w 1 21 0 [0, 1, 5] [1, 4] (body Go.Proofs.Try.f74 0) AG KL [(Option.some (Go.Eng.AV.sc (Go.Eng.SV.slc 0 Option.none b1))), (Option.some (Go.Eng.AV.sc (Go.Eng.SV.int Go.IntKind.i64 n1))), (Option.some (Go.Eng.AV.sc (Go.Eng.SV.int Go.IntKind.i64 n2)))] [(Option.some (Go.Eng.HE.mk Bool.false (Go.Eng.HB.rows (Go.Sa.B.i64 l1))))] =
      s_laws_heldInt64S_w_0 N b1 l1 n1 n2 (fun n1 n2 => AG [(Option.some (Go.Eng.AV.sc (Go.Eng.SV.slc 0 Option.none b1))), (Option.some (Go.Eng.AV.sc (Go.Eng.SV.int Go.IntKind.i64 n1))), (Option.some (Go.Eng.AV.sc (Go.Eng.SV.int Go.IntKind.i64 n2)))] [(Option.some (Go.Eng.HE.mk Bool.false (Go.Eng.HB.rows (Go.Sa.B.i64 l1))))])  (fun n6 => KL Go.Eng.Ex.ret [(Option.some (Go.Eng.AV.sc (Go.Eng.SV.int Go.IntKind.i64 n6))), (Option.some (Go.Eng.AV.sc (Go.Eng.SV.int Go.IntKind.i64 (-(1 : Int)))))] [(Option.some (Go.Eng.HE.mk Bool.false (Go.Eng.HB.rows (Go.Sa.B.i64 l1))))]) (fun n7 => KL Go.Eng.Ex.normal [(Option.some (Go.Eng.AV.sc (Go.Eng.SV.int Go.IntKind.i64 n7))), Option.none] [(Option.some (Go.Eng.HE.mk Bool.false (Go.Eng.HB.rows (Go.Sa.B.i64 l1))))]) := by kernel_rfl
theorem le_laws_heldInt64S_w_0 (N : Nat) {R : Type} (b1 : Bool) (l1 : List Int) (KL : Ex → List (Option AV) → Hp E → Option R) : ∀ (f : Nat), ∀ (n1 : Int) (n2 : Int), iterK (E := E) (O_laws_heldInt64S_w N) (fun {R} => LI (noIt) 1 21 sl_laws_heldInt64S_w (R := R)) J_laws_heldInt64S_w 1 21 0 [0, 1, 5] [1, 4] (body Go.Proofs.Try.f74 0) f [(Option.some (Go.Eng.AV.sc (Go.Eng.SV.slc 0 Option.none b1))), (Option.some (Go.Eng.AV.sc (Go.Eng.SV.int Go.IntKind.i64 n1))), (Option.some (Go.Eng.AV.sc (Go.Eng.SV.int Go.IntKind.i64 n2)))] [(Option.some (Go.Eng.HE.mk Bool.false (Go.Eng.HB.rows (Go.Sa.B.i64 l1))))] KL = l_laws_heldInt64S_w_0 N b1 l1 (fun n6 => KL Go.Eng.Ex.ret [(Option.some (Go.Eng.AV.sc (Go.Eng.SV.int Go.IntKind.i64 n6))), (Option.some (Go.Eng.AV.sc (Go.Eng.SV.int Go.IntKind.i64 (-(1 : Int)))))] [(Option.some (Go.Eng.HE.mk Bool.false (Go.Eng.HB.rows (Go.Sa.B.i64 l1))))]) (fun n7 => KL Go.Eng.Ex.normal [(Option.some (Go.Eng.AV.sc (Go.Eng.SV.int Go.IntKind.i64 n7))), Option.none] [(Option.some (Go.Eng.HE.mk Bool.false (Go.Eng.HB.rows (Go.Sa.B.i64 l1))))]) f n1 n2 := by
  intro f
  induction f with
  | zero => intros; rfl
  | succ f ih =>
    intro n1 n2
    rw [iterK_succ, se_laws_heldInt64S_w_0]
    exact (congrArg (fun z0 => s_laws_heldInt64S_w_0 N b1 l1 n1 n2 z0 (fun n6 => KL Go.Eng.Ex.ret [(Option.some (Go.Eng.AV.sc (Go.Eng.SV.int Go.IntKind.i64 n6))), (Option.some (Go.Eng.AV.sc (Go.Eng.SV.int Go.IntKind.i64 (-(1 : Int)))))] [(Option.some (Go.Eng.HE.mk Bool.false (Go.Eng.HB.rows (Go.Sa.B.i64 l1))))]) (fun n7 => KL Go.Eng.Ex.normal [(Option.some (Go.Eng.AV.sc (Go.Eng.SV.int Go.IntKind.i64 n7))), Option.none] [(Option.some (Go.Eng.HE.mk Bool.false (Go.Eng.HB.rows (Go.Sa.B.i64 l1))))])) (funext fun n1 => funext fun n2 => ih n1 n2))
def i_laws_heldInt64S_w_0 (N : Nat) {R : Type} (vs : List (Option AV)) (H : Hp E) (KL : Ex → List (Option AV) → Hp E → Option R) : Option R :=
  match vs, H with
  | [(Option.some (Go.Eng.AV.sc (Go.Eng.SV.slc 0 Option.none b1))), (Option.some (Go.Eng.AV.sc (Go.Eng.SV.int Go.IntKind.i64 n1))), (Option.some (Go.Eng.AV.sc (Go.Eng.SV.int Go.IntKind.i64 n2)))], [(Option.some (Go.Eng.HE.mk Bool.false (Go.Eng.HB.rows (Go.Sa.B.i64 l1))))] => c_laws_heldInt64S_w_0 N b1 l1 n1 n2 (fun n8 => KL Go.Eng.Ex.ret [(Option.some (Go.Eng.AV.sc (Go.Eng.SV.int Go.IntKind.i64 n8))), (Option.some (Go.Eng.AV.sc (Go.Eng.SV.int Go.IntKind.i64 (-(1 : Int)))))] [(Option.some (Go.Eng.HE.mk Bool.false (Go.Eng.HB.rows (Go.Sa.B.i64 l1))))]) (fun n9 => KL Go.Eng.Ex.normal [(Option.some (Go.Eng.AV.sc (Go.Eng.SV.int Go.IntKind.i64 n9))), Option.none] [(Option.some (Go.Eng.HE.mk Bool.false (Go.Eng.HB.rows (Go.Sa.B.i64 l1))))])
  | _, _ => none
noncomputable def IT_laws_heldInt64S_w_0 (N : Nat) : Its E := addIt 0 (i_laws_heldInt64S_w_0 N) (noIt)
theorem IT_laws_heldInt64S_w_0_ok (N : Nat) : ItOk (IT_laws_heldInt64S_w_0 N) 1 21 sl_laws_heldInt64S_w (lsB Go.Proofs.Try.f74 [0]) :=
  addItB_ok (inner := []) ok (O_laws_heldInt64S_w_ok N) (jn_ok _ _ _) (noIt_ok) rfl (by kernel_rfl) rfl fun vs H KL r h => by
    unfold i_laws_heldInt64S_w_0 at h
    split at h
    · exact ⟨_, (le_laws_heldInt64S_w_0 N _ _ KL N _ _).trans h⟩
    · cases h
def g_laws_heldInt64S_w (N : Nat) {R : Type} (b : Bool) (n : Int) (l : List Int) (k : Int → Option R) : Option R :=
  (c_laws_heldInt64S_w_0 N b l n (0 : Int) (fun n3 =>
  (k (-(1 : Int)))) (fun n4 =>
  (k n4)))
theorem e_laws_heldInt64S_w (N : Nat) {R : Type} (b : Bool) (n : Int) (l : List Int) (K : AV → Hp E → Option R) :
    runFnI (E := E) (O_laws_heldInt64S_w N) (IT_laws_heldInt64S_w_0 N) sl_laws_heldInt64S_w J_laws_heldInt64S_w Go.Proofs.Try.f74 [(Go.Eng.AV.sc (Go.Eng.SV.slc 0 Option.none b)), (Go.Eng.AV.sc (Go.Eng.SV.int Go.IntKind.i64 n))] [(Option.some (Go.Eng.HE.mk Bool.false (Go.Eng.HB.rows (Go.Sa.B.i64 l))))] K =
      g_laws_heldInt64S_w N b n l (fun n5 => K (Go.Eng.AV.sc (Go.Eng.SV.int Go.IntKind.i64 n5)) [(Option.some (Go.Eng.HE.mk Bool.false (Go.Eng.HB.rows (Go.Sa.B.i64 l))))]) := by kernel_rfl
def o_laws_heldInt64S_w (N : Nat) {R : Type} (args : List AV) (H : Hp E) (K : AV → Hp E → Option R) : Option R :=
  match args, H with
  | [(Go.Eng.AV.sc (Go.Eng.SV.slc 0 Option.none b)), (Go.Eng.AV.sc (Go.Eng.SV.int Go.IntKind.i64 n))], [(Option.some (Go.Eng.HE.mk Bool.false (Go.Eng.HB.rows (Go.Sa.B.i64 l))))] => g_laws_heldInt64S_w N b n l (fun n5 => K (Go.Eng.AV.sc (Go.Eng.SV.int Go.IntKind.i64 n5)) [(Option.some (Go.Eng.HE.mk Bool.false (Go.Eng.HB.rows (Go.Sa.B.i64 l))))])
  | _, _ => none
theorem o_laws_heldInt64S_w_ok (N : Nat) : FnOk E 74 (o_laws_heldInt64S_w N) := by
  intro R args H K r h
  unfold o_laws_heldInt64S_w at h
  dsimp only at h
  split at h
  · exact fnB_ok (ids := [0]) (top := [0]) ok (O_laws_heldInt64S_w_ok N) (jn_ok _ _ _) Go.Proofs.Try.func74 (by kernel_rfl) (IT := IT_laws_heldInt64S_w_0 N) (sl := sl_laws_heldInt64S_w) (J := J_laws_heldInt64S_w) (K := K) (H := [(Option.some (Go.Eng.HE.mk Bool.false (Go.Eng.HB.rows (Go.Sa.B.i64 _))))]) (IT_laws_heldInt64S_w_0_ok N) (by kernel_rfl) rfl ((e_laws_heldInt64S_w N _ _ _ K).trans h)
  · cases h
/-! ### loop.example/g00038/laws.heldWalked -/
abbrev sl_laws_heldWalked_w : SlotT := []
abbrev J_laws_heldWalked_w : JT := jn [] [] []
noncomputable def O_laws_heldWalked_w (N : Nat) : Orc E := addFn 74 (o_laws_heldInt64S_w N) (noFn)
theorem O_laws_heldWalked_w_ok (N : Nat) : OrcOk (O_laws_heldWalked_w N) := addFn_ok (o_laws_heldInt64S_w_ok N) (noFn_ok)
def g_laws_heldWalked_w (N : Nat) {R : Type} (n : Int) (n1 : Int) (n2 : Int) (b : Bool) (b1 : Bool) (s : ByteArray) (n3 : Int) (l : List Int) (k : Int → Option R) : Option R :=
  (g_laws_heldInt64S_w N b1 n3 l fun n4 =>
  (cond (decide ((n4 < (0 : Int))))
  (k (-(1 : Int)))
  (k n4)))
theorem e_laws_heldWalked_w (N : Nat) {R : Type} (n : Int) (n1 : Int) (n2 : Int) (b : Bool) (b1 : Bool) (s : ByteArray) (n3 : Int) (l : List Int) (K : AV → Hp E → Option R) :
    runFnI (E := E) (O_laws_heldWalked_w N) (noIt) sl_laws_heldWalked_w J_laws_heldWalked_w Go.Proofs.Try.f19 [(Go.Eng.AV.agg [(Go.Eng.SV.int Go.IntKind.i64 n), (Go.Eng.SV.int Go.IntKind.i64 n1), (Go.Eng.SV.int Go.IntKind.i64 n2), (Go.Eng.SV.bool b), (Go.Eng.SV.slc 0 Option.none b1), (Go.Eng.SV.str s)]), (Go.Eng.AV.sc (Go.Eng.SV.int Go.IntKind.i64 n3))] [(Option.some (Go.Eng.HE.mk Bool.false (Go.Eng.HB.rows (Go.Sa.B.i64 l))))] K =
      g_laws_heldWalked_w N n n1 n2 b b1 s n3 l (fun n5 => K (Go.Eng.AV.sc (Go.Eng.SV.int Go.IntKind.i64 n5)) [(Option.some (Go.Eng.HE.mk Bool.false (Go.Eng.HB.rows (Go.Sa.B.i64 l))))]) := by kernel_rfl
def o_laws_heldWalked_w (N : Nat) {R : Type} (args : List AV) (H : Hp E) (K : AV → Hp E → Option R) : Option R :=
  match args, H with
  | [(Go.Eng.AV.agg [(Go.Eng.SV.int Go.IntKind.i64 n), (Go.Eng.SV.int Go.IntKind.i64 n1), (Go.Eng.SV.int Go.IntKind.i64 n2), (Go.Eng.SV.bool b), (Go.Eng.SV.slc 0 Option.none b1), (Go.Eng.SV.str s)]), (Go.Eng.AV.sc (Go.Eng.SV.int Go.IntKind.i64 n3))], [(Option.some (Go.Eng.HE.mk Bool.false (Go.Eng.HB.rows (Go.Sa.B.i64 l))))] => g_laws_heldWalked_w N n n1 n2 b b1 s n3 l (fun n5 => K (Go.Eng.AV.sc (Go.Eng.SV.int Go.IntKind.i64 n5)) [(Option.some (Go.Eng.HE.mk Bool.false (Go.Eng.HB.rows (Go.Sa.B.i64 l))))])
  | _, _ => none
theorem o_laws_heldWalked_w_ok (N : Nat) : FnOk E 19 (o_laws_heldWalked_w N) := by
  intro R args H K r h
  unfold o_laws_heldWalked_w at h
  dsimp only at h
  split at h
  · exact fnB_ok (ids := []) (top := []) ok (O_laws_heldWalked_w_ok N) (jn_ok _ _ _) Go.Proofs.Try.func19 (by kernel_rfl) (IT := noIt) (sl := sl_laws_heldWalked_w) (J := J_laws_heldWalked_w) (K := K) (H := [(Option.some (Go.Eng.HE.mk Bool.false (Go.Eng.HB.rows (Go.Sa.B.i64 _))))]) (noIt_ok) (by kernel_rfl) rfl ((e_laws_heldWalked_w N _ _ _ _ _ _ _ _ K).trans h)
  · cases h
/-! ### loop.example/g00038/laws.FnExactWalk -/
abbrev sl_laws_FnExactWalk : SlotT := []
abbrev J_laws_FnExactWalk : JT := jn [] [] []
noncomputable def O_laws_FnExactWalk (N : Nat) : Orc E := addFn 19 (o_laws_heldWalked_w N) (addFn 18 (o_laws_markWalked_w N) (addFn 17 (o_laws_eqWalked_ww N) (addFn 16 (o_impl_Walk N) (addFn 15 (o_spec_Walk N) (noFn)))))
theorem O_laws_FnExactWalk_ok (N : Nat) : OrcOk (O_laws_FnExactWalk N) := addFn_ok (o_laws_heldWalked_w_ok N) (addFn_ok (o_laws_markWalked_w_ok N) (addFn_ok (o_laws_eqWalked_ww_ok N) (addFn_ok (o_impl_Walk_ok N) (addFn_ok (o_spec_Walk_ok N) (noFn_ok)))))
def g_laws_FnExactWalk (N : Nat) {R : Type} (s : ByteArray) (n : Int) (n1 : Int) (n2 : Int) (b : Bool) (k : Bool → Option R) : Option R :=
  (cond (decide (((((ByteArray.size s) : Nat) : Int) > (1048576 : Int))))
  (k Bool.true)
  (g_spec_Walk N s n n1 n2 b fun n3 n4 n5 b1 b2 s1 l =>
    (g_impl_Walk N s n n1 n2 b fun n6 n7 n8 b3 b4 s2 l1 =>
    (g_laws_eqWalked_ww N n6 n7 n8 b3 b4 s2 n3 n4 n5 b1 b2 s1 l1 l fun b5 =>
    (cond (!b5)
    (k Bool.false)
    (g_laws_markWalked_w N n6 n7 n8 b3 b4 s2 (1 : Int) l1 fun n9 l2 =>
      (g_laws_heldWalked_w N n6 n7 n8 b3 b4 s2 (1 : Int) l2 fun n10 =>
      (cond (decide ((n10 < (0 : Int))))
      (k Bool.false)
      (cond (n10 != n9)
        (k Bool.false)
        (g_impl_Walk N s n n1 n2 b fun n11 n12 n13 b6 b7 s3 l3 =>
          (g_laws_eqWalked_ww N n11 n12 n13 b6 b7 s3 n3 n4 n5 b1 b2 s1 l3 l fun b8 =>
          (cond (!b8)
          (k Bool.false)
          (g_laws_heldWalked_w N n6 n7 n8 b3 b4 s2 (1 : Int) l2 fun n14 =>
            (cond (decide ((n14 < (0 : Int))))
            (k Bool.false)
            (cond (n14 != n9)
              (k Bool.false)
              (k Bool.true))))))))))))))))
theorem e_laws_FnExactWalk (N : Nat) {R : Type} (s : ByteArray) (n : Int) (n1 : Int) (n2 : Int) (b : Bool) (K : AV → Hp E → Option R) :
    runFnI (E := E) (O_laws_FnExactWalk N) (noIt) sl_laws_FnExactWalk J_laws_FnExactWalk Go.Proofs.Try.f3 [(Go.Eng.AV.sc (Go.Eng.SV.str s)), (Go.Eng.AV.sc (Go.Eng.SV.int Go.IntKind.i64 n)), (Go.Eng.AV.sc (Go.Eng.SV.int Go.IntKind.i64 n1)), (Go.Eng.AV.sc (Go.Eng.SV.int Go.IntKind.i64 n2)), (Go.Eng.AV.sc (Go.Eng.SV.bool b))] [] K =
      g_laws_FnExactWalk N s n n1 n2 b (fun b9 => K (Go.Eng.AV.sc (Go.Eng.SV.bool b9)) []) := by kernel_rfl
def o_laws_FnExactWalk (N : Nat) {R : Type} (args : List AV) (H : Hp E) (K : AV → Hp E → Option R) : Option R :=
  match args, H with
  | [(Go.Eng.AV.sc (Go.Eng.SV.str s)), (Go.Eng.AV.sc (Go.Eng.SV.int Go.IntKind.i64 n)), (Go.Eng.AV.sc (Go.Eng.SV.int Go.IntKind.i64 n1)), (Go.Eng.AV.sc (Go.Eng.SV.int Go.IntKind.i64 n2)), (Go.Eng.AV.sc (Go.Eng.SV.bool b))], [] => g_laws_FnExactWalk N s n n1 n2 b (fun b9 => K (Go.Eng.AV.sc (Go.Eng.SV.bool b9)) [])
  | _, _ => none
theorem o_laws_FnExactWalk_ok (N : Nat) : FnOk E 3 (o_laws_FnExactWalk N) := by
  intro R args H K r h
  unfold o_laws_FnExactWalk at h
  dsimp only at h
  split at h
  · exact fnB_ok (ids := []) (top := []) ok (O_laws_FnExactWalk_ok N) (jn_ok _ _ _) Go.Proofs.Try.func3 (by kernel_rfl) (IT := noIt) (sl := sl_laws_FnExactWalk) (J := J_laws_FnExactWalk) (K := K) (H := []) (noIt_ok) (by kernel_rfl) rfl ((e_laws_FnExactWalk N _ _ _ _ _ K).trans h)
  · cases h
end Go.Sa
