import Derived.Test.YtjimjkhpahegjaaEnv
import Derived.Test.YtjimjkhpahegjaaPLb
set_option linter.all false
namespace Go.Sa
open Go Go.Eng Go.Proofs
set_option maxRecDepth 100000
/-! ### loop.example/g00038/impl.yin -/
abbrev sl_impl_yin : SlotT := []
abbrev J_impl_yin : JT := jn [(1, [(6, .b)])] []
noncomputable def O_impl_yin (N : Nat) : Orc E := noFn
theorem O_impl_yin_ok (N : Nat) : OrcOk (O_impl_yin N) := noFn_ok
def g_impl_yin (N : Nat) {R : Type} (n : Int) (n1 : Int) (n2 : Int) (k : Bool → Option R) : Option R :=
  (oK (cond (decide ((n ≥ n1)))
    (some (decide ((n ≤ n2))))
    (some Bool.false)) fun j =>
  (k j))
theorem e_impl_yin (N : Nat) {R : Type} (n : Int) (n1 : Int) (n2 : Int) (K : AV → Hp E → Option R) :
    runFnI (E := E) (O_impl_yin N) (noIt) sl_impl_yin J_impl_yin Go.Proofs.Try.f71 [(Go.Eng.AV.sc (Go.Eng.SV.int Go.IntKind.i64 n)), (Go.Eng.AV.sc (Go.Eng.SV.int Go.IntKind.i64 n1)), (Go.Eng.AV.sc (Go.Eng.SV.int Go.IntKind.i64 n2))] [] K =
      g_impl_yin N n n1 n2 (fun b => K (Go.Eng.AV.sc (Go.Eng.SV.bool b)) []) := by kernel_rfl
def o_impl_yin (N : Nat) {R : Type} (args : List AV) (H : Hp E) (K : AV → Hp E → Option R) : Option R :=
  match args, H with
  | [(Go.Eng.AV.sc (Go.Eng.SV.int Go.IntKind.i64 n)), (Go.Eng.AV.sc (Go.Eng.SV.int Go.IntKind.i64 n1)), (Go.Eng.AV.sc (Go.Eng.SV.int Go.IntKind.i64 n2))], [] => g_impl_yin N n n1 n2 (fun b => K (Go.Eng.AV.sc (Go.Eng.SV.bool b)) [])
  | _, _ => none
theorem o_impl_yin_ok (N : Nat) : FnOk E 71 (o_impl_yin N) := by
  intro R args H K r h
  unfold o_impl_yin at h
  dsimp only at h
  split at h
  · exact fnB_ok (ids := []) (top := []) ok (O_impl_yin_ok N) (jn_ok _ _) Go.Proofs.Try.func71 (by kernel_rfl) (IT := noIt) (sl := sl_impl_yin) (J := J_impl_yin) (K := K) (H := []) (noIt_ok) (by kernel_rfl) rfl ((e_impl_yin N _ _ _ K).trans h)
  · cases h
/-! ### loop.example/g00038/spec.l01Mod -/
abbrev sl_spec_l01Mod : SlotT := []
abbrev J_spec_l01Mod : JT := jn [] [(10, [(5, .i .i64)])]
noncomputable def O_spec_l01Mod (N : Nat) : Orc E := noFn
theorem O_spec_l01Mod_ok (N : Nat) : OrcOk (O_spec_l01Mod N) := noFn_ok
def g_spec_l01Mod (N : Nat) {R : Type} (n : Int) (n1 : Int) (k : Int → Option R) : Option R :=
  (cond (n1 == (0 : Int))
  none
  (oK (cond (decide (((Int.tmod n n1) < (0 : Int))))
      (some (Go.IntKind.wrap Go.IntKind.i64 ((Int.tmod n n1) + n1)))
      (some (Int.tmod n n1))) fun j =>
    (k j)))
theorem e_spec_l01Mod (N : Nat) {R : Type} (n : Int) (n1 : Int) (K : AV → Hp E → Option R) :
    runFnI (E := E) (O_spec_l01Mod N) (noIt) sl_spec_l01Mod J_spec_l01Mod Go.Proofs.Try.f139 [(Go.Eng.AV.sc (Go.Eng.SV.int Go.IntKind.i64 n)), (Go.Eng.AV.sc (Go.Eng.SV.int Go.IntKind.i64 n1))] [] K =
      g_spec_l01Mod N n n1 (fun n2 => K (Go.Eng.AV.sc (Go.Eng.SV.int Go.IntKind.i64 n2)) []) := by kernel_rfl
def o_spec_l01Mod (N : Nat) {R : Type} (args : List AV) (H : Hp E) (K : AV → Hp E → Option R) : Option R :=
  match args, H with
  | [(Go.Eng.AV.sc (Go.Eng.SV.int Go.IntKind.i64 n)), (Go.Eng.AV.sc (Go.Eng.SV.int Go.IntKind.i64 n1))], [] => g_spec_l01Mod N n n1 (fun n2 => K (Go.Eng.AV.sc (Go.Eng.SV.int Go.IntKind.i64 n2)) [])
  | _, _ => none
theorem o_spec_l01Mod_ok (N : Nat) : FnOk E 139 (o_spec_l01Mod N) := by
  intro R args H K r h
  unfold o_spec_l01Mod at h
  dsimp only at h
  split at h
  · exact fnB_ok (ids := []) (top := []) ok (O_spec_l01Mod_ok N) (jn_ok _ _) Go.Proofs.Try.func139 (by kernel_rfl) (IT := noIt) (sl := sl_spec_l01Mod) (J := J_spec_l01Mod) (K := K) (H := []) (noIt_ok) (by kernel_rfl) rfl ((e_spec_l01Mod N _ _ K).trans h)
  · cases h
/-! ### loop.example/g00038/spec.Word -/
abbrev sl_spec_Word : SlotT := []
abbrev J_spec_Word : JT := jn [] []
noncomputable def O_spec_Word (N : Nat) : Orc E := addFn 139 (o_spec_l01Mod N) (noFn)
theorem O_spec_Word_ok (N : Nat) : OrcOk (O_spec_Word N) := addFn_ok (o_spec_l01Mod_ok N) (noFn_ok)
def g_spec_Word (N : Nat) {R : Type} (n : Int) (k : Int → Option R) : Option R :=
  (g_spec_l01Mod N n (4294967296 : Int) fun n1 =>
  (k n1))
theorem e_spec_Word (N : Nat) {R : Type} (n : Int) (K : AV → Hp E → Option R) :
    runFnI (E := E) (O_spec_Word N) (noIt) sl_spec_Word J_spec_Word Go.Proofs.Try.f138 [(Go.Eng.AV.sc (Go.Eng.SV.int Go.IntKind.i64 n))] [] K =
      g_spec_Word N n (fun n2 => K (Go.Eng.AV.sc (Go.Eng.SV.int Go.IntKind.i64 n2)) []) := by kernel_rfl
def o_spec_Word (N : Nat) {R : Type} (args : List AV) (H : Hp E) (K : AV → Hp E → Option R) : Option R :=
  match args, H with
  | [(Go.Eng.AV.sc (Go.Eng.SV.int Go.IntKind.i64 n))], [] => g_spec_Word N n (fun n2 => K (Go.Eng.AV.sc (Go.Eng.SV.int Go.IntKind.i64 n2)) [])
  | _, _ => none
theorem o_spec_Word_ok (N : Nat) : FnOk E 138 (o_spec_Word N) := by
  intro R args H K r h
  unfold o_spec_Word at h
  dsimp only at h
  split at h
  · exact fnB_ok (ids := []) (top := []) ok (O_spec_Word_ok N) (jn_ok _ _) Go.Proofs.Try.func138 (by kernel_rfl) (IT := noIt) (sl := sl_spec_Word) (J := J_spec_Word) (K := K) (H := []) (noIt_ok) (by kernel_rfl) rfl ((e_spec_Word N _ K).trans h)
  · cases h
/-! ### loop.example/g00038/spec.PutWord -/
abbrev sl_spec_PutWord : SlotT := []
abbrev J_spec_PutWord : JT := jn [] []
noncomputable def O_spec_PutWord (N : Nat) : Orc E := addFn 138 (o_spec_Word N) (noFn)
theorem O_spec_PutWord_ok (N : Nat) : OrcOk (O_spec_PutWord N) := addFn_ok (o_spec_Word_ok N) (noFn_ok)
def g_spec_PutWord (N : Nat) {R : Type} (n : Int) (k : ByteArray → Option R) : Option R :=
  (g_spec_Word N n fun n1 =>
  (k (Go.Eng.toBytes (Go.Eng.seg [(Go.IntKind.wrap Go.IntKind.u8 n1), (Go.IntKind.wrap Go.IntKind.u8 (Int.fdiv n1 (256 : Int))), (Go.IntKind.wrap Go.IntKind.u8 (Int.fdiv n1 (65536 : Int))), (Go.IntKind.wrap Go.IntKind.u8 (Int.fdiv n1 (16777216 : Int)))] 0 (List.length [(Go.IntKind.wrap Go.IntKind.u8 n1), (Go.IntKind.wrap Go.IntKind.u8 (Int.fdiv n1 (256 : Int))), (Go.IntKind.wrap Go.IntKind.u8 (Int.fdiv n1 (65536 : Int))), (Go.IntKind.wrap Go.IntKind.u8 (Int.fdiv n1 (16777216 : Int)))])))))
theorem e_spec_PutWord (N : Nat) {R : Type} (n : Int) (K : AV → Hp E → Option R) :
    runFnI (E := E) (O_spec_PutWord N) (noIt) sl_spec_PutWord J_spec_PutWord Go.Proofs.Try.f87 [(Go.Eng.AV.sc (Go.Eng.SV.int Go.IntKind.i64 n))] [] K =
      g_spec_PutWord N n (fun s => K (Go.Eng.AV.sc (Go.Eng.SV.str s)) []) := by kernel_rfl
def o_spec_PutWord (N : Nat) {R : Type} (args : List AV) (H : Hp E) (K : AV → Hp E → Option R) : Option R :=
  match args, H with
  | [(Go.Eng.AV.sc (Go.Eng.SV.int Go.IntKind.i64 n))], [] => g_spec_PutWord N n (fun s => K (Go.Eng.AV.sc (Go.Eng.SV.str s)) [])
  | _, _ => none
theorem o_spec_PutWord_ok (N : Nat) : FnOk E 87 (o_spec_PutWord N) := by
  intro R args H K r h
  unfold o_spec_PutWord at h
  dsimp only at h
  split at h
  · exact fnB_ok (ids := []) (top := []) ok (O_spec_PutWord_ok N) (jn_ok _ _) Go.Proofs.Try.func87 (by kernel_rfl) (IT := noIt) (sl := sl_spec_PutWord) (J := J_spec_PutWord) (K := K) (H := []) (noIt_ok) (by kernel_rfl) rfl ((e_spec_PutWord N _ K).trans h)
  · cases h
/-! ### loop.example/g00038/impl.PutWord -/
abbrev sl_impl_PutWord : SlotT := []
abbrev J_impl_PutWord : JT := jn [] []
noncomputable def O_impl_PutWord (N : Nat) : Orc E := noFn
theorem O_impl_PutWord_ok (N : Nat) : OrcOk (O_impl_PutWord N) := noFn_ok
def g_impl_PutWord (N : Nat) {R : Type} (n : Int) (k : ByteArray → Option R) : Option R :=
  (k (Go.Eng.toBytes (Go.Eng.seg [(Go.IntKind.wrap Go.IntKind.u8 (Go.IntKind.wrap Go.IntKind.u32 n)), (Go.IntKind.wrap Go.IntKind.u8 (Int.fdiv (Go.IntKind.wrap Go.IntKind.u32 n) (256 : Int))), (Go.IntKind.wrap Go.IntKind.u8 (Int.fdiv (Go.IntKind.wrap Go.IntKind.u32 n) (65536 : Int))), (Go.IntKind.wrap Go.IntKind.u8 (Int.fdiv (Go.IntKind.wrap Go.IntKind.u32 n) (16777216 : Int)))] 0 (List.length [(Go.IntKind.wrap Go.IntKind.u8 (Go.IntKind.wrap Go.IntKind.u32 n)), (Go.IntKind.wrap Go.IntKind.u8 (Int.fdiv (Go.IntKind.wrap Go.IntKind.u32 n) (256 : Int))), (Go.IntKind.wrap Go.IntKind.u8 (Int.fdiv (Go.IntKind.wrap Go.IntKind.u32 n) (65536 : Int))), (Go.IntKind.wrap Go.IntKind.u8 (Int.fdiv (Go.IntKind.wrap Go.IntKind.u32 n) (16777216 : Int)))]))))
theorem e_impl_PutWord (N : Nat) {R : Type} (n : Int) (K : AV → Hp E → Option R) :
    runFnI (E := E) (O_impl_PutWord N) (noIt) sl_impl_PutWord J_impl_PutWord Go.Proofs.Try.f91 [(Go.Eng.AV.sc (Go.Eng.SV.int Go.IntKind.i64 n))] [] K =
      g_impl_PutWord N n (fun s => K (Go.Eng.AV.sc (Go.Eng.SV.str s)) []) := by kernel_rfl
def o_impl_PutWord (N : Nat) {R : Type} (args : List AV) (H : Hp E) (K : AV → Hp E → Option R) : Option R :=
  match args, H with
  | [(Go.Eng.AV.sc (Go.Eng.SV.int Go.IntKind.i64 n))], [] => g_impl_PutWord N n (fun s => K (Go.Eng.AV.sc (Go.Eng.SV.str s)) [])
  | _, _ => none
theorem o_impl_PutWord_ok (N : Nat) : FnOk E 91 (o_impl_PutWord N) := by
  intro R args H K r h
  unfold o_impl_PutWord at h
  dsimp only at h
  split at h
  · exact fnB_ok (ids := []) (top := []) ok (O_impl_PutWord_ok N) (jn_ok _ _) Go.Proofs.Try.func91 (by kernel_rfl) (IT := noIt) (sl := sl_impl_PutWord) (J := J_impl_PutWord) (K := K) (H := []) (noIt_ok) (by kernel_rfl) rfl ((e_impl_PutWord N _ K).trans h)
  · cases h
/-! ### loop.example/g00038/laws.eqFirmTable -/
abbrev sl_laws_eqFirmTable : SlotT := []
abbrev J_laws_eqFirmTable : JT := jn [] []
noncomputable def O_laws_eqFirmTable (N : Nat) : Orc E := noFn
theorem O_laws_eqFirmTable_ok (N : Nat) : OrcOk (O_laws_eqFirmTable N) := noFn_ok
def g_laws_eqFirmTable (N : Nat) {R : Type} (s : ByteArray) (n : Int) (s1 : ByteArray) (s2 : ByteArray) (n1 : Int) (s3 : ByteArray) (k : Bool → Option R) : Option R :=
  (cond (!(decide ((s = s2))))
  (k Bool.false)
  (cond (n != n1)
    (k Bool.false)
    (cond (!(decide ((s1 = s3))))
      (k Bool.false)
      (k Bool.true))))
theorem e_laws_eqFirmTable (N : Nat) {R : Type} (s : ByteArray) (n : Int) (s1 : ByteArray) (s2 : ByteArray) (n1 : Int) (s3 : ByteArray) (K : AV → Hp E → Option R) :
    runFnI (E := E) (O_laws_eqFirmTable N) (noIt) sl_laws_eqFirmTable J_laws_eqFirmTable Go.Proofs.Try.f98 [(Go.Eng.AV.agg [(Go.Eng.SV.str s), (Go.Eng.SV.int Go.IntKind.i64 n), (Go.Eng.SV.str s1)]), (Go.Eng.AV.agg [(Go.Eng.SV.str s2), (Go.Eng.SV.int Go.IntKind.i64 n1), (Go.Eng.SV.str s3)])] [] K =
      g_laws_eqFirmTable N s n s1 s2 n1 s3 (fun b => K (Go.Eng.AV.sc (Go.Eng.SV.bool b)) []) := by kernel_rfl
def o_laws_eqFirmTable (N : Nat) {R : Type} (args : List AV) (H : Hp E) (K : AV → Hp E → Option R) : Option R :=
  match args, H with
  | [(Go.Eng.AV.agg [(Go.Eng.SV.str s), (Go.Eng.SV.int Go.IntKind.i64 n), (Go.Eng.SV.str s1)]), (Go.Eng.AV.agg [(Go.Eng.SV.str s2), (Go.Eng.SV.int Go.IntKind.i64 n1), (Go.Eng.SV.str s3)])], [] => g_laws_eqFirmTable N s n s1 s2 n1 s3 (fun b => K (Go.Eng.AV.sc (Go.Eng.SV.bool b)) [])
  | _, _ => none
theorem o_laws_eqFirmTable_ok (N : Nat) : FnOk E 98 (o_laws_eqFirmTable N) := by
  intro R args H K r h
  unfold o_laws_eqFirmTable at h
  dsimp only at h
  split at h
  · exact fnB_ok (ids := []) (top := []) ok (O_laws_eqFirmTable_ok N) (jn_ok _ _) Go.Proofs.Try.func98 (by kernel_rfl) (IT := noIt) (sl := sl_laws_eqFirmTable) (J := J_laws_eqFirmTable) (K := K) (H := []) (noIt_ok) (by kernel_rfl) rfl ((e_laws_eqFirmTable N _ _ _ _ _ _ K).trans h)
  · cases h
/-! ### loop.example/g00038/laws.eqFirmTableS -/
abbrev sl_laws_eqFirmTableS_ww : SlotT := [(0, ([0, 1, 5], [4]))]
abbrev J_laws_eqFirmTableS_ww : JT := jn [] []
noncomputable def O_laws_eqFirmTableS_ww (N : Nat) : Orc E := addFn 98 (o_laws_eqFirmTable N) (noFn)
theorem O_laws_eqFirmTableS_ww_ok (N : Nat) : OrcOk (O_laws_eqFirmTableS_ww N) := addFn_ok (o_laws_eqFirmTable_ok N) (noFn_ok)
def s_laws_eqFirmTableS_ww_0 (N : Nat) {R : Type} (b2 : Bool) (b3 : Bool) (l2 : List Go.Sa.FirmTable) (l3 : List Go.Sa.FirmTable) (n : Int) (ag : Int → Option R)  (kR : Option R) (kN : Option R) : Option R :=
  (cond (decide ((n < (((List.length l2) : Nat) : Int))))
  (cond ((decide (((0 : Int) ≤ n))) && (decide ((n < (((List.length l2) : Nat) : Int)))))
    (elemK l2 (Int.toNat n) fun x =>
      (cond ((decide (((0 : Int) ≤ n))) && (decide ((n < (((List.length l3) : Nat) : Int)))))
      (elemK l3 (Int.toNat n) fun x1 =>
        (g_laws_eqFirmTable N (Go.Sa.FirmTable.fName x) (Go.Sa.FirmTable.fRev x) (Go.Sa.FirmTable.fBody x) (Go.Sa.FirmTable.fName x1) (Go.Sa.FirmTable.fRev x1) (Go.Sa.FirmTable.fBody x1) fun b4 =>
        (cond (!b4)
        kR
        (ag (Go.IntKind.wrap Go.IntKind.i64 (n + (1 : Int)))))))
      none))
    none)
  kN)
def l_laws_eqFirmTableS_ww_0 (N : Nat) {R : Type} (b2 : Bool) (b3 : Bool) (l2 : List Go.Sa.FirmTable) (l3 : List Go.Sa.FirmTable) (kR : Option R) (kN : Option R) : Nat → Int → Option R
  | 0, _ => none
  | f + 1, n => s_laws_eqFirmTableS_ww_0 N b2 b3 l2 l3 n (fun n => l_laws_eqFirmTableS_ww_0 N b2 b3 l2 l3 kR kN f n)  kR kN
def c_laws_eqFirmTableS_ww_0 (N : Nat) {R : Type} (b2 : Bool) (b3 : Bool) (l2 : List Go.Sa.FirmTable) (l3 : List Go.Sa.FirmTable) (n : Int) (kR : Option R) (kN : Option R) : Option R := l_laws_eqFirmTableS_ww_0 N b2 b3 l2 l3 kR kN N n
theorem se_laws_eqFirmTableS_ww_0 (N : Nat) {R : Type} (b2 : Bool) (b3 : Bool) (l2 : List Go.Sa.FirmTable) (l3 : List Go.Sa.FirmTable) (n : Int) (AG : List (Option AV) → Hp E → Option R) (KL : Ex → List (Option AV) → Hp E → Option R) :
    iterStep (E := E) (O_laws_eqFirmTableS_ww N) (fun {R} => LI (noIt) 2 27 sl_laws_eqFirmTableS_ww (R := R)) J_laws_eqFirmTableS_ww 2 27 0 [0, 1, 5] [4] (body Go.Proofs.Try.f49 0) AG KL [(Option.some (Go.Eng.AV.sc (Go.Eng.SV.slc 0 Option.none b2))), (Option.some (Go.Eng.AV.sc (Go.Eng.SV.slc 1 Option.none b3))), (Option.some (Go.Eng.AV.sc (Go.Eng.SV.int Go.IntKind.i64 n)))] [(Option.some (Go.Eng.HE.mk Bool.false (Go.Eng.HB.rows (Go.Sa.B.iFirmTable l2)))), (Option.some (Go.Eng.HE.mk Bool.false (Go.Eng.HB.rows (Go.Sa.B.iFirmTable l3))))] =
      s_laws_eqFirmTableS_ww_0 N b2 b3 l2 l3 n (fun n => AG [(Option.some (Go.Eng.AV.sc (Go.Eng.SV.slc 0 Option.none b2))), (Option.some (Go.Eng.AV.sc (Go.Eng.SV.slc 1 Option.none b3))), (Option.some (Go.Eng.AV.sc (Go.Eng.SV.int Go.IntKind.i64 n)))] [(Option.some (Go.Eng.HE.mk Bool.false (Go.Eng.HB.rows (Go.Sa.B.iFirmTable l2)))), (Option.some (Go.Eng.HE.mk Bool.false (Go.Eng.HB.rows (Go.Sa.B.iFirmTable l3))))])  (KL Go.Eng.Ex.ret [(Option.some (Go.Eng.AV.sc (Go.Eng.SV.bool Bool.false)))] [(Option.some (Go.Eng.HE.mk Bool.false (Go.Eng.HB.rows (Go.Sa.B.iFirmTable l2)))), (Option.some (Go.Eng.HE.mk Bool.false (Go.Eng.HB.rows (Go.Sa.B.iFirmTable l3))))]) (KL Go.Eng.Ex.normal [Option.none] [(Option.some (Go.Eng.HE.mk Bool.false (Go.Eng.HB.rows (Go.Sa.B.iFirmTable l2)))), (Option.some (Go.Eng.HE.mk Bool.false (Go.Eng.HB.rows (Go.Sa.B.iFirmTable l3))))]) := by kernel_rfl
theorem le_laws_eqFirmTableS_ww_0 (N : Nat) {R : Type} (b2 : Bool) (b3 : Bool) (l2 : List Go.Sa.FirmTable) (l3 : List Go.Sa.FirmTable) (KL : Ex → List (Option AV) → Hp E → Option R) : ∀ (f : Nat), ∀ (n : Int), iterK (E := E) (O_laws_eqFirmTableS_ww N) (fun {R} => LI (noIt) 2 27 sl_laws_eqFirmTableS_ww (R := R)) J_laws_eqFirmTableS_ww 2 27 0 [0, 1, 5] [4] (body Go.Proofs.Try.f49 0) f [(Option.some (Go.Eng.AV.sc (Go.Eng.SV.slc 0 Option.none b2))), (Option.some (Go.Eng.AV.sc (Go.Eng.SV.slc 1 Option.none b3))), (Option.some (Go.Eng.AV.sc (Go.Eng.SV.int Go.IntKind.i64 n)))] [(Option.some (Go.Eng.HE.mk Bool.false (Go.Eng.HB.rows (Go.Sa.B.iFirmTable l2)))), (Option.some (Go.Eng.HE.mk Bool.false (Go.Eng.HB.rows (Go.Sa.B.iFirmTable l3))))] KL = l_laws_eqFirmTableS_ww_0 N b2 b3 l2 l3 (KL Go.Eng.Ex.ret [(Option.some (Go.Eng.AV.sc (Go.Eng.SV.bool Bool.false)))] [(Option.some (Go.Eng.HE.mk Bool.false (Go.Eng.HB.rows (Go.Sa.B.iFirmTable l2)))), (Option.some (Go.Eng.HE.mk Bool.false (Go.Eng.HB.rows (Go.Sa.B.iFirmTable l3))))]) (KL Go.Eng.Ex.normal [Option.none] [(Option.some (Go.Eng.HE.mk Bool.false (Go.Eng.HB.rows (Go.Sa.B.iFirmTable l2)))), (Option.some (Go.Eng.HE.mk Bool.false (Go.Eng.HB.rows (Go.Sa.B.iFirmTable l3))))]) f n := by
  intro f
  induction f with
  | zero => intros; rfl
  | succ f ih =>
    intro n
    rw [iterK_succ, se_laws_eqFirmTableS_ww_0]
    exact (congrArg (fun z0 => s_laws_eqFirmTableS_ww_0 N b2 b3 l2 l3 n z0 (KL Go.Eng.Ex.ret [(Option.some (Go.Eng.AV.sc (Go.Eng.SV.bool Bool.false)))] [(Option.some (Go.Eng.HE.mk Bool.false (Go.Eng.HB.rows (Go.Sa.B.iFirmTable l2)))), (Option.some (Go.Eng.HE.mk Bool.false (Go.Eng.HB.rows (Go.Sa.B.iFirmTable l3))))]) (KL Go.Eng.Ex.normal [Option.none] [(Option.some (Go.Eng.HE.mk Bool.false (Go.Eng.HB.rows (Go.Sa.B.iFirmTable l2)))), (Option.some (Go.Eng.HE.mk Bool.false (Go.Eng.HB.rows (Go.Sa.B.iFirmTable l3))))])) (funext fun n => ih n))
def i_laws_eqFirmTableS_ww_0 (N : Nat) {R : Type} (vs : List (Option AV)) (H : Hp E) (KL : Ex → List (Option AV) → Hp E → Option R) : Option R :=
  match vs, H with
  | [(Option.some (Go.Eng.AV.sc (Go.Eng.SV.slc 0 Option.none b2))), (Option.some (Go.Eng.AV.sc (Go.Eng.SV.slc 1 Option.none b3))), (Option.some (Go.Eng.AV.sc (Go.Eng.SV.int Go.IntKind.i64 n)))], [(Option.some (Go.Eng.HE.mk Bool.false (Go.Eng.HB.rows (Go.Sa.B.iFirmTable l2)))), (Option.some (Go.Eng.HE.mk Bool.false (Go.Eng.HB.rows (Go.Sa.B.iFirmTable l3))))] => c_laws_eqFirmTableS_ww_0 N b2 b3 l2 l3 n (KL Go.Eng.Ex.ret [(Option.some (Go.Eng.AV.sc (Go.Eng.SV.bool Bool.false)))] [(Option.some (Go.Eng.HE.mk Bool.false (Go.Eng.HB.rows (Go.Sa.B.iFirmTable l2)))), (Option.some (Go.Eng.HE.mk Bool.false (Go.Eng.HB.rows (Go.Sa.B.iFirmTable l3))))]) (KL Go.Eng.Ex.normal [Option.none] [(Option.some (Go.Eng.HE.mk Bool.false (Go.Eng.HB.rows (Go.Sa.B.iFirmTable l2)))), (Option.some (Go.Eng.HE.mk Bool.false (Go.Eng.HB.rows (Go.Sa.B.iFirmTable l3))))])
  | _, _ => none
noncomputable def IT_laws_eqFirmTableS_ww_0 (N : Nat) : Its E := addIt 0 (i_laws_eqFirmTableS_ww_0 N) (noIt)
theorem IT_laws_eqFirmTableS_ww_0_ok (N : Nat) : ItOk (IT_laws_eqFirmTableS_ww_0 N) 2 27 sl_laws_eqFirmTableS_ww (lsB Go.Proofs.Try.f49 [0]) :=
  addItB_ok (inner := []) ok (O_laws_eqFirmTableS_ww_ok N) (jn_ok _ _) (noIt_ok) rfl (by kernel_rfl) rfl fun vs H KL r h => by
    unfold i_laws_eqFirmTableS_ww_0 at h
    split at h
    · exact ⟨_, (le_laws_eqFirmTableS_ww_0 N _ _ _ _ KL N _).trans h⟩
    · cases h
def g_laws_eqFirmTableS_ww (N : Nat) {R : Type} (b : Bool) (b1 : Bool) (l : List Go.Sa.FirmTable) (l1 : List Go.Sa.FirmTable) (k : Bool → Option R) : Option R :=
  (cond ((((List.length l) : Nat) : Int) != (((List.length l1) : Nat) : Int))
  (k Bool.false)
  (c_laws_eqFirmTableS_ww_0 N b b1 l l1 (0 : Int) (
    (k Bool.false)) (
    (k Bool.true))))
theorem e_laws_eqFirmTableS_ww (N : Nat) {R : Type} (b : Bool) (b1 : Bool) (l : List Go.Sa.FirmTable) (l1 : List Go.Sa.FirmTable) (K : AV → Hp E → Option R) :
    runFnI (E := E) (O_laws_eqFirmTableS_ww N) (IT_laws_eqFirmTableS_ww_0 N) sl_laws_eqFirmTableS_ww J_laws_eqFirmTableS_ww Go.Proofs.Try.f49 [(Go.Eng.AV.sc (Go.Eng.SV.slc 0 Option.none b)), (Go.Eng.AV.sc (Go.Eng.SV.slc 1 Option.none b1))] [(Option.some (Go.Eng.HE.mk Bool.false (Go.Eng.HB.rows (Go.Sa.B.iFirmTable l)))), (Option.some (Go.Eng.HE.mk Bool.false (Go.Eng.HB.rows (Go.Sa.B.iFirmTable l1))))] K =
      g_laws_eqFirmTableS_ww N b b1 l l1 (fun b5 => K (Go.Eng.AV.sc (Go.Eng.SV.bool b5)) [(Option.some (Go.Eng.HE.mk Bool.false (Go.Eng.HB.rows (Go.Sa.B.iFirmTable l)))), (Option.some (Go.Eng.HE.mk Bool.false (Go.Eng.HB.rows (Go.Sa.B.iFirmTable l1))))]) := by kernel_rfl
def o_laws_eqFirmTableS_ww (N : Nat) {R : Type} (args : List AV) (H : Hp E) (K : AV → Hp E → Option R) : Option R :=
  match args, H with
  | [(Go.Eng.AV.sc (Go.Eng.SV.slc 0 Option.none b)), (Go.Eng.AV.sc (Go.Eng.SV.slc 1 Option.none b1))], [(Option.some (Go.Eng.HE.mk Bool.false (Go.Eng.HB.rows (Go.Sa.B.iFirmTable l)))), (Option.some (Go.Eng.HE.mk Bool.false (Go.Eng.HB.rows (Go.Sa.B.iFirmTable l1))))] => g_laws_eqFirmTableS_ww N b b1 l l1 (fun b5 => K (Go.Eng.AV.sc (Go.Eng.SV.bool b5)) [(Option.some (Go.Eng.HE.mk Bool.false (Go.Eng.HB.rows (Go.Sa.B.iFirmTable l)))), (Option.some (Go.Eng.HE.mk Bool.false (Go.Eng.HB.rows (Go.Sa.B.iFirmTable l1))))])
  | _, _ => none
theorem o_laws_eqFirmTableS_ww_ok (N : Nat) : FnOk E 49 (o_laws_eqFirmTableS_ww N) := by
  intro R args H K r h
  unfold o_laws_eqFirmTableS_ww at h
  dsimp only at h
  split at h
  · exact fnB_ok (ids := [0]) (top := [0]) ok (O_laws_eqFirmTableS_ww_ok N) (jn_ok _ _) Go.Proofs.Try.func49 (by kernel_rfl) (IT := IT_laws_eqFirmTableS_ww_0 N) (sl := sl_laws_eqFirmTableS_ww) (J := J_laws_eqFirmTableS_ww) (K := K) (H := [(Option.some (Go.Eng.HE.mk Bool.false (Go.Eng.HB.rows (Go.Sa.B.iFirmTable _)))), (Option.some (Go.Eng.HE.mk Bool.false (Go.Eng.HB.rows (Go.Sa.B.iFirmTable _))))]) (IT_laws_eqFirmTableS_ww_0_ok N) (by kernel_rfl) rfl ((e_laws_eqFirmTableS_ww N _ _ _ _ K).trans h)
  · cases h
/-! ### loop.example/g00038/laws.szFirmTable -/
abbrev sl_laws_szFirmTable : SlotT := []
abbrev J_laws_szFirmTable : JT := jn [] []
noncomputable def O_laws_szFirmTable (N : Nat) : Orc E := noFn
theorem O_laws_szFirmTable_ok (N : Nat) : OrcOk (O_laws_szFirmTable N) := noFn_ok
def g_laws_szFirmTable (N : Nat) {R : Type} (s : ByteArray) (n : Int) (s1 : ByteArray) (n1 : Int) (k : Int → Option R) : Option R :=
  (cond (decide (((Go.IntKind.wrap Go.IntKind.i64 (n1 - (((ByteArray.size s) : Nat) : Int))) < (0 : Int))))
  (k (-(1 : Int)))
  (cond (decide (((Go.IntKind.wrap Go.IntKind.i64 ((Go.IntKind.wrap Go.IntKind.i64 (n1 - (((ByteArray.size s) : Nat) : Int))) - (((ByteArray.size s1) : Nat) : Int))) < (0 : Int))))
    (k (-(1 : Int)))
    (k (Go.IntKind.wrap Go.IntKind.i64 ((Go.IntKind.wrap Go.IntKind.i64 (n1 - (((ByteArray.size s) : Nat) : Int))) - (((ByteArray.size s1) : Nat) : Int))))))
theorem e_laws_szFirmTable (N : Nat) {R : Type} (s : ByteArray) (n : Int) (s1 : ByteArray) (n1 : Int) (K : AV → Hp E → Option R) :
    runFnI (E := E) (O_laws_szFirmTable N) (noIt) sl_laws_szFirmTable J_laws_szFirmTable Go.Proofs.Try.f101 [(Go.Eng.AV.agg [(Go.Eng.SV.str s), (Go.Eng.SV.int Go.IntKind.i64 n), (Go.Eng.SV.str s1)]), (Go.Eng.AV.sc (Go.Eng.SV.int Go.IntKind.i64 n1))] [] K =
      g_laws_szFirmTable N s n s1 n1 (fun n2 => K (Go.Eng.AV.sc (Go.Eng.SV.int Go.IntKind.i64 n2)) []) := by kernel_rfl
def o_laws_szFirmTable (N : Nat) {R : Type} (args : List AV) (H : Hp E) (K : AV → Hp E → Option R) : Option R :=
  match args, H with
  | [(Go.Eng.AV.agg [(Go.Eng.SV.str s), (Go.Eng.SV.int Go.IntKind.i64 n), (Go.Eng.SV.str s1)]), (Go.Eng.AV.sc (Go.Eng.SV.int Go.IntKind.i64 n1))], [] => g_laws_szFirmTable N s n s1 n1 (fun n2 => K (Go.Eng.AV.sc (Go.Eng.SV.int Go.IntKind.i64 n2)) [])
  | _, _ => none
theorem o_laws_szFirmTable_ok (N : Nat) : FnOk E 101 (o_laws_szFirmTable N) := by
  intro R args H K r h
  unfold o_laws_szFirmTable at h
  dsimp only at h
  split at h
  · exact fnB_ok (ids := []) (top := []) ok (O_laws_szFirmTable_ok N) (jn_ok _ _) Go.Proofs.Try.func101 (by kernel_rfl) (IT := noIt) (sl := sl_laws_szFirmTable) (J := J_laws_szFirmTable) (K := K) (H := []) (noIt_ok) (by kernel_rfl) rfl ((e_laws_szFirmTable N _ _ _ _ K).trans h)
  · cases h
/-! ### loop.example/g00038/laws.szFirmTableS -/
abbrev sl_laws_szFirmTableS_r : SlotT := [(0, ([0, 1, 5], [1, 4]))]
abbrev J_laws_szFirmTableS_r : JT := jn [] []
noncomputable def O_laws_szFirmTableS_r (N : Nat) : Orc E := addFn 101 (o_laws_szFirmTable N) (noFn)
theorem O_laws_szFirmTableS_r_ok (N : Nat) : OrcOk (O_laws_szFirmTableS_r N) := addFn_ok (o_laws_szFirmTable_ok N) (noFn_ok)
def s_laws_szFirmTableS_r_0 (N : Nat) {R : Type} (b1 : Bool) (l1 : List Go.Sa.FirmTable) (n1 : Int) (n2 : Int) (ag : Int → Int → Option R)  (kR : Int → Option R) (kN : Int → Option R) : Option R :=
  (cond (decide ((n2 < (((List.length l1) : Nat) : Int))))
  (cond ((decide (((0 : Int) ≤ n2))) && (decide ((n2 < (((List.length l1) : Nat) : Int)))))
    (elemK l1 (Int.toNat n2) fun x =>
      (g_laws_szFirmTable N (Go.Sa.FirmTable.fName x) (Go.Sa.FirmTable.fRev x) (Go.Sa.FirmTable.fBody x) n1 fun n3 =>
      (cond (decide ((n3 < (0 : Int))))
      (kR n3)
      (ag n3 (Go.IntKind.wrap Go.IntKind.i64 (n2 + (1 : Int)))))))
    none)
  (kN n1))
def l_laws_szFirmTableS_r_0 (N : Nat) {R : Type} (b1 : Bool) (l1 : List Go.Sa.FirmTable) (kR : Int → Option R) (kN : Int → Option R) : Nat → Int → Int → Option R
  | 0, _, _ => none
  | f + 1, n1, n2 => s_laws_szFirmTableS_r_0 N b1 l1 n1 n2 (fun n1 n2 => l_laws_szFirmTableS_r_0 N b1 l1 kR kN f n1 n2)  kR kN
def c_laws_szFirmTableS_r_0 (N : Nat) {R : Type} (b1 : Bool) (l1 : List Go.Sa.FirmTable) (n1 : Int) (n2 : Int) (kR : Int → Option R) (kN : Int → Option R) : Option R := l_laws_szFirmTableS_r_0 N b1 l1 kR kN N n1 n2
theorem se_laws_szFirmTableS_r_0 (N : Nat) {R : Type} (b1 : Bool) (l1 : List Go.Sa.FirmTable) (n1 : Int) (n2 : Int) (AG : List (Option AV) → Hp E → Option R) (KL : Ex → List (Option AV) → Hp E → Option R) :
    iterStep (E := E) (O_laws_szFirmTableS_r N) (fun {R} => LI (noIt) 1 27 sl_laws_szFirmTableS_r (R := R)) J_laws_szFirmTableS_r 1 27 0 [0, 1, 5] [1, 4] (body Go.Proofs.Try.f53 0) AG KL [(Option.some (Go.Eng.AV.sc (Go.Eng.SV.slc 0 Option.none b1))), (Option.some (Go.Eng.AV.sc (Go.Eng.SV.int Go.IntKind.i64 n1))), (Option.some (Go.Eng.AV.sc (Go.Eng.SV.int Go.IntKind.i64 n2)))] [(Option.some (Go.Eng.HE.mk Bool.true (Go.Eng.HB.rows (Go.Sa.B.lFirmTable l1))))] =
      s_laws_szFirmTableS_r_0 N b1 l1 n1 n2 (fun n1 n2 => AG [(Option.some (Go.Eng.AV.sc (Go.Eng.SV.slc 0 Option.none b1))), (Option.some (Go.Eng.AV.sc (Go.Eng.SV.int Go.IntKind.i64 n1))), (Option.some (Go.Eng.AV.sc (Go.Eng.SV.int Go.IntKind.i64 n2)))] [(Option.some (Go.Eng.HE.mk Bool.true (Go.Eng.HB.rows (Go.Sa.B.lFirmTable l1))))])  (fun n7 => KL Go.Eng.Ex.ret [(Option.some (Go.Eng.AV.sc (Go.Eng.SV.int Go.IntKind.i64 n7))), (Option.some (Go.Eng.AV.sc (Go.Eng.SV.int Go.IntKind.i64 (-(1 : Int)))))] [(Option.some (Go.Eng.HE.mk Bool.true (Go.Eng.HB.rows (Go.Sa.B.lFirmTable l1))))]) (fun n8 => KL Go.Eng.Ex.normal [(Option.some (Go.Eng.AV.sc (Go.Eng.SV.int Go.IntKind.i64 n8))), Option.none] [(Option.some (Go.Eng.HE.mk Bool.true (Go.Eng.HB.rows (Go.Sa.B.lFirmTable l1))))]) := by kernel_rfl
theorem le_laws_szFirmTableS_r_0 (N : Nat) {R : Type} (b1 : Bool) (l1 : List Go.Sa.FirmTable) (KL : Ex → List (Option AV) → Hp E → Option R) : ∀ (f : Nat), ∀ (n1 : Int) (n2 : Int), iterK (E := E) (O_laws_szFirmTableS_r N) (fun {R} => LI (noIt) 1 27 sl_laws_szFirmTableS_r (R := R)) J_laws_szFirmTableS_r 1 27 0 [0, 1, 5] [1, 4] (body Go.Proofs.Try.f53 0) f [(Option.some (Go.Eng.AV.sc (Go.Eng.SV.slc 0 Option.none b1))), (Option.some (Go.Eng.AV.sc (Go.Eng.SV.int Go.IntKind.i64 n1))), (Option.some (Go.Eng.AV.sc (Go.Eng.SV.int Go.IntKind.i64 n2)))] [(Option.some (Go.Eng.HE.mk Bool.true (Go.Eng.HB.rows (Go.Sa.B.lFirmTable l1))))] KL = l_laws_szFirmTableS_r_0 N b1 l1 (fun n7 => KL Go.Eng.Ex.ret [(Option.some (Go.Eng.AV.sc (Go.Eng.SV.int Go.IntKind.i64 n7))), (Option.some (Go.Eng.AV.sc (Go.Eng.SV.int Go.IntKind.i64 (-(1 : Int)))))] [(Option.some (Go.Eng.HE.mk Bool.true (Go.Eng.HB.rows (Go.Sa.B.lFirmTable l1))))]) (fun n8 => KL Go.Eng.Ex.normal [(Option.some (Go.Eng.AV.sc (Go.Eng.SV.int Go.IntKind.i64 n8))), Option.none] [(Option.some (Go.Eng.HE.mk Bool.true (Go.Eng.HB.rows (Go.Sa.B.lFirmTable l1))))]) f n1 n2 := by
  intro f
  induction f with
  | zero => intros; rfl
  | succ f ih =>
    intro n1 n2
    rw [iterK_succ, se_laws_szFirmTableS_r_0]
    exact (congrArg (fun z0 => s_laws_szFirmTableS_r_0 N b1 l1 n1 n2 z0 (fun n7 => KL Go.Eng.Ex.ret [(Option.some (Go.Eng.AV.sc (Go.Eng.SV.int Go.IntKind.i64 n7))), (Option.some (Go.Eng.AV.sc (Go.Eng.SV.int Go.IntKind.i64 (-(1 : Int)))))] [(Option.some (Go.Eng.HE.mk Bool.true (Go.Eng.HB.rows (Go.Sa.B.lFirmTable l1))))]) (fun n8 => KL Go.Eng.Ex.normal [(Option.some (Go.Eng.AV.sc (Go.Eng.SV.int Go.IntKind.i64 n8))), Option.none] [(Option.some (Go.Eng.HE.mk Bool.true (Go.Eng.HB.rows (Go.Sa.B.lFirmTable l1))))])) (funext fun n1 => funext fun n2 => ih n1 n2))
def i_laws_szFirmTableS_r_0 (N : Nat) {R : Type} (vs : List (Option AV)) (H : Hp E) (KL : Ex → List (Option AV) → Hp E → Option R) : Option R :=
  match vs, H with
  | [(Option.some (Go.Eng.AV.sc (Go.Eng.SV.slc 0 Option.none b1))), (Option.some (Go.Eng.AV.sc (Go.Eng.SV.int Go.IntKind.i64 n1))), (Option.some (Go.Eng.AV.sc (Go.Eng.SV.int Go.IntKind.i64 n2)))], [(Option.some (Go.Eng.HE.mk Bool.true (Go.Eng.HB.rows (Go.Sa.B.lFirmTable l1))))] => c_laws_szFirmTableS_r_0 N b1 l1 n1 n2 (fun n9 => KL Go.Eng.Ex.ret [(Option.some (Go.Eng.AV.sc (Go.Eng.SV.int Go.IntKind.i64 n9))), (Option.some (Go.Eng.AV.sc (Go.Eng.SV.int Go.IntKind.i64 (-(1 : Int)))))] [(Option.some (Go.Eng.HE.mk Bool.true (Go.Eng.HB.rows (Go.Sa.B.lFirmTable l1))))]) (fun n10 => KL Go.Eng.Ex.normal [(Option.some (Go.Eng.AV.sc (Go.Eng.SV.int Go.IntKind.i64 n10))), Option.none] [(Option.some (Go.Eng.HE.mk Bool.true (Go.Eng.HB.rows (Go.Sa.B.lFirmTable l1))))])
  | _, _ => none
noncomputable def IT_laws_szFirmTableS_r_0 (N : Nat) : Its E := addIt 0 (i_laws_szFirmTableS_r_0 N) (noIt)
theorem IT_laws_szFirmTableS_r_0_ok (N : Nat) : ItOk (IT_laws_szFirmTableS_r_0 N) 1 27 sl_laws_szFirmTableS_r (lsB Go.Proofs.Try.f53 [0]) :=
  addItB_ok (inner := []) ok (O_laws_szFirmTableS_r_ok N) (jn_ok _ _) (noIt_ok) rfl (by kernel_rfl) rfl fun vs H KL r h => by
    unfold i_laws_szFirmTableS_r_0 at h
    split at h
    · exact ⟨_, (le_laws_szFirmTableS_r_0 N _ _ KL N _ _).trans h⟩
    · cases h
def g_laws_szFirmTableS_r (N : Nat) {R : Type} (b : Bool) (n : Int) (l : List Go.Sa.FirmTable) (k : Int → Option R) : Option R :=
  (cond (decide (((Go.IntKind.wrap Go.IntKind.i64 (n - (((List.length l) : Nat) : Int))) < (0 : Int))))
  (k (-(1 : Int)))
  (c_laws_szFirmTableS_r_0 N b l (Go.IntKind.wrap Go.IntKind.i64 (n - (((List.length l) : Nat) : Int))) (0 : Int) (fun n4 =>
    (k (-(1 : Int)))) (fun n5 =>
    (k n5))))
theorem e_laws_szFirmTableS_r (N : Nat) {R : Type} (b : Bool) (n : Int) (l : List Go.Sa.FirmTable) (K : AV → Hp E → Option R) :
    runFnI (E := E) (O_laws_szFirmTableS_r N) (IT_laws_szFirmTableS_r_0 N) sl_laws_szFirmTableS_r J_laws_szFirmTableS_r Go.Proofs.Try.f53 [(Go.Eng.AV.sc (Go.Eng.SV.slc 0 Option.none b)), (Go.Eng.AV.sc (Go.Eng.SV.int Go.IntKind.i64 n))] [(Option.some (Go.Eng.HE.mk Bool.true (Go.Eng.HB.rows (Go.Sa.B.lFirmTable l))))] K =
      g_laws_szFirmTableS_r N b n l (fun n6 => K (Go.Eng.AV.sc (Go.Eng.SV.int Go.IntKind.i64 n6)) [(Option.some (Go.Eng.HE.mk Bool.true (Go.Eng.HB.rows (Go.Sa.B.lFirmTable l))))]) := by kernel_rfl
def o_laws_szFirmTableS_r (N : Nat) {R : Type} (args : List AV) (H : Hp E) (K : AV → Hp E → Option R) : Option R :=
  match args, H with
  | [(Go.Eng.AV.sc (Go.Eng.SV.slc 0 Option.none b)), (Go.Eng.AV.sc (Go.Eng.SV.int Go.IntKind.i64 n))], [(Option.some (Go.Eng.HE.mk Bool.true (Go.Eng.HB.rows (Go.Sa.B.lFirmTable l))))] => g_laws_szFirmTableS_r N b n l (fun n6 => K (Go.Eng.AV.sc (Go.Eng.SV.int Go.IntKind.i64 n6)) [(Option.some (Go.Eng.HE.mk Bool.true (Go.Eng.HB.rows (Go.Sa.B.lFirmTable l))))])
  | _, _ => none
theorem o_laws_szFirmTableS_r_ok (N : Nat) : FnOk E 53 (o_laws_szFirmTableS_r N) := by
  intro R args H K r h
  unfold o_laws_szFirmTableS_r at h
  dsimp only at h
  split at h
  · exact fnB_ok (ids := [0]) (top := [0]) ok (O_laws_szFirmTableS_r_ok N) (jn_ok _ _) Go.Proofs.Try.func53 (by kernel_rfl) (IT := IT_laws_szFirmTableS_r_0 N) (sl := sl_laws_szFirmTableS_r) (J := J_laws_szFirmTableS_r) (K := K) (H := [(Option.some (Go.Eng.HE.mk Bool.true (Go.Eng.HB.rows (Go.Sa.B.lFirmTable _))))]) (IT_laws_szFirmTableS_r_0_ok N) (by kernel_rfl) rfl ((e_laws_szFirmTableS_r N _ _ _ K).trans h)
  · cases h
/-! ### loop.example/g00038/laws.toFirmTable -/
abbrev sl_laws_toFirmTable : SlotT := []
abbrev J_laws_toFirmTable : JT := jn [] []
noncomputable def O_laws_toFirmTable (N : Nat) : Orc E := noFn
theorem O_laws_toFirmTable_ok (N : Nat) : OrcOk (O_laws_toFirmTable N) := noFn_ok
def g_laws_toFirmTable (N : Nat) {R : Type} (s : ByteArray) (n : Int) (s1 : ByteArray) (k : Option R) : Option R :=
  k
theorem e_laws_toFirmTable (N : Nat) {R : Type} (s : ByteArray) (n : Int) (s1 : ByteArray) (K : AV → Hp E → Option R) :
    runFnI (E := E) (O_laws_toFirmTable N) (noIt) sl_laws_toFirmTable J_laws_toFirmTable Go.Proofs.Try.f106 [(Go.Eng.AV.agg [(Go.Eng.SV.str s), (Go.Eng.SV.int Go.IntKind.i64 n), (Go.Eng.SV.str s1)])] [] K =
      g_laws_toFirmTable N s n s1 (K (Go.Eng.AV.agg [(Go.Eng.SV.str s), (Go.Eng.SV.int Go.IntKind.i64 n), (Go.Eng.SV.str s1)]) []) := by kernel_rfl
def o_laws_toFirmTable (N : Nat) {R : Type} (args : List AV) (H : Hp E) (K : AV → Hp E → Option R) : Option R :=
  match args, H with
  | [(Go.Eng.AV.agg [(Go.Eng.SV.str s), (Go.Eng.SV.int Go.IntKind.i64 n), (Go.Eng.SV.str s1)])], [] => g_laws_toFirmTable N s n s1 (K (Go.Eng.AV.agg [(Go.Eng.SV.str s), (Go.Eng.SV.int Go.IntKind.i64 n), (Go.Eng.SV.str s1)]) [])
  | _, _ => none
theorem o_laws_toFirmTable_ok (N : Nat) : FnOk E 106 (o_laws_toFirmTable N) := by
  intro R args H K r h
  unfold o_laws_toFirmTable at h
  dsimp only at h
  split at h
  · exact fnB_ok (ids := []) (top := []) ok (O_laws_toFirmTable_ok N) (jn_ok _ _) Go.Proofs.Try.func106 (by kernel_rfl) (IT := noIt) (sl := sl_laws_toFirmTable) (J := J_laws_toFirmTable) (K := K) (H := []) (noIt_ok) (by kernel_rfl) rfl ((e_laws_toFirmTable N _ _ _ K).trans h)
  · cases h
/-! ### loop.example/g00038/laws.toFirmTableS -/
abbrev sl_laws_toFirmTableS_r : SlotT := [(0, ([0, 3, 4], [3]))]
abbrev J_laws_toFirmTableS_r : JT := jn [] []
noncomputable def O_laws_toFirmTableS_r (N : Nat) : Orc E := addFn 106 (o_laws_toFirmTable N) (noFn)
theorem O_laws_toFirmTableS_r_ok (N : Nat) : OrcOk (O_laws_toFirmTableS_r N) := addFn_ok (o_laws_toFirmTable_ok N) (noFn_ok)
def s_laws_toFirmTableS_r_0 (N : Nat) {R : Type} (b1 : Bool) (b2 : Bool) (l1 : List Go.Sa.FirmTable) (n : Int) (l2 : List Go.Sa.FirmTable) (ag : Int → (List Go.Sa.FirmTable) → Option R)  (kN : (List Go.Sa.FirmTable) → Option R) : Option R :=
  (cond (decide ((n < (((List.length l1) : Nat) : Int))))
  (cond ((decide (((0 : Int) ≤ n))) && (decide ((n < (((List.length l1) : Nat) : Int)))))
    (elemK l1 (Int.toNat n) fun x =>
      (g_laws_toFirmTable N (Go.Sa.FirmTable.fName x) (Go.Sa.FirmTable.fRev x) (Go.Sa.FirmTable.fBody x) 
      (cond ((decide (((0 : Int) ≤ n))) && (decide ((n < (((List.length l2) : Nat) : Int)))))
      (elemK l2 (Int.toNat n) fun x1 =>
        (cond (Nat.blt (Int.toNat n) (List.length l2))
        (ag (Go.IntKind.wrap Go.IntKind.i64 (n + (1 : Int))) (Go.Eng.nset l2 (Int.toNat n) (Go.Sa.FirmTable.mk (Go.Sa.FirmTable.fName x) (Go.Sa.FirmTable.fRev x) (Go.Sa.FirmTable.fBody x))))
        none))
      none)))
    none)
  (kN l2))
def l_laws_toFirmTableS_r_0 (N : Nat) {R : Type} (b1 : Bool) (b2 : Bool) (l1 : List Go.Sa.FirmTable) (kN : (List Go.Sa.FirmTable) → Option R) : Nat → Int → (List Go.Sa.FirmTable) → Option R
  | 0, _, _ => none
  | f + 1, n, l2 => s_laws_toFirmTableS_r_0 N b1 b2 l1 n l2 (fun n l2 => l_laws_toFirmTableS_r_0 N b1 b2 l1 kN f n l2)  kN
def c_laws_toFirmTableS_r_0 (N : Nat) {R : Type} (b1 : Bool) (b2 : Bool) (l1 : List Go.Sa.FirmTable) (n : Int) (l2 : List Go.Sa.FirmTable) (kN : (List Go.Sa.FirmTable) → Option R) : Option R := l_laws_toFirmTableS_r_0 N b1 b2 l1 kN N n l2
theorem se_laws_toFirmTableS_r_0 (N : Nat) {R : Type} (b1 : Bool) (b2 : Bool) (l1 : List Go.Sa.FirmTable) (n : Int) (l2 : List Go.Sa.FirmTable) (AG : List (Option AV) → Hp E → Option R) (KL : Ex → List (Option AV) → Hp E → Option R) :
    iterStep (E := E) (O_laws_toFirmTableS_r N) (fun {R} => LI (noIt) 1 23 sl_laws_toFirmTableS_r (R := R)) J_laws_toFirmTableS_r 1 23 0 [0, 3, 4] [3] (body Go.Proofs.Try.f55 0) AG KL [(Option.some (Go.Eng.AV.sc (Go.Eng.SV.slc 0 Option.none b1))), (Option.some (Go.Eng.AV.sc (Go.Eng.SV.slc 1 Option.none b2))), (Option.some (Go.Eng.AV.sc (Go.Eng.SV.int Go.IntKind.i64 n)))] [(Option.some (Go.Eng.HE.mk Bool.true (Go.Eng.HB.rows (Go.Sa.B.lFirmTable l1)))), (Option.some (Go.Eng.HE.mk Bool.false (Go.Eng.HB.rows (Go.Sa.B.iFirmTable l2))))] =
      s_laws_toFirmTableS_r_0 N b1 b2 l1 n l2 (fun n l2 => AG [(Option.some (Go.Eng.AV.sc (Go.Eng.SV.slc 0 Option.none b1))), (Option.some (Go.Eng.AV.sc (Go.Eng.SV.slc 1 Option.none b2))), (Option.some (Go.Eng.AV.sc (Go.Eng.SV.int Go.IntKind.i64 n)))] [(Option.some (Go.Eng.HE.mk Bool.true (Go.Eng.HB.rows (Go.Sa.B.lFirmTable l1)))), (Option.some (Go.Eng.HE.mk Bool.false (Go.Eng.HB.rows (Go.Sa.B.iFirmTable l2))))])  (fun l5 => KL Go.Eng.Ex.normal [(Option.some (Go.Eng.AV.sc (Go.Eng.SV.slc 1 Option.none b2)))] [(Option.some (Go.Eng.HE.mk Bool.true (Go.Eng.HB.rows (Go.Sa.B.lFirmTable l1)))), (Option.some (Go.Eng.HE.mk Bool.false (Go.Eng.HB.rows (Go.Sa.B.iFirmTable l5))))]) := by kernel_rfl
theorem le_laws_toFirmTableS_r_0 (N : Nat) {R : Type} (b1 : Bool) (b2 : Bool) (l1 : List Go.Sa.FirmTable) (KL : Ex → List (Option AV) → Hp E → Option R) : ∀ (f : Nat), ∀ (n : Int) (l2 : List Go.Sa.FirmTable), iterK (E := E) (O_laws_toFirmTableS_r N) (fun {R} => LI (noIt) 1 23 sl_laws_toFirmTableS_r (R := R)) J_laws_toFirmTableS_r 1 23 0 [0, 3, 4] [3] (body Go.Proofs.Try.f55 0) f [(Option.some (Go.Eng.AV.sc (Go.Eng.SV.slc 0 Option.none b1))), (Option.some (Go.Eng.AV.sc (Go.Eng.SV.slc 1 Option.none b2))), (Option.some (Go.Eng.AV.sc (Go.Eng.SV.int Go.IntKind.i64 n)))] [(Option.some (Go.Eng.HE.mk Bool.true (Go.Eng.HB.rows (Go.Sa.B.lFirmTable l1)))), (Option.some (Go.Eng.HE.mk Bool.false (Go.Eng.HB.rows (Go.Sa.B.iFirmTable l2))))] KL = l_laws_toFirmTableS_r_0 N b1 b2 l1 (fun l5 => KL Go.Eng.Ex.normal [(Option.some (Go.Eng.AV.sc (Go.Eng.SV.slc 1 Option.none b2)))] [(Option.some (Go.Eng.HE.mk Bool.true (Go.Eng.HB.rows (Go.Sa.B.lFirmTable l1)))), (Option.some (Go.Eng.HE.mk Bool.false (Go.Eng.HB.rows (Go.Sa.B.iFirmTable l5))))]) f n l2 := by
  intro f
  induction f with
  | zero => intros; rfl
  | succ f ih =>
    intro n l2
    rw [iterK_succ, se_laws_toFirmTableS_r_0]
    exact (congrArg (fun z0 => s_laws_toFirmTableS_r_0 N b1 b2 l1 n l2 z0 (fun l5 => KL Go.Eng.Ex.normal [(Option.some (Go.Eng.AV.sc (Go.Eng.SV.slc 1 Option.none b2)))] [(Option.some (Go.Eng.HE.mk Bool.true (Go.Eng.HB.rows (Go.Sa.B.lFirmTable l1)))), (Option.some (Go.Eng.HE.mk Bool.false (Go.Eng.HB.rows (Go.Sa.B.iFirmTable l5))))])) (funext fun n => funext fun l2 => ih n l2))
def i_laws_toFirmTableS_r_0 (N : Nat) {R : Type} (vs : List (Option AV)) (H : Hp E) (KL : Ex → List (Option AV) → Hp E → Option R) : Option R :=
  match vs, H with
  | [(Option.some (Go.Eng.AV.sc (Go.Eng.SV.slc 0 Option.none b1))), (Option.some (Go.Eng.AV.sc (Go.Eng.SV.slc 1 Option.none b2))), (Option.some (Go.Eng.AV.sc (Go.Eng.SV.int Go.IntKind.i64 n)))], [(Option.some (Go.Eng.HE.mk Bool.true (Go.Eng.HB.rows (Go.Sa.B.lFirmTable l1)))), (Option.some (Go.Eng.HE.mk Bool.false (Go.Eng.HB.rows (Go.Sa.B.iFirmTable l2))))] => c_laws_toFirmTableS_r_0 N b1 b2 l1 n l2 (fun l6 => KL Go.Eng.Ex.normal [(Option.some (Go.Eng.AV.sc (Go.Eng.SV.slc 1 Option.none b2)))] [(Option.some (Go.Eng.HE.mk Bool.true (Go.Eng.HB.rows (Go.Sa.B.lFirmTable l1)))), (Option.some (Go.Eng.HE.mk Bool.false (Go.Eng.HB.rows (Go.Sa.B.iFirmTable l6))))])
  | _, _ => none
noncomputable def IT_laws_toFirmTableS_r_0 (N : Nat) : Its E := addIt 0 (i_laws_toFirmTableS_r_0 N) (noIt)
theorem IT_laws_toFirmTableS_r_0_ok (N : Nat) : ItOk (IT_laws_toFirmTableS_r_0 N) 1 23 sl_laws_toFirmTableS_r (lsB Go.Proofs.Try.f55 [0]) :=
  addItB_ok (inner := []) ok (O_laws_toFirmTableS_r_ok N) (jn_ok _ _) (noIt_ok) rfl (by kernel_rfl) rfl fun vs H KL r h => by
    unfold i_laws_toFirmTableS_r_0 at h
    split at h
    · exact ⟨_, (le_laws_toFirmTableS_r_0 N _ _ _ KL N _ _).trans h⟩
    · cases h
def g_laws_toFirmTableS_r (N : Nat) {R : Type} (b : Bool) (l : List Go.Sa.FirmTable) (k : (List Go.Sa.FirmTable) → Option R) : Option R :=
  (cond (((decide (((((List.length l) : Nat) : Int) = (((List.length l) : Nat) : Int)))) && Bool.true) && (Go.Eng.roomOk (Int.toNat (((List.length l) : Nat) : Int)) 40))
  (c_laws_toFirmTableS_r_0 N b Bool.false l (0 : Int) (List.replicate (Int.toNat (((List.length l) : Nat) : Int)) (Go.Sa.FirmTable.mk (ByteArray.mk (List.toArray [])) (0 : Int) (ByteArray.mk (List.toArray [])))) fun l3 =>
    (k l3))
  none)
theorem e_laws_toFirmTableS_r (N : Nat) {R : Type} (b : Bool) (l : List Go.Sa.FirmTable) (K : AV → Hp E → Option R) :
    runFnI (E := E) (O_laws_toFirmTableS_r N) (IT_laws_toFirmTableS_r_0 N) sl_laws_toFirmTableS_r J_laws_toFirmTableS_r Go.Proofs.Try.f55 [(Go.Eng.AV.sc (Go.Eng.SV.slc 0 Option.none b))] [(Option.some (Go.Eng.HE.mk Bool.true (Go.Eng.HB.rows (Go.Sa.B.lFirmTable l))))] K =
      g_laws_toFirmTableS_r N b l (fun l4 => K (Go.Eng.AV.sc (Go.Eng.SV.slc 1 Option.none Bool.false)) [(Option.some (Go.Eng.HE.mk Bool.true (Go.Eng.HB.rows (Go.Sa.B.lFirmTable l)))), (Option.some (Go.Eng.HE.mk Bool.false (Go.Eng.HB.rows (Go.Sa.B.iFirmTable l4))))]) := by kernel_rfl
def o_laws_toFirmTableS_r (N : Nat) {R : Type} (args : List AV) (H : Hp E) (K : AV → Hp E → Option R) : Option R :=
  match args, H with
  | [(Go.Eng.AV.sc (Go.Eng.SV.slc 0 Option.none b))], [(Option.some (Go.Eng.HE.mk Bool.true (Go.Eng.HB.rows (Go.Sa.B.lFirmTable l))))] => g_laws_toFirmTableS_r N b l (fun l4 => K (Go.Eng.AV.sc (Go.Eng.SV.slc 1 Option.none Bool.false)) [(Option.some (Go.Eng.HE.mk Bool.true (Go.Eng.HB.rows (Go.Sa.B.lFirmTable l)))), (Option.some (Go.Eng.HE.mk Bool.false (Go.Eng.HB.rows (Go.Sa.B.iFirmTable l4))))])
  | _, _ => none
theorem o_laws_toFirmTableS_r_ok (N : Nat) : FnOk E 55 (o_laws_toFirmTableS_r N) := by
  intro R args H K r h
  unfold o_laws_toFirmTableS_r at h
  dsimp only at h
  split at h
  · exact fnB_ok (ids := [0]) (top := [0]) ok (O_laws_toFirmTableS_r_ok N) (jn_ok _ _) Go.Proofs.Try.func55 (by kernel_rfl) (IT := IT_laws_toFirmTableS_r_0 N) (sl := sl_laws_toFirmTableS_r) (J := J_laws_toFirmTableS_r) (K := K) (H := [(Option.some (Go.Eng.HE.mk Bool.true (Go.Eng.HB.rows (Go.Sa.B.lFirmTable _))))]) (IT_laws_toFirmTableS_r_0_ok N) (by kernel_rfl) rfl ((e_laws_toFirmTableS_r N _ _ K).trans h)
  · cases h
/-! ### loop.example/g00038/spec.MemFault -/
abbrev sl_spec_MemFault : SlotT := []
abbrev J_spec_MemFault : JT := jn [(1, [(16, .b)])] []
noncomputable def O_spec_MemFault (N : Nat) : Orc E := noFn
theorem O_spec_MemFault_ok (N : Nat) : OrcOk (O_spec_MemFault N) := noFn_ok
def g_spec_MemFault (N : Nat) {R : Type} (s : ByteArray) (k : Int → Option R) : Option R :=
  (oK (cond ((((ByteArray.size s) : Nat) : Int) == (0 : Int))
    (some Bool.true)
    (cond ((Int.tmod (((ByteArray.size s) : Nat) : Int) (256 : Int)) != (0 : Int))
      (some Bool.true)
      (some (decide (((((ByteArray.size s) : Nat) : Int) > (65536 : Int))))))) fun j =>
  (cond j
  (k (1 : Int))
  (k (0 : Int))))
theorem e_spec_MemFault (N : Nat) {R : Type} (s : ByteArray) (K : AV → Hp E → Option R) :
    runFnI (E := E) (O_spec_MemFault N) (noIt) sl_spec_MemFault J_spec_MemFault Go.Proofs.Try.f102 [(Go.Eng.AV.sc (Go.Eng.SV.str s))] [] K =
      g_spec_MemFault N s (fun n => K (Go.Eng.AV.sc (Go.Eng.SV.int Go.IntKind.i64 n)) []) := by kernel_rfl
def o_spec_MemFault (N : Nat) {R : Type} (args : List AV) (H : Hp E) (K : AV → Hp E → Option R) : Option R :=
  match args, H with
  | [(Go.Eng.AV.sc (Go.Eng.SV.str s))], [] => g_spec_MemFault N s (fun n => K (Go.Eng.AV.sc (Go.Eng.SV.int Go.IntKind.i64 n)) [])
  | _, _ => none
theorem o_spec_MemFault_ok (N : Nat) : FnOk E 102 (o_spec_MemFault N) := by
  intro R args H K r h
  unfold o_spec_MemFault at h
  dsimp only at h
  split at h
  · exact fnB_ok (ids := []) (top := []) ok (O_spec_MemFault_ok N) (jn_ok _ _) Go.Proofs.Try.func102 (by kernel_rfl) (IT := noIt) (sl := sl_spec_MemFault) (J := J_spec_MemFault) (K := K) (H := []) (noIt_ok) (by kernel_rfl) rfl ((e_spec_MemFault N _ K).trans h)
  · cases h
/-! ### loop.example/g00038/spec.l21Name -/
abbrev sl_spec_l21Name : SlotT := [(0, ([0, 3], [2]))]
abbrev J_spec_l21Name : JT := jn [(6, [(20, .b)])] []
noncomputable def O_spec_l21Name (N : Nat) : Orc E := noFn
theorem O_spec_l21Name_ok (N : Nat) : OrcOk (O_spec_l21Name N) := noFn_ok
def s_spec_l21Name_0 (N : Nat) {R : Type} (s1 : ByteArray) (n : Int) (ag : Int → Option R)  (kR : Option R) (kN : Option R) : Option R :=
  (cond (decide ((n < (4 : Int))))
  (oK (cond ((decide (((0 : Int) ≤ n))) && (decide ((n < (((ByteArray.size s1) : Nat) : Int)))))
      (cond (decide (((Go.Eng.bt s1 (Int.toNat n)) < (65 : Int))))
        (some Bool.true)
        (cond ((decide (((0 : Int) ≤ n))) && (decide ((n < (((ByteArray.size s1) : Nat) : Int)))))
          (some (decide (((Go.Eng.bt s1 (Int.toNat n)) > (90 : Int)))))
          none))
      none) fun j =>
    (cond j
    kR
    (ag (Go.IntKind.wrap Go.IntKind.i64 (n + (1 : Int))))))
  kN)
def l_spec_l21Name_0 (N : Nat) {R : Type} (s1 : ByteArray) (kR : Option R) (kN : Option R) : Nat → Int → Option R
  | 0, _ => none
  | f + 1, n => s_spec_l21Name_0 N s1 n (fun n => l_spec_l21Name_0 N s1 kR kN f n)  kR kN
def c_spec_l21Name_0 (N : Nat) {R : Type} (s1 : ByteArray) (n : Int) (kR : Option R) (kN : Option R) : Option R := l_spec_l21Name_0 N s1 kR kN N n
theorem se_spec_l21Name_0 (N : Nat) {R : Type} (s1 : ByteArray) (n : Int) (AG : List (Option AV) → Hp E → Option R) (KL : Ex → List (Option AV) → Hp E → Option R) :
    iterStep (E := E) (O_spec_l21Name N) (fun {R} => LI (noIt) 0 21 sl_spec_l21Name (R := R)) J_spec_l21Name 0 21 0 [0, 3] [2] (body Go.Proofs.Try.f142 0) AG KL [(Option.some (Go.Eng.AV.sc (Go.Eng.SV.str s1))), (Option.some (Go.Eng.AV.sc (Go.Eng.SV.int Go.IntKind.i64 n)))] [] =
      s_spec_l21Name_0 N s1 n (fun n => AG [(Option.some (Go.Eng.AV.sc (Go.Eng.SV.str s1))), (Option.some (Go.Eng.AV.sc (Go.Eng.SV.int Go.IntKind.i64 n)))] [])  (KL Go.Eng.Ex.ret [(Option.some (Go.Eng.AV.sc (Go.Eng.SV.bool Bool.false)))] []) (KL Go.Eng.Ex.normal [Option.none] []) := by kernel_rfl
theorem le_spec_l21Name_0 (N : Nat) {R : Type} (s1 : ByteArray) (KL : Ex → List (Option AV) → Hp E → Option R) : ∀ (f : Nat), ∀ (n : Int), iterK (E := E) (O_spec_l21Name N) (fun {R} => LI (noIt) 0 21 sl_spec_l21Name (R := R)) J_spec_l21Name 0 21 0 [0, 3] [2] (body Go.Proofs.Try.f142 0) f [(Option.some (Go.Eng.AV.sc (Go.Eng.SV.str s1))), (Option.some (Go.Eng.AV.sc (Go.Eng.SV.int Go.IntKind.i64 n)))] [] KL = l_spec_l21Name_0 N s1 (KL Go.Eng.Ex.ret [(Option.some (Go.Eng.AV.sc (Go.Eng.SV.bool Bool.false)))] []) (KL Go.Eng.Ex.normal [Option.none] []) f n := by
  intro f
  induction f with
  | zero => intros; rfl
  | succ f ih =>
    intro n
    rw [iterK_succ, se_spec_l21Name_0]
    exact (congrArg (fun z0 => s_spec_l21Name_0 N s1 n z0 (KL Go.Eng.Ex.ret [(Option.some (Go.Eng.AV.sc (Go.Eng.SV.bool Bool.false)))] []) (KL Go.Eng.Ex.normal [Option.none] [])) (funext fun n => ih n))
def i_spec_l21Name_0 (N : Nat) {R : Type} (vs : List (Option AV)) (H : Hp E) (KL : Ex → List (Option AV) → Hp E → Option R) : Option R :=
  match vs, H with
  | [(Option.some (Go.Eng.AV.sc (Go.Eng.SV.str s1))), (Option.some (Go.Eng.AV.sc (Go.Eng.SV.int Go.IntKind.i64 n)))], [] => c_spec_l21Name_0 N s1 n (KL Go.Eng.Ex.ret [(Option.some (Go.Eng.AV.sc (Go.Eng.SV.bool Bool.false)))] []) (KL Go.Eng.Ex.normal [Option.none] [])
  | _, _ => none
noncomputable def IT_spec_l21Name_0 (N : Nat) : Its E := addIt 0 (i_spec_l21Name_0 N) (noIt)
theorem IT_spec_l21Name_0_ok (N : Nat) : ItOk (IT_spec_l21Name_0 N) 0 21 sl_spec_l21Name (lsB Go.Proofs.Try.f142 [0]) :=
  addItB_ok (inner := []) ok (O_spec_l21Name_ok N) (jn_ok _ _) (noIt_ok) rfl (by kernel_rfl) rfl fun vs H KL r h => by
    unfold i_spec_l21Name_0 at h
    split at h
    · exact ⟨_, (le_spec_l21Name_0 N _ KL N _).trans h⟩
    · cases h
def g_spec_l21Name (N : Nat) {R : Type} (s : ByteArray) (k : Bool → Option R) : Option R :=
  (cond ((((ByteArray.size s) : Nat) : Int) != (4 : Int))
  (k Bool.false)
  (c_spec_l21Name_0 N s (0 : Int) (
    (k Bool.false)) (
    (k Bool.true))))
theorem e_spec_l21Name (N : Nat) {R : Type} (s : ByteArray) (K : AV → Hp E → Option R) :
    runFnI (E := E) (O_spec_l21Name N) (IT_spec_l21Name_0 N) sl_spec_l21Name J_spec_l21Name Go.Proofs.Try.f142 [(Go.Eng.AV.sc (Go.Eng.SV.str s))] [] K =
      g_spec_l21Name N s (fun b => K (Go.Eng.AV.sc (Go.Eng.SV.bool b)) []) := by kernel_rfl
def o_spec_l21Name (N : Nat) {R : Type} (args : List AV) (H : Hp E) (K : AV → Hp E → Option R) : Option R :=
  match args, H with
  | [(Go.Eng.AV.sc (Go.Eng.SV.str s))], [] => g_spec_l21Name N s (fun b => K (Go.Eng.AV.sc (Go.Eng.SV.bool b)) [])
  | _, _ => none
theorem o_spec_l21Name_ok (N : Nat) : FnOk E 142 (o_spec_l21Name N) := by
  intro R args H K r h
  unfold o_spec_l21Name at h
  dsimp only at h
  split at h
  · exact fnB_ok (ids := [0]) (top := [0]) ok (O_spec_l21Name_ok N) (jn_ok _ _) Go.Proofs.Try.func142 (by kernel_rfl) (IT := IT_spec_l21Name_0 N) (sl := sl_spec_l21Name) (J := J_spec_l21Name) (K := K) (H := []) (IT_spec_l21Name_0_ok N) (by kernel_rfl) rfl ((e_spec_l21Name N _ K).trans h)
  · cases h
/-! ### loop.example/g00038/spec.l21Bytes -/
abbrev sl_spec_l21Bytes : SlotT := [(0, ([0, 3, 4], [3]))]
abbrev J_spec_l21Bytes : JT := jn [] []
noncomputable def O_spec_l21Bytes (N : Nat) : Orc E := noFn
theorem O_spec_l21Bytes_ok (N : Nat) : OrcOk (O_spec_l21Bytes N) := noFn_ok
def s_spec_l21Bytes_0 (N : Nat) {R : Type} (s1 : ByteArray) (n : Int) (n1 : Int) (ag : Int → Int → Option R)  (kN : Int → Option R) : Option R :=
  (cond (decide ((n1 < (((ByteArray.size s1) : Nat) : Int))))
  (cond ((decide (((0 : Int) ≤ n1))) && (decide ((n1 < (((ByteArray.size s1) : Nat) : Int)))))
    (ag (Go.IntKind.wrap Go.IntKind.i64 (n + (Go.IntKind.wrap Go.IntKind.i64 (Go.Eng.bt s1 (Int.toNat n1))))) (Go.IntKind.wrap Go.IntKind.i64 (n1 + (1 : Int))))
    none)
  (kN n))
def l_spec_l21Bytes_0 (N : Nat) {R : Type} (s1 : ByteArray) (kN : Int → Option R) : Nat → Int → Int → Option R
  | 0, _, _ => none
  | f + 1, n, n1 => s_spec_l21Bytes_0 N s1 n n1 (fun n n1 => l_spec_l21Bytes_0 N s1 kN f n n1)  kN
def c_spec_l21Bytes_0 (N : Nat) {R : Type} (s1 : ByteArray) (n : Int) (n1 : Int) (kN : Int → Option R) : Option R := l_spec_l21Bytes_0 N s1 kN N n n1
theorem se_spec_l21Bytes_0 (N : Nat) {R : Type} (s1 : ByteArray) (n : Int) (n1 : Int) (AG : List (Option AV) → Hp E → Option R) (KL : Ex → List (Option AV) → Hp E → Option R) :
    iterStep (E := E) (O_spec_l21Bytes N) (fun {R} => LI (noIt) 0 18 sl_spec_l21Bytes (R := R)) J_spec_l21Bytes 0 18 0 [0, 3, 4] [3] (body Go.Proofs.Try.f143 0) AG KL [(Option.some (Go.Eng.AV.sc (Go.Eng.SV.str s1))), (Option.some (Go.Eng.AV.sc (Go.Eng.SV.int Go.IntKind.i64 n))), (Option.some (Go.Eng.AV.sc (Go.Eng.SV.int Go.IntKind.i64 n1)))] [] =
      s_spec_l21Bytes_0 N s1 n n1 (fun n n1 => AG [(Option.some (Go.Eng.AV.sc (Go.Eng.SV.str s1))), (Option.some (Go.Eng.AV.sc (Go.Eng.SV.int Go.IntKind.i64 n))), (Option.some (Go.Eng.AV.sc (Go.Eng.SV.int Go.IntKind.i64 n1)))] [])  (fun n4 => KL Go.Eng.Ex.normal [(Option.some (Go.Eng.AV.sc (Go.Eng.SV.int Go.IntKind.i64 n4)))] []) := by kernel_rfl
theorem le_spec_l21Bytes_0 (N : Nat) {R : Type} (s1 : ByteArray) (KL : Ex → List (Option AV) → Hp E → Option R) : ∀ (f : Nat), ∀ (n : Int) (n1 : Int), iterK (E := E) (O_spec_l21Bytes N) (fun {R} => LI (noIt) 0 18 sl_spec_l21Bytes (R := R)) J_spec_l21Bytes 0 18 0 [0, 3, 4] [3] (body Go.Proofs.Try.f143 0) f [(Option.some (Go.Eng.AV.sc (Go.Eng.SV.str s1))), (Option.some (Go.Eng.AV.sc (Go.Eng.SV.int Go.IntKind.i64 n))), (Option.some (Go.Eng.AV.sc (Go.Eng.SV.int Go.IntKind.i64 n1)))] [] KL = l_spec_l21Bytes_0 N s1 (fun n4 => KL Go.Eng.Ex.normal [(Option.some (Go.Eng.AV.sc (Go.Eng.SV.int Go.IntKind.i64 n4)))] []) f n n1 := by
  intro f
  induction f with
  | zero => intros; rfl
  | succ f ih =>
    intro n n1
    rw [iterK_succ, se_spec_l21Bytes_0]
    exact (congrArg (fun z0 => s_spec_l21Bytes_0 N s1 n n1 z0 (fun n4 => KL Go.Eng.Ex.normal [(Option.some (Go.Eng.AV.sc (Go.Eng.SV.int Go.IntKind.i64 n4)))] [])) (funext fun n => funext fun n1 => ih n n1))
def i_spec_l21Bytes_0 (N : Nat) {R : Type} (vs : List (Option AV)) (H : Hp E) (KL : Ex → List (Option AV) → Hp E → Option R) : Option R :=
  match vs, H with
  | [(Option.some (Go.Eng.AV.sc (Go.Eng.SV.str s1))), (Option.some (Go.Eng.AV.sc (Go.Eng.SV.int Go.IntKind.i64 n))), (Option.some (Go.Eng.AV.sc (Go.Eng.SV.int Go.IntKind.i64 n1)))], [] => c_spec_l21Bytes_0 N s1 n n1 (fun n5 => KL Go.Eng.Ex.normal [(Option.some (Go.Eng.AV.sc (Go.Eng.SV.int Go.IntKind.i64 n5)))] [])
  | _, _ => none
noncomputable def IT_spec_l21Bytes_0 (N : Nat) : Its E := addIt 0 (i_spec_l21Bytes_0 N) (noIt)
theorem IT_spec_l21Bytes_0_ok (N : Nat) : ItOk (IT_spec_l21Bytes_0 N) 0 18 sl_spec_l21Bytes (lsB Go.Proofs.Try.f143 [0]) :=
  addItB_ok (inner := []) ok (O_spec_l21Bytes_ok N) (jn_ok _ _) (noIt_ok) rfl (by kernel_rfl) rfl fun vs H KL r h => by
    unfold i_spec_l21Bytes_0 at h
    split at h
    · exact ⟨_, (le_spec_l21Bytes_0 N _ KL N _ _).trans h⟩
    · cases h
def g_spec_l21Bytes (N : Nat) {R : Type} (s : ByteArray) (k : Int → Option R) : Option R :=
  (c_spec_l21Bytes_0 N s (0 : Int) (0 : Int) fun n2 =>
  (k n2))
theorem e_spec_l21Bytes (N : Nat) {R : Type} (s : ByteArray) (K : AV → Hp E → Option R) :
    runFnI (E := E) (O_spec_l21Bytes N) (IT_spec_l21Bytes_0 N) sl_spec_l21Bytes J_spec_l21Bytes Go.Proofs.Try.f143 [(Go.Eng.AV.sc (Go.Eng.SV.str s))] [] K =
      g_spec_l21Bytes N s (fun n3 => K (Go.Eng.AV.sc (Go.Eng.SV.int Go.IntKind.i64 n3)) []) := by kernel_rfl
def o_spec_l21Bytes (N : Nat) {R : Type} (args : List AV) (H : Hp E) (K : AV → Hp E → Option R) : Option R :=
  match args, H with
  | [(Go.Eng.AV.sc (Go.Eng.SV.str s))], [] => g_spec_l21Bytes N s (fun n3 => K (Go.Eng.AV.sc (Go.Eng.SV.int Go.IntKind.i64 n3)) [])
  | _, _ => none
theorem o_spec_l21Bytes_ok (N : Nat) : FnOk E 143 (o_spec_l21Bytes N) := by
  intro R args H K r h
  unfold o_spec_l21Bytes at h
  dsimp only at h
  split at h
  · exact fnB_ok (ids := [0]) (top := [0]) ok (O_spec_l21Bytes_ok N) (jn_ok _ _) Go.Proofs.Try.func143 (by kernel_rfl) (IT := IT_spec_l21Bytes_0 N) (sl := sl_spec_l21Bytes) (J := J_spec_l21Bytes) (K := K) (H := []) (IT_spec_l21Bytes_0_ok N) (by kernel_rfl) rfl ((e_spec_l21Bytes N _ K).trans h)
  · cases h
/-! ### loop.example/g00038/spec.l21Table -/
abbrev sl_spec_l21Table : SlotT := []
abbrev J_spec_l21Table : JT := jn [(1, [(30, .b)])] []
noncomputable def O_spec_l21Table (N : Nat) : Orc E := addFn 139 (o_spec_l01Mod N) (addFn 143 (o_spec_l21Bytes N) (addFn 87 (o_spec_PutWord N) (addFn 142 (o_spec_l21Name N) (noFn))))
theorem O_spec_l21Table_ok (N : Nat) : OrcOk (O_spec_l21Table N) := addFn_ok (o_spec_l01Mod_ok N) (addFn_ok (o_spec_l21Bytes_ok N) (addFn_ok (o_spec_PutWord_ok N) (addFn_ok (o_spec_l21Name_ok N) (noFn_ok))))
def g_spec_l21Table (N : Nat) {R : Type} (s : ByteArray) (n : Int) (s1 : ByteArray) (k : ByteArray → Option R) : Option R :=
  (oK (g_spec_l21Name N s fun b =>
    (cond (!b)
    (some Bool.true)
    (cond (decide ((n < (0 : Int))))
      (some Bool.true)
      (cond (decide ((n > (255 : Int))))
        (some Bool.true)
        (cond (decide (((((ByteArray.size s1) : Nat) : Int) > (200 : Int))))
          (some Bool.true)
          (some ((Int.tmod (((ByteArray.size s1) : Nat) : Int) (4 : Int)) != (0 : Int)))))))) fun j =>
  (cond j
  (k (ByteArray.mk (List.toArray [])))
  (g_spec_PutWord N (Go.IntKind.wrap Go.IntKind.i64 ((Go.IntKind.wrap Go.IntKind.i64 ((Go.IntKind.wrap Go.IntKind.i64 ((((ByteArray.size s1) : Nat) : Int) + (8 : Int))) * (65536 : Int))) + (Go.IntKind.wrap Go.IntKind.i64 (n * (256 : Int))))) fun s2 =>
    (cond (Nat.ble ((ByteArray.size s) + (ByteArray.size s2)) 9223372036854775807)
    (cond (Nat.ble ((ByteArray.size (s ++ s2)) + (ByteArray.size s1)) 9223372036854775807)
      (g_spec_l21Bytes N ((s ++ s2) ++ s1) fun n1 =>
        (g_spec_l01Mod N (Go.IntKind.wrap Go.IntKind.i64 ((0 : Int) - n1)) (256 : Int) fun n2 =>
        (g_spec_PutWord N (Go.IntKind.wrap Go.IntKind.i64 ((Go.IntKind.wrap Go.IntKind.i64 ((Go.IntKind.wrap Go.IntKind.i64 ((Go.IntKind.wrap Go.IntKind.i64 ((((ByteArray.size s1) : Nat) : Int) + (8 : Int))) * (65536 : Int))) + (Go.IntKind.wrap Go.IntKind.i64 (n * (256 : Int))))) + n2)) fun s3 =>
        (cond (Nat.ble ((ByteArray.size s) + (ByteArray.size s3)) 9223372036854775807)
        (cond (Nat.ble ((ByteArray.size (s ++ s3)) + (ByteArray.size s1)) 9223372036854775807)
          (k ((s ++ s3) ++ s1))
          none)
        none))))
      none)
    none))))
theorem e_spec_l21Table (N : Nat) {R : Type} (s : ByteArray) (n : Int) (s1 : ByteArray) (K : AV → Hp E → Option R) :
    runFnI (E := E) (O_spec_l21Table N) (noIt) sl_spec_l21Table J_spec_l21Table Go.Proofs.Try.f103 [(Go.Eng.AV.agg [(Go.Eng.SV.str s), (Go.Eng.SV.int Go.IntKind.i64 n), (Go.Eng.SV.str s1)])] [] K =
      g_spec_l21Table N s n s1 (fun s4 => K (Go.Eng.AV.sc (Go.Eng.SV.str s4)) []) := by kernel_rfl
def o_spec_l21Table (N : Nat) {R : Type} (args : List AV) (H : Hp E) (K : AV → Hp E → Option R) : Option R :=
  match args, H with
  | [(Go.Eng.AV.agg [(Go.Eng.SV.str s), (Go.Eng.SV.int Go.IntKind.i64 n), (Go.Eng.SV.str s1)])], [] => g_spec_l21Table N s n s1 (fun s4 => K (Go.Eng.AV.sc (Go.Eng.SV.str s4)) [])
  | _, _ => none
theorem o_spec_l21Table_ok (N : Nat) : FnOk E 103 (o_spec_l21Table N) := by
  intro R args H K r h
  unfold o_spec_l21Table at h
  dsimp only at h
  split at h
  · exact fnB_ok (ids := []) (top := []) ok (O_spec_l21Table_ok N) (jn_ok _ _) Go.Proofs.Try.func103 (by kernel_rfl) (IT := noIt) (sl := sl_spec_l21Table) (J := J_spec_l21Table) (K := K) (H := []) (noIt_ok) (by kernel_rfl) rfl ((e_spec_l21Table N _ _ _ K).trans h)
  · cases h
/-! ### loop.example/g00038/spec.l01Word -/
abbrev sl_spec_l01Word : SlotT := []
abbrev J_spec_l01Word : JT := jn [] []
noncomputable def O_spec_l01Word (N : Nat) : Orc E := noFn
theorem O_spec_l01Word_ok (N : Nat) : OrcOk (O_spec_l01Word N) := noFn_ok
def g_spec_l01Word (N : Nat) {R : Type} (s : ByteArray) (n : Int) (k : Int → Option R) : Option R :=
  (cond ((decide (((0 : Int) ≤ n))) && (decide ((n < (((ByteArray.size s) : Nat) : Int)))))
  (cond ((decide (((0 : Int) ≤ (Go.IntKind.wrap Go.IntKind.i64 (n + (1 : Int)))))) && (decide (((Go.IntKind.wrap Go.IntKind.i64 (n + (1 : Int))) < (((ByteArray.size s) : Nat) : Int)))))
    (cond ((decide (((0 : Int) ≤ (Go.IntKind.wrap Go.IntKind.i64 (n + (2 : Int)))))) && (decide (((Go.IntKind.wrap Go.IntKind.i64 (n + (2 : Int))) < (((ByteArray.size s) : Nat) : Int)))))
      (cond ((decide (((0 : Int) ≤ (Go.IntKind.wrap Go.IntKind.i64 (n + (3 : Int)))))) && (decide (((Go.IntKind.wrap Go.IntKind.i64 (n + (3 : Int))) < (((ByteArray.size s) : Nat) : Int)))))
        (k (Go.IntKind.wrap Go.IntKind.i64 ((Go.IntKind.wrap Go.IntKind.i64 ((Go.IntKind.wrap Go.IntKind.i64 ((Go.IntKind.wrap Go.IntKind.i64 (Go.Eng.bt s (Int.toNat n))) + (Go.IntKind.wrap Go.IntKind.i64 ((Go.IntKind.wrap Go.IntKind.i64 (Go.Eng.bt s (Int.toNat (Go.IntKind.wrap Go.IntKind.i64 (n + (1 : Int)))))) * (256 : Int))))) + (Go.IntKind.wrap Go.IntKind.i64 ((Go.IntKind.wrap Go.IntKind.i64 (Go.Eng.bt s (Int.toNat (Go.IntKind.wrap Go.IntKind.i64 (n + (2 : Int)))))) * (65536 : Int))))) + (Go.IntKind.wrap Go.IntKind.i64 ((Go.IntKind.wrap Go.IntKind.i64 (Go.Eng.bt s (Int.toNat (Go.IntKind.wrap Go.IntKind.i64 (n + (3 : Int)))))) * (16777216 : Int))))))
        none)
      none)
    none)
  none)
theorem e_spec_l01Word (N : Nat) {R : Type} (s : ByteArray) (n : Int) (K : AV → Hp E → Option R) :
    runFnI (E := E) (O_spec_l01Word N) (noIt) sl_spec_l01Word J_spec_l01Word Go.Proofs.Try.f144 [(Go.Eng.AV.sc (Go.Eng.SV.str s)), (Go.Eng.AV.sc (Go.Eng.SV.int Go.IntKind.i64 n))] [] K =
      g_spec_l01Word N s n (fun n1 => K (Go.Eng.AV.sc (Go.Eng.SV.int Go.IntKind.i64 n1)) []) := by kernel_rfl
def o_spec_l01Word (N : Nat) {R : Type} (args : List AV) (H : Hp E) (K : AV → Hp E → Option R) : Option R :=
  match args, H with
  | [(Go.Eng.AV.sc (Go.Eng.SV.str s)), (Go.Eng.AV.sc (Go.Eng.SV.int Go.IntKind.i64 n))], [] => g_spec_l01Word N s n (fun n1 => K (Go.Eng.AV.sc (Go.Eng.SV.int Go.IntKind.i64 n1)) [])
  | _, _ => none
theorem o_spec_l01Word_ok (N : Nat) : FnOk E 144 (o_spec_l01Word N) := by
  intro R args H K r h
  unfold o_spec_l01Word at h
  dsimp only at h
  split at h
  · exact fnB_ok (ids := []) (top := []) ok (O_spec_l01Word_ok N) (jn_ok _ _) Go.Proofs.Try.func144 (by kernel_rfl) (IT := noIt) (sl := sl_spec_l01Word) (J := J_spec_l01Word) (K := K) (H := []) (noIt_ok) (by kernel_rfl) rfl ((e_spec_l01Word N _ _ K).trans h)
  · cases h
/-! ### loop.example/g00038/spec.l21Words -/
abbrev sl_spec_l21Words : SlotT := [(0, ([0, 3, 4], [3]))]
abbrev J_spec_l21Words : JT := jn [] []
noncomputable def O_spec_l21Words (N : Nat) : Orc E := addFn 144 (o_spec_l01Word N) (noFn)
theorem O_spec_l21Words_ok (N : Nat) : OrcOk (O_spec_l21Words N) := addFn_ok (o_spec_l01Word_ok N) (noFn_ok)
def s_spec_l21Words_0 (N : Nat) {R : Type} (s1 : ByteArray) (n : Int) (n1 : Int) (ag : Int → Int → Option R)  (kN : Int → Option R) : Option R :=
  (cond (decide (((Go.IntKind.wrap Go.IntKind.i64 (n1 + (4 : Int))) ≤ (((ByteArray.size s1) : Nat) : Int))))
  (g_spec_l01Word N s1 n1 fun n2 =>
    (ag (Go.IntKind.wrap Go.IntKind.i64 (n + n2)) (Go.IntKind.wrap Go.IntKind.i64 (n1 + (4 : Int)))))
  (kN n))
def l_spec_l21Words_0 (N : Nat) {R : Type} (s1 : ByteArray) (kN : Int → Option R) : Nat → Int → Int → Option R
  | 0, _, _ => none
  | f + 1, n, n1 => s_spec_l21Words_0 N s1 n n1 (fun n n1 => l_spec_l21Words_0 N s1 kN f n n1)  kN
def c_spec_l21Words_0 (N : Nat) {R : Type} (s1 : ByteArray) (n : Int) (n1 : Int) (kN : Int → Option R) : Option R := l_spec_l21Words_0 N s1 kN N n n1
theorem se_spec_l21Words_0 (N : Nat) {R : Type} (s1 : ByteArray) (n : Int) (n1 : Int) (AG : List (Option AV) → Hp E → Option R) (KL : Ex → List (Option AV) → Hp E → Option R) :
    iterStep (E := E) (O_spec_l21Words N) (fun {R} => LI (noIt) 0 18 sl_spec_l21Words (R := R)) J_spec_l21Words 0 18 0 [0, 3, 4] [3] (body Go.Proofs.Try.f104 0) AG KL [(Option.some (Go.Eng.AV.sc (Go.Eng.SV.str s1))), (Option.some (Go.Eng.AV.sc (Go.Eng.SV.int Go.IntKind.i64 n))), (Option.some (Go.Eng.AV.sc (Go.Eng.SV.int Go.IntKind.i64 n1)))] [] =
      s_spec_l21Words_0 N s1 n n1 (fun n n1 => AG [(Option.some (Go.Eng.AV.sc (Go.Eng.SV.str s1))), (Option.some (Go.Eng.AV.sc (Go.Eng.SV.int Go.IntKind.i64 n))), (Option.some (Go.Eng.AV.sc (Go.Eng.SV.int Go.IntKind.i64 n1)))] [])  (fun n5 => KL Go.Eng.Ex.normal [(Option.some (Go.Eng.AV.sc (Go.Eng.SV.int Go.IntKind.i64 n5)))] []) := by kernel_rfl
theorem le_spec_l21Words_0 (N : Nat) {R : Type} (s1 : ByteArray) (KL : Ex → List (Option AV) → Hp E → Option R) : ∀ (f : Nat), ∀ (n : Int) (n1 : Int), iterK (E := E) (O_spec_l21Words N) (fun {R} => LI (noIt) 0 18 sl_spec_l21Words (R := R)) J_spec_l21Words 0 18 0 [0, 3, 4] [3] (body Go.Proofs.Try.f104 0) f [(Option.some (Go.Eng.AV.sc (Go.Eng.SV.str s1))), (Option.some (Go.Eng.AV.sc (Go.Eng.SV.int Go.IntKind.i64 n))), (Option.some (Go.Eng.AV.sc (Go.Eng.SV.int Go.IntKind.i64 n1)))] [] KL = l_spec_l21Words_0 N s1 (fun n5 => KL Go.Eng.Ex.normal [(Option.some (Go.Eng.AV.sc (Go.Eng.SV.int Go.IntKind.i64 n5)))] []) f n n1 := by
  intro f
  induction f with
  | zero => intros; rfl
  | succ f ih =>
    intro n n1
    rw [iterK_succ, se_spec_l21Words_0]
    exact (congrArg (fun z0 => s_spec_l21Words_0 N s1 n n1 z0 (fun n5 => KL Go.Eng.Ex.normal [(Option.some (Go.Eng.AV.sc (Go.Eng.SV.int Go.IntKind.i64 n5)))] [])) (funext fun n => funext fun n1 => ih n n1))
def i_spec_l21Words_0 (N : Nat) {R : Type} (vs : List (Option AV)) (H : Hp E) (KL : Ex → List (Option AV) → Hp E → Option R) : Option R :=
  match vs, H with
  | [(Option.some (Go.Eng.AV.sc (Go.Eng.SV.str s1))), (Option.some (Go.Eng.AV.sc (Go.Eng.SV.int Go.IntKind.i64 n))), (Option.some (Go.Eng.AV.sc (Go.Eng.SV.int Go.IntKind.i64 n1)))], [] => c_spec_l21Words_0 N s1 n n1 (fun n6 => KL Go.Eng.Ex.normal [(Option.some (Go.Eng.AV.sc (Go.Eng.SV.int Go.IntKind.i64 n6)))] [])
  | _, _ => none
noncomputable def IT_spec_l21Words_0 (N : Nat) : Its E := addIt 0 (i_spec_l21Words_0 N) (noIt)
theorem IT_spec_l21Words_0_ok (N : Nat) : ItOk (IT_spec_l21Words_0 N) 0 18 sl_spec_l21Words (lsB Go.Proofs.Try.f104 [0]) :=
  addItB_ok (inner := []) ok (O_spec_l21Words_ok N) (jn_ok _ _) (noIt_ok) rfl (by kernel_rfl) rfl fun vs H KL r h => by
    unfold i_spec_l21Words_0 at h
    split at h
    · exact ⟨_, (le_spec_l21Words_0 N _ KL N _ _).trans h⟩
    · cases h
def g_spec_l21Words (N : Nat) {R : Type} (s : ByteArray) (k : Int → Option R) : Option R :=
  (c_spec_l21Words_0 N s (0 : Int) (0 : Int) fun n3 =>
  (k n3))
theorem e_spec_l21Words (N : Nat) {R : Type} (s : ByteArray) (K : AV → Hp E → Option R) :
    runFnI (E := E) (O_spec_l21Words N) (IT_spec_l21Words_0 N) sl_spec_l21Words J_spec_l21Words Go.Proofs.Try.f104 [(Go.Eng.AV.sc (Go.Eng.SV.str s))] [] K =
      g_spec_l21Words N s (fun n4 => K (Go.Eng.AV.sc (Go.Eng.SV.int Go.IntKind.i64 n4)) []) := by kernel_rfl
def o_spec_l21Words (N : Nat) {R : Type} (args : List AV) (H : Hp E) (K : AV → Hp E → Option R) : Option R :=
  match args, H with
  | [(Go.Eng.AV.sc (Go.Eng.SV.str s))], [] => g_spec_l21Words N s (fun n4 => K (Go.Eng.AV.sc (Go.Eng.SV.int Go.IntKind.i64 n4)) [])
  | _, _ => none
theorem o_spec_l21Words_ok (N : Nat) : FnOk E 104 (o_spec_l21Words N) := by
  intro R args H K r h
  unfold o_spec_l21Words at h
  dsimp only at h
  split at h
  · exact fnB_ok (ids := [0]) (top := [0]) ok (O_spec_l21Words_ok N) (jn_ok _ _) Go.Proofs.Try.func104 (by kernel_rfl) (IT := IT_spec_l21Words_0 N) (sl := sl_spec_l21Words) (J := J_spec_l21Words) (K := K) (H := []) (IT_spec_l21Words_0_ok N) (by kernel_rfl) rfl ((e_spec_l21Words N _ K).trans h)
  · cases h
/-! ### loop.example/g00038/spec.l10In -/
abbrev sl_spec_l10In : SlotT := []
abbrev J_spec_l10In : JT := jn [(1, [(6, .b)])] []
noncomputable def O_spec_l10In (N : Nat) : Orc E := noFn
theorem O_spec_l10In_ok (N : Nat) : OrcOk (O_spec_l10In N) := noFn_ok
def g_spec_l10In (N : Nat) {R : Type} (s : ByteArray) (n : Int) (n1 : Int) (k : Bool → Option R) : Option R :=
  (oK (cond (decide ((n ≥ (0 : Int))))
    (cond (decide ((n1 ≥ (0 : Int))))
      (cond (decide ((n ≤ (((ByteArray.size s) : Nat) : Int))))
        (some (decide ((n1 ≤ (Go.IntKind.wrap Go.IntKind.i64 ((((ByteArray.size s) : Nat) : Int) - n))))))
        (some Bool.false))
      (some Bool.false))
    (some Bool.false)) fun j =>
  (k j))
theorem e_spec_l10In (N : Nat) {R : Type} (s : ByteArray) (n : Int) (n1 : Int) (K : AV → Hp E → Option R) :
    runFnI (E := E) (O_spec_l10In N) (noIt) sl_spec_l10In J_spec_l10In Go.Proofs.Try.f105 [(Go.Eng.AV.sc (Go.Eng.SV.str s)), (Go.Eng.AV.sc (Go.Eng.SV.int Go.IntKind.i64 n)), (Go.Eng.AV.sc (Go.Eng.SV.int Go.IntKind.i64 n1))] [] K =
      g_spec_l10In N s n n1 (fun b => K (Go.Eng.AV.sc (Go.Eng.SV.bool b)) []) := by kernel_rfl
def o_spec_l10In (N : Nat) {R : Type} (args : List AV) (H : Hp E) (K : AV → Hp E → Option R) : Option R :=
  match args, H with
  | [(Go.Eng.AV.sc (Go.Eng.SV.str s)), (Go.Eng.AV.sc (Go.Eng.SV.int Go.IntKind.i64 n)), (Go.Eng.AV.sc (Go.Eng.SV.int Go.IntKind.i64 n1))], [] => g_spec_l10In N s n n1 (fun b => K (Go.Eng.AV.sc (Go.Eng.SV.bool b)) [])
  | _, _ => none
theorem o_spec_l10In_ok (N : Nat) : FnOk E 105 (o_spec_l10In N) := by
  intro R args H K r h
  unfold o_spec_l10In at h
  dsimp only at h
  split at h
  · exact fnB_ok (ids := []) (top := []) ok (O_spec_l10In_ok N) (jn_ok _ _) Go.Proofs.Try.func105 (by kernel_rfl) (IT := noIt) (sl := sl_spec_l10In) (J := J_spec_l10In) (K := K) (H := []) (noIt_ok) (by kernel_rfl) rfl ((e_spec_l10In N _ _ _ K).trans h)
  · cases h
/-! ### loop.example/g00038/spec.PutTables -/
abbrev sl_spec_PutTables_w : SlotT := [(0, ([0, 1, 2, 7, 8, 9], [0, 1, 6, 7, 8]))]
abbrev J_spec_PutTables_w : JT := jn [(1, [(33, .b)])] []
noncomputable def O_spec_PutTables_w (N : Nat) : Orc E := addFn 105 (o_spec_l10In N) (addFn 104 (o_spec_l21Words N) (addFn 103 (o_spec_l21Table N) (addFn 87 (o_spec_PutWord N) (addFn 102 (o_spec_MemFault N) (noFn)))))
theorem O_spec_PutTables_w_ok (N : Nat) : OrcOk (O_spec_PutTables_w N) := addFn_ok (o_spec_l10In_ok N) (addFn_ok (o_spec_l21Words_ok N) (addFn_ok (o_spec_l21Table_ok N) (addFn_ok (o_spec_PutWord_ok N) (addFn_ok (o_spec_MemFault_ok N) (noFn_ok)))))
def s_spec_PutTables_w_0 (N : Nat) {R : Type} (s2 : ByteArray) (n2 : Int) (b1 : Bool) (l1 : List Go.Sa.FirmTable) (s3 : ByteArray) (s4 : ByteArray) (n3 : Int) (ag : ByteArray → ByteArray → Int → Option R)  (kR : ByteArray → ByteArray → Option R) (kN : ByteArray → ByteArray → Option R) : Option R :=
  (cond (decide ((n3 < (((List.length l1) : Nat) : Int))))
  (cond ((decide (((0 : Int) ≤ n3))) && (decide ((n3 < (((List.length l1) : Nat) : Int)))))
    (elemK l1 (Int.toNat n3) fun x =>
      (g_spec_l21Table N (Go.Sa.FirmTable.fName x) (Go.Sa.FirmTable.fRev x) (Go.Sa.FirmTable.fBody x) fun s5 =>
      (cond (decide ((s5 = (ByteArray.mk (List.toArray [])))))
      (kR s3 s4)
      (g_spec_PutWord N (Go.IntKind.wrap Go.IntKind.i64 ((Go.IntKind.wrap Go.IntKind.i64 ((Go.IntKind.wrap Go.IntKind.i64 (n2 + (12 : Int))) + (Go.IntKind.wrap Go.IntKind.i64 ((4 : Int) * (((List.length l1) : Nat) : Int))))) + (((ByteArray.size s4) : Nat) : Int))) fun s6 =>
        (cond (Nat.ble ((ByteArray.size s3) + (ByteArray.size s6)) 9223372036854775807)
        (cond (Nat.ble ((ByteArray.size s4) + (ByteArray.size s5)) 9223372036854775807)
          (ag (s3 ++ s6) (s4 ++ s5) (Go.IntKind.wrap Go.IntKind.i64 (n3 + (1 : Int))))
          none)
        none)))))
    none)
  (kN s3 s4))
def l_spec_PutTables_w_0 (N : Nat) {R : Type} (s2 : ByteArray) (n2 : Int) (b1 : Bool) (l1 : List Go.Sa.FirmTable) (kR : ByteArray → ByteArray → Option R) (kN : ByteArray → ByteArray → Option R) : Nat → ByteArray → ByteArray → Int → Option R
  | 0, _, _, _ => none
  | f + 1, s3, s4, n3 => s_spec_PutTables_w_0 N s2 n2 b1 l1 s3 s4 n3 (fun s3 s4 n3 => l_spec_PutTables_w_0 N s2 n2 b1 l1 kR kN f s3 s4 n3)  kR kN
def c_spec_PutTables_w_0 (N : Nat) {R : Type} (s2 : ByteArray) (n2 : Int) (b1 : Bool) (l1 : List Go.Sa.FirmTable) (s3 : ByteArray) (s4 : ByteArray) (n3 : Int) (kR : ByteArray → ByteArray → Option R) (kN : ByteArray → ByteArray → Option R) : Option R := l_spec_PutTables_w_0 N s2 n2 b1 l1 kR kN N s3 s4 n3
theorem se_spec_PutTables_w_0 (N : Nat) {R : Type} (s2 : ByteArray) (n2 : Int) (b1 : Bool) (l1 : List Go.Sa.FirmTable) (s3 : ByteArray) (s4 : ByteArray) (n3 : Int) (AG : List (Option AV) → Hp E → Option R) (KL : Ex → List (Option AV) → Hp E → Option R) :
    iterStep (E := E) (O_spec_PutTables_w N) (fun {R} => LI (noIt) 1 98 sl_spec_PutTables_w (R := R)) J_spec_PutTables_w 1 98 0 [0, 1, 2, 7, 8, 9] [0, 1, 6, 7, 8] (body Go.Proofs.Try.f54 0) AG KL [(Option.some (Go.Eng.AV.sc (Go.Eng.SV.str s2))), (Option.some (Go.Eng.AV.sc (Go.Eng.SV.int Go.IntKind.i64 n2))), (Option.some (Go.Eng.AV.sc (Go.Eng.SV.slc 0 Option.none b1))), (Option.some (Go.Eng.AV.sc (Go.Eng.SV.str s3))), (Option.some (Go.Eng.AV.sc (Go.Eng.SV.str s4))), (Option.some (Go.Eng.AV.sc (Go.Eng.SV.int Go.IntKind.i64 n3)))] [(Option.some (Go.Eng.HE.mk Bool.false (Go.Eng.HB.rows (Go.Sa.B.iFirmTable l1))))] =
      s_spec_PutTables_w_0 N s2 n2 b1 l1 s3 s4 n3 (fun s3 s4 n3 => AG [(Option.some (Go.Eng.AV.sc (Go.Eng.SV.str s2))), (Option.some (Go.Eng.AV.sc (Go.Eng.SV.int Go.IntKind.i64 n2))), (Option.some (Go.Eng.AV.sc (Go.Eng.SV.slc 0 Option.none b1))), (Option.some (Go.Eng.AV.sc (Go.Eng.SV.str s3))), (Option.some (Go.Eng.AV.sc (Go.Eng.SV.str s4))), (Option.some (Go.Eng.AV.sc (Go.Eng.SV.int Go.IntKind.i64 n3)))] [(Option.some (Go.Eng.HE.mk Bool.false (Go.Eng.HB.rows (Go.Sa.B.iFirmTable l1))))])  (fun s13 s14 => KL Go.Eng.Ex.ret [(Option.some (Go.Eng.AV.sc (Go.Eng.SV.str s2))), (Option.some (Go.Eng.AV.sc (Go.Eng.SV.int Go.IntKind.i64 n2))), (Option.some (Go.Eng.AV.sc (Go.Eng.SV.str (ByteArray.mk (List.toArray []))))), (Option.some (Go.Eng.AV.sc (Go.Eng.SV.str s13))), (Option.some (Go.Eng.AV.sc (Go.Eng.SV.str s14)))] [(Option.some (Go.Eng.HE.mk Bool.false (Go.Eng.HB.rows (Go.Sa.B.iFirmTable l1))))]) (fun s15 s16 => KL Go.Eng.Ex.normal [(Option.some (Go.Eng.AV.sc (Go.Eng.SV.str s2))), (Option.some (Go.Eng.AV.sc (Go.Eng.SV.int Go.IntKind.i64 n2))), Option.none, (Option.some (Go.Eng.AV.sc (Go.Eng.SV.str s15))), (Option.some (Go.Eng.AV.sc (Go.Eng.SV.str s16)))] [(Option.some (Go.Eng.HE.mk Bool.false (Go.Eng.HB.rows (Go.Sa.B.iFirmTable l1))))]) := by kernel_rfl
theorem le_spec_PutTables_w_0 (N : Nat) {R : Type} (s2 : ByteArray) (n2 : Int) (b1 : Bool) (l1 : List Go.Sa.FirmTable) (KL : Ex → List (Option AV) → Hp E → Option R) : ∀ (f : Nat), ∀ (s3 : ByteArray) (s4 : ByteArray) (n3 : Int), iterK (E := E) (O_spec_PutTables_w N) (fun {R} => LI (noIt) 1 98 sl_spec_PutTables_w (R := R)) J_spec_PutTables_w 1 98 0 [0, 1, 2, 7, 8, 9] [0, 1, 6, 7, 8] (body Go.Proofs.Try.f54 0) f [(Option.some (Go.Eng.AV.sc (Go.Eng.SV.str s2))), (Option.some (Go.Eng.AV.sc (Go.Eng.SV.int Go.IntKind.i64 n2))), (Option.some (Go.Eng.AV.sc (Go.Eng.SV.slc 0 Option.none b1))), (Option.some (Go.Eng.AV.sc (Go.Eng.SV.str s3))), (Option.some (Go.Eng.AV.sc (Go.Eng.SV.str s4))), (Option.some (Go.Eng.AV.sc (Go.Eng.SV.int Go.IntKind.i64 n3)))] [(Option.some (Go.Eng.HE.mk Bool.false (Go.Eng.HB.rows (Go.Sa.B.iFirmTable l1))))] KL = l_spec_PutTables_w_0 N s2 n2 b1 l1 (fun s13 s14 => KL Go.Eng.Ex.ret [(Option.some (Go.Eng.AV.sc (Go.Eng.SV.str s2))), (Option.some (Go.Eng.AV.sc (Go.Eng.SV.int Go.IntKind.i64 n2))), (Option.some (Go.Eng.AV.sc (Go.Eng.SV.str (ByteArray.mk (List.toArray []))))), (Option.some (Go.Eng.AV.sc (Go.Eng.SV.str s13))), (Option.some (Go.Eng.AV.sc (Go.Eng.SV.str s14)))] [(Option.some (Go.Eng.HE.mk Bool.false (Go.Eng.HB.rows (Go.Sa.B.iFirmTable l1))))]) (fun s15 s16 => KL Go.Eng.Ex.normal [(Option.some (Go.Eng.AV.sc (Go.Eng.SV.str s2))), (Option.some (Go.Eng.AV.sc (Go.Eng.SV.int Go.IntKind.i64 n2))), Option.none, (Option.some (Go.Eng.AV.sc (Go.Eng.SV.str s15))), (Option.some (Go.Eng.AV.sc (Go.Eng.SV.str s16)))] [(Option.some (Go.Eng.HE.mk Bool.false (Go.Eng.HB.rows (Go.Sa.B.iFirmTable l1))))]) f s3 s4 n3 := by
  intro f
  induction f with
  | zero => intros; rfl
  | succ f ih =>
    intro s3 s4 n3
    rw [iterK_succ, se_spec_PutTables_w_0]
    exact (congrArg (fun z0 => s_spec_PutTables_w_0 N s2 n2 b1 l1 s3 s4 n3 z0 (fun s13 s14 => KL Go.Eng.Ex.ret [(Option.some (Go.Eng.AV.sc (Go.Eng.SV.str s2))), (Option.some (Go.Eng.AV.sc (Go.Eng.SV.int Go.IntKind.i64 n2))), (Option.some (Go.Eng.AV.sc (Go.Eng.SV.str (ByteArray.mk (List.toArray []))))), (Option.some (Go.Eng.AV.sc (Go.Eng.SV.str s13))), (Option.some (Go.Eng.AV.sc (Go.Eng.SV.str s14)))] [(Option.some (Go.Eng.HE.mk Bool.false (Go.Eng.HB.rows (Go.Sa.B.iFirmTable l1))))]) (fun s15 s16 => KL Go.Eng.Ex.normal [(Option.some (Go.Eng.AV.sc (Go.Eng.SV.str s2))), (Option.some (Go.Eng.AV.sc (Go.Eng.SV.int Go.IntKind.i64 n2))), Option.none, (Option.some (Go.Eng.AV.sc (Go.Eng.SV.str s15))), (Option.some (Go.Eng.AV.sc (Go.Eng.SV.str s16)))] [(Option.some (Go.Eng.HE.mk Bool.false (Go.Eng.HB.rows (Go.Sa.B.iFirmTable l1))))])) (funext fun s3 => funext fun s4 => funext fun n3 => ih s3 s4 n3))
def i_spec_PutTables_w_0 (N : Nat) {R : Type} (vs : List (Option AV)) (H : Hp E) (KL : Ex → List (Option AV) → Hp E → Option R) : Option R :=
  match vs, H with
  | [(Option.some (Go.Eng.AV.sc (Go.Eng.SV.str s2))), (Option.some (Go.Eng.AV.sc (Go.Eng.SV.int Go.IntKind.i64 n2))), (Option.some (Go.Eng.AV.sc (Go.Eng.SV.slc 0 Option.none b1))), (Option.some (Go.Eng.AV.sc (Go.Eng.SV.str s3))), (Option.some (Go.Eng.AV.sc (Go.Eng.SV.str s4))), (Option.some (Go.Eng.AV.sc (Go.Eng.SV.int Go.IntKind.i64 n3)))], [(Option.some (Go.Eng.HE.mk Bool.false (Go.Eng.HB.rows (Go.Sa.B.iFirmTable l1))))] => c_spec_PutTables_w_0 N s2 n2 b1 l1 s3 s4 n3 (fun s17 s18 => KL Go.Eng.Ex.ret [(Option.some (Go.Eng.AV.sc (Go.Eng.SV.str s2))), (Option.some (Go.Eng.AV.sc (Go.Eng.SV.int Go.IntKind.i64 n2))), (Option.some (Go.Eng.AV.sc (Go.Eng.SV.str (ByteArray.mk (List.toArray []))))), (Option.some (Go.Eng.AV.sc (Go.Eng.SV.str s17))), (Option.some (Go.Eng.AV.sc (Go.Eng.SV.str s18)))] [(Option.some (Go.Eng.HE.mk Bool.false (Go.Eng.HB.rows (Go.Sa.B.iFirmTable l1))))]) (fun s19 s20 => KL Go.Eng.Ex.normal [(Option.some (Go.Eng.AV.sc (Go.Eng.SV.str s2))), (Option.some (Go.Eng.AV.sc (Go.Eng.SV.int Go.IntKind.i64 n2))), Option.none, (Option.some (Go.Eng.AV.sc (Go.Eng.SV.str s19))), (Option.some (Go.Eng.AV.sc (Go.Eng.SV.str s20)))] [(Option.some (Go.Eng.HE.mk Bool.false (Go.Eng.HB.rows (Go.Sa.B.iFirmTable l1))))])
  | _, _ => none
noncomputable def IT_spec_PutTables_w_0 (N : Nat) : Its E := addIt 0 (i_spec_PutTables_w_0 N) (noIt)
theorem IT_spec_PutTables_w_0_ok (N : Nat) : ItOk (IT_spec_PutTables_w_0 N) 1 98 sl_spec_PutTables_w (lsB Go.Proofs.Try.f54 [0]) :=
  addItB_ok (inner := []) ok (O_spec_PutTables_w_ok N) (jn_ok _ _) (noIt_ok) rfl (by kernel_rfl) rfl fun vs H KL r h => by
    unfold i_spec_PutTables_w_0 at h
    split at h
    · exact ⟨_, (le_spec_PutTables_w_0 N _ _ _ _ KL N _ _ _).trans h⟩
    · cases h
def g_spec_PutTables_w (N : Nat) {R : Type} (s : ByteArray) (n : Int) (b : Bool) (l : List Go.Sa.FirmTable) (k : ByteArray → Option R) : Option R :=
  (oK (g_spec_MemFault N s fun n1 =>
    (cond (n1 != (0 : Int))
    (some Bool.true)
    (cond (decide ((n < (0 : Int))))
      (some Bool.true)
      (cond ((Int.tmod n (4 : Int)) != (0 : Int))
        (some Bool.true)
        (cond (decide ((n > (((ByteArray.size s) : Nat) : Int))))
          (some Bool.true)
          (some (decide (((((List.length l) : Nat) : Int) > (10 : Int)))))))))) fun j =>
  (cond j
  (k (ByteArray.mk (List.toArray [])))
  (g_spec_PutWord N (((List.length l) : Nat) : Int) fun s1 =>
    (cond (Nat.ble (4 + (ByteArray.size s1)) 9223372036854775807)
    (c_spec_PutTables_w_0 N s n b l ((ByteArray.mk (List.toArray [(70 : UInt8), (73 : UInt8), (82 : UInt8), (77 : UInt8)])) ++ s1) (ByteArray.mk (List.toArray [])) (0 : Int) (fun s7 s8 =>
      (k (ByteArray.mk (List.toArray [])))) (fun s9 s10 =>
      (g_spec_l21Words N s9 fun n4 =>
      (g_spec_PutWord N (Go.IntKind.wrap Go.IntKind.i64 ((0 : Int) - n4)) fun s11 =>
      (cond (Nat.ble ((ByteArray.size s9) + (ByteArray.size s11)) 9223372036854775807)
      (g_spec_l10In N s n (Go.IntKind.wrap Go.IntKind.i64 ((((ByteArray.size (s9 ++ s11)) : Nat) : Int) + (((ByteArray.size s10) : Nat) : Int))) fun b2 =>
        (cond (!b2)
        (k (ByteArray.mk (List.toArray [])))
        (cond ((decide (((0 : Int) ≤ n))) && (decide ((n ≤ (((ByteArray.size s) : Nat) : Int)))))
          (cond (Nat.ble ((ByteArray.size (ByteArray.extract s 0 (Int.toNat n))) + (ByteArray.size (s9 ++ s11))) 9223372036854775807)
            (cond (Nat.ble ((ByteArray.size ((ByteArray.extract s 0 (Int.toNat n)) ++ (s9 ++ s11))) + (ByteArray.size s10)) 9223372036854775807)
              (cond (((decide (((0 : Int) ≤ (Go.IntKind.wrap Go.IntKind.i64 (n + (Go.IntKind.wrap Go.IntKind.i64 ((((ByteArray.size (s9 ++ s11)) : Nat) : Int) + (((ByteArray.size s10) : Nat) : Int)))))))) && (decide (((Go.IntKind.wrap Go.IntKind.i64 (n + (Go.IntKind.wrap Go.IntKind.i64 ((((ByteArray.size (s9 ++ s11)) : Nat) : Int) + (((ByteArray.size s10) : Nat) : Int))))) ≤ (((ByteArray.size s) : Nat) : Int))))) && (decide (((((ByteArray.size s) : Nat) : Int) ≤ (((ByteArray.size s) : Nat) : Int)))))
                (cond (Nat.ble ((ByteArray.size (((ByteArray.extract s 0 (Int.toNat n)) ++ (s9 ++ s11)) ++ s10)) + (ByteArray.size (ByteArray.extract s (Int.toNat (Go.IntKind.wrap Go.IntKind.i64 (n + (Go.IntKind.wrap Go.IntKind.i64 ((((ByteArray.size (s9 ++ s11)) : Nat) : Int) + (((ByteArray.size s10) : Nat) : Int)))))) (Int.toNat (((ByteArray.size s) : Nat) : Int))))) 9223372036854775807)
                  (k ((((ByteArray.extract s 0 (Int.toNat n)) ++ (s9 ++ s11)) ++ s10) ++ (ByteArray.extract s (Int.toNat (Go.IntKind.wrap Go.IntKind.i64 (n + (Go.IntKind.wrap Go.IntKind.i64 ((((ByteArray.size (s9 ++ s11)) : Nat) : Int) + (((ByteArray.size s10) : Nat) : Int)))))) (Int.toNat (((ByteArray.size s) : Nat) : Int)))))
                  none)
                none)
              none)
            none)
          none)))
      none)))))
    none))))
theorem e_spec_PutTables_w (N : Nat) {R : Type} (s : ByteArray) (n : Int) (b : Bool) (l : List Go.Sa.FirmTable) (K : AV → Hp E → Option R) :
    runFnI (E := E) (O_spec_PutTables_w N) (IT_spec_PutTables_w_0 N) sl_spec_PutTables_w J_spec_PutTables_w Go.Proofs.Try.f54 [(Go.Eng.AV.sc (Go.Eng.SV.str s)), (Go.Eng.AV.sc (Go.Eng.SV.int Go.IntKind.i64 n)), (Go.Eng.AV.sc (Go.Eng.SV.slc 0 Option.none b))] [(Option.some (Go.Eng.HE.mk Bool.false (Go.Eng.HB.rows (Go.Sa.B.iFirmTable l))))] K =
      g_spec_PutTables_w N s n b l (fun s12 => K (Go.Eng.AV.sc (Go.Eng.SV.str s12)) [(Option.some (Go.Eng.HE.mk Bool.false (Go.Eng.HB.rows (Go.Sa.B.iFirmTable l))))]) := by kernel_rfl
def o_spec_PutTables_w (N : Nat) {R : Type} (args : List AV) (H : Hp E) (K : AV → Hp E → Option R) : Option R :=
  match args, H with
  | [(Go.Eng.AV.sc (Go.Eng.SV.str s)), (Go.Eng.AV.sc (Go.Eng.SV.int Go.IntKind.i64 n)), (Go.Eng.AV.sc (Go.Eng.SV.slc 0 Option.none b))], [(Option.some (Go.Eng.HE.mk Bool.false (Go.Eng.HB.rows (Go.Sa.B.iFirmTable l))))] => g_spec_PutTables_w N s n b l (fun s12 => K (Go.Eng.AV.sc (Go.Eng.SV.str s12)) [(Option.some (Go.Eng.HE.mk Bool.false (Go.Eng.HB.rows (Go.Sa.B.iFirmTable l))))])
  | _, _ => none
theorem o_spec_PutTables_w_ok (N : Nat) : FnOk E 54 (o_spec_PutTables_w N) := by
  intro R args H K r h
  unfold o_spec_PutTables_w at h
  dsimp only at h
  split at h
  · exact fnB_ok (ids := [0]) (top := [0]) ok (O_spec_PutTables_w_ok N) (jn_ok _ _) Go.Proofs.Try.func54 (by kernel_rfl) (IT := IT_spec_PutTables_w_0 N) (sl := sl_spec_PutTables_w) (J := J_spec_PutTables_w) (K := K) (H := [(Option.some (Go.Eng.HE.mk Bool.false (Go.Eng.HB.rows (Go.Sa.B.iFirmTable _))))]) (IT_spec_PutTables_w_0_ok N) (by kernel_rfl) rfl ((e_spec_PutTables_w N _ _ _ _ K).trans h)
  · cases h
/-! ### loop.example/g00038/impl.ymemOk -/
abbrev sl_impl_ymemOk : SlotT := []
abbrev J_impl_ymemOk : JT := jn [(1, [(2, .b)])] []
noncomputable def O_impl_ymemOk (N : Nat) : Orc E := noFn
theorem O_impl_ymemOk_ok (N : Nat) : OrcOk (O_impl_ymemOk N) := noFn_ok
def g_impl_ymemOk (N : Nat) {R : Type} (s : ByteArray) (k : Bool → Option R) : Option R :=
  (oK (cond (decide (((((ByteArray.size s) : Nat) : Int) ≥ (256 : Int))))
    (cond (decide (((((ByteArray.size s) : Nat) : Int) ≤ (65536 : Int))))
      (some ((Int.tmod (((ByteArray.size s) : Nat) : Int) (256 : Int)) == (0 : Int)))
      (some Bool.false))
    (some Bool.false)) fun j =>
  (k j))
theorem e_impl_ymemOk (N : Nat) {R : Type} (s : ByteArray) (K : AV → Hp E → Option R) :
    runFnI (E := E) (O_impl_ymemOk N) (noIt) sl_impl_ymemOk J_impl_ymemOk Go.Proofs.Try.f107 [(Go.Eng.AV.sc (Go.Eng.SV.str s))] [] K =
      g_impl_ymemOk N s (fun b => K (Go.Eng.AV.sc (Go.Eng.SV.bool b)) []) := by kernel_rfl
def o_impl_ymemOk (N : Nat) {R : Type} (args : List AV) (H : Hp E) (K : AV → Hp E → Option R) : Option R :=
  match args, H with
  | [(Go.Eng.AV.sc (Go.Eng.SV.str s))], [] => g_impl_ymemOk N s (fun b => K (Go.Eng.AV.sc (Go.Eng.SV.bool b)) [])
  | _, _ => none
theorem o_impl_ymemOk_ok (N : Nat) : FnOk E 107 (o_impl_ymemOk N) := by
  intro R args H K r h
  unfold o_impl_ymemOk at h
  dsimp only at h
  split at h
  · exact fnB_ok (ids := []) (top := []) ok (O_impl_ymemOk_ok N) (jn_ok _ _) Go.Proofs.Try.func107 (by kernel_rfl) (IT := noIt) (sl := sl_impl_ymemOk) (J := J_impl_ymemOk) (K := K) (H := []) (noIt_ok) (by kernel_rfl) rfl ((e_impl_ymemOk N _ K).trans h)
  · cases h
/-! ### loop.example/g00038/impl.ytableName -/
abbrev sl_impl_ytableName : SlotT := [(0, ([0, 5, 6], [0, 2]))]
abbrev J_impl_ytableName : JT := jn [(4, [(18, .b)])] []
noncomputable def O_impl_ytableName (N : Nat) : Orc E := noFn
theorem O_impl_ytableName_ok (N : Nat) : OrcOk (O_impl_ytableName N) := noFn_ok
def s_impl_ytableName_0 (N : Nat) {R : Type} (s1 : ByteArray) (n : Int) (n1 : Int) (ag : Int → Option R)  (kR : Option R) (kN : Option R) : Option R :=
  (cond (decide ((n1 < n)))
  (oK (cond ((decide (((0 : Int) ≤ n1))) && (decide ((n1 < (((ByteArray.size s1) : Nat) : Int)))))
      (cond (decide (((Go.Eng.bt s1 (Int.toNat n1)) < (65 : Int))))
        (some Bool.true)
        (cond ((decide (((0 : Int) ≤ n1))) && (decide ((n1 < (((ByteArray.size s1) : Nat) : Int)))))
          (some (decide (((Go.Eng.bt s1 (Int.toNat n1)) > (90 : Int)))))
          none))
      none) fun j =>
    (cond j
    kR
    (ag (Go.IntKind.wrap Go.IntKind.i64 (n1 + (1 : Int))))))
  kN)
def l_impl_ytableName_0 (N : Nat) {R : Type} (s1 : ByteArray) (n : Int) (kR : Option R) (kN : Option R) : Nat → Int → Option R
  | 0, _ => none
  | f + 1, n1 => s_impl_ytableName_0 N s1 n n1 (fun n1 => l_impl_ytableName_0 N s1 n kR kN f n1)  kR kN
def c_impl_ytableName_0 (N : Nat) {R : Type} (s1 : ByteArray) (n : Int) (n1 : Int) (kR : Option R) (kN : Option R) : Option R := l_impl_ytableName_0 N s1 n kR kN N n1
theorem se_impl_ytableName_0 (N : Nat) {R : Type} (s1 : ByteArray) (n : Int) (n1 : Int) (AG : List (Option AV) → Hp E → Option R) (KL : Ex → List (Option AV) → Hp E → Option R) :
    iterStep (E := E) (O_impl_ytableName N) (fun {R} => LI (noIt) 0 23 sl_impl_ytableName (R := R)) J_impl_ytableName 0 23 0 [0, 5, 6] [0, 2] (body Go.Proofs.Try.f146 0) AG KL [(Option.some (Go.Eng.AV.sc (Go.Eng.SV.str s1))), (Option.some (Go.Eng.AV.sc (Go.Eng.SV.int Go.IntKind.i64 n))), (Option.some (Go.Eng.AV.sc (Go.Eng.SV.int Go.IntKind.i64 n1)))] [] =
      s_impl_ytableName_0 N s1 n n1 (fun n1 => AG [(Option.some (Go.Eng.AV.sc (Go.Eng.SV.str s1))), (Option.some (Go.Eng.AV.sc (Go.Eng.SV.int Go.IntKind.i64 n))), (Option.some (Go.Eng.AV.sc (Go.Eng.SV.int Go.IntKind.i64 n1)))] [])  (KL Go.Eng.Ex.ret [(Option.some (Go.Eng.AV.sc (Go.Eng.SV.str s1))), (Option.some (Go.Eng.AV.sc (Go.Eng.SV.bool Bool.false)))] []) (KL Go.Eng.Ex.normal [(Option.some (Go.Eng.AV.sc (Go.Eng.SV.str s1))), Option.none] []) := by kernel_rfl
theorem le_impl_ytableName_0 (N : Nat) {R : Type} (s1 : ByteArray) (n : Int) (KL : Ex → List (Option AV) → Hp E → Option R) : ∀ (f : Nat), ∀ (n1 : Int), iterK (E := E) (O_impl_ytableName N) (fun {R} => LI (noIt) 0 23 sl_impl_ytableName (R := R)) J_impl_ytableName 0 23 0 [0, 5, 6] [0, 2] (body Go.Proofs.Try.f146 0) f [(Option.some (Go.Eng.AV.sc (Go.Eng.SV.str s1))), (Option.some (Go.Eng.AV.sc (Go.Eng.SV.int Go.IntKind.i64 n))), (Option.some (Go.Eng.AV.sc (Go.Eng.SV.int Go.IntKind.i64 n1)))] [] KL = l_impl_ytableName_0 N s1 n (KL Go.Eng.Ex.ret [(Option.some (Go.Eng.AV.sc (Go.Eng.SV.str s1))), (Option.some (Go.Eng.AV.sc (Go.Eng.SV.bool Bool.false)))] []) (KL Go.Eng.Ex.normal [(Option.some (Go.Eng.AV.sc (Go.Eng.SV.str s1))), Option.none] []) f n1 := by
  intro f
  induction f with
  | zero => intros; rfl
  | succ f ih =>
    intro n1
    rw [iterK_succ, se_impl_ytableName_0]
    exact (congrArg (fun z0 => s_impl_ytableName_0 N s1 n n1 z0 (KL Go.Eng.Ex.ret [(Option.some (Go.Eng.AV.sc (Go.Eng.SV.str s1))), (Option.some (Go.Eng.AV.sc (Go.Eng.SV.bool Bool.false)))] []) (KL Go.Eng.Ex.normal [(Option.some (Go.Eng.AV.sc (Go.Eng.SV.str s1))), Option.none] [])) (funext fun n1 => ih n1))
def i_impl_ytableName_0 (N : Nat) {R : Type} (vs : List (Option AV)) (H : Hp E) (KL : Ex → List (Option AV) → Hp E → Option R) : Option R :=
  match vs, H with
  | [(Option.some (Go.Eng.AV.sc (Go.Eng.SV.str s1))), (Option.some (Go.Eng.AV.sc (Go.Eng.SV.int Go.IntKind.i64 n))), (Option.some (Go.Eng.AV.sc (Go.Eng.SV.int Go.IntKind.i64 n1)))], [] => c_impl_ytableName_0 N s1 n n1 (KL Go.Eng.Ex.ret [(Option.some (Go.Eng.AV.sc (Go.Eng.SV.str s1))), (Option.some (Go.Eng.AV.sc (Go.Eng.SV.bool Bool.false)))] []) (KL Go.Eng.Ex.normal [(Option.some (Go.Eng.AV.sc (Go.Eng.SV.str s1))), Option.none] [])
  | _, _ => none
noncomputable def IT_impl_ytableName_0 (N : Nat) : Its E := addIt 0 (i_impl_ytableName_0 N) (noIt)
theorem IT_impl_ytableName_0_ok (N : Nat) : ItOk (IT_impl_ytableName_0 N) 0 23 sl_impl_ytableName (lsB Go.Proofs.Try.f146 [0]) :=
  addItB_ok (inner := []) ok (O_impl_ytableName_ok N) (jn_ok _ _) (noIt_ok) rfl (by kernel_rfl) rfl fun vs H KL r h => by
    unfold i_impl_ytableName_0 at h
    split at h
    · exact ⟨_, (le_impl_ytableName_0 N _ _ KL N _).trans h⟩
    · cases h
def g_impl_ytableName (N : Nat) {R : Type} (s : ByteArray) (k : Bool → Option R) : Option R :=
  (c_impl_ytableName_0 N s (((ByteArray.size s) : Nat) : Int) (0 : Int) (
  (k Bool.false)) (
  (k ((((ByteArray.size s) : Nat) : Int) == (4 : Int)))))
theorem e_impl_ytableName (N : Nat) {R : Type} (s : ByteArray) (K : AV → Hp E → Option R) :
    runFnI (E := E) (O_impl_ytableName N) (IT_impl_ytableName_0 N) sl_impl_ytableName J_impl_ytableName Go.Proofs.Try.f146 [(Go.Eng.AV.sc (Go.Eng.SV.str s))] [] K =
      g_impl_ytableName N s (fun b => K (Go.Eng.AV.sc (Go.Eng.SV.bool b)) []) := by kernel_rfl
def o_impl_ytableName (N : Nat) {R : Type} (args : List AV) (H : Hp E) (K : AV → Hp E → Option R) : Option R :=
  match args, H with
  | [(Go.Eng.AV.sc (Go.Eng.SV.str s))], [] => g_impl_ytableName N s (fun b => K (Go.Eng.AV.sc (Go.Eng.SV.bool b)) [])
  | _, _ => none
theorem o_impl_ytableName_ok (N : Nat) : FnOk E 146 (o_impl_ytableName N) := by
  intro R args H K r h
  unfold o_impl_ytableName at h
  dsimp only at h
  split at h
  · exact fnB_ok (ids := [0]) (top := [0]) ok (O_impl_ytableName_ok N) (jn_ok _ _) Go.Proofs.Try.func146 (by kernel_rfl) (IT := IT_impl_ytableName_0 N) (sl := sl_impl_ytableName) (J := J_impl_ytableName) (K := K) (H := []) (IT_impl_ytableName_0_ok N) (by kernel_rfl) rfl ((e_impl_ytableName N _ K).trans h)
  · cases h
/-! ### loop.example/g00038/impl.ytableOk -/
abbrev sl_impl_ytableOk : SlotT := []
abbrev J_impl_ytableOk : JT := jn [(1, [(2, .b)])] []
noncomputable def O_impl_ytableOk (N : Nat) : Orc E := addFn 71 (o_impl_yin N) (addFn 146 (o_impl_ytableName N) (noFn))
theorem O_impl_ytableOk_ok (N : Nat) : OrcOk (O_impl_ytableOk N) := addFn_ok (o_impl_yin_ok N) (addFn_ok (o_impl_ytableName_ok N) (noFn_ok))
def g_impl_ytableOk (N : Nat) {R : Type} (s : ByteArray) (n : Int) (s1 : ByteArray) (k : Bool → Option R) : Option R :=
  (oK (g_impl_ytableName N s fun b =>
    (cond b
    (g_impl_yin N n (0 : Int) (255 : Int) fun b1 =>
      (cond b1
      (cond (decide (((((ByteArray.size s1) : Nat) : Int) ≤ (200 : Int))))
        (some ((Int.tmod (((ByteArray.size s1) : Nat) : Int) (4 : Int)) == (0 : Int)))
        (some Bool.false))
      (some Bool.false)))
    (some Bool.false))) fun j =>
  (k j))
theorem e_impl_ytableOk (N : Nat) {R : Type} (s : ByteArray) (n : Int) (s1 : ByteArray) (K : AV → Hp E → Option R) :
    runFnI (E := E) (O_impl_ytableOk N) (noIt) sl_impl_ytableOk J_impl_ytableOk Go.Proofs.Try.f110 [(Go.Eng.AV.agg [(Go.Eng.SV.str s), (Go.Eng.SV.int Go.IntKind.i64 n), (Go.Eng.SV.str s1)])] [] K =
      g_impl_ytableOk N s n s1 (fun b2 => K (Go.Eng.AV.sc (Go.Eng.SV.bool b2)) []) := by kernel_rfl
def o_impl_ytableOk (N : Nat) {R : Type} (args : List AV) (H : Hp E) (K : AV → Hp E → Option R) : Option R :=
  match args, H with
  | [(Go.Eng.AV.agg [(Go.Eng.SV.str s), (Go.Eng.SV.int Go.IntKind.i64 n), (Go.Eng.SV.str s1)])], [] => g_impl_ytableOk N s n s1 (fun b2 => K (Go.Eng.AV.sc (Go.Eng.SV.bool b2)) [])
  | _, _ => none
theorem o_impl_ytableOk_ok (N : Nat) : FnOk E 110 (o_impl_ytableOk N) := by
  intro R args H K r h
  unfold o_impl_ytableOk at h
  dsimp only at h
  split at h
  · exact fnB_ok (ids := []) (top := []) ok (O_impl_ytableOk_ok N) (jn_ok _ _) Go.Proofs.Try.func110 (by kernel_rfl) (IT := noIt) (sl := sl_impl_ytableOk) (J := J_impl_ytableOk) (K := K) (H := []) (noIt_ok) (by kernel_rfl) rfl ((e_impl_ytableOk N _ _ _ K).trans h)
  · cases h
/-! ### loop.example/g00038/impl.PutTables$1 -/
abbrev sl_impl_PutTables_1 : SlotT := []
abbrev J_impl_PutTables_1 : JT := jn [] []
noncomputable def O_impl_PutTables_1 (N : Nat) : Orc E := addFn 110 (o_impl_ytableOk N) (noFn)
theorem O_impl_PutTables_1_ok (N : Nat) : OrcOk (O_impl_PutTables_1 N) := addFn_ok (o_impl_ytableOk_ok N) (noFn_ok)
def g_impl_PutTables_1 (N : Nat) {R : Type} (s : ByteArray) (n : Int) (s1 : ByteArray) (k : Bool → Option R) : Option R :=
  (g_impl_ytableOk N s n s1 fun b =>
  (k (!b)))
theorem e_impl_PutTables_1 (N : Nat) {R : Type} (s : ByteArray) (n : Int) (s1 : ByteArray) (K : AV → Hp E → Option R) :
    runFnI (E := E) (O_impl_PutTables_1 N) (noIt) sl_impl_PutTables_1 J_impl_PutTables_1 Go.Proofs.Try.f109 [(Go.Eng.AV.agg [(Go.Eng.SV.str s), (Go.Eng.SV.int Go.IntKind.i64 n), (Go.Eng.SV.str s1)])] [] K =
      g_impl_PutTables_1 N s n s1 (fun b1 => K (Go.Eng.AV.sc (Go.Eng.SV.bool b1)) []) := by kernel_rfl
def o_impl_PutTables_1 (N : Nat) {R : Type} (args : List AV) (H : Hp E) (K : AV → Hp E → Option R) : Option R :=
  match args, H with
  | [(Go.Eng.AV.agg [(Go.Eng.SV.str s), (Go.Eng.SV.int Go.IntKind.i64 n), (Go.Eng.SV.str s1)])], [] => g_impl_PutTables_1 N s n s1 (fun b1 => K (Go.Eng.AV.sc (Go.Eng.SV.bool b1)) [])
  | _, _ => none
theorem o_impl_PutTables_1_ok (N : Nat) : FnOk E 109 (o_impl_PutTables_1 N) := by
  intro R args H K r h
  unfold o_impl_PutTables_1 at h
  dsimp only at h
  split at h
  · exact fnB_ok (ids := []) (top := []) ok (O_impl_PutTables_1_ok N) (jn_ok _ _) Go.Proofs.Try.func109 (by kernel_rfl) (IT := noIt) (sl := sl_impl_PutTables_1) (J := J_impl_PutTables_1) (K := K) (H := []) (noIt_ok) (by kernel_rfl) rfl ((e_impl_PutTables_1 N _ _ _ K).trans h)
  · cases h
/-! ### slices.IndexFunc[[]loop.example/g00038/impl.FirmTable,loop.example/g00038/impl.FirmTable] -/
abbrev sl_slices_IndexFunc_FirmTable_Fimpl_PutTables_1_r : SlotT := [(0, ([0, 1, 7, 8], [4]))]
abbrev J_slices_IndexFunc_FirmTable_Fimpl_PutTables_1_r : JT := jn [] []
noncomputable def O_slices_IndexFunc_FirmTable_Fimpl_PutTables_1_r (N : Nat) : Orc E := addFn 109 (o_impl_PutTables_1 N) (noFn)
theorem O_slices_IndexFunc_FirmTable_Fimpl_PutTables_1_r_ok (N : Nat) : OrcOk (O_slices_IndexFunc_FirmTable_Fimpl_PutTables_1_r N) := addFn_ok (o_impl_PutTables_1_ok N) (noFn_ok)
def s_slices_IndexFunc_FirmTable_Fimpl_PutTables_1_r_0 (N : Nat) {R : Type} (b1 : Bool) (n : Int) (l1 : List Go.Sa.FirmTable) (n1 : Int) (ag : Int → Option R)  (kR : Int → Option R) (kN : Option R) : Option R :=
  (cond (decide ((n1 < n)))
  (cond ((decide (((0 : Int) ≤ n1))) && (decide ((n1 < (((List.length l1) : Nat) : Int)))))
    (elemK l1 (Int.toNat n1) fun x =>
      (g_impl_PutTables_1 N (Go.Sa.FirmTable.fName x) (Go.Sa.FirmTable.fRev x) (Go.Sa.FirmTable.fBody x) fun b2 =>
      (cond b2
      (kR n1)
      (ag (Go.IntKind.wrap Go.IntKind.i64 (n1 + (1 : Int)))))))
    none)
  kN)
def l_slices_IndexFunc_FirmTable_Fimpl_PutTables_1_r_0 (N : Nat) {R : Type} (b1 : Bool) (n : Int) (l1 : List Go.Sa.FirmTable) (kR : Int → Option R) (kN : Option R) : Nat → Int → Option R
  | 0, _ => none
  | f + 1, n1 => s_slices_IndexFunc_FirmTable_Fimpl_PutTables_1_r_0 N b1 n l1 n1 (fun n1 => l_slices_IndexFunc_FirmTable_Fimpl_PutTables_1_r_0 N b1 n l1 kR kN f n1)  kR kN
def c_slices_IndexFunc_FirmTable_Fimpl_PutTables_1_r_0 (N : Nat) {R : Type} (b1 : Bool) (n : Int) (l1 : List Go.Sa.FirmTable) (n1 : Int) (kR : Int → Option R) (kN : Option R) : Option R := l_slices_IndexFunc_FirmTable_Fimpl_PutTables_1_r_0 N b1 n l1 kR kN N n1
theorem se_slices_IndexFunc_FirmTable_Fimpl_PutTables_1_r_0 (N : Nat) {R : Type} (b1 : Bool) (n : Int) (l1 : List Go.Sa.FirmTable) (n1 : Int) (AG : List (Option AV) → Hp E → Option R) (KL : Ex → List (Option AV) → Hp E → Option R) :
    iterStep (E := E) (O_slices_IndexFunc_FirmTable_Fimpl_PutTables_1_r N) (fun {R} => LI (noIt) 1 19 sl_slices_IndexFunc_FirmTable_Fimpl_PutTables_1_r (R := R)) J_slices_IndexFunc_FirmTable_Fimpl_PutTables_1_r 1 19 0 [0, 1, 7, 8] [4] (body Go.Proofs.Try.f145 0) AG KL [(Option.some (Go.Eng.AV.sc (Go.Eng.SV.slc 0 Option.none b1))), (Option.some (Go.Eng.AV.sc (Go.Eng.SV.fn 109 []))), (Option.some (Go.Eng.AV.sc (Go.Eng.SV.int Go.IntKind.i64 n))), (Option.some (Go.Eng.AV.sc (Go.Eng.SV.int Go.IntKind.i64 n1)))] [(Option.some (Go.Eng.HE.mk Bool.true (Go.Eng.HB.rows (Go.Sa.B.iFirmTable l1))))] =
      s_slices_IndexFunc_FirmTable_Fimpl_PutTables_1_r_0 N b1 n l1 n1 (fun n1 => AG [(Option.some (Go.Eng.AV.sc (Go.Eng.SV.slc 0 Option.none b1))), (Option.some (Go.Eng.AV.sc (Go.Eng.SV.fn 109 []))), (Option.some (Go.Eng.AV.sc (Go.Eng.SV.int Go.IntKind.i64 n))), (Option.some (Go.Eng.AV.sc (Go.Eng.SV.int Go.IntKind.i64 n1)))] [(Option.some (Go.Eng.HE.mk Bool.true (Go.Eng.HB.rows (Go.Sa.B.iFirmTable l1))))])  (fun n4 => KL Go.Eng.Ex.ret [(Option.some (Go.Eng.AV.sc (Go.Eng.SV.int Go.IntKind.i64 n4)))] [(Option.some (Go.Eng.HE.mk Bool.true (Go.Eng.HB.rows (Go.Sa.B.iFirmTable l1))))]) (KL Go.Eng.Ex.normal [Option.none] [(Option.some (Go.Eng.HE.mk Bool.true (Go.Eng.HB.rows (Go.Sa.B.iFirmTable l1))))]) := by kernel_rfl
theorem le_slices_IndexFunc_FirmTable_Fimpl_PutTables_1_r_0 (N : Nat) {R : Type} (b1 : Bool) (n : Int) (l1 : List Go.Sa.FirmTable) (KL : Ex → List (Option AV) → Hp E → Option R) : ∀ (f : Nat), ∀ (n1 : Int), iterK (E := E) (O_slices_IndexFunc_FirmTable_Fimpl_PutTables_1_r N) (fun {R} => LI (noIt) 1 19 sl_slices_IndexFunc_FirmTable_Fimpl_PutTables_1_r (R := R)) J_slices_IndexFunc_FirmTable_Fimpl_PutTables_1_r 1 19 0 [0, 1, 7, 8] [4] (body Go.Proofs.Try.f145 0) f [(Option.some (Go.Eng.AV.sc (Go.Eng.SV.slc 0 Option.none b1))), (Option.some (Go.Eng.AV.sc (Go.Eng.SV.fn 109 []))), (Option.some (Go.Eng.AV.sc (Go.Eng.SV.int Go.IntKind.i64 n))), (Option.some (Go.Eng.AV.sc (Go.Eng.SV.int Go.IntKind.i64 n1)))] [(Option.some (Go.Eng.HE.mk Bool.true (Go.Eng.HB.rows (Go.Sa.B.iFirmTable l1))))] KL = l_slices_IndexFunc_FirmTable_Fimpl_PutTables_1_r_0 N b1 n l1 (fun n4 => KL Go.Eng.Ex.ret [(Option.some (Go.Eng.AV.sc (Go.Eng.SV.int Go.IntKind.i64 n4)))] [(Option.some (Go.Eng.HE.mk Bool.true (Go.Eng.HB.rows (Go.Sa.B.iFirmTable l1))))]) (KL Go.Eng.Ex.normal [Option.none] [(Option.some (Go.Eng.HE.mk Bool.true (Go.Eng.HB.rows (Go.Sa.B.iFirmTable l1))))]) f n1 := by
  intro f
  induction f with
  | zero => intros; rfl
  | succ f ih =>
    intro n1
    rw [iterK_succ, se_slices_IndexFunc_FirmTable_Fimpl_PutTables_1_r_0]
    exact (congrArg (fun z0 => s_slices_IndexFunc_FirmTable_Fimpl_PutTables_1_r_0 N b1 n l1 n1 z0 (fun n4 => KL Go.Eng.Ex.ret [(Option.some (Go.Eng.AV.sc (Go.Eng.SV.int Go.IntKind.i64 n4)))] [(Option.some (Go.Eng.HE.mk Bool.true (Go.Eng.HB.rows (Go.Sa.B.iFirmTable l1))))]) (KL Go.Eng.Ex.normal [Option.none] [(Option.some (Go.Eng.HE.mk Bool.true (Go.Eng.HB.rows (Go.Sa.B.iFirmTable l1))))])) (funext fun n1 => ih n1))
def i_slices_IndexFunc_FirmTable_Fimpl_PutTables_1_r_0 (N : Nat) {R : Type} (vs : List (Option AV)) (H : Hp E) (KL : Ex → List (Option AV) → Hp E → Option R) : Option R :=
  match vs, H with
  | [(Option.some (Go.Eng.AV.sc (Go.Eng.SV.slc 0 Option.none b1))), (Option.some (Go.Eng.AV.sc (Go.Eng.SV.fn 109 []))), (Option.some (Go.Eng.AV.sc (Go.Eng.SV.int Go.IntKind.i64 n))), (Option.some (Go.Eng.AV.sc (Go.Eng.SV.int Go.IntKind.i64 n1)))], [(Option.some (Go.Eng.HE.mk Bool.true (Go.Eng.HB.rows (Go.Sa.B.iFirmTable l1))))] => c_slices_IndexFunc_FirmTable_Fimpl_PutTables_1_r_0 N b1 n l1 n1 (fun n5 => KL Go.Eng.Ex.ret [(Option.some (Go.Eng.AV.sc (Go.Eng.SV.int Go.IntKind.i64 n5)))] [(Option.some (Go.Eng.HE.mk Bool.true (Go.Eng.HB.rows (Go.Sa.B.iFirmTable l1))))]) (KL Go.Eng.Ex.normal [Option.none] [(Option.some (Go.Eng.HE.mk Bool.true (Go.Eng.HB.rows (Go.Sa.B.iFirmTable l1))))])
  | _, _ => none
noncomputable def IT_slices_IndexFunc_FirmTable_Fimpl_PutTables_1_r_0 (N : Nat) : Its E := addIt 0 (i_slices_IndexFunc_FirmTable_Fimpl_PutTables_1_r_0 N) (noIt)
theorem IT_slices_IndexFunc_FirmTable_Fimpl_PutTables_1_r_0_ok (N : Nat) : ItOk (IT_slices_IndexFunc_FirmTable_Fimpl_PutTables_1_r_0 N) 1 19 sl_slices_IndexFunc_FirmTable_Fimpl_PutTables_1_r (lsB Go.Proofs.Try.f145 [0]) :=
  addItB_ok (inner := []) ok (O_slices_IndexFunc_FirmTable_Fimpl_PutTables_1_r_ok N) (jn_ok _ _) (noIt_ok) rfl (by kernel_rfl) rfl fun vs H KL r h => by
    unfold i_slices_IndexFunc_FirmTable_Fimpl_PutTables_1_r_0 at h
    split at h
    · exact ⟨_, (le_slices_IndexFunc_FirmTable_Fimpl_PutTables_1_r_0 N _ _ _ KL N _).trans h⟩
    · cases h
def g_slices_IndexFunc_FirmTable_Fimpl_PutTables_1_r (N : Nat) {R : Type} (b : Bool) (l : List Go.Sa.FirmTable) (k : Int → Option R) : Option R :=
  (c_slices_IndexFunc_FirmTable_Fimpl_PutTables_1_r_0 N b (((List.length l) : Nat) : Int) l (0 : Int) (fun n2 =>
  (k n2)) (
  (k (-(1 : Int)))))
theorem e_slices_IndexFunc_FirmTable_Fimpl_PutTables_1_r (N : Nat) {R : Type} (b : Bool) (l : List Go.Sa.FirmTable) (K : AV → Hp E → Option R) :
    runFnI (E := E) (O_slices_IndexFunc_FirmTable_Fimpl_PutTables_1_r N) (IT_slices_IndexFunc_FirmTable_Fimpl_PutTables_1_r_0 N) sl_slices_IndexFunc_FirmTable_Fimpl_PutTables_1_r J_slices_IndexFunc_FirmTable_Fimpl_PutTables_1_r Go.Proofs.Try.f145 [(Go.Eng.AV.sc (Go.Eng.SV.slc 0 Option.none b)), (Go.Eng.AV.sc (Go.Eng.SV.fn 109 []))] [(Option.some (Go.Eng.HE.mk Bool.true (Go.Eng.HB.rows (Go.Sa.B.iFirmTable l))))] K =
      g_slices_IndexFunc_FirmTable_Fimpl_PutTables_1_r N b l (fun n3 => K (Go.Eng.AV.sc (Go.Eng.SV.int Go.IntKind.i64 n3)) [(Option.some (Go.Eng.HE.mk Bool.true (Go.Eng.HB.rows (Go.Sa.B.iFirmTable l))))]) := by kernel_rfl
def o_slices_IndexFunc_FirmTable_Fimpl_PutTables_1_r (N : Nat) {R : Type} (args : List AV) (H : Hp E) (K : AV → Hp E → Option R) : Option R :=
  match args, H with
  | [(Go.Eng.AV.sc (Go.Eng.SV.slc 0 Option.none b)), (Go.Eng.AV.sc (Go.Eng.SV.fn 109 []))], [(Option.some (Go.Eng.HE.mk Bool.true (Go.Eng.HB.rows (Go.Sa.B.iFirmTable l))))] => g_slices_IndexFunc_FirmTable_Fimpl_PutTables_1_r N b l (fun n3 => K (Go.Eng.AV.sc (Go.Eng.SV.int Go.IntKind.i64 n3)) [(Option.some (Go.Eng.HE.mk Bool.true (Go.Eng.HB.rows (Go.Sa.B.iFirmTable l))))])
  | _, _ => none
theorem o_slices_IndexFunc_FirmTable_Fimpl_PutTables_1_r_ok (N : Nat) : FnOk E 145 (o_slices_IndexFunc_FirmTable_Fimpl_PutTables_1_r N) := by
  intro R args H K r h
  unfold o_slices_IndexFunc_FirmTable_Fimpl_PutTables_1_r at h
  dsimp only at h
  split at h
  · exact fnB_ok (ids := [0]) (top := [0]) ok (O_slices_IndexFunc_FirmTable_Fimpl_PutTables_1_r_ok N) (jn_ok _ _) Go.Proofs.Try.func145 (by kernel_rfl) (IT := IT_slices_IndexFunc_FirmTable_Fimpl_PutTables_1_r_0 N) (sl := sl_slices_IndexFunc_FirmTable_Fimpl_PutTables_1_r) (J := J_slices_IndexFunc_FirmTable_Fimpl_PutTables_1_r) (K := K) (H := [(Option.some (Go.Eng.HE.mk Bool.true (Go.Eng.HB.rows (Go.Sa.B.iFirmTable _))))]) (IT_slices_IndexFunc_FirmTable_Fimpl_PutTables_1_r_0_ok N) (by kernel_rfl) rfl ((e_slices_IndexFunc_FirmTable_Fimpl_PutTables_1_r N _ _ K).trans h)
  · cases h
/-! ### slices.ContainsFunc[[]loop.example/g00038/impl.FirmTable,loop.example/g00038/impl.FirmTable] -/
abbrev sl_slices_ContainsFunc_FirmTable_Fimpl_PutTables_1_r : SlotT := []
abbrev J_slices_ContainsFunc_FirmTable_Fimpl_PutTables_1_r : JT := jn [] []
noncomputable def O_slices_ContainsFunc_FirmTable_Fimpl_PutTables_1_r (N : Nat) : Orc E := addFn 145 (o_slices_IndexFunc_FirmTable_Fimpl_PutTables_1_r N) (noFn)
theorem O_slices_ContainsFunc_FirmTable_Fimpl_PutTables_1_r_ok (N : Nat) : OrcOk (O_slices_ContainsFunc_FirmTable_Fimpl_PutTables_1_r N) := addFn_ok (o_slices_IndexFunc_FirmTable_Fimpl_PutTables_1_r_ok N) (noFn_ok)
def g_slices_ContainsFunc_FirmTable_Fimpl_PutTables_1_r (N : Nat) {R : Type} (b : Bool) (l : List Go.Sa.FirmTable) (k : Bool → Option R) : Option R :=
  (g_slices_IndexFunc_FirmTable_Fimpl_PutTables_1_r N b l fun n =>
  (k (decide ((n ≥ (0 : Int))))))
theorem e_slices_ContainsFunc_FirmTable_Fimpl_PutTables_1_r (N : Nat) {R : Type} (b : Bool) (l : List Go.Sa.FirmTable) (K : AV → Hp E → Option R) :
    runFnI (E := E) (O_slices_ContainsFunc_FirmTable_Fimpl_PutTables_1_r N) (noIt) sl_slices_ContainsFunc_FirmTable_Fimpl_PutTables_1_r J_slices_ContainsFunc_FirmTable_Fimpl_PutTables_1_r Go.Proofs.Try.f108 [(Go.Eng.AV.sc (Go.Eng.SV.slc 0 Option.none b)), (Go.Eng.AV.sc (Go.Eng.SV.fn 109 []))] [(Option.some (Go.Eng.HE.mk Bool.true (Go.Eng.HB.rows (Go.Sa.B.iFirmTable l))))] K =
      g_slices_ContainsFunc_FirmTable_Fimpl_PutTables_1_r N b l (fun b1 => K (Go.Eng.AV.sc (Go.Eng.SV.bool b1)) [(Option.some (Go.Eng.HE.mk Bool.true (Go.Eng.HB.rows (Go.Sa.B.iFirmTable l))))]) := by kernel_rfl
def o_slices_ContainsFunc_FirmTable_Fimpl_PutTables_1_r (N : Nat) {R : Type} (args : List AV) (H : Hp E) (K : AV → Hp E → Option R) : Option R :=
  match args, H with
  | [(Go.Eng.AV.sc (Go.Eng.SV.slc 0 Option.none b)), (Go.Eng.AV.sc (Go.Eng.SV.fn 109 []))], [(Option.some (Go.Eng.HE.mk Bool.true (Go.Eng.HB.rows (Go.Sa.B.iFirmTable l))))] => g_slices_ContainsFunc_FirmTable_Fimpl_PutTables_1_r N b l (fun b1 => K (Go.Eng.AV.sc (Go.Eng.SV.bool b1)) [(Option.some (Go.Eng.HE.mk Bool.true (Go.Eng.HB.rows (Go.Sa.B.iFirmTable l))))])
  | _, _ => none
theorem o_slices_ContainsFunc_FirmTable_Fimpl_PutTables_1_r_ok (N : Nat) : FnOk E 108 (o_slices_ContainsFunc_FirmTable_Fimpl_PutTables_1_r N) := by
  intro R args H K r h
  unfold o_slices_ContainsFunc_FirmTable_Fimpl_PutTables_1_r at h
  dsimp only at h
  split at h
  · exact fnB_ok (ids := []) (top := []) ok (O_slices_ContainsFunc_FirmTable_Fimpl_PutTables_1_r_ok N) (jn_ok _ _) Go.Proofs.Try.func108 (by kernel_rfl) (IT := noIt) (sl := sl_slices_ContainsFunc_FirmTable_Fimpl_PutTables_1_r) (J := J_slices_ContainsFunc_FirmTable_Fimpl_PutTables_1_r) (K := K) (H := [(Option.some (Go.Eng.HE.mk Bool.true (Go.Eng.HB.rows (Go.Sa.B.iFirmTable _))))]) (noIt_ok) (by kernel_rfl) rfl ((e_slices_ContainsFunc_FirmTable_Fimpl_PutTables_1_r N _ _ K).trans h)
  · cases h
/-! ### loop.example/g00038/impl.ybyteSum -/
abbrev sl_impl_ybyteSum : SlotT := [(0, ([0, 3, 6, 7], [3]))]
abbrev J_impl_ybyteSum : JT := jn [] []
noncomputable def O_impl_ybyteSum (N : Nat) : Orc E := noFn
theorem O_impl_ybyteSum_ok (N : Nat) : OrcOk (O_impl_ybyteSum N) := noFn_ok
def s_impl_ybyteSum_0 (N : Nat) {R : Type} (s1 : ByteArray) (n1 : Int) (n : Int) (n2 : Int) (ag : Int → Int → Option R)  (kN : Int → Option R) : Option R :=
  (cond (decide ((n2 < n1)))
  (cond ((decide (((0 : Int) ≤ n2))) && (decide ((n2 < (((ByteArray.size s1) : Nat) : Int)))))
    (ag (Go.IntKind.wrap Go.IntKind.i64 (n + (Go.IntKind.wrap Go.IntKind.i64 (Go.Eng.bt s1 (Int.toNat n2))))) (Go.IntKind.wrap Go.IntKind.i64 (n2 + (1 : Int))))
    none)
  (kN n))
def l_impl_ybyteSum_0 (N : Nat) {R : Type} (s1 : ByteArray) (n1 : Int) (kN : Int → Option R) : Nat → Int → Int → Option R
  | 0, _, _ => none
  | f + 1, n, n2 => s_impl_ybyteSum_0 N s1 n1 n n2 (fun n n2 => l_impl_ybyteSum_0 N s1 n1 kN f n n2)  kN
def c_impl_ybyteSum_0 (N : Nat) {R : Type} (s1 : ByteArray) (n1 : Int) (n : Int) (n2 : Int) (kN : Int → Option R) : Option R := l_impl_ybyteSum_0 N s1 n1 kN N n n2
theorem se_impl_ybyteSum_0 (N : Nat) {R : Type} (s1 : ByteArray) (n1 : Int) (n : Int) (n2 : Int) (AG : List (Option AV) → Hp E → Option R) (KL : Ex → List (Option AV) → Hp E → Option R) :
    iterStep (E := E) (O_impl_ybyteSum N) (fun {R} => LI (noIt) 0 19 sl_impl_ybyteSum (R := R)) J_impl_ybyteSum 0 19 0 [0, 3, 6, 7] [3] (body Go.Proofs.Try.f111 0) AG KL [(Option.some (Go.Eng.AV.sc (Go.Eng.SV.str s1))), (Option.some (Go.Eng.AV.sc (Go.Eng.SV.int Go.IntKind.i64 n))), (Option.some (Go.Eng.AV.sc (Go.Eng.SV.int Go.IntKind.i64 n1))), (Option.some (Go.Eng.AV.sc (Go.Eng.SV.int Go.IntKind.i64 n2)))] [] =
      s_impl_ybyteSum_0 N s1 n1 n n2 (fun n n2 => AG [(Option.some (Go.Eng.AV.sc (Go.Eng.SV.str s1))), (Option.some (Go.Eng.AV.sc (Go.Eng.SV.int Go.IntKind.i64 n))), (Option.some (Go.Eng.AV.sc (Go.Eng.SV.int Go.IntKind.i64 n1))), (Option.some (Go.Eng.AV.sc (Go.Eng.SV.int Go.IntKind.i64 n2)))] [])  (fun n5 => KL Go.Eng.Ex.normal [(Option.some (Go.Eng.AV.sc (Go.Eng.SV.int Go.IntKind.i64 n5)))] []) := by kernel_rfl
theorem le_impl_ybyteSum_0 (N : Nat) {R : Type} (s1 : ByteArray) (n1 : Int) (KL : Ex → List (Option AV) → Hp E → Option R) : ∀ (f : Nat), ∀ (n : Int) (n2 : Int), iterK (E := E) (O_impl_ybyteSum N) (fun {R} => LI (noIt) 0 19 sl_impl_ybyteSum (R := R)) J_impl_ybyteSum 0 19 0 [0, 3, 6, 7] [3] (body Go.Proofs.Try.f111 0) f [(Option.some (Go.Eng.AV.sc (Go.Eng.SV.str s1))), (Option.some (Go.Eng.AV.sc (Go.Eng.SV.int Go.IntKind.i64 n))), (Option.some (Go.Eng.AV.sc (Go.Eng.SV.int Go.IntKind.i64 n1))), (Option.some (Go.Eng.AV.sc (Go.Eng.SV.int Go.IntKind.i64 n2)))] [] KL = l_impl_ybyteSum_0 N s1 n1 (fun n5 => KL Go.Eng.Ex.normal [(Option.some (Go.Eng.AV.sc (Go.Eng.SV.int Go.IntKind.i64 n5)))] []) f n n2 := by
  intro f
  induction f with
  | zero => intros; rfl
  | succ f ih =>
    intro n n2
    rw [iterK_succ, se_impl_ybyteSum_0]
    exact (congrArg (fun z0 => s_impl_ybyteSum_0 N s1 n1 n n2 z0 (fun n5 => KL Go.Eng.Ex.normal [(Option.some (Go.Eng.AV.sc (Go.Eng.SV.int Go.IntKind.i64 n5)))] [])) (funext fun n => funext fun n2 => ih n n2))
def i_impl_ybyteSum_0 (N : Nat) {R : Type} (vs : List (Option AV)) (H : Hp E) (KL : Ex → List (Option AV) → Hp E → Option R) : Option R :=
  match vs, H with
  | [(Option.some (Go.Eng.AV.sc (Go.Eng.SV.str s1))), (Option.some (Go.Eng.AV.sc (Go.Eng.SV.int Go.IntKind.i64 n))), (Option.some (Go.Eng.AV.sc (Go.Eng.SV.int Go.IntKind.i64 n1))), (Option.some (Go.Eng.AV.sc (Go.Eng.SV.int Go.IntKind.i64 n2)))], [] => c_impl_ybyteSum_0 N s1 n1 n n2 (fun n6 => KL Go.Eng.Ex.normal [(Option.some (Go.Eng.AV.sc (Go.Eng.SV.int Go.IntKind.i64 n6)))] [])
  | _, _ => none
noncomputable def IT_impl_ybyteSum_0 (N : Nat) : Its E := addIt 0 (i_impl_ybyteSum_0 N) (noIt)
theorem IT_impl_ybyteSum_0_ok (N : Nat) : ItOk (IT_impl_ybyteSum_0 N) 0 19 sl_impl_ybyteSum (lsB Go.Proofs.Try.f111 [0]) :=
  addItB_ok (inner := []) ok (O_impl_ybyteSum_ok N) (jn_ok _ _) (noIt_ok) rfl (by kernel_rfl) rfl fun vs H KL r h => by
    unfold i_impl_ybyteSum_0 at h
    split at h
    · exact ⟨_, (le_impl_ybyteSum_0 N _ _ KL N _ _).trans h⟩
    · cases h
def g_impl_ybyteSum (N : Nat) {R : Type} (s : ByteArray) (k : Int → Option R) : Option R :=
  (c_impl_ybyteSum_0 N s (((ByteArray.size s) : Nat) : Int) (0 : Int) (0 : Int) fun n3 =>
  (k (Go.IntKind.wrap Go.IntKind.i64 (((BitVec.toNat ((BitVec.ofInt 64 n3) &&& (BitVec.ofInt 64 (255 : Int)))) : Nat) : Int))))
theorem e_impl_ybyteSum (N : Nat) {R : Type} (s : ByteArray) (K : AV → Hp E → Option R) :
    runFnI (E := E) (O_impl_ybyteSum N) (IT_impl_ybyteSum_0 N) sl_impl_ybyteSum J_impl_ybyteSum Go.Proofs.Try.f111 [(Go.Eng.AV.sc (Go.Eng.SV.str s))] [] K =
      g_impl_ybyteSum N s (fun n4 => K (Go.Eng.AV.sc (Go.Eng.SV.int Go.IntKind.i64 n4)) []) := by kernel_rfl
def o_impl_ybyteSum (N : Nat) {R : Type} (args : List AV) (H : Hp E) (K : AV → Hp E → Option R) : Option R :=
  match args, H with
  | [(Go.Eng.AV.sc (Go.Eng.SV.str s))], [] => g_impl_ybyteSum N s (fun n4 => K (Go.Eng.AV.sc (Go.Eng.SV.int Go.IntKind.i64 n4)) [])
  | _, _ => none
theorem o_impl_ybyteSum_ok (N : Nat) : FnOk E 111 (o_impl_ybyteSum N) := by
  intro R args H K r h
  unfold o_impl_ybyteSum at h
  dsimp only at h
  split at h
  · exact fnB_ok (ids := [0]) (top := [0]) ok (O_impl_ybyteSum_ok N) (jn_ok _ _) Go.Proofs.Try.func111 (by kernel_rfl) (IT := IT_impl_ybyteSum_0 N) (sl := sl_impl_ybyteSum) (J := J_impl_ybyteSum) (K := K) (H := []) (IT_impl_ybyteSum_0_ok N) (by kernel_rfl) rfl ((e_impl_ybyteSum N _ K).trans h)
  · cases h
/-! ### loop.example/g00038/impl.ywordAt -/
abbrev sl_impl_ywordAt : SlotT := []
abbrev J_impl_ywordAt : JT := jn [] []
noncomputable def O_impl_ywordAt (N : Nat) : Orc E := noFn
theorem O_impl_ywordAt_ok (N : Nat) : OrcOk (O_impl_ywordAt N) := noFn_ok
def g_impl_ywordAt (N : Nat) {R : Type} (s : ByteArray) (n : Int) (k : Int → Option R) : Option R :=
  (cond ((decide (((0 : Int) ≤ n))) && (decide ((n < (((ByteArray.size s) : Nat) : Int)))))
  (cond ((decide (((0 : Int) ≤ (Go.IntKind.wrap Go.IntKind.i64 (n + (1 : Int)))))) && (decide (((Go.IntKind.wrap Go.IntKind.i64 (n + (1 : Int))) < (((ByteArray.size s) : Nat) : Int)))))
    (cond ((decide (((0 : Int) ≤ (Go.IntKind.wrap Go.IntKind.i64 (n + (2 : Int)))))) && (decide (((Go.IntKind.wrap Go.IntKind.i64 (n + (2 : Int))) < (((ByteArray.size s) : Nat) : Int)))))
      (cond ((decide (((0 : Int) ≤ (Go.IntKind.wrap Go.IntKind.i64 (n + (3 : Int)))))) && (decide (((Go.IntKind.wrap Go.IntKind.i64 (n + (3 : Int))) < (((ByteArray.size s) : Nat) : Int)))))
        (k (Go.IntKind.wrap Go.IntKind.i64 (((BitVec.toNat ((BitVec.ofInt 64 (Go.IntKind.wrap Go.IntKind.i64 (((BitVec.toNat ((BitVec.ofInt 64 (Go.IntKind.wrap Go.IntKind.i64 (((BitVec.toNat ((BitVec.ofInt 64 (Go.IntKind.wrap Go.IntKind.i64 (Go.Eng.bt s (Int.toNat n)))) ||| (BitVec.ofInt 64 (Go.IntKind.wrap Go.IntKind.i64 ((Go.IntKind.wrap Go.IntKind.i64 (Go.Eng.bt s (Int.toNat (Go.IntKind.wrap Go.IntKind.i64 (n + (1 : Int)))))) * (256 : Int)))))) : Nat) : Int))) ||| (BitVec.ofInt 64 (Go.IntKind.wrap Go.IntKind.i64 ((Go.IntKind.wrap Go.IntKind.i64 (Go.Eng.bt s (Int.toNat (Go.IntKind.wrap Go.IntKind.i64 (n + (2 : Int)))))) * (65536 : Int)))))) : Nat) : Int))) ||| (BitVec.ofInt 64 (Go.IntKind.wrap Go.IntKind.i64 ((Go.IntKind.wrap Go.IntKind.i64 (Go.Eng.bt s (Int.toNat (Go.IntKind.wrap Go.IntKind.i64 (n + (3 : Int)))))) * (16777216 : Int)))))) : Nat) : Int)))
        none)
      none)
    none)
  none)
theorem e_impl_ywordAt (N : Nat) {R : Type} (s : ByteArray) (n : Int) (K : AV → Hp E → Option R) :
    runFnI (E := E) (O_impl_ywordAt N) (noIt) sl_impl_ywordAt J_impl_ywordAt Go.Proofs.Try.f147 [(Go.Eng.AV.sc (Go.Eng.SV.str s)), (Go.Eng.AV.sc (Go.Eng.SV.int Go.IntKind.i64 n))] [] K =
      g_impl_ywordAt N s n (fun n1 => K (Go.Eng.AV.sc (Go.Eng.SV.int Go.IntKind.i64 n1)) []) := by kernel_rfl
def o_impl_ywordAt (N : Nat) {R : Type} (args : List AV) (H : Hp E) (K : AV → Hp E → Option R) : Option R :=
  match args, H with
  | [(Go.Eng.AV.sc (Go.Eng.SV.str s)), (Go.Eng.AV.sc (Go.Eng.SV.int Go.IntKind.i64 n))], [] => g_impl_ywordAt N s n (fun n1 => K (Go.Eng.AV.sc (Go.Eng.SV.int Go.IntKind.i64 n1)) [])
  | _, _ => none
theorem o_impl_ywordAt_ok (N : Nat) : FnOk E 147 (o_impl_ywordAt N) := by
  intro R args H K r h
  unfold o_impl_ywordAt at h
  dsimp only at h
  split at h
  · exact fnB_ok (ids := []) (top := []) ok (O_impl_ywordAt_ok N) (jn_ok _ _) Go.Proofs.Try.func147 (by kernel_rfl) (IT := noIt) (sl := sl_impl_ywordAt) (J := J_impl_ywordAt) (K := K) (H := []) (noIt_ok) (by kernel_rfl) rfl ((e_impl_ywordAt N _ _ K).trans h)
  · cases h
/-! ### loop.example/g00038/impl.Word -/
abbrev sl_impl_Word : SlotT := []
abbrev J_impl_Word : JT := jn [] []
noncomputable def O_impl_Word (N : Nat) : Orc E := noFn
theorem O_impl_Word_ok (N : Nat) : OrcOk (O_impl_Word N) := noFn_ok
def g_impl_Word (N : Nat) {R : Type} (n : Int) (k : Int → Option R) : Option R :=
  (k (Go.IntKind.wrap Go.IntKind.i64 (Go.IntKind.wrap Go.IntKind.u32 n)))
theorem e_impl_Word (N : Nat) {R : Type} (n : Int) (K : AV → Hp E → Option R) :
    runFnI (E := E) (O_impl_Word N) (noIt) sl_impl_Word J_impl_Word Go.Proofs.Try.f148 [(Go.Eng.AV.sc (Go.Eng.SV.int Go.IntKind.i64 n))] [] K =
      g_impl_Word N n (fun n1 => K (Go.Eng.AV.sc (Go.Eng.SV.int Go.IntKind.i64 n1)) []) := by kernel_rfl
def o_impl_Word (N : Nat) {R : Type} (args : List AV) (H : Hp E) (K : AV → Hp E → Option R) : Option R :=
  match args, H with
  | [(Go.Eng.AV.sc (Go.Eng.SV.int Go.IntKind.i64 n))], [] => g_impl_Word N n (fun n1 => K (Go.Eng.AV.sc (Go.Eng.SV.int Go.IntKind.i64 n1)) [])
  | _, _ => none
theorem o_impl_Word_ok (N : Nat) : FnOk E 148 (o_impl_Word N) := by
  intro R args H K r h
  unfold o_impl_Word at h
  dsimp only at h
  split at h
  · exact fnB_ok (ids := []) (top := []) ok (O_impl_Word_ok N) (jn_ok _ _) Go.Proofs.Try.func148 (by kernel_rfl) (IT := noIt) (sl := sl_impl_Word) (J := J_impl_Word) (K := K) (H := []) (noIt_ok) (by kernel_rfl) rfl ((e_impl_Word N _ K).trans h)
  · cases h
end Go.Sa
