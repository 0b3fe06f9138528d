import Derived.Test.YtmmgjioemnhoaaaSpec
import Derived.Test.YtmmgjioemnhoaaaPLb
import Derived.Test.YtmmgjioemnhoaaaW5
set_option linter.all false
namespace Go.Sa
open Go Go.Eng Go.Proofs
set_option maxRecDepth 100000
/-! ### loop.example/g00038/impl.yopenVolume -/
abbrev sl_impl_yopenVolume_r : SlotT := [(0, ([1, 2, 10, 11, 12], [4, 5]))]
abbrev J_impl_yopenVolume_r : JT := jn [] [] []
noncomputable def O_impl_yopenVolume_r (N : Nat) : Orc E := addFn 40 (o_impl_Crypt N) (addFn 60 (o_impl_TagOf N) (noFn))
theorem O_impl_yopenVolume_r_ok (N : Nat) : OrcOk (O_impl_yopenVolume_r N) := addFn_ok (o_impl_Crypt_ok N) (addFn_ok (o_impl_TagOf_ok N) (noFn_ok))
def s_impl_yopenVolume_r_0 (N : Nat) {R : Type} (s2 : ByteArray) (b1 : Bool) (n : Int) (l1 : List Go.Sa.KeySlot) (b2 : Bool) (s3 : ByteArray) (n1 : Int) (ag : Int → Option R)  (kR : ByteArray → Option R) (kN : Option R) : Option R :=
  (cond (decide ((n1 < n)))
  (cond ((decide (((0 : Int) ≤ n1))) && (decide ((n1 < (((List.length l1) : Nat) : Int)))))
    (elemK l1 (Int.toNat n1) fun x =>
      (g_impl_TagOf N s2 (Go.Sa.KeySlot.fKey x) fun s4 =>
      (cond (!(decide ((s4 = (Go.Sa.KeySlot.fTag x)))))
      (ag (Go.IntKind.wrap Go.IntKind.i64 (n1 + (1 : Int))))
      (g_impl_Crypt N s2 (Go.Sa.KeySlot.fSalt x) (Go.Sa.KeySlot.fKey x) fun s5 =>
        (g_impl_TagOf N s5 (ByteArray.mk (List.toArray [])) fun s6 =>
        (cond (decide ((s6 = s3)))
        (kR s5)
        (ag (Go.IntKind.wrap Go.IntKind.i64 (n1 + (1 : Int))))))))))
    none)
  kN)
def l_impl_yopenVolume_r_0 (N : Nat) {R : Type} (s2 : ByteArray) (b1 : Bool) (n : Int) (l1 : List Go.Sa.KeySlot) (b2 : Bool) (s3 : ByteArray) (kR : ByteArray → Option R) (kN : Option R) : Nat → Int → Option R
  | 0, _ => none
  | f + 1, n1 => s_impl_yopenVolume_r_0 N s2 b1 n l1 b2 s3 n1 (fun n1 => l_impl_yopenVolume_r_0 N s2 b1 n l1 b2 s3 kR kN f n1)  kR kN
def c_impl_yopenVolume_r_0 (N : Nat) {R : Type} (s2 : ByteArray) (b1 : Bool) (n : Int) (l1 : List Go.Sa.KeySlot) (b2 : Bool) (s3 : ByteArray) (n1 : Int) (kR : ByteArray → Option R) (kN : Option R) : Option R := l_impl_yopenVolume_r_0 N s2 b1 n l1 b2 s3 kR kN N n1
theorem se_impl_yopenVolume_r_0 (N : Nat) {R : Type} (s2 : ByteArray) (b1 : Bool) (n : Int) (l1 : List Go.Sa.KeySlot) (b2 : Bool) (s3 : ByteArray) (n1 : Int) (AG : List (Option AV) → Hp E → Option R) (KL : Ex → List (Option AV) → Hp E → Option R) :
    iterStep (E := E) (O_impl_yopenVolume_r N) (fun {R} => LI (noIt) 1 36 sl_impl_yopenVolume_r (R := R)) J_impl_yopenVolume_r 1 36 0 [1, 2, 10, 11, 12] [4, 5] (body Go.Proofs.Try.f87 0) AG KL [(Option.some (Go.Eng.AV.sc (Go.Eng.SV.str s2))), (Option.some (Go.Eng.AV.sc (Go.Eng.SV.ptr 1 0 0))), (Option.some (Go.Eng.AV.sc (Go.Eng.SV.slc 0 Option.none b1))), (Option.some (Go.Eng.AV.sc (Go.Eng.SV.int Go.IntKind.i64 n))), (Option.some (Go.Eng.AV.sc (Go.Eng.SV.int Go.IntKind.i64 n1)))] [(Option.some (Go.Eng.HE.mk Bool.true (Go.Eng.HB.rows (Go.Sa.B.iKeySlot l1)))), (Option.some (Go.Eng.HE.mk Bool.false (Go.Eng.HB.exp Option.none [(Go.Eng.SV.slc 0 Option.none b2), (Go.Eng.SV.str s3)])))] =
      s_impl_yopenVolume_r_0 N s2 b1 n l1 b2 s3 n1 (fun n1 => AG [(Option.some (Go.Eng.AV.sc (Go.Eng.SV.str s2))), (Option.some (Go.Eng.AV.sc (Go.Eng.SV.ptr 1 0 0))), (Option.some (Go.Eng.AV.sc (Go.Eng.SV.slc 0 Option.none b1))), (Option.some (Go.Eng.AV.sc (Go.Eng.SV.int Go.IntKind.i64 n))), (Option.some (Go.Eng.AV.sc (Go.Eng.SV.int Go.IntKind.i64 n1)))] [(Option.some (Go.Eng.HE.mk Bool.true (Go.Eng.HB.rows (Go.Sa.B.iKeySlot l1)))), (Option.some (Go.Eng.HE.mk Bool.false (Go.Eng.HB.exp Option.none [(Go.Eng.SV.slc 0 Option.none b2), (Go.Eng.SV.str s3)])))])  (fun s9 => KL Go.Eng.Ex.ret [(Option.some (Go.Eng.AV.sc (Go.Eng.SV.str s9))), (Option.some (Go.Eng.AV.sc (Go.Eng.SV.bool Bool.true)))] [(Option.some (Go.Eng.HE.mk Bool.true (Go.Eng.HB.rows (Go.Sa.B.iKeySlot l1))))]) (KL Go.Eng.Ex.normal [Option.none, Option.none] [(Option.some (Go.Eng.HE.mk Bool.true (Go.Eng.HB.rows (Go.Sa.B.iKeySlot l1))))]) := by kernel_rfl
theorem le_impl_yopenVolume_r_0 (N : Nat) {R : Type} (s2 : ByteArray) (b1 : Bool) (n : Int) (l1 : List Go.Sa.KeySlot) (b2 : Bool) (s3 : ByteArray) (KL : Ex → List (Option AV) → Hp E → Option R) : ∀ (f : Nat), ∀ (n1 : Int), iterK (E := E) (O_impl_yopenVolume_r N) (fun {R} => LI (noIt) 1 36 sl_impl_yopenVolume_r (R := R)) J_impl_yopenVolume_r 1 36 0 [1, 2, 10, 11, 12] [4, 5] (body Go.Proofs.Try.f87 0) f [(Option.some (Go.Eng.AV.sc (Go.Eng.SV.str s2))), (Option.some (Go.Eng.AV.sc (Go.Eng.SV.ptr 1 0 0))), (Option.some (Go.Eng.AV.sc (Go.Eng.SV.slc 0 Option.none b1))), (Option.some (Go.Eng.AV.sc (Go.Eng.SV.int Go.IntKind.i64 n))), (Option.some (Go.Eng.AV.sc (Go.Eng.SV.int Go.IntKind.i64 n1)))] [(Option.some (Go.Eng.HE.mk Bool.true (Go.Eng.HB.rows (Go.Sa.B.iKeySlot l1)))), (Option.some (Go.Eng.HE.mk Bool.false (Go.Eng.HB.exp Option.none [(Go.Eng.SV.slc 0 Option.none b2), (Go.Eng.SV.str s3)])))] KL = l_impl_yopenVolume_r_0 N s2 b1 n l1 b2 s3 (fun s9 => KL Go.Eng.Ex.ret [(Option.some (Go.Eng.AV.sc (Go.Eng.SV.str s9))), (Option.some (Go.Eng.AV.sc (Go.Eng.SV.bool Bool.true)))] [(Option.some (Go.Eng.HE.mk Bool.true (Go.Eng.HB.rows (Go.Sa.B.iKeySlot l1))))]) (KL Go.Eng.Ex.normal [Option.none, Option.none] [(Option.some (Go.Eng.HE.mk Bool.true (Go.Eng.HB.rows (Go.Sa.B.iKeySlot l1))))]) f n1 := by
  intro f
  induction f with
  | zero => intros; rfl
  | succ f ih =>
    intro n1
    rw [iterK_succ, se_impl_yopenVolume_r_0]
    exact (congrArg (fun z0 => s_impl_yopenVolume_r_0 N s2 b1 n l1 b2 s3 n1 z0 (fun s9 => KL Go.Eng.Ex.ret [(Option.some (Go.Eng.AV.sc (Go.Eng.SV.str s9))), (Option.some (Go.Eng.AV.sc (Go.Eng.SV.bool Bool.true)))] [(Option.some (Go.Eng.HE.mk Bool.true (Go.Eng.HB.rows (Go.Sa.B.iKeySlot l1))))]) (KL Go.Eng.Ex.normal [Option.none, Option.none] [(Option.some (Go.Eng.HE.mk Bool.true (Go.Eng.HB.rows (Go.Sa.B.iKeySlot l1))))])) (funext fun n1 => ih n1))
def i_impl_yopenVolume_r_0 (N : Nat) {R : Type} (vs : List (Option AV)) (H : Hp E) (KL : Ex → List (Option AV) → Hp E → Option R) : Option R :=
  match vs, H with
  | [(Option.some (Go.Eng.AV.sc (Go.Eng.SV.str s2))), (Option.some (Go.Eng.AV.sc (Go.Eng.SV.ptr 1 0 0))), (Option.some (Go.Eng.AV.sc (Go.Eng.SV.slc 0 Option.none b1))), (Option.some (Go.Eng.AV.sc (Go.Eng.SV.int Go.IntKind.i64 n))), (Option.some (Go.Eng.AV.sc (Go.Eng.SV.int Go.IntKind.i64 n1)))], [(Option.some (Go.Eng.HE.mk Bool.true (Go.Eng.HB.rows (Go.Sa.B.iKeySlot l1)))), (Option.some (Go.Eng.HE.mk Bool.false (Go.Eng.HB.exp Option.none [(Go.Eng.SV.slc 0 Option.none b2), (Go.Eng.SV.str s3)])))] => c_impl_yopenVolume_r_0 N s2 b1 n l1 b2 s3 n1 (fun s10 => KL Go.Eng.Ex.ret [(Option.some (Go.Eng.AV.sc (Go.Eng.SV.str s10))), (Option.some (Go.Eng.AV.sc (Go.Eng.SV.bool Bool.true)))] [(Option.some (Go.Eng.HE.mk Bool.true (Go.Eng.HB.rows (Go.Sa.B.iKeySlot l1))))]) (KL Go.Eng.Ex.normal [Option.none, Option.none] [(Option.some (Go.Eng.HE.mk Bool.true (Go.Eng.HB.rows (Go.Sa.B.iKeySlot l1))))])
  | _, _ => none
noncomputable def IT_impl_yopenVolume_r_0 (N : Nat) : Its E := addIt 0 (i_impl_yopenVolume_r_0 N) (noIt)
theorem IT_impl_yopenVolume_r_0_ok (N : Nat) : ItOk (IT_impl_yopenVolume_r_0 N) 1 36 sl_impl_yopenVolume_r (lsB Go.Proofs.Try.f87 [0]) :=
  addItB_ok (inner := []) ok (O_impl_yopenVolume_r_ok N) (jn_ok _ _ _) (noIt_ok) rfl (by kernel_rfl) rfl fun vs H KL r h => by
    unfold i_impl_yopenVolume_r_0 at h
    split at h
    · exact ⟨_, (le_impl_yopenVolume_r_0 N _ _ _ _ _ _ KL N _).trans h⟩
    · cases h
def g_impl_yopenVolume_r (N : Nat) {R : Type} (b : Bool) (s : ByteArray) (s1 : ByteArray) (l : List Go.Sa.KeySlot) (k : ByteArray → Bool → Option R) : Option R :=
  (c_impl_yopenVolume_r_0 N s1 b (((List.length l) : Nat) : Int) l b s (0 : Int) (fun s7 =>
  (k s7 Bool.true)) (
  (k (ByteArray.mk (List.toArray [])) Bool.false)))
theorem e_impl_yopenVolume_r (N : Nat) {R : Type} (b : Bool) (s : ByteArray) (s1 : ByteArray) (l : List Go.Sa.KeySlot) (K : AV → Hp E → Option R) :
    runFnI (E := E) (O_impl_yopenVolume_r N) (IT_impl_yopenVolume_r_0 N) sl_impl_yopenVolume_r J_impl_yopenVolume_r Go.Proofs.Try.f87 [(Go.Eng.AV.agg [(Go.Eng.SV.slc 0 Option.none b), (Go.Eng.SV.str s)]), (Go.Eng.AV.sc (Go.Eng.SV.str s1))] [(Option.some (Go.Eng.HE.mk Bool.true (Go.Eng.HB.rows (Go.Sa.B.iKeySlot l))))] K =
      g_impl_yopenVolume_r N b s s1 l (fun s8 b3 => K (Go.Eng.AV.tup [(Bool.false, [(Go.Eng.SV.str s8)]), (Bool.false, [(Go.Eng.SV.bool b3)])]) [(Option.some (Go.Eng.HE.mk Bool.true (Go.Eng.HB.rows (Go.Sa.B.iKeySlot l))))]) := by kernel_rfl
def o_impl_yopenVolume_r (N : Nat) {R : Type} (args : List AV) (H : Hp E) (K : AV → Hp E → Option R) : Option R :=
  match args, H with
  | [(Go.Eng.AV.agg [(Go.Eng.SV.slc 0 Option.none b), (Go.Eng.SV.str s)]), (Go.Eng.AV.sc (Go.Eng.SV.str s1))], [(Option.some (Go.Eng.HE.mk Bool.true (Go.Eng.HB.rows (Go.Sa.B.iKeySlot l))))] => g_impl_yopenVolume_r N b s s1 l (fun s8 b3 => K (Go.Eng.AV.tup [(Bool.false, [(Go.Eng.SV.str s8)]), (Bool.false, [(Go.Eng.SV.bool b3)])]) [(Option.some (Go.Eng.HE.mk Bool.true (Go.Eng.HB.rows (Go.Sa.B.iKeySlot l))))])
  | _, _ => none
theorem o_impl_yopenVolume_r_ok (N : Nat) : FnOk E 87 (o_impl_yopenVolume_r N) := by
  intro R args H K r h
  unfold o_impl_yopenVolume_r at h
  dsimp only at h
  split at h
  · exact fnB_ok (ids := [0]) (top := [0]) ok (O_impl_yopenVolume_r_ok N) (jn_ok _ _ _) Go.Proofs.Try.func87 (by kernel_rfl) (IT := IT_impl_yopenVolume_r_0 N) (sl := sl_impl_yopenVolume_r) (J := J_impl_yopenVolume_r) (K := K) (H := [(Option.some (Go.Eng.HE.mk Bool.true (Go.Eng.HB.rows (Go.Sa.B.iKeySlot _))))]) (IT_impl_yopenVolume_r_0_ok N) (by kernel_rfl) rfl ((e_impl_yopenVolume_r N _ _ _ _ K).trans h)
  · cases h
/-! ### loop.example/g00038/impl.OpenVolume -/
abbrev sl_impl_OpenVolume_r : SlotT := []
abbrev J_impl_OpenVolume_r : JT := jn [] [] []
noncomputable def O_impl_OpenVolume_r (N : Nat) : Orc E := addFn 87 (o_impl_yopenVolume_r N) (addFn 86 (o_impl_VolumeFault_r N) (addFn 57 (o_impl_ylongKey_w N) (noFn)))
def pa_impl_OpenVolume_r__o_impl_yopenVolume_r (N : Nat) (G_impl_yopenVolume_r : ∀ {R : Type} (b : Bool) (s : ByteArray) (s1 : ByteArray) (l : List Go.Sa.KeySlot) (k : ByteArray → Bool → Option R), Option R) (G_impl_VolumeFault_r : ∀ {R : Type} (b : Bool) (s : ByteArray) (l : List Go.Sa.KeySlot) (k : Int → Option R), Option R) (G_impl_ylongKey_w : ∀ {R : Type} (b : Bool) (l : List ByteArray) (k : Bool → Option R), Option R) {R : Type} (args : List AV) (H : Hp E) (K : AV → Hp E → Option R) : Option R :=
  match args, H with
  | [(Go.Eng.AV.agg [(Go.Eng.SV.slc 0 Option.none b), (Go.Eng.SV.str s)]), (Go.Eng.AV.sc (Go.Eng.SV.str s1))], [(Option.some (Go.Eng.HE.mk Bool.true (Go.Eng.HB.rows (Go.Sa.B.iKeySlot l))))] => G_impl_yopenVolume_r b s s1 l (fun s8 b3 => K (Go.Eng.AV.tup [(Bool.false, [(Go.Eng.SV.str s8)]), (Bool.false, [(Go.Eng.SV.bool b3)])]) [(Option.some (Go.Eng.HE.mk Bool.true (Go.Eng.HB.rows (Go.Sa.B.iKeySlot l))))])
  | _, _ => none
def pa_impl_OpenVolume_r__o_impl_VolumeFault_r (N : Nat) (G_impl_yopenVolume_r : ∀ {R : Type} (b : Bool) (s : ByteArray) (s1 : ByteArray) (l : List Go.Sa.KeySlot) (k : ByteArray → Bool → Option R), Option R) (G_impl_VolumeFault_r : ∀ {R : Type} (b : Bool) (s : ByteArray) (l : List Go.Sa.KeySlot) (k : Int → Option R), Option R) (G_impl_ylongKey_w : ∀ {R : Type} (b : Bool) (l : List ByteArray) (k : Bool → Option R), Option R) {R : Type} (args : List AV) (H : Hp E) (K : AV → Hp E → Option R) : Option R :=
  match args, H with
  | [(Go.Eng.AV.agg [(Go.Eng.SV.slc 0 Option.none b), (Go.Eng.SV.str s)])], [(Option.some (Go.Eng.HE.mk Bool.true (Go.Eng.HB.rows (Go.Sa.B.iKeySlot l))))] => G_impl_VolumeFault_r b s l (fun n => K (Go.Eng.AV.sc (Go.Eng.SV.int Go.IntKind.i64 n)) [(Option.some (Go.Eng.HE.mk Bool.true (Go.Eng.HB.rows (Go.Sa.B.iKeySlot l))))])
  | _, _ => none
def pa_impl_OpenVolume_r__o_impl_ylongKey_w (N : Nat) (G_impl_yopenVolume_r : ∀ {R : Type} (b : Bool) (s : ByteArray) (s1 : ByteArray) (l : List Go.Sa.KeySlot) (k : ByteArray → Bool → Option R), Option R) (G_impl_VolumeFault_r : ∀ {R : Type} (b : Bool) (s : ByteArray) (l : List Go.Sa.KeySlot) (k : Int → Option R), Option R) (G_impl_ylongKey_w : ∀ {R : Type} (b : Bool) (l : List ByteArray) (k : Bool → Option R), Option R) {R : Type} (args : List AV) (H : Hp E) (K : AV → Hp E → Option R) : Option R :=
  match args, H with
  | [(Go.Eng.AV.sc (Go.Eng.SV.slc 0 Option.none b))], [(Option.some (Go.Eng.HE.mk Bool.false (Go.Eng.HB.rows (Go.Sa.B.str l))))] => G_impl_ylongKey_w b l (fun b2 => K (Go.Eng.AV.sc (Go.Eng.SV.bool b2)) [(Option.some (Go.Eng.HE.mk Bool.false (Go.Eng.HB.rows (Go.Sa.B.str l))))])
  | _, _ => none
noncomputable def OA_impl_OpenVolume_r (N : Nat) (G_impl_yopenVolume_r : ∀ {R : Type} (b : Bool) (s : ByteArray) (s1 : ByteArray) (l : List Go.Sa.KeySlot) (k : ByteArray → Bool → Option R), Option R) (G_impl_VolumeFault_r : ∀ {R : Type} (b : Bool) (s : ByteArray) (l : List Go.Sa.KeySlot) (k : Int → Option R), Option R) (G_impl_ylongKey_w : ∀ {R : Type} (b : Bool) (l : List ByteArray) (k : Bool → Option R), Option R) : Orc E := addFn 87 (pa_impl_OpenVolume_r__o_impl_yopenVolume_r N G_impl_yopenVolume_r G_impl_VolumeFault_r G_impl_ylongKey_w) (addFn 86 (pa_impl_OpenVolume_r__o_impl_VolumeFault_r N G_impl_yopenVolume_r G_impl_VolumeFault_r G_impl_ylongKey_w) (addFn 57 (pa_impl_OpenVolume_r__o_impl_ylongKey_w N G_impl_yopenVolume_r G_impl_VolumeFault_r G_impl_ylongKey_w) (noFn)))
theorem O_impl_OpenVolume_r_ok (N : Nat) : OrcOk (O_impl_OpenVolume_r N) := addFn_ok (o_impl_yopenVolume_r_ok N) (addFn_ok (o_impl_VolumeFault_r_ok N) (addFn_ok (o_impl_ylongKey_w_ok N) (noFn_ok)))
def g_impl_OpenVolume_r (N : Nat) {R : Type} (b : Bool) (s : ByteArray) (s1 : ByteArray) (l : List Go.Sa.KeySlot) (k : Int → ByteArray → Option R) : Option R :=
  (g_impl_ylongKey_w N Bool.false [s1] fun b1 =>
  (cond b1
  (k (2 : Int) (ByteArray.mk (List.toArray [])))
  (g_impl_VolumeFault_r N b s l fun n =>
    (cond (n != (0 : Int))
    (k (1 : Int) (ByteArray.mk (List.toArray [])))
    (g_impl_yopenVolume_r N b s s1 l fun s2 b2 =>
      (cond (!b2)
      (k (7 : Int) (ByteArray.mk (List.toArray [])))
      (k (0 : Int) s2)))))))
def ga_g_impl_OpenVolume_r (N : Nat) (G_impl_yopenVolume_r : ∀ {R : Type} (b : Bool) (s : ByteArray) (s1 : ByteArray) (l : List Go.Sa.KeySlot) (k : ByteArray → Bool → Option R), Option R) (G_impl_VolumeFault_r : ∀ {R : Type} (b : Bool) (s : ByteArray) (l : List Go.Sa.KeySlot) (k : Int → Option R), Option R) (G_impl_ylongKey_w : ∀ {R : Type} (b : Bool) (l : List ByteArray) (k : Bool → Option R), Option R) {R : Type} (b : Bool) (s : ByteArray) (s1 : ByteArray) (l : List Go.Sa.KeySlot) (k : Int → ByteArray → Option R) : Option R :=
  (G_impl_ylongKey_w Bool.false [s1] fun b1 =>
  (cond b1
  (k (2 : Int) (ByteArray.mk (List.toArray [])))
  (G_impl_VolumeFault_r b s l fun n =>
    (cond (n != (0 : Int))
    (k (1 : Int) (ByteArray.mk (List.toArray [])))
    (G_impl_yopenVolume_r b s s1 l fun s2 b2 =>
      (cond (!b2)
      (k (7 : Int) (ByteArray.mk (List.toArray [])))
      (k (0 : Int) s2)))))))
theorem ea_e_impl_OpenVolume_r (N : Nat) (G_impl_yopenVolume_r : ∀ {R : Type} (b : Bool) (s : ByteArray) (s1 : ByteArray) (l : List Go.Sa.KeySlot) (k : ByteArray → Bool → Option R), Option R) (G_impl_VolumeFault_r : ∀ {R : Type} (b : Bool) (s : ByteArray) (l : List Go.Sa.KeySlot) (k : Int → Option R), Option R) (G_impl_ylongKey_w : ∀ {R : Type} (b : Bool) (l : List ByteArray) (k : Bool → Option R), Option R) {R : Type} (b : Bool) (s : ByteArray) (s1 : ByteArray) (l : List Go.Sa.KeySlot) (K : AV → Hp E → Option R) :
    runFnI (E := E) (OA_impl_OpenVolume_r N G_impl_yopenVolume_r G_impl_VolumeFault_r G_impl_ylongKey_w) (noIt) sl_impl_OpenVolume_r J_impl_OpenVolume_r Go.Proofs.Try.f37 [(Go.Eng.AV.agg [(Go.Eng.SV.slc 0 Option.none b), (Go.Eng.SV.str s)]), (Go.Eng.AV.sc (Go.Eng.SV.str s1))] [(Option.some (Go.Eng.HE.mk Bool.true (Go.Eng.HB.rows (Go.Sa.B.iKeySlot l))))] K =
      ga_g_impl_OpenVolume_r N G_impl_yopenVolume_r G_impl_VolumeFault_r G_impl_ylongKey_w b s s1 l (fun n1 s3 => K (Go.Eng.AV.agg [(Go.Eng.SV.int Go.IntKind.i64 n1), (Go.Eng.SV.str s3)]) [(Option.some (Go.Eng.HE.mk Bool.true (Go.Eng.HB.rows (Go.Sa.B.iKeySlot l))))]) := by kernel_rfl
theorem e_impl_OpenVolume_r (N : Nat) {R : Type} (b : Bool) (s : ByteArray) (s1 : ByteArray) (l : List Go.Sa.KeySlot) (K : AV → Hp E → Option R) :
    runFnI (E := E) (O_impl_OpenVolume_r N) (noIt) sl_impl_OpenVolume_r J_impl_OpenVolume_r Go.Proofs.Try.f37 [(Go.Eng.AV.agg [(Go.Eng.SV.slc 0 Option.none b), (Go.Eng.SV.str s)]), (Go.Eng.AV.sc (Go.Eng.SV.str s1))] [(Option.some (Go.Eng.HE.mk Bool.true (Go.Eng.HB.rows (Go.Sa.B.iKeySlot l))))] K =
      g_impl_OpenVolume_r N b s s1 l (fun n1 s3 => K (Go.Eng.AV.agg [(Go.Eng.SV.int Go.IntKind.i64 n1), (Go.Eng.SV.str s3)]) [(Option.some (Go.Eng.HE.mk Bool.true (Go.Eng.HB.rows (Go.Sa.B.iKeySlot l))))]) := castPr (by kernel_rfl) (ea_e_impl_OpenVolume_r N (g_impl_yopenVolume_r N) (g_impl_VolumeFault_r N) (g_impl_ylongKey_w N) b s s1 l K)
def o_impl_OpenVolume_r (N : Nat) {R : Type} (args : List AV) (H : Hp E) (K : AV → Hp E → Option R) : Option R :=
  match args, H with
  | [(Go.Eng.AV.agg [(Go.Eng.SV.slc 0 Option.none b), (Go.Eng.SV.str s)]), (Go.Eng.AV.sc (Go.Eng.SV.str s1))], [(Option.some (Go.Eng.HE.mk Bool.true (Go.Eng.HB.rows (Go.Sa.B.iKeySlot l))))] => g_impl_OpenVolume_r N b s s1 l (fun n1 s3 => K (Go.Eng.AV.agg [(Go.Eng.SV.int Go.IntKind.i64 n1), (Go.Eng.SV.str s3)]) [(Option.some (Go.Eng.HE.mk Bool.true (Go.Eng.HB.rows (Go.Sa.B.iKeySlot l))))])
  | _, _ => none
theorem o_impl_OpenVolume_r_ok (N : Nat) : FnOk E 37 (o_impl_OpenVolume_r N) := by
  intro R args H K r h
  unfold o_impl_OpenVolume_r at h
  dsimp only at h
  split at h
  · exact fnB_ok (ids := []) (top := []) ok (O_impl_OpenVolume_r_ok N) (jn_ok _ _ _) Go.Proofs.Try.func37 (by kernel_rfl) (IT := noIt) (sl := sl_impl_OpenVolume_r) (J := J_impl_OpenVolume_r) (K := K) (H := [(Option.some (Go.Eng.HE.mk Bool.true (Go.Eng.HB.rows (Go.Sa.B.iKeySlot _))))]) (noIt_ok) (by kernel_rfl) rfl ((e_impl_OpenVolume_r N _ _ _ _ K).trans h)
  · cases h
/-! ### loop.example/g00038/impl.VolumeFault -/
abbrev sl_impl_VolumeFault_w : SlotT := []
abbrev J_impl_VolumeFault_w : JT := jn [(1, [(18, .b)])] [] []
noncomputable def O_impl_VolumeFault_w (N : Nat) : Orc E := addFn 117 (o_slices_ContainsFunc_KeySlot_Fimpl_VolumeFault_1_r N) (addFn 77 (o_impl_yin N) (noFn))
theorem O_impl_VolumeFault_w_ok (N : Nat) : OrcOk (O_impl_VolumeFault_w N) := addFn_ok (o_slices_ContainsFunc_KeySlot_Fimpl_VolumeFault_1_r_ok N) (addFn_ok (o_impl_yin_ok N) (noFn_ok))
def g_impl_VolumeFault_w (N : Nat) {R : Type} (b : Bool) (s : ByteArray) (l : List Go.Sa.KeySlot) (k : Int → Option R) : Option R :=
  (oK (g_impl_yin N (((List.length l) : Nat) : Int) (1 : Int) (4 : Int) fun b1 =>
    (cond (!b1)
    (some Bool.true)
    (cond ((((ByteArray.size s) : Nat) : Int) != (8 : Int))
      (some Bool.true)
      (g_slices_ContainsFunc_KeySlot_Fimpl_VolumeFault_1_r N b l fun b2 =>
        (some b2))))) fun j =>
  (cond j
  (k (1 : Int))
  (k (0 : Int))))
theorem e_impl_VolumeFault_w (N : Nat) {R : Type} (b : Bool) (s : ByteArray) (l : List Go.Sa.KeySlot) (K : AV → Hp E → Option R) :
    runFnI (E := E) (O_impl_VolumeFault_w N) (noIt) sl_impl_VolumeFault_w J_impl_VolumeFault_w Go.Proofs.Try.f86 [(Go.Eng.AV.agg [(Go.Eng.SV.slc 0 Option.none b), (Go.Eng.SV.str s)])] [(Option.some (Go.Eng.HE.mk Bool.false (Go.Eng.HB.rows (Go.Sa.B.iKeySlot l))))] K =
      g_impl_VolumeFault_w N b s l (fun n => K (Go.Eng.AV.sc (Go.Eng.SV.int Go.IntKind.i64 n)) [(Option.some (Go.Eng.HE.mk Bool.false (Go.Eng.HB.rows (Go.Sa.B.iKeySlot l))))]) := by kernel_rfl
def o_impl_VolumeFault_w (N : Nat) {R : Type} (args : List AV) (H : Hp E) (K : AV → Hp E → Option R) : Option R :=
  match args, H with
  | [(Go.Eng.AV.agg [(Go.Eng.SV.slc 0 Option.none b), (Go.Eng.SV.str s)])], [(Option.some (Go.Eng.HE.mk Bool.false (Go.Eng.HB.rows (Go.Sa.B.iKeySlot l))))] => g_impl_VolumeFault_w N b s l (fun n => K (Go.Eng.AV.sc (Go.Eng.SV.int Go.IntKind.i64 n)) [(Option.some (Go.Eng.HE.mk Bool.false (Go.Eng.HB.rows (Go.Sa.B.iKeySlot l))))])
  | _, _ => none
theorem o_impl_VolumeFault_w_ok (N : Nat) : FnOk E 86 (o_impl_VolumeFault_w N) := by
  intro R args H K r h
  unfold o_impl_VolumeFault_w at h
  dsimp only at h
  split at h
  · exact fnB_ok (ids := []) (top := []) ok (O_impl_VolumeFault_w_ok N) (jn_ok _ _ _) Go.Proofs.Try.func86 (by kernel_rfl) (IT := noIt) (sl := sl_impl_VolumeFault_w) (J := J_impl_VolumeFault_w) (K := K) (H := [(Option.some (Go.Eng.HE.mk Bool.false (Go.Eng.HB.rows (Go.Sa.B.iKeySlot _))))]) (noIt_ok) (by kernel_rfl) rfl ((e_impl_VolumeFault_w N _ _ _ K).trans h)
  · cases h
/-! ### loop.example/g00038/impl.yopenVolume -/
abbrev sl_impl_yopenVolume_w : SlotT := [(0, ([1, 2, 10, 11, 12], [4, 5]))]
abbrev J_impl_yopenVolume_w : JT := jn [] [] []
noncomputable def O_impl_yopenVolume_w (N : Nat) : Orc E := addFn 40 (o_impl_Crypt N) (addFn 60 (o_impl_TagOf N) (noFn))
theorem O_impl_yopenVolume_w_ok (N : Nat) : OrcOk (O_impl_yopenVolume_w N) := addFn_ok (o_impl_Crypt_ok N) (addFn_ok (o_impl_TagOf_ok N) (noFn_ok))
def s_impl_yopenVolume_w_0 (N : Nat) {R : Type} (s2 : ByteArray) (b1 : Bool) (n : Int) (l1 : List Go.Sa.KeySlot) (b2 : Bool) (s3 : ByteArray) (n1 : Int) (ag : Int → Option R)  (kR : ByteArray → Option R) (kN : Option R) : Option R :=
  (cond (decide ((n1 < n)))
  (cond ((decide (((0 : Int) ≤ n1))) && (decide ((n1 < (((List.length l1) : Nat) : Int)))))
    (elemK l1 (Int.toNat n1) fun x =>
      (g_impl_TagOf N s2 (Go.Sa.KeySlot.fKey x) fun s4 =>
      (cond (!(decide ((s4 = (Go.Sa.KeySlot.fTag x)))))
      (ag (Go.IntKind.wrap Go.IntKind.i64 (n1 + (1 : Int))))
      (g_impl_Crypt N s2 (Go.Sa.KeySlot.fSalt x) (Go.Sa.KeySlot.fKey x) fun s5 =>
        (g_impl_TagOf N s5 (ByteArray.mk (List.toArray [])) fun s6 =>
        (cond (decide ((s6 = s3)))
        (kR s5)
        (ag (Go.IntKind.wrap Go.IntKind.i64 (n1 + (1 : Int))))))))))
    none)
  kN)
def l_impl_yopenVolume_w_0 (N : Nat) {R : Type} (s2 : ByteArray) (b1 : Bool) (n : Int) (l1 : List Go.Sa.KeySlot) (b2 : Bool) (s3 : ByteArray) (kR : ByteArray → Option R) (kN : Option R) : Nat → Int → Option R
  | 0, _ => none
  | f + 1, n1 => s_impl_yopenVolume_w_0 N s2 b1 n l1 b2 s3 n1 (fun n1 => l_impl_yopenVolume_w_0 N s2 b1 n l1 b2 s3 kR kN f n1)  kR kN
def c_impl_yopenVolume_w_0 (N : Nat) {R : Type} (s2 : ByteArray) (b1 : Bool) (n : Int) (l1 : List Go.Sa.KeySlot) (b2 : Bool) (s3 : ByteArray) (n1 : Int) (kR : ByteArray → Option R) (kN : Option R) : Option R := l_impl_yopenVolume_w_0 N s2 b1 n l1 b2 s3 kR kN N n1
theorem se_impl_yopenVolume_w_0 (N : Nat) {R : Type} (s2 : ByteArray) (b1 : Bool) (n : Int) (l1 : List Go.Sa.KeySlot) (b2 : Bool) (s3 : ByteArray) (n1 : Int) (AG : List (Option AV) → Hp E → Option R) (KL : Ex → List (Option AV) → Hp E → Option R) :
    iterStep (E := E) (O_impl_yopenVolume_w N) (fun {R} => LI (noIt) 1 36 sl_impl_yopenVolume_w (R := R)) J_impl_yopenVolume_w 1 36 0 [1, 2, 10, 11, 12] [4, 5] (body Go.Proofs.Try.f87 0) AG KL [(Option.some (Go.Eng.AV.sc (Go.Eng.SV.str s2))), (Option.some (Go.Eng.AV.sc (Go.Eng.SV.ptr 1 0 0))), (Option.some (Go.Eng.AV.sc (Go.Eng.SV.slc 0 Option.none b1))), (Option.some (Go.Eng.AV.sc (Go.Eng.SV.int Go.IntKind.i64 n))), (Option.some (Go.Eng.AV.sc (Go.Eng.SV.int Go.IntKind.i64 n1)))] [(Option.some (Go.Eng.HE.mk Bool.false (Go.Eng.HB.rows (Go.Sa.B.iKeySlot l1)))), (Option.some (Go.Eng.HE.mk Bool.false (Go.Eng.HB.exp Option.none [(Go.Eng.SV.slc 0 Option.none b2), (Go.Eng.SV.str s3)])))] =
      s_impl_yopenVolume_w_0 N s2 b1 n l1 b2 s3 n1 (fun n1 => AG [(Option.some (Go.Eng.AV.sc (Go.Eng.SV.str s2))), (Option.some (Go.Eng.AV.sc (Go.Eng.SV.ptr 1 0 0))), (Option.some (Go.Eng.AV.sc (Go.Eng.SV.slc 0 Option.none b1))), (Option.some (Go.Eng.AV.sc (Go.Eng.SV.int Go.IntKind.i64 n))), (Option.some (Go.Eng.AV.sc (Go.Eng.SV.int Go.IntKind.i64 n1)))] [(Option.some (Go.Eng.HE.mk Bool.false (Go.Eng.HB.rows (Go.Sa.B.iKeySlot l1)))), (Option.some (Go.Eng.HE.mk Bool.false (Go.Eng.HB.exp Option.none [(Go.Eng.SV.slc 0 Option.none b2), (Go.Eng.SV.str s3)])))])  (fun s9 => KL Go.Eng.Ex.ret [(Option.some (Go.Eng.AV.sc (Go.Eng.SV.str s9))), (Option.some (Go.Eng.AV.sc (Go.Eng.SV.bool Bool.true)))] [(Option.some (Go.Eng.HE.mk Bool.false (Go.Eng.HB.rows (Go.Sa.B.iKeySlot l1))))]) (KL Go.Eng.Ex.normal [Option.none, Option.none] [(Option.some (Go.Eng.HE.mk Bool.false (Go.Eng.HB.rows (Go.Sa.B.iKeySlot l1))))]) := by kernel_rfl
theorem le_impl_yopenVolume_w_0 (N : Nat) {R : Type} (s2 : ByteArray) (b1 : Bool) (n : Int) (l1 : List Go.Sa.KeySlot) (b2 : Bool) (s3 : ByteArray) (KL : Ex → List (Option AV) → Hp E → Option R) : ∀ (f : Nat), ∀ (n1 : Int), iterK (E := E) (O_impl_yopenVolume_w N) (fun {R} => LI (noIt) 1 36 sl_impl_yopenVolume_w (R := R)) J_impl_yopenVolume_w 1 36 0 [1, 2, 10, 11, 12] [4, 5] (body Go.Proofs.Try.f87 0) f [(Option.some (Go.Eng.AV.sc (Go.Eng.SV.str s2))), (Option.some (Go.Eng.AV.sc (Go.Eng.SV.ptr 1 0 0))), (Option.some (Go.Eng.AV.sc (Go.Eng.SV.slc 0 Option.none b1))), (Option.some (Go.Eng.AV.sc (Go.Eng.SV.int Go.IntKind.i64 n))), (Option.some (Go.Eng.AV.sc (Go.Eng.SV.int Go.IntKind.i64 n1)))] [(Option.some (Go.Eng.HE.mk Bool.false (Go.Eng.HB.rows (Go.Sa.B.iKeySlot l1)))), (Option.some (Go.Eng.HE.mk Bool.false (Go.Eng.HB.exp Option.none [(Go.Eng.SV.slc 0 Option.none b2), (Go.Eng.SV.str s3)])))] KL = l_impl_yopenVolume_w_0 N s2 b1 n l1 b2 s3 (fun s9 => KL Go.Eng.Ex.ret [(Option.some (Go.Eng.AV.sc (Go.Eng.SV.str s9))), (Option.some (Go.Eng.AV.sc (Go.Eng.SV.bool Bool.true)))] [(Option.some (Go.Eng.HE.mk Bool.false (Go.Eng.HB.rows (Go.Sa.B.iKeySlot l1))))]) (KL Go.Eng.Ex.normal [Option.none, Option.none] [(Option.some (Go.Eng.HE.mk Bool.false (Go.Eng.HB.rows (Go.Sa.B.iKeySlot l1))))]) f n1 := by
  intro f
  induction f with
  | zero => intros; rfl
  | succ f ih =>
    intro n1
    rw [iterK_succ, se_impl_yopenVolume_w_0]
    exact (congrArg (fun z0 => s_impl_yopenVolume_w_0 N s2 b1 n l1 b2 s3 n1 z0 (fun s9 => KL Go.Eng.Ex.ret [(Option.some (Go.Eng.AV.sc (Go.Eng.SV.str s9))), (Option.some (Go.Eng.AV.sc (Go.Eng.SV.bool Bool.true)))] [(Option.some (Go.Eng.HE.mk Bool.false (Go.Eng.HB.rows (Go.Sa.B.iKeySlot l1))))]) (KL Go.Eng.Ex.normal [Option.none, Option.none] [(Option.some (Go.Eng.HE.mk Bool.false (Go.Eng.HB.rows (Go.Sa.B.iKeySlot l1))))])) (funext fun n1 => ih n1))
def i_impl_yopenVolume_w_0 (N : Nat) {R : Type} (vs : List (Option AV)) (H : Hp E) (KL : Ex → List (Option AV) → Hp E → Option R) : Option R :=
  match vs, H with
  | [(Option.some (Go.Eng.AV.sc (Go.Eng.SV.str s2))), (Option.some (Go.Eng.AV.sc (Go.Eng.SV.ptr 1 0 0))), (Option.some (Go.Eng.AV.sc (Go.Eng.SV.slc 0 Option.none b1))), (Option.some (Go.Eng.AV.sc (Go.Eng.SV.int Go.IntKind.i64 n))), (Option.some (Go.Eng.AV.sc (Go.Eng.SV.int Go.IntKind.i64 n1)))], [(Option.some (Go.Eng.HE.mk Bool.false (Go.Eng.HB.rows (Go.Sa.B.iKeySlot l1)))), (Option.some (Go.Eng.HE.mk Bool.false (Go.Eng.HB.exp Option.none [(Go.Eng.SV.slc 0 Option.none b2), (Go.Eng.SV.str s3)])))] => c_impl_yopenVolume_w_0 N s2 b1 n l1 b2 s3 n1 (fun s10 => KL Go.Eng.Ex.ret [(Option.some (Go.Eng.AV.sc (Go.Eng.SV.str s10))), (Option.some (Go.Eng.AV.sc (Go.Eng.SV.bool Bool.true)))] [(Option.some (Go.Eng.HE.mk Bool.false (Go.Eng.HB.rows (Go.Sa.B.iKeySlot l1))))]) (KL Go.Eng.Ex.normal [Option.none, Option.none] [(Option.some (Go.Eng.HE.mk Bool.false (Go.Eng.HB.rows (Go.Sa.B.iKeySlot l1))))])
  | _, _ => none
noncomputable def IT_impl_yopenVolume_w_0 (N : Nat) : Its E := addIt 0 (i_impl_yopenVolume_w_0 N) (noIt)
theorem IT_impl_yopenVolume_w_0_ok (N : Nat) : ItOk (IT_impl_yopenVolume_w_0 N) 1 36 sl_impl_yopenVolume_w (lsB Go.Proofs.Try.f87 [0]) :=
  addItB_ok (inner := []) ok (O_impl_yopenVolume_w_ok N) (jn_ok _ _ _) (noIt_ok) rfl (by kernel_rfl) rfl fun vs H KL r h => by
    unfold i_impl_yopenVolume_w_0 at h
    split at h
    · exact ⟨_, (le_impl_yopenVolume_w_0 N _ _ _ _ _ _ KL N _).trans h⟩
    · cases h
def g_impl_yopenVolume_w (N : Nat) {R : Type} (b : Bool) (s : ByteArray) (s1 : ByteArray) (l : List Go.Sa.KeySlot) (k : ByteArray → Bool → Option R) : Option R :=
  (c_impl_yopenVolume_w_0 N s1 b (((List.length l) : Nat) : Int) l b s (0 : Int) (fun s7 =>
  (k s7 Bool.true)) (
  (k (ByteArray.mk (List.toArray [])) Bool.false)))
theorem e_impl_yopenVolume_w (N : Nat) {R : Type} (b : Bool) (s : ByteArray) (s1 : ByteArray) (l : List Go.Sa.KeySlot) (K : AV → Hp E → Option R) :
    runFnI (E := E) (O_impl_yopenVolume_w N) (IT_impl_yopenVolume_w_0 N) sl_impl_yopenVolume_w J_impl_yopenVolume_w Go.Proofs.Try.f87 [(Go.Eng.AV.agg [(Go.Eng.SV.slc 0 Option.none b), (Go.Eng.SV.str s)]), (Go.Eng.AV.sc (Go.Eng.SV.str s1))] [(Option.some (Go.Eng.HE.mk Bool.false (Go.Eng.HB.rows (Go.Sa.B.iKeySlot l))))] K =
      g_impl_yopenVolume_w N b s s1 l (fun s8 b3 => K (Go.Eng.AV.tup [(Bool.false, [(Go.Eng.SV.str s8)]), (Bool.false, [(Go.Eng.SV.bool b3)])]) [(Option.some (Go.Eng.HE.mk Bool.false (Go.Eng.HB.rows (Go.Sa.B.iKeySlot l))))]) := by kernel_rfl
def o_impl_yopenVolume_w (N : Nat) {R : Type} (args : List AV) (H : Hp E) (K : AV → Hp E → Option R) : Option R :=
  match args, H with
  | [(Go.Eng.AV.agg [(Go.Eng.SV.slc 0 Option.none b), (Go.Eng.SV.str s)]), (Go.Eng.AV.sc (Go.Eng.SV.str s1))], [(Option.some (Go.Eng.HE.mk Bool.false (Go.Eng.HB.rows (Go.Sa.B.iKeySlot l))))] => g_impl_yopenVolume_w N b s s1 l (fun s8 b3 => K (Go.Eng.AV.tup [(Bool.false, [(Go.Eng.SV.str s8)]), (Bool.false, [(Go.Eng.SV.bool b3)])]) [(Option.some (Go.Eng.HE.mk Bool.false (Go.Eng.HB.rows (Go.Sa.B.iKeySlot l))))])
  | _, _ => none
theorem o_impl_yopenVolume_w_ok (N : Nat) : FnOk E 87 (o_impl_yopenVolume_w N) := by
  intro R args H K r h
  unfold o_impl_yopenVolume_w at h
  dsimp only at h
  split at h
  · exact fnB_ok (ids := [0]) (top := [0]) ok (O_impl_yopenVolume_w_ok N) (jn_ok _ _ _) Go.Proofs.Try.func87 (by kernel_rfl) (IT := IT_impl_yopenVolume_w_0 N) (sl := sl_impl_yopenVolume_w) (J := J_impl_yopenVolume_w) (K := K) (H := [(Option.some (Go.Eng.HE.mk Bool.false (Go.Eng.HB.rows (Go.Sa.B.iKeySlot _))))]) (IT_impl_yopenVolume_w_0_ok N) (by kernel_rfl) rfl ((e_impl_yopenVolume_w N _ _ _ _ K).trans h)
  · cases h
/-! ### slices.Clone[[]loop.example/g00038/impl.KeySlot,loop.example/g00038/impl.KeySlot] -/
abbrev sl_slices_Clone_KeySlot_r : SlotT := []
abbrev J_slices_Clone_KeySlot_r : JT := jn [] [] []
noncomputable def O_slices_Clone_KeySlot_r (N : Nat) : Orc E := noFn
theorem O_slices_Clone_KeySlot_r_ok (N : Nat) : OrcOk (O_slices_Clone_KeySlot_r N) := noFn_ok
def g_slices_Clone_KeySlot_r (N : Nat) {R : Type} (b : Bool) (l : List Go.Sa.KeySlot) (k : Bool → (List Go.Sa.KeySlot) → Option R) : Option R :=
  (cond b
  (k Bool.true [])
  (cond (Go.Eng.roomOk (0 + (List.length l)) 40)
    (k (cond (Nat.beq (List.length l) 0) Bool.false Bool.false) ([] ++ l))
    none))
theorem e_slices_Clone_KeySlot_r (N : Nat) {R : Type} (b : Bool) (l : List Go.Sa.KeySlot) (K : AV → Hp E → Option R) :
    runFnI (E := E) (O_slices_Clone_KeySlot_r N) (noIt) sl_slices_Clone_KeySlot_r J_slices_Clone_KeySlot_r Go.Proofs.Try.f101 [(Go.Eng.AV.sc (Go.Eng.SV.slc 0 Option.none b))] [(Option.some (Go.Eng.HE.mk Bool.true (Go.Eng.HB.rows (Go.Sa.B.iKeySlot l))))] K =
      g_slices_Clone_KeySlot_r N b l (fun b1 l1 => K (Go.Eng.AV.sc (Go.Eng.SV.slc 1 Option.none b1)) [(Option.some (Go.Eng.HE.mk Bool.true (Go.Eng.HB.rows (Go.Sa.B.iKeySlot l)))), (Option.some (Go.Eng.HE.mk Bool.false (Go.Eng.HB.rows (Go.Sa.B.iKeySlot l1))))]) := by kernel_rfl
def o_slices_Clone_KeySlot_r (N : Nat) {R : Type} (args : List AV) (H : Hp E) (K : AV → Hp E → Option R) : Option R :=
  match args, H with
  | [(Go.Eng.AV.sc (Go.Eng.SV.slc 0 Option.none b))], [(Option.some (Go.Eng.HE.mk Bool.true (Go.Eng.HB.rows (Go.Sa.B.iKeySlot l))))] => g_slices_Clone_KeySlot_r N b l (fun b1 l1 => K (Go.Eng.AV.sc (Go.Eng.SV.slc 1 Option.none b1)) [(Option.some (Go.Eng.HE.mk Bool.true (Go.Eng.HB.rows (Go.Sa.B.iKeySlot l)))), (Option.some (Go.Eng.HE.mk Bool.false (Go.Eng.HB.rows (Go.Sa.B.iKeySlot l1))))])
  | _, _ => none
theorem o_slices_Clone_KeySlot_r_ok (N : Nat) : FnOk E 101 (o_slices_Clone_KeySlot_r N) := by
  intro R args H K r h
  unfold o_slices_Clone_KeySlot_r at h
  dsimp only at h
  split at h
  · exact fnB_ok (ids := []) (top := []) ok (O_slices_Clone_KeySlot_r_ok N) (jn_ok _ _ _) Go.Proofs.Try.func101 (by kernel_rfl) (IT := noIt) (sl := sl_slices_Clone_KeySlot_r) (J := J_slices_Clone_KeySlot_r) (K := K) (H := [(Option.some (Go.Eng.HE.mk Bool.true (Go.Eng.HB.rows (Go.Sa.B.iKeySlot _))))]) (noIt_ok) (by kernel_rfl) rfl ((e_slices_Clone_KeySlot_r N _ _ K).trans h)
  · cases h
/-! ### loop.example/g00038/impl.AddPass -/
abbrev sl_impl_AddPass_w : SlotT := []
abbrev J_impl_AddPass_w : JT := jn [] [] [(12, [8])]
noncomputable def O_impl_AddPass_w (N : Nat) : Orc E := addFn 81 (o_impl_yslot N) (addFn 101 (o_slices_Clone_KeySlot_r N) (addFn 80 (o_impl_yisWord N) (addFn 87 (o_impl_yopenVolume_w N) (addFn 86 (o_impl_VolumeFault_w N) (addFn 57 (o_impl_ylongKey_w N) (noFn))))))
def pa_impl_AddPass_w__o_impl_yslot (N : Nat) (G_impl_yslot : ∀ {R : Type} (s : ByteArray) (s1 : ByteArray) (n : Int) (k : ByteArray → ByteArray → Option R), Option R) (G_slices_Clone_KeySlot_r : ∀ {R : Type} (b : Bool) (l : List Go.Sa.KeySlot) (k : Bool → (List Go.Sa.KeySlot) → Option R), Option R) (G_impl_yisWord : ∀ {R : Type} (n : Int) (k : Bool → Option R), Option R) (G_impl_yopenVolume_w : ∀ {R : Type} (b : Bool) (s : ByteArray) (s1 : ByteArray) (l : List Go.Sa.KeySlot) (k : ByteArray → Bool → Option R), Option R) (G_impl_VolumeFault_w : ∀ {R : Type} (b : Bool) (s : ByteArray) (l : List Go.Sa.KeySlot) (k : Int → Option R), Option R) (G_impl_ylongKey_w : ∀ {R : Type} (b : Bool) (l : List ByteArray) (k : Bool → Option R), Option R) {R : Type} (args : List AV) (H : Hp E) (K : AV → Hp E → Option R) : Option R :=
  match args, H with
  | [(Go.Eng.AV.sc (Go.Eng.SV.str s)), (Go.Eng.AV.sc (Go.Eng.SV.str s1)), (Go.Eng.AV.sc (Go.Eng.SV.int Go.IntKind.i64 n))], [] => G_impl_yslot s s1 n (fun s4 s5 => K (Go.Eng.AV.agg [(Go.Eng.SV.int Go.IntKind.i64 n), (Go.Eng.SV.str s4), (Go.Eng.SV.str s5)]) [])
  | _, _ => none
def pa_impl_AddPass_w__o_slices_Clone_KeySlot_r (N : Nat) (G_impl_yslot : ∀ {R : Type} (s : ByteArray) (s1 : ByteArray) (n : Int) (k : ByteArray → ByteArray → Option R), Option R) (G_slices_Clone_KeySlot_r : ∀ {R : Type} (b : Bool) (l : List Go.Sa.KeySlot) (k : Bool → (List Go.Sa.KeySlot) → Option R), Option R) (G_impl_yisWord : ∀ {R : Type} (n : Int) (k : Bool → Option R), Option R) (G_impl_yopenVolume_w : ∀ {R : Type} (b : Bool) (s : ByteArray) (s1 : ByteArray) (l : List Go.Sa.KeySlot) (k : ByteArray → Bool → Option R), Option R) (G_impl_VolumeFault_w : ∀ {R : Type} (b : Bool) (s : ByteArray) (l : List Go.Sa.KeySlot) (k : Int → Option R), Option R) (G_impl_ylongKey_w : ∀ {R : Type} (b : Bool) (l : List ByteArray) (k : Bool → Option R), Option R) {R : Type} (args : List AV) (H : Hp E) (K : AV → Hp E → Option R) : Option R :=
  match args, H with
  | [(Go.Eng.AV.sc (Go.Eng.SV.slc 0 Option.none b))], [(Option.some (Go.Eng.HE.mk Bool.true (Go.Eng.HB.rows (Go.Sa.B.iKeySlot l))))] => G_slices_Clone_KeySlot_r b l (fun b1 l1 => K (Go.Eng.AV.sc (Go.Eng.SV.slc 1 Option.none b1)) [(Option.some (Go.Eng.HE.mk Bool.true (Go.Eng.HB.rows (Go.Sa.B.iKeySlot l)))), (Option.some (Go.Eng.HE.mk Bool.false (Go.Eng.HB.rows (Go.Sa.B.iKeySlot l1))))])
  | _, _ => none
def pa_impl_AddPass_w__o_impl_yisWord (N : Nat) (G_impl_yslot : ∀ {R : Type} (s : ByteArray) (s1 : ByteArray) (n : Int) (k : ByteArray → ByteArray → Option R), Option R) (G_slices_Clone_KeySlot_r : ∀ {R : Type} (b : Bool) (l : List Go.Sa.KeySlot) (k : Bool → (List Go.Sa.KeySlot) → Option R), Option R) (G_impl_yisWord : ∀ {R : Type} (n : Int) (k : Bool → Option R), Option R) (G_impl_yopenVolume_w : ∀ {R : Type} (b : Bool) (s : ByteArray) (s1 : ByteArray) (l : List Go.Sa.KeySlot) (k : ByteArray → Bool → Option R), Option R) (G_impl_VolumeFault_w : ∀ {R : Type} (b : Bool) (s : ByteArray) (l : List Go.Sa.KeySlot) (k : Int → Option R), Option R) (G_impl_ylongKey_w : ∀ {R : Type} (b : Bool) (l : List ByteArray) (k : Bool → Option R), Option R) {R : Type} (args : List AV) (H : Hp E) (K : AV → Hp E → Option R) : Option R :=
  match args, H with
  | [(Go.Eng.AV.sc (Go.Eng.SV.int Go.IntKind.i64 n))], [] => G_impl_yisWord n (fun b => K (Go.Eng.AV.sc (Go.Eng.SV.bool b)) [])
  | _, _ => none
def pa_impl_AddPass_w__o_impl_yopenVolume_w (N : Nat) (G_impl_yslot : ∀ {R : Type} (s : ByteArray) (s1 : ByteArray) (n : Int) (k : ByteArray → ByteArray → Option R), Option R) (G_slices_Clone_KeySlot_r : ∀ {R : Type} (b : Bool) (l : List Go.Sa.KeySlot) (k : Bool → (List Go.Sa.KeySlot) → Option R), Option R) (G_impl_yisWord : ∀ {R : Type} (n : Int) (k : Bool → Option R), Option R) (G_impl_yopenVolume_w : ∀ {R : Type} (b : Bool) (s : ByteArray) (s1 : ByteArray) (l : List Go.Sa.KeySlot) (k : ByteArray → Bool → Option R), Option R) (G_impl_VolumeFault_w : ∀ {R : Type} (b : Bool) (s : ByteArray) (l : List Go.Sa.KeySlot) (k : Int → Option R), Option R) (G_impl_ylongKey_w : ∀ {R : Type} (b : Bool) (l : List ByteArray) (k : Bool → Option R), Option R) {R : Type} (args : List AV) (H : Hp E) (K : AV → Hp E → Option R) : Option R :=
  match args, H with
  | [(Go.Eng.AV.agg [(Go.Eng.SV.slc 0 Option.none b), (Go.Eng.SV.str s)]), (Go.Eng.AV.sc (Go.Eng.SV.str s1))], [(Option.some (Go.Eng.HE.mk Bool.false (Go.Eng.HB.rows (Go.Sa.B.iKeySlot l))))] => G_impl_yopenVolume_w b s s1 l (fun s8 b3 => K (Go.Eng.AV.tup [(Bool.false, [(Go.Eng.SV.str s8)]), (Bool.false, [(Go.Eng.SV.bool b3)])]) [(Option.some (Go.Eng.HE.mk Bool.false (Go.Eng.HB.rows (Go.Sa.B.iKeySlot l))))])
  | _, _ => none
def pa_impl_AddPass_w__o_impl_VolumeFault_w (N : Nat) (G_impl_yslot : ∀ {R : Type} (s : ByteArray) (s1 : ByteArray) (n : Int) (k : ByteArray → ByteArray → Option R), Option R) (G_slices_Clone_KeySlot_r : ∀ {R : Type} (b : Bool) (l : List Go.Sa.KeySlot) (k : Bool → (List Go.Sa.KeySlot) → Option R), Option R) (G_impl_yisWord : ∀ {R : Type} (n : Int) (k : Bool → Option R), Option R) (G_impl_yopenVolume_w : ∀ {R : Type} (b : Bool) (s : ByteArray) (s1 : ByteArray) (l : List Go.Sa.KeySlot) (k : ByteArray → Bool → Option R), Option R) (G_impl_VolumeFault_w : ∀ {R : Type} (b : Bool) (s : ByteArray) (l : List Go.Sa.KeySlot) (k : Int → Option R), Option R) (G_impl_ylongKey_w : ∀ {R : Type} (b : Bool) (l : List ByteArray) (k : Bool → Option R), Option R) {R : Type} (args : List AV) (H : Hp E) (K : AV → Hp E → Option R) : Option R :=
  match args, H with
  | [(Go.Eng.AV.agg [(Go.Eng.SV.slc 0 Option.none b), (Go.Eng.SV.str s)])], [(Option.some (Go.Eng.HE.mk Bool.false (Go.Eng.HB.rows (Go.Sa.B.iKeySlot l))))] => G_impl_VolumeFault_w b s l (fun n => K (Go.Eng.AV.sc (Go.Eng.SV.int Go.IntKind.i64 n)) [(Option.some (Go.Eng.HE.mk Bool.false (Go.Eng.HB.rows (Go.Sa.B.iKeySlot l))))])
  | _, _ => none
def pa_impl_AddPass_w__o_impl_ylongKey_w (N : Nat) (G_impl_yslot : ∀ {R : Type} (s : ByteArray) (s1 : ByteArray) (n : Int) (k : ByteArray → ByteArray → Option R), Option R) (G_slices_Clone_KeySlot_r : ∀ {R : Type} (b : Bool) (l : List Go.Sa.KeySlot) (k : Bool → (List Go.Sa.KeySlot) → Option R), Option R) (G_impl_yisWord : ∀ {R : Type} (n : Int) (k : Bool → Option R), Option R) (G_impl_yopenVolume_w : ∀ {R : Type} (b : Bool) (s : ByteArray) (s1 : ByteArray) (l : List Go.Sa.KeySlot) (k : ByteArray → Bool → Option R), Option R) (G_impl_VolumeFault_w : ∀ {R : Type} (b : Bool) (s : ByteArray) (l : List Go.Sa.KeySlot) (k : Int → Option R), Option R) (G_impl_ylongKey_w : ∀ {R : Type} (b : Bool) (l : List ByteArray) (k : Bool → Option R), Option R) {R : Type} (args : List AV) (H : Hp E) (K : AV → Hp E → Option R) : Option R :=
  match args, H with
  | [(Go.Eng.AV.sc (Go.Eng.SV.slc 0 Option.none b))], [(Option.some (Go.Eng.HE.mk Bool.false (Go.Eng.HB.rows (Go.Sa.B.str l))))] => G_impl_ylongKey_w b l (fun b2 => K (Go.Eng.AV.sc (Go.Eng.SV.bool b2)) [(Option.some (Go.Eng.HE.mk Bool.false (Go.Eng.HB.rows (Go.Sa.B.str l))))])
  | _, _ => none
noncomputable def OA_impl_AddPass_w (N : Nat) (G_impl_yslot : ∀ {R : Type} (s : ByteArray) (s1 : ByteArray) (n : Int) (k : ByteArray → ByteArray → Option R), Option R) (G_slices_Clone_KeySlot_r : ∀ {R : Type} (b : Bool) (l : List Go.Sa.KeySlot) (k : Bool → (List Go.Sa.KeySlot) → Option R), Option R) (G_impl_yisWord : ∀ {R : Type} (n : Int) (k : Bool → Option R), Option R) (G_impl_yopenVolume_w : ∀ {R : Type} (b : Bool) (s : ByteArray) (s1 : ByteArray) (l : List Go.Sa.KeySlot) (k : ByteArray → Bool → Option R), Option R) (G_impl_VolumeFault_w : ∀ {R : Type} (b : Bool) (s : ByteArray) (l : List Go.Sa.KeySlot) (k : Int → Option R), Option R) (G_impl_ylongKey_w : ∀ {R : Type} (b : Bool) (l : List ByteArray) (k : Bool → Option R), Option R) : Orc E := addFn 81 (pa_impl_AddPass_w__o_impl_yslot N G_impl_yslot G_slices_Clone_KeySlot_r G_impl_yisWord G_impl_yopenVolume_w G_impl_VolumeFault_w G_impl_ylongKey_w) (addFn 101 (pa_impl_AddPass_w__o_slices_Clone_KeySlot_r N G_impl_yslot G_slices_Clone_KeySlot_r G_impl_yisWord G_impl_yopenVolume_w G_impl_VolumeFault_w G_impl_ylongKey_w) (addFn 80 (pa_impl_AddPass_w__o_impl_yisWord N G_impl_yslot G_slices_Clone_KeySlot_r G_impl_yisWord G_impl_yopenVolume_w G_impl_VolumeFault_w G_impl_ylongKey_w) (addFn 87 (pa_impl_AddPass_w__o_impl_yopenVolume_w N G_impl_yslot G_slices_Clone_KeySlot_r G_impl_yisWord G_impl_yopenVolume_w G_impl_VolumeFault_w G_impl_ylongKey_w) (addFn 86 (pa_impl_AddPass_w__o_impl_VolumeFault_w N G_impl_yslot G_slices_Clone_KeySlot_r G_impl_yisWord G_impl_yopenVolume_w G_impl_VolumeFault_w G_impl_ylongKey_w) (addFn 57 (pa_impl_AddPass_w__o_impl_ylongKey_w N G_impl_yslot G_slices_Clone_KeySlot_r G_impl_yisWord G_impl_yopenVolume_w G_impl_VolumeFault_w G_impl_ylongKey_w) (noFn))))))
theorem O_impl_AddPass_w_ok (N : Nat) : OrcOk (O_impl_AddPass_w N) := addFn_ok (o_impl_yslot_ok N) (addFn_ok (o_slices_Clone_KeySlot_r_ok N) (addFn_ok (o_impl_yisWord_ok N) (addFn_ok (o_impl_yopenVolume_w_ok N) (addFn_ok (o_impl_VolumeFault_w_ok N) (addFn_ok (o_impl_ylongKey_w_ok N) (noFn_ok))))))
def g_impl_AddPass_w (N : Nat) {R : Type} (b : Bool) (s : ByteArray) (s1 : ByteArray) (s2 : ByteArray) (n : Int) (l : List Go.Sa.KeySlot) (k : Int → Bool → ByteArray → (List Go.Sa.KeySlot) → Option R) : Option R :=
  (g_impl_ylongKey_w N Bool.false [s1, s2] fun b1 =>
  (cond b1
  (k (2 : Int) Bool.true (ByteArray.mk (List.toArray [])) [])
  (g_impl_VolumeFault_w N b s l fun n1 =>
    (cond (n1 != (0 : Int))
    (k (1 : Int) Bool.true (ByteArray.mk (List.toArray [])) [])
    (g_impl_yopenVolume_w N b s s1 l fun s3 b2 =>
      (cond (!b2)
      (k (7 : Int) Bool.true (ByteArray.mk (List.toArray [])) [])
      (g_impl_yisWord N n fun b3 =>
        (cond (!b3)
        (k (1 : Int) Bool.true (ByteArray.mk (List.toArray [])) [])
        (cond ((((List.length l) : Nat) : Int) == (4 : Int))
          (k (4 : Int) Bool.true (ByteArray.mk (List.toArray [])) [])
          (g_slices_Clone_KeySlot_r N b l fun b4 l1 =>
            (g_impl_yslot N s3 s2 n fun s4 s5 =>
            (cond (Go.Eng.roomOk ((List.length l1) + (List.length [(Go.Sa.KeySlot.mk n s4 s5)])) 40)
            (k (0 : Int) (cond (Nat.beq (List.length [(Go.Sa.KeySlot.mk n s4 s5)]) 0) b4 Bool.false) s (l1 ++ [(Go.Sa.KeySlot.mk n s4 s5)]))
            none))))))))))))
def ga_g_impl_AddPass_w (N : Nat) (G_impl_yslot : ∀ {R : Type} (s : ByteArray) (s1 : ByteArray) (n : Int) (k : ByteArray → ByteArray → Option R), Option R) (G_slices_Clone_KeySlot_r : ∀ {R : Type} (b : Bool) (l : List Go.Sa.KeySlot) (k : Bool → (List Go.Sa.KeySlot) → Option R), Option R) (G_impl_yisWord : ∀ {R : Type} (n : Int) (k : Bool → Option R), Option R) (G_impl_yopenVolume_w : ∀ {R : Type} (b : Bool) (s : ByteArray) (s1 : ByteArray) (l : List Go.Sa.KeySlot) (k : ByteArray → Bool → Option R), Option R) (G_impl_VolumeFault_w : ∀ {R : Type} (b : Bool) (s : ByteArray) (l : List Go.Sa.KeySlot) (k : Int → Option R), Option R) (G_impl_ylongKey_w : ∀ {R : Type} (b : Bool) (l : List ByteArray) (k : Bool → Option R), Option R) {R : Type} (b : Bool) (s : ByteArray) (s1 : ByteArray) (s2 : ByteArray) (n : Int) (l : List Go.Sa.KeySlot) (k : Int → Bool → ByteArray → (List Go.Sa.KeySlot) → Option R) : Option R :=
  (G_impl_ylongKey_w Bool.false [s1, s2] fun b1 =>
  (cond b1
  (k (2 : Int) Bool.true (ByteArray.mk (List.toArray [])) [])
  (G_impl_VolumeFault_w b s l fun n1 =>
    (cond (n1 != (0 : Int))
    (k (1 : Int) Bool.true (ByteArray.mk (List.toArray [])) [])
    (G_impl_yopenVolume_w b s s1 l fun s3 b2 =>
      (cond (!b2)
      (k (7 : Int) Bool.true (ByteArray.mk (List.toArray [])) [])
      (G_impl_yisWord n fun b3 =>
        (cond (!b3)
        (k (1 : Int) Bool.true (ByteArray.mk (List.toArray [])) [])
        (cond ((((List.length l) : Nat) : Int) == (4 : Int))
          (k (4 : Int) Bool.true (ByteArray.mk (List.toArray [])) [])
          (G_slices_Clone_KeySlot_r b l fun b4 l1 =>
            (G_impl_yslot s3 s2 n fun s4 s5 =>
            (cond (Go.Eng.roomOk ((List.length l1) + (List.length [(Go.Sa.KeySlot.mk n s4 s5)])) 40)
            (k (0 : Int) (cond (Nat.beq (List.length [(Go.Sa.KeySlot.mk n s4 s5)]) 0) b4 Bool.false) s (l1 ++ [(Go.Sa.KeySlot.mk n s4 s5)]))
            none))))))))))))
theorem ea_e_impl_AddPass_w (N : Nat) (G_impl_yslot : ∀ {R : Type} (s : ByteArray) (s1 : ByteArray) (n : Int) (k : ByteArray → ByteArray → Option R), Option R) (G_slices_Clone_KeySlot_r : ∀ {R : Type} (b : Bool) (l : List Go.Sa.KeySlot) (k : Bool → (List Go.Sa.KeySlot) → Option R), Option R) (G_impl_yisWord : ∀ {R : Type} (n : Int) (k : Bool → Option R), Option R) (G_impl_yopenVolume_w : ∀ {R : Type} (b : Bool) (s : ByteArray) (s1 : ByteArray) (l : List Go.Sa.KeySlot) (k : ByteArray → Bool → Option R), Option R) (G_impl_VolumeFault_w : ∀ {R : Type} (b : Bool) (s : ByteArray) (l : List Go.Sa.KeySlot) (k : Int → Option R), Option R) (G_impl_ylongKey_w : ∀ {R : Type} (b : Bool) (l : List ByteArray) (k : Bool → Option R), Option R) {R : Type} (b : Bool) (s : ByteArray) (s1 : ByteArray) (s2 : ByteArray) (n : Int) (l : List Go.Sa.KeySlot) (K : AV → Hp E → Option R) :
    runFnI (E := E) (OA_impl_AddPass_w N G_impl_yslot G_slices_Clone_KeySlot_r G_impl_yisWord G_impl_yopenVolume_w G_impl_VolumeFault_w G_impl_ylongKey_w) (noIt) sl_impl_AddPass_w J_impl_AddPass_w Go.Proofs.Try.f50 [(Go.Eng.AV.agg [(Go.Eng.SV.slc 0 Option.none b), (Go.Eng.SV.str s)]), (Go.Eng.AV.sc (Go.Eng.SV.str s1)), (Go.Eng.AV.sc (Go.Eng.SV.str s2)), (Go.Eng.AV.sc (Go.Eng.SV.int Go.IntKind.i64 n))] [(Option.some (Go.Eng.HE.mk Bool.false (Go.Eng.HB.rows (Go.Sa.B.iKeySlot l))))] K =
      ga_g_impl_AddPass_w N G_impl_yslot G_slices_Clone_KeySlot_r G_impl_yisWord G_impl_yopenVolume_w G_impl_VolumeFault_w G_impl_ylongKey_w b s s1 s2 n l (fun n2 b5 s6 l2 => K (Go.Eng.AV.agg [(Go.Eng.SV.int Go.IntKind.i64 n2), (Go.Eng.SV.slc 1 Option.none b5), (Go.Eng.SV.str s6)]) [(Option.some (Go.Eng.HE.mk Bool.false (Go.Eng.HB.rows (Go.Sa.B.iKeySlot l)))), (Option.some (Go.Eng.HE.mk Bool.false (Go.Eng.HB.rows (Go.Sa.B.iKeySlot l2))))]) := by kernel_rfl
theorem e_impl_AddPass_w (N : Nat) {R : Type} (b : Bool) (s : ByteArray) (s1 : ByteArray) (s2 : ByteArray) (n : Int) (l : List Go.Sa.KeySlot) (K : AV → Hp E → Option R) :
    runFnI (E := E) (O_impl_AddPass_w N) (noIt) sl_impl_AddPass_w J_impl_AddPass_w Go.Proofs.Try.f50 [(Go.Eng.AV.agg [(Go.Eng.SV.slc 0 Option.none b), (Go.Eng.SV.str s)]), (Go.Eng.AV.sc (Go.Eng.SV.str s1)), (Go.Eng.AV.sc (Go.Eng.SV.str s2)), (Go.Eng.AV.sc (Go.Eng.SV.int Go.IntKind.i64 n))] [(Option.some (Go.Eng.HE.mk Bool.false (Go.Eng.HB.rows (Go.Sa.B.iKeySlot l))))] K =
      g_impl_AddPass_w N b s s1 s2 n l (fun n2 b5 s6 l2 => K (Go.Eng.AV.agg [(Go.Eng.SV.int Go.IntKind.i64 n2), (Go.Eng.SV.slc 1 Option.none b5), (Go.Eng.SV.str s6)]) [(Option.some (Go.Eng.HE.mk Bool.false (Go.Eng.HB.rows (Go.Sa.B.iKeySlot l)))), (Option.some (Go.Eng.HE.mk Bool.false (Go.Eng.HB.rows (Go.Sa.B.iKeySlot l2))))]) := castPr (by kernel_rfl) (ea_e_impl_AddPass_w N (g_impl_yslot N) (g_slices_Clone_KeySlot_r N) (g_impl_yisWord N) (g_impl_yopenVolume_w N) (g_impl_VolumeFault_w N) (g_impl_ylongKey_w N) b s s1 s2 n l K)
def o_impl_AddPass_w (N : Nat) {R : Type} (args : List AV) (H : Hp E) (K : AV → Hp E → Option R) : Option R :=
  match args, H with
  | [(Go.Eng.AV.agg [(Go.Eng.SV.slc 0 Option.none b), (Go.Eng.SV.str s)]), (Go.Eng.AV.sc (Go.Eng.SV.str s1)), (Go.Eng.AV.sc (Go.Eng.SV.str s2)), (Go.Eng.AV.sc (Go.Eng.SV.int Go.IntKind.i64 n))], [(Option.some (Go.Eng.HE.mk Bool.false (Go.Eng.HB.rows (Go.Sa.B.iKeySlot l))))] => g_impl_AddPass_w N b s s1 s2 n l (fun n2 b5 s6 l2 => K (Go.Eng.AV.agg [(Go.Eng.SV.int Go.IntKind.i64 n2), (Go.Eng.SV.slc 1 Option.none b5), (Go.Eng.SV.str s6)]) [(Option.some (Go.Eng.HE.mk Bool.false (Go.Eng.HB.rows (Go.Sa.B.iKeySlot l)))), (Option.some (Go.Eng.HE.mk Bool.false (Go.Eng.HB.rows (Go.Sa.B.iKeySlot l2))))])
  | _, _ => none
theorem o_impl_AddPass_w_ok (N : Nat) : FnOk E 50 (o_impl_AddPass_w N) := by
  intro R args H K r h
  unfold o_impl_AddPass_w at h
  dsimp only at h
  split at h
  · exact fnB_ok (ids := []) (top := []) ok (O_impl_AddPass_w_ok N) (jn_ok _ _ _) Go.Proofs.Try.func50 (by kernel_rfl) (IT := noIt) (sl := sl_impl_AddPass_w) (J := J_impl_AddPass_w) (K := K) (H := [(Option.some (Go.Eng.HE.mk Bool.false (Go.Eng.HB.rows (Go.Sa.B.iKeySlot _))))]) (noIt_ok) (by kernel_rfl) rfl ((e_impl_AddPass_w N _ _ _ _ _ _ K).trans h)
  · cases h
/-! ### loop.example/g00038/impl.OpenVolume -/
abbrev sl_impl_OpenVolume_w : SlotT := []
abbrev J_impl_OpenVolume_w : JT := jn [] [] []
noncomputable def O_impl_OpenVolume_w (N : Nat) : Orc E := addFn 87 (o_impl_yopenVolume_w N) (addFn 86 (o_impl_VolumeFault_w N) (addFn 57 (o_impl_ylongKey_w N) (noFn)))
theorem O_impl_OpenVolume_w_ok (N : Nat) : OrcOk (O_impl_OpenVolume_w N) := addFn_ok (o_impl_yopenVolume_w_ok N) (addFn_ok (o_impl_VolumeFault_w_ok N) (addFn_ok (o_impl_ylongKey_w_ok N) (noFn_ok)))
def g_impl_OpenVolume_w (N : Nat) {R : Type} (b : Bool) (s : ByteArray) (s1 : ByteArray) (l : List Go.Sa.KeySlot) (k : Int → ByteArray → Option R) : Option R :=
  (g_impl_ylongKey_w N Bool.false [s1] fun b1 =>
  (cond b1
  (k (2 : Int) (ByteArray.mk (List.toArray [])))
  (g_impl_VolumeFault_w N b s l fun n =>
    (cond (n != (0 : Int))
    (k (1 : Int) (ByteArray.mk (List.toArray [])))
    (g_impl_yopenVolume_w N b s s1 l fun s2 b2 =>
      (cond (!b2)
      (k (7 : Int) (ByteArray.mk (List.toArray [])))
      (k (0 : Int) s2)))))))
theorem e_impl_OpenVolume_w (N : Nat) {R : Type} (b : Bool) (s : ByteArray) (s1 : ByteArray) (l : List Go.Sa.KeySlot) (K : AV → Hp E → Option R) :
    runFnI (E := E) (O_impl_OpenVolume_w N) (noIt) sl_impl_OpenVolume_w J_impl_OpenVolume_w Go.Proofs.Try.f37 [(Go.Eng.AV.agg [(Go.Eng.SV.slc 0 Option.none b), (Go.Eng.SV.str s)]), (Go.Eng.AV.sc (Go.Eng.SV.str s1))] [(Option.some (Go.Eng.HE.mk Bool.false (Go.Eng.HB.rows (Go.Sa.B.iKeySlot l))))] K =
      g_impl_OpenVolume_w N b s s1 l (fun n1 s3 => K (Go.Eng.AV.agg [(Go.Eng.SV.int Go.IntKind.i64 n1), (Go.Eng.SV.str s3)]) [(Option.some (Go.Eng.HE.mk Bool.false (Go.Eng.HB.rows (Go.Sa.B.iKeySlot l))))]) := by kernel_rfl
def o_impl_OpenVolume_w (N : Nat) {R : Type} (args : List AV) (H : Hp E) (K : AV → Hp E → Option R) : Option R :=
  match args, H with
  | [(Go.Eng.AV.agg [(Go.Eng.SV.slc 0 Option.none b), (Go.Eng.SV.str s)]), (Go.Eng.AV.sc (Go.Eng.SV.str s1))], [(Option.some (Go.Eng.HE.mk Bool.false (Go.Eng.HB.rows (Go.Sa.B.iKeySlot l))))] => g_impl_OpenVolume_w N b s s1 l (fun n1 s3 => K (Go.Eng.AV.agg [(Go.Eng.SV.int Go.IntKind.i64 n1), (Go.Eng.SV.str s3)]) [(Option.some (Go.Eng.HE.mk Bool.false (Go.Eng.HB.rows (Go.Sa.B.iKeySlot l))))])
  | _, _ => none
theorem o_impl_OpenVolume_w_ok (N : Nat) : FnOk E 37 (o_impl_OpenVolume_w N) := by
  intro R args H K r h
  unfold o_impl_OpenVolume_w at h
  dsimp only at h
  split at h
  · exact fnB_ok (ids := []) (top := []) ok (O_impl_OpenVolume_w_ok N) (jn_ok _ _ _) Go.Proofs.Try.func37 (by kernel_rfl) (IT := noIt) (sl := sl_impl_OpenVolume_w) (J := J_impl_OpenVolume_w) (K := K) (H := [(Option.some (Go.Eng.HE.mk Bool.false (Go.Eng.HB.rows (Go.Sa.B.iKeySlot _))))]) (noIt_ok) (by kernel_rfl) rfl ((e_impl_OpenVolume_w N _ _ _ _ K).trans h)
  · cases h
/-! ### slices.Delete[[]loop.example/g00038/impl.KeySlot,loop.example/g00038/impl.KeySlot] -/
abbrev sl_slices_Delete_KeySlot_w : SlotT := []
abbrev J_slices_Delete_KeySlot_w : JT := jn [] [] [(5, [6])]
noncomputable def O_slices_Delete_KeySlot_w (N : Nat) : Orc E := noFn
theorem O_slices_Delete_KeySlot_w_ok (N : Nat) : OrcOk (O_slices_Delete_KeySlot_w N) := noFn_ok
def g_slices_Delete_KeySlot_w (N : Nat) {R : Type} (b : Bool) (n : Int) (n1 : Int) (l : List Go.Sa.KeySlot) (k : Option R) (k_1 : Nat → Nat → (List Go.Sa.KeySlot) → Option R) : Option R :=
  (cond ((((decide (((0 : Int) ≤ n))) && (decide ((n ≤ n1)))) && (decide ((n1 ≤ (((List.length l) : Nat) : Int))))) && (decide (((((List.length l) : Nat) : Int) ≤ (((List.length l) : Nat) : Int)))))
  (cond (n == n1)
    k
    (cond ((decide (((0 : Int) ≤ n))) && (decide ((n ≤ (((List.length l) : Nat) : Int)))))
      (cond (((decide (((0 : Int) ≤ n1))) && (decide ((n1 ≤ (((List.length l) : Nat) : Int))))) && (decide (((((List.length l) : Nat) : Int) ≤ (((List.length l) : Nat) : Int)))))
        (cond (Nat.ble ((Int.toNat n1) + ((Int.toNat (((List.length l) : Nat) : Int)) - (Int.toNat n1))) (List.length l))
          (cond (Nat.ble (List.length (Go.Eng.seg l (Int.toNat n1) ((Int.toNat (((List.length l) : Nat) : Int)) - (Int.toNat n1)))) ((List.length l) - (Int.toNat n)))
            (cond (Nat.ble ((0 + ((Int.toNat n) - 0)) + (List.length (Go.Eng.seg l (Int.toNat n1) ((Int.toNat (((List.length l) : Nat) : Int)) - (Int.toNat n1))))) (List.length l))
              (cond ((decide (((((((Int.toNat n) - 0) + (List.length (Go.Eng.seg l (Int.toNat n1) ((Int.toNat (((List.length l) : Nat) : Int)) - (Int.toNat n1))))) : Nat) : Int) ≤ (((List.length l) : Nat) : Int)))) && (decide (((((List.length l) : Nat) : Int) ≤ ((((((Int.toNat n) - 0) + (List.length (Go.Eng.seg l (Int.toNat n1) ((Int.toNat (((List.length l) : Nat) : Int)) - (Int.toNat n1))))) + (((List.length l) - (Int.toNat n)) - (List.length (Go.Eng.seg l (Int.toNat n1) ((Int.toNat (((List.length l) : Nat) : Int)) - (Int.toNat n1)))))) : Nat) : Int)))))
                (cond (Nat.ble ((Int.toNat (((((Int.toNat n) - 0) + (List.length (Go.Eng.seg l (Int.toNat n1) ((Int.toNat (((List.length l) : Nat) : Int)) - (Int.toNat n1))))) : Nat) : Int)) + (List.length (List.replicate ((Int.toNat (((List.length l) : Nat) : Int)) - (Int.toNat (((((Int.toNat n) - 0) + (List.length (Go.Eng.seg l (Int.toNat n1) ((Int.toNat (((List.length l) : Nat) : Int)) - (Int.toNat n1))))) : Nat) : Int))) (Go.Sa.KeySlot.mk (0 : Int) (ByteArray.mk (List.toArray [])) (ByteArray.mk (List.toArray [])))))) (List.length (Go.Eng.splice l (0 + ((Int.toNat n) - 0)) (Go.Eng.seg l (Int.toNat n1) ((Int.toNat (((List.length l) : Nat) : Int)) - (Int.toNat n1))))))
                  (k_1 (((Int.toNat n) - 0) + (List.length (Go.Eng.seg l (Int.toNat n1) ((Int.toNat (((List.length l) : Nat) : Int)) - (Int.toNat n1))))) (((List.length l) - (Int.toNat n)) - (List.length (Go.Eng.seg l (Int.toNat n1) ((Int.toNat (((List.length l) : Nat) : Int)) - (Int.toNat n1))))) (Go.Eng.splice (Go.Eng.splice l (0 + ((Int.toNat n) - 0)) (Go.Eng.seg l (Int.toNat n1) ((Int.toNat (((List.length l) : Nat) : Int)) - (Int.toNat n1)))) (Int.toNat (((((Int.toNat n) - 0) + (List.length (Go.Eng.seg l (Int.toNat n1) ((Int.toNat (((List.length l) : Nat) : Int)) - (Int.toNat n1))))) : Nat) : Int)) (List.replicate ((Int.toNat (((List.length l) : Nat) : Int)) - (Int.toNat (((((Int.toNat n) - 0) + (List.length (Go.Eng.seg l (Int.toNat n1) ((Int.toNat (((List.length l) : Nat) : Int)) - (Int.toNat n1))))) : Nat) : Int))) (Go.Sa.KeySlot.mk (0 : Int) (ByteArray.mk (List.toArray [])) (ByteArray.mk (List.toArray []))))))
                  none)
                none)
              none)
            none)
          none)
        none)
      none))
  none)
theorem e_slices_Delete_KeySlot_w (N : Nat) {R : Type} (b : Bool) (n : Int) (n1 : Int) (l : List Go.Sa.KeySlot) (K : AV → Hp E → Option R) :
    runFnI (E := E) (O_slices_Delete_KeySlot_w N) (noIt) sl_slices_Delete_KeySlot_w J_slices_Delete_KeySlot_w Go.Proofs.Try.f102 [(Go.Eng.AV.sc (Go.Eng.SV.slc 0 Option.none b)), (Go.Eng.AV.sc (Go.Eng.SV.int Go.IntKind.i64 n)), (Go.Eng.AV.sc (Go.Eng.SV.int Go.IntKind.i64 n1))] [(Option.some (Go.Eng.HE.mk Bool.false (Go.Eng.HB.rows (Go.Sa.B.iKeySlot l))))] K =
      g_slices_Delete_KeySlot_w N b n n1 l (K (Go.Eng.AV.sc (Go.Eng.SV.slc 0 Option.none b)) [(Option.some (Go.Eng.HE.mk Bool.false (Go.Eng.HB.rows (Go.Sa.B.iKeySlot l))))]) (fun m m1 l1 => K (Go.Eng.AV.sc (Go.Eng.SV.slc 0 (Option.some (0, (m, m1))) b)) [(Option.some (Go.Eng.HE.mk Bool.false (Go.Eng.HB.rows (Go.Sa.B.iKeySlot l1))))]) := by kernel_rfl
def o_slices_Delete_KeySlot_w (N : Nat) {R : Type} (args : List AV) (H : Hp E) (K : AV → Hp E → Option R) : Option R :=
  match args, H with
  | [(Go.Eng.AV.sc (Go.Eng.SV.slc 0 Option.none b)), (Go.Eng.AV.sc (Go.Eng.SV.int Go.IntKind.i64 n)), (Go.Eng.AV.sc (Go.Eng.SV.int Go.IntKind.i64 n1))], [(Option.some (Go.Eng.HE.mk Bool.false (Go.Eng.HB.rows (Go.Sa.B.iKeySlot l))))] => g_slices_Delete_KeySlot_w N b n n1 l (K (Go.Eng.AV.sc (Go.Eng.SV.slc 0 Option.none b)) [(Option.some (Go.Eng.HE.mk Bool.false (Go.Eng.HB.rows (Go.Sa.B.iKeySlot l))))]) (fun m m1 l1 => K (Go.Eng.AV.sc (Go.Eng.SV.slc 0 (Option.some (0, (m, m1))) b)) [(Option.some (Go.Eng.HE.mk Bool.false (Go.Eng.HB.rows (Go.Sa.B.iKeySlot l1))))])
  | _, _ => none
theorem o_slices_Delete_KeySlot_w_ok (N : Nat) : FnOk E 102 (o_slices_Delete_KeySlot_w N) := by
  intro R args H K r h
  unfold o_slices_Delete_KeySlot_w at h
  dsimp only at h
  split at h
  · exact fnB_ok (ids := []) (top := []) ok (O_slices_Delete_KeySlot_w_ok N) (jn_ok _ _ _) Go.Proofs.Try.func102 (by kernel_rfl) (IT := noIt) (sl := sl_slices_Delete_KeySlot_w) (J := J_slices_Delete_KeySlot_w) (K := K) (H := [(Option.some (Go.Eng.HE.mk Bool.false (Go.Eng.HB.rows (Go.Sa.B.iKeySlot _))))]) (noIt_ok) (by kernel_rfl) rfl ((e_slices_Delete_KeySlot_w N _ _ _ _ K).trans h)
  · cases h
end Go.Sa
