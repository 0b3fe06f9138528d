import Derived.Test.YtmmgjioemnhoaaaSpec
import Derived.Test.YtmmgjioemnhoaaaPLb
import Derived.Test.YtmmgjioemnhoaaaW1
set_option linter.all false
namespace Go.Sa
open Go Go.Eng Go.Proofs
set_option maxRecDepth 100000
/-! ### loop.example/g00038/spec.AddPass -/
abbrev sl_spec_AddPass_r : SlotT := []
abbrev J_spec_AddPass_r : JT := jn [(1, [(17, .b)])] [] [(10, [3, 10])]
noncomputable def O_spec_AddPass_r (N : Nat) : Orc E := addFn 79 (o_spec_l15Slot N) (addFn 78 (o_spec_l01IsWord N) (addFn 35 (o_spec_OpenVolume_r N) (noFn)))
def pa_spec_AddPass_r__o_spec_l15Slot (N : Nat) (G_spec_l15Slot : ∀ {R : Type} (s : ByteArray) (s1 : ByteArray) (n : Int) (k : ByteArray → ByteArray → Option R), Option R) (G_spec_l01IsWord : ∀ {R : Type} (n : Int) (k : Bool → Option R), Option R) (G_spec_OpenVolume_r : ∀ {R : Type} (b : Bool) (s : ByteArray) (s1 : ByteArray) (l : List Go.Sa.KeySlot) (k : Int → ByteArray → Option R), Option R) {R : Type} (args : List AV) (H : Hp E) (K : AV → Hp E → Option R) : Option R :=
  match args, H with
  | [(Go.Eng.AV.sc (Go.Eng.SV.str s)), (Go.Eng.AV.sc (Go.Eng.SV.str s1)), (Go.Eng.AV.sc (Go.Eng.SV.int Go.IntKind.i64 n))], [] => G_spec_l15Slot s s1 n (fun s4 s5 => K (Go.Eng.AV.agg [(Go.Eng.SV.int Go.IntKind.i64 n), (Go.Eng.SV.str s4), (Go.Eng.SV.str s5)]) [])
  | _, _ => none
def pa_spec_AddPass_r__o_spec_l01IsWord (N : Nat) (G_spec_l15Slot : ∀ {R : Type} (s : ByteArray) (s1 : ByteArray) (n : Int) (k : ByteArray → ByteArray → Option R), Option R) (G_spec_l01IsWord : ∀ {R : Type} (n : Int) (k : Bool → Option R), Option R) (G_spec_OpenVolume_r : ∀ {R : Type} (b : Bool) (s : ByteArray) (s1 : ByteArray) (l : List Go.Sa.KeySlot) (k : Int → ByteArray → Option R), Option R) {R : Type} (args : List AV) (H : Hp E) (K : AV → Hp E → Option R) : Option R :=
  match args, H with
  | [(Go.Eng.AV.sc (Go.Eng.SV.int Go.IntKind.i64 n))], [] => G_spec_l01IsWord n (fun b => K (Go.Eng.AV.sc (Go.Eng.SV.bool b)) [])
  | _, _ => none
def pa_spec_AddPass_r__o_spec_OpenVolume_r (N : Nat) (G_spec_l15Slot : ∀ {R : Type} (s : ByteArray) (s1 : ByteArray) (n : Int) (k : ByteArray → ByteArray → Option R), Option R) (G_spec_l01IsWord : ∀ {R : Type} (n : Int) (k : Bool → Option R), Option R) (G_spec_OpenVolume_r : ∀ {R : Type} (b : Bool) (s : ByteArray) (s1 : ByteArray) (l : List Go.Sa.KeySlot) (k : Int → ByteArray → Option R), Option R) {R : Type} (args : List AV) (H : Hp E) (K : AV → Hp E → Option R) : Option R :=
  match args, H with
  | [(Go.Eng.AV.agg [(Go.Eng.SV.slc 0 Option.none b), (Go.Eng.SV.str s)]), (Go.Eng.AV.sc (Go.Eng.SV.str s1))], [(Option.some (Go.Eng.HE.mk Bool.true (Go.Eng.HB.rows (Go.Sa.B.iKeySlot l))))] => G_spec_OpenVolume_r b s s1 l (fun n3 s9 => K (Go.Eng.AV.agg [(Go.Eng.SV.int Go.IntKind.i64 n3), (Go.Eng.SV.str s9)]) [(Option.some (Go.Eng.HE.mk Bool.true (Go.Eng.HB.rows (Go.Sa.B.iKeySlot l))))])
  | _, _ => none
noncomputable def OA_spec_AddPass_r (N : Nat) (G_spec_l15Slot : ∀ {R : Type} (s : ByteArray) (s1 : ByteArray) (n : Int) (k : ByteArray → ByteArray → Option R), Option R) (G_spec_l01IsWord : ∀ {R : Type} (n : Int) (k : Bool → Option R), Option R) (G_spec_OpenVolume_r : ∀ {R : Type} (b : Bool) (s : ByteArray) (s1 : ByteArray) (l : List Go.Sa.KeySlot) (k : Int → ByteArray → Option R), Option R) : Orc E := addFn 79 (pa_spec_AddPass_r__o_spec_l15Slot N G_spec_l15Slot G_spec_l01IsWord G_spec_OpenVolume_r) (addFn 78 (pa_spec_AddPass_r__o_spec_l01IsWord N G_spec_l15Slot G_spec_l01IsWord G_spec_OpenVolume_r) (addFn 35 (pa_spec_AddPass_r__o_spec_OpenVolume_r N G_spec_l15Slot G_spec_l01IsWord G_spec_OpenVolume_r) (noFn)))
theorem O_spec_AddPass_r_ok (N : Nat) : OrcOk (O_spec_AddPass_r N) := addFn_ok (o_spec_l15Slot_ok N) (addFn_ok (o_spec_l01IsWord_ok N) (addFn_ok (o_spec_OpenVolume_r_ok N) (noFn_ok)))
def g_spec_AddPass_r (N : Nat) {R : Type} (b : Bool) (s : ByteArray) (s1 : ByteArray) (s2 : ByteArray) (n : Int) (l : List Go.Sa.KeySlot) (k : Int → Bool → ByteArray → (List Go.Sa.KeySlot) → Option R) : Option R :=
  (oK (cond (decide (((((ByteArray.size s1) : Nat) : Int) > (4096 : Int))))
    (some Bool.true)
    (some (decide (((((ByteArray.size s2) : Nat) : Int) > (4096 : Int)))))) fun j =>
  (cond j
  (k (2 : Int) Bool.true (ByteArray.mk (List.toArray [])) [])
  (g_spec_OpenVolume_r N b s s1 l fun n1 s3 =>
    (cond (n1 != (0 : Int))
    (k n1 Bool.true (ByteArray.mk (List.toArray [])) [])
    (g_spec_l01IsWord N n fun b1 =>
      (cond (!b1)
      (k (1 : Int) Bool.true (ByteArray.mk (List.toArray [])) [])
      (cond ((((List.length l) : Nat) : Int) == (4 : Int))
        (k (4 : Int) Bool.true (ByteArray.mk (List.toArray [])) [])
        (cond (Go.Eng.roomOk (0 + (List.length l)) 40)
          (g_spec_l15Slot N s3 s2 n fun s4 s5 =>
            (cond (Go.Eng.roomOk ((List.length ([] ++ l)) + (List.length [(Go.Sa.KeySlot.mk n s4 s5)])) 40)
            (k (0 : Int) (cond (Nat.beq (List.length [(Go.Sa.KeySlot.mk n s4 s5)]) 0) (cond (Nat.beq (List.length l) 0) Bool.false Bool.false) Bool.false) s (([] ++ l) ++ [(Go.Sa.KeySlot.mk n s4 s5)]))
            none))
          none))))))))
def ga_g_spec_AddPass_r (N : Nat) (G_spec_l15Slot : ∀ {R : Type} (s : ByteArray) (s1 : ByteArray) (n : Int) (k : ByteArray → ByteArray → Option R), Option R) (G_spec_l01IsWord : ∀ {R : Type} (n : Int) (k : Bool → Option R), Option R) (G_spec_OpenVolume_r : ∀ {R : Type} (b : Bool) (s : ByteArray) (s1 : ByteArray) (l : List Go.Sa.KeySlot) (k : Int → ByteArray → Option R), Option R) {R : Type} (b : Bool) (s : ByteArray) (s1 : ByteArray) (s2 : ByteArray) (n : Int) (l : List Go.Sa.KeySlot) (k : Int → Bool → ByteArray → (List Go.Sa.KeySlot) → Option R) : Option R :=
  (oK (cond (decide (((((ByteArray.size s1) : Nat) : Int) > (4096 : Int))))
    (some Bool.true)
    (some (decide (((((ByteArray.size s2) : Nat) : Int) > (4096 : Int)))))) fun j =>
  (cond j
  (k (2 : Int) Bool.true (ByteArray.mk (List.toArray [])) [])
  (G_spec_OpenVolume_r b s s1 l fun n1 s3 =>
    (cond (n1 != (0 : Int))
    (k n1 Bool.true (ByteArray.mk (List.toArray [])) [])
    (G_spec_l01IsWord n fun b1 =>
      (cond (!b1)
      (k (1 : Int) Bool.true (ByteArray.mk (List.toArray [])) [])
      (cond ((((List.length l) : Nat) : Int) == (4 : Int))
        (k (4 : Int) Bool.true (ByteArray.mk (List.toArray [])) [])
        (cond (Go.Eng.roomOk (0 + (List.length l)) 40)
          (G_spec_l15Slot s3 s2 n fun s4 s5 =>
            (cond (Go.Eng.roomOk ((List.length ([] ++ l)) + (List.length [(Go.Sa.KeySlot.mk n s4 s5)])) 40)
            (k (0 : Int) (cond (Nat.beq (List.length [(Go.Sa.KeySlot.mk n s4 s5)]) 0) (cond (Nat.beq (List.length l) 0) Bool.false Bool.false) Bool.false) s (([] ++ l) ++ [(Go.Sa.KeySlot.mk n s4 s5)]))
            none))
          none))))))))
theorem ea_e_spec_AddPass_r (N : Nat) (G_spec_l15Slot : ∀ {R : Type} (s : ByteArray) (s1 : ByteArray) (n : Int) (k : ByteArray → ByteArray → Option R), Option R) (G_spec_l01IsWord : ∀ {R : Type} (n : Int) (k : Bool → Option R), Option R) (G_spec_OpenVolume_r : ∀ {R : Type} (b : Bool) (s : ByteArray) (s1 : ByteArray) (l : List Go.Sa.KeySlot) (k : Int → ByteArray → Option R), Option R) {R : Type} (b : Bool) (s : ByteArray) (s1 : ByteArray) (s2 : ByteArray) (n : Int) (l : List Go.Sa.KeySlot) (K : AV → Hp E → Option R) :
    runFnI (E := E) (OA_spec_AddPass_r N G_spec_l15Slot G_spec_l01IsWord G_spec_OpenVolume_r) (noIt) sl_spec_AddPass_r J_spec_AddPass_r Go.Proofs.Try.f52 [(Go.Eng.AV.agg [(Go.Eng.SV.slc 0 Option.none b), (Go.Eng.SV.str s)]), (Go.Eng.AV.sc (Go.Eng.SV.str s1)), (Go.Eng.AV.sc (Go.Eng.SV.str s2)), (Go.Eng.AV.sc (Go.Eng.SV.int Go.IntKind.i64 n))] [(Option.some (Go.Eng.HE.mk Bool.true (Go.Eng.HB.rows (Go.Sa.B.iKeySlot l))))] K =
      ga_g_spec_AddPass_r N G_spec_l15Slot G_spec_l01IsWord G_spec_OpenVolume_r b s s1 s2 n l (fun n2 b2 s6 l1 => K (Go.Eng.AV.agg [(Go.Eng.SV.int Go.IntKind.i64 n2), (Go.Eng.SV.slc 1 Option.none b2), (Go.Eng.SV.str s6)]) [(Option.some (Go.Eng.HE.mk Bool.true (Go.Eng.HB.rows (Go.Sa.B.iKeySlot l)))), (Option.some (Go.Eng.HE.mk Bool.false (Go.Eng.HB.rows (Go.Sa.B.iKeySlot l1))))]) := by kernel_rfl
theorem e_spec_AddPass_r (N : Nat) {R : Type} (b : Bool) (s : ByteArray) (s1 : ByteArray) (s2 : ByteArray) (n : Int) (l : List Go.Sa.KeySlot) (K : AV → Hp E → Option R) :
    runFnI (E := E) (O_spec_AddPass_r N) (noIt) sl_spec_AddPass_r J_spec_AddPass_r Go.Proofs.Try.f52 [(Go.Eng.AV.agg [(Go.Eng.SV.slc 0 Option.none b), (Go.Eng.SV.str s)]), (Go.Eng.AV.sc (Go.Eng.SV.str s1)), (Go.Eng.AV.sc (Go.Eng.SV.str s2)), (Go.Eng.AV.sc (Go.Eng.SV.int Go.IntKind.i64 n))] [(Option.some (Go.Eng.HE.mk Bool.true (Go.Eng.HB.rows (Go.Sa.B.iKeySlot l))))] K =
      g_spec_AddPass_r N b s s1 s2 n l (fun n2 b2 s6 l1 => K (Go.Eng.AV.agg [(Go.Eng.SV.int Go.IntKind.i64 n2), (Go.Eng.SV.slc 1 Option.none b2), (Go.Eng.SV.str s6)]) [(Option.some (Go.Eng.HE.mk Bool.true (Go.Eng.HB.rows (Go.Sa.B.iKeySlot l)))), (Option.some (Go.Eng.HE.mk Bool.false (Go.Eng.HB.rows (Go.Sa.B.iKeySlot l1))))]) := castPr (by kernel_rfl) (ea_e_spec_AddPass_r N (g_spec_l15Slot N) (g_spec_l01IsWord N) (g_spec_OpenVolume_r N) b s s1 s2 n l K)
def o_spec_AddPass_r (N : Nat) {R : Type} (args : List AV) (H : Hp E) (K : AV → Hp E → Option R) : Option R :=
  match args, H with
  | [(Go.Eng.AV.agg [(Go.Eng.SV.slc 0 Option.none b), (Go.Eng.SV.str s)]), (Go.Eng.AV.sc (Go.Eng.SV.str s1)), (Go.Eng.AV.sc (Go.Eng.SV.str s2)), (Go.Eng.AV.sc (Go.Eng.SV.int Go.IntKind.i64 n))], [(Option.some (Go.Eng.HE.mk Bool.true (Go.Eng.HB.rows (Go.Sa.B.iKeySlot l))))] => g_spec_AddPass_r N b s s1 s2 n l (fun n2 b2 s6 l1 => K (Go.Eng.AV.agg [(Go.Eng.SV.int Go.IntKind.i64 n2), (Go.Eng.SV.slc 1 Option.none b2), (Go.Eng.SV.str s6)]) [(Option.some (Go.Eng.HE.mk Bool.true (Go.Eng.HB.rows (Go.Sa.B.iKeySlot l)))), (Option.some (Go.Eng.HE.mk Bool.false (Go.Eng.HB.rows (Go.Sa.B.iKeySlot l1))))])
  | _, _ => none
theorem o_spec_AddPass_r_ok (N : Nat) : FnOk E 52 (o_spec_AddPass_r N) := by
  intro R args H K r h
  unfold o_spec_AddPass_r at h
  dsimp only at h
  split at h
  · exact fnB_ok (ids := []) (top := []) ok (O_spec_AddPass_r_ok N) (jn_ok _ _ _) Go.Proofs.Try.func52 (by kernel_rfl) (IT := noIt) (sl := sl_spec_AddPass_r) (J := J_spec_AddPass_r) (K := K) (H := [(Option.some (Go.Eng.HE.mk Bool.true (Go.Eng.HB.rows (Go.Sa.B.iKeySlot _))))]) (noIt_ok) (by kernel_rfl) rfl ((e_spec_AddPass_r N _ _ _ _ _ _ K).trans h)
  · cases h
/-! ### loop.example/g00038/spec.VolumeFault -/
abbrev sl_spec_VolumeFault_w : SlotT := [(0, ([1, 3], [2]))]
abbrev J_spec_VolumeFault_w : JT := jn [(1, [(20, .b)]), (7, [(48, .b)])] [] []
noncomputable def O_spec_VolumeFault_w (N : Nat) : Orc E := addFn 78 (o_spec_l01IsWord N) (noFn)
def pa_spec_VolumeFault_w__o_spec_l01IsWord (N : Nat) (G_spec_l01IsWord : ∀ {R : Type} (n : Int) (k : Bool → Option R), Option R) {R : Type} (args : List AV) (H : Hp E) (K : AV → Hp E → Option R) : Option R :=
  match args, H with
  | [(Go.Eng.AV.sc (Go.Eng.SV.int Go.IntKind.i64 n))], [] => G_spec_l01IsWord n (fun b => K (Go.Eng.AV.sc (Go.Eng.SV.bool b)) [])
  | _, _ => none
noncomputable def OA_spec_VolumeFault_w (N : Nat) (G_spec_l01IsWord : ∀ {R : Type} (n : Int) (k : Bool → Option R), Option R) : Orc E := addFn 78 (pa_spec_VolumeFault_w__o_spec_l01IsWord N G_spec_l01IsWord) (noFn)
theorem O_spec_VolumeFault_w_ok (N : Nat) : OrcOk (O_spec_VolumeFault_w N) := addFn_ok (o_spec_l01IsWord_ok N) (noFn_ok)
def s_spec_VolumeFault_w_0 (N : Nat) {R : Type} (l1 : List Go.Sa.KeySlot) (b1 : Bool) (s1 : ByteArray) (n : Int) (ag : Int → Option R)  (kR : Option R) (kN : Option R) : Option R :=
  (cond (decide ((n < (((List.length l1) : Nat) : Int))))
  (cond ((decide (((0 : Int) ≤ n))) && (decide ((n < (((List.length l1) : Nat) : Int)))))
    (elemK l1 (Int.toNat n) fun x =>
      (oK (g_spec_l01IsWord N (Go.Sa.KeySlot.fSalt x) fun b2 =>
        (cond (!b2)
        (some Bool.true)
        (cond ((((ByteArray.size (Go.Sa.KeySlot.fKey x)) : Nat) : Int) != (16 : Int))
          (some Bool.true)
          (some ((((ByteArray.size (Go.Sa.KeySlot.fTag x)) : Nat) : Int) != (8 : Int)))))) fun j1 =>
      (cond j1
      kR
      (ag (Go.IntKind.wrap Go.IntKind.i64 (n + (1 : Int)))))))
    none)
  kN)
def ga_s_spec_VolumeFault_w_0 (N : Nat) (G_spec_l01IsWord : ∀ {R : Type} (n : Int) (k : Bool → Option R), Option R) {R : Type} (l1 : List Go.Sa.KeySlot) (b1 : Bool) (s1 : ByteArray) (n : Int) (ag : Int → Option R)  (kR : Option R) (kN : Option R) : Option R :=
  (cond (decide ((n < (((List.length l1) : Nat) : Int))))
  (cond ((decide (((0 : Int) ≤ n))) && (decide ((n < (((List.length l1) : Nat) : Int)))))
    (elemK l1 (Int.toNat n) fun x =>
      (oK (G_spec_l01IsWord (Go.Sa.KeySlot.fSalt x) fun b2 =>
        (cond (!b2)
        (some Bool.true)
        (cond ((((ByteArray.size (Go.Sa.KeySlot.fKey x)) : Nat) : Int) != (16 : Int))
          (some Bool.true)
          (some ((((ByteArray.size (Go.Sa.KeySlot.fTag x)) : Nat) : Int) != (8 : Int)))))) fun j1 =>
      (cond j1
      kR
      (ag (Go.IntKind.wrap Go.IntKind.i64 (n + (1 : Int)))))))
    none)
  kN)
def l_spec_VolumeFault_w_0 (N : Nat) {R : Type} (l1 : List Go.Sa.KeySlot) (b1 : Bool) (s1 : ByteArray) (kR : Option R) (kN : Option R) : Nat → Int → Option R
  | 0, _ => none
  | f + 1, n => s_spec_VolumeFault_w_0 N l1 b1 s1 n (fun n => l_spec_VolumeFault_w_0 N l1 b1 s1 kR kN f n)  kR kN
def c_spec_VolumeFault_w_0 (N : Nat) {R : Type} (l1 : List Go.Sa.KeySlot) (b1 : Bool) (s1 : ByteArray) (n : Int) (kR : Option R) (kN : Option R) : Option R := l_spec_VolumeFault_w_0 N l1 b1 s1 kR kN N n
theorem ea_se_spec_VolumeFault_w_0 (N : Nat) (G_spec_l01IsWord : ∀ {R : Type} (n : Int) (k : Bool → Option R), Option R) {R : Type} (l1 : List Go.Sa.KeySlot) (b1 : Bool) (s1 : ByteArray) (n : Int) (AG : List (Option AV) → Hp E → Option R) (KL : Ex → List (Option AV) → Hp E → Option R) :
    iterStep (E := E) (OA_spec_VolumeFault_w N G_spec_l01IsWord) (fun {R} => LI (noIt) 1 49 sl_spec_VolumeFault_w (R := R)) J_spec_VolumeFault_w 1 49 0 [1, 3] [2] (body Go.Proofs.Try.f84 0) AG KL [(Option.some (Go.Eng.AV.sc (Go.Eng.SV.ptr 1 0 0))), (Option.some (Go.Eng.AV.sc (Go.Eng.SV.int Go.IntKind.i64 n)))] [(Option.some (Go.Eng.HE.mk Bool.false (Go.Eng.HB.rows (Go.Sa.B.iKeySlot l1)))), (Option.some (Go.Eng.HE.mk Bool.false (Go.Eng.HB.exp Option.none [(Go.Eng.SV.slc 0 Option.none b1), (Go.Eng.SV.str s1)])))] =
      ga_s_spec_VolumeFault_w_0 N G_spec_l01IsWord l1 b1 s1 n (fun n => AG [(Option.some (Go.Eng.AV.sc (Go.Eng.SV.ptr 1 0 0))), (Option.some (Go.Eng.AV.sc (Go.Eng.SV.int Go.IntKind.i64 n)))] [(Option.some (Go.Eng.HE.mk Bool.false (Go.Eng.HB.rows (Go.Sa.B.iKeySlot l1)))), (Option.some (Go.Eng.HE.mk Bool.false (Go.Eng.HB.exp Option.none [(Go.Eng.SV.slc 0 Option.none b1), (Go.Eng.SV.str s1)])))])  (KL Go.Eng.Ex.ret [(Option.some (Go.Eng.AV.sc (Go.Eng.SV.int Go.IntKind.i64 (1 : Int))))] [(Option.some (Go.Eng.HE.mk Bool.false (Go.Eng.HB.rows (Go.Sa.B.iKeySlot l1))))]) (KL Go.Eng.Ex.normal [Option.none] [(Option.some (Go.Eng.HE.mk Bool.false (Go.Eng.HB.rows (Go.Sa.B.iKeySlot l1))))]) := by kernel_rfl
theorem se_spec_VolumeFault_w_0 (N : Nat) {R : Type} (l1 : List Go.Sa.KeySlot) (b1 : Bool) (s1 : ByteArray) (n : Int) (AG : List (Option AV) → Hp E → Option R) (KL : Ex → List (Option AV) → Hp E → Option R) :
    iterStep (E := E) (O_spec_VolumeFault_w N) (fun {R} => LI (noIt) 1 49 sl_spec_VolumeFault_w (R := R)) J_spec_VolumeFault_w 1 49 0 [1, 3] [2] (body Go.Proofs.Try.f84 0) AG KL [(Option.some (Go.Eng.AV.sc (Go.Eng.SV.ptr 1 0 0))), (Option.some (Go.Eng.AV.sc (Go.Eng.SV.int Go.IntKind.i64 n)))] [(Option.some (Go.Eng.HE.mk Bool.false (Go.Eng.HB.rows (Go.Sa.B.iKeySlot l1)))), (Option.some (Go.Eng.HE.mk Bool.false (Go.Eng.HB.exp Option.none [(Go.Eng.SV.slc 0 Option.none b1), (Go.Eng.SV.str s1)])))] =
      s_spec_VolumeFault_w_0 N l1 b1 s1 n (fun n => AG [(Option.some (Go.Eng.AV.sc (Go.Eng.SV.ptr 1 0 0))), (Option.some (Go.Eng.AV.sc (Go.Eng.SV.int Go.IntKind.i64 n)))] [(Option.some (Go.Eng.HE.mk Bool.false (Go.Eng.HB.rows (Go.Sa.B.iKeySlot l1)))), (Option.some (Go.Eng.HE.mk Bool.false (Go.Eng.HB.exp Option.none [(Go.Eng.SV.slc 0 Option.none b1), (Go.Eng.SV.str s1)])))])  (KL Go.Eng.Ex.ret [(Option.some (Go.Eng.AV.sc (Go.Eng.SV.int Go.IntKind.i64 (1 : Int))))] [(Option.some (Go.Eng.HE.mk Bool.false (Go.Eng.HB.rows (Go.Sa.B.iKeySlot l1))))]) (KL Go.Eng.Ex.normal [Option.none] [(Option.some (Go.Eng.HE.mk Bool.false (Go.Eng.HB.rows (Go.Sa.B.iKeySlot l1))))]) := castPr (by kernel_rfl) (ea_se_spec_VolumeFault_w_0 N (g_spec_l01IsWord N) l1 b1 s1 n AG KL)
theorem le_spec_VolumeFault_w_0 (N : Nat) {R : Type} (l1 : List Go.Sa.KeySlot) (b1 : Bool) (s1 : ByteArray) (KL : Ex → List (Option AV) → Hp E → Option R) : ∀ (f : Nat), ∀ (n : Int), iterK (E := E) (O_spec_VolumeFault_w N) (fun {R} => LI (noIt) 1 49 sl_spec_VolumeFault_w (R := R)) J_spec_VolumeFault_w 1 49 0 [1, 3] [2] (body Go.Proofs.Try.f84 0) f [(Option.some (Go.Eng.AV.sc (Go.Eng.SV.ptr 1 0 0))), (Option.some (Go.Eng.AV.sc (Go.Eng.SV.int Go.IntKind.i64 n)))] [(Option.some (Go.Eng.HE.mk Bool.false (Go.Eng.HB.rows (Go.Sa.B.iKeySlot l1)))), (Option.some (Go.Eng.HE.mk Bool.false (Go.Eng.HB.exp Option.none [(Go.Eng.SV.slc 0 Option.none b1), (Go.Eng.SV.str s1)])))] KL = l_spec_VolumeFault_w_0 N l1 b1 s1 (KL Go.Eng.Ex.ret [(Option.some (Go.Eng.AV.sc (Go.Eng.SV.int Go.IntKind.i64 (1 : Int))))] [(Option.some (Go.Eng.HE.mk Bool.false (Go.Eng.HB.rows (Go.Sa.B.iKeySlot l1))))]) (KL Go.Eng.Ex.normal [Option.none] [(Option.some (Go.Eng.HE.mk Bool.false (Go.Eng.HB.rows (Go.Sa.B.iKeySlot l1))))]) f n := by
  intro f
  induction f with
  | zero => intros; rfl
  | succ f ih =>
    intro n
    rw [iterK_succ, se_spec_VolumeFault_w_0]
    exact (congrArg (fun z0 => s_spec_VolumeFault_w_0 N l1 b1 s1 n z0 (KL Go.Eng.Ex.ret [(Option.some (Go.Eng.AV.sc (Go.Eng.SV.int Go.IntKind.i64 (1 : Int))))] [(Option.some (Go.Eng.HE.mk Bool.false (Go.Eng.HB.rows (Go.Sa.B.iKeySlot l1))))]) (KL Go.Eng.Ex.normal [Option.none] [(Option.some (Go.Eng.HE.mk Bool.false (Go.Eng.HB.rows (Go.Sa.B.iKeySlot l1))))])) (funext fun n => ih n))
def i_spec_VolumeFault_w_0 (N : Nat) {R : Type} (vs : List (Option AV)) (H : Hp E) (KL : Ex → List (Option AV) → Hp E → Option R) : Option R :=
  match vs, H with
  | [(Option.some (Go.Eng.AV.sc (Go.Eng.SV.ptr 1 0 0))), (Option.some (Go.Eng.AV.sc (Go.Eng.SV.int Go.IntKind.i64 n)))], [(Option.some (Go.Eng.HE.mk Bool.false (Go.Eng.HB.rows (Go.Sa.B.iKeySlot l1)))), (Option.some (Go.Eng.HE.mk Bool.false (Go.Eng.HB.exp Option.none [(Go.Eng.SV.slc 0 Option.none b1), (Go.Eng.SV.str s1)])))] => c_spec_VolumeFault_w_0 N l1 b1 s1 n (KL Go.Eng.Ex.ret [(Option.some (Go.Eng.AV.sc (Go.Eng.SV.int Go.IntKind.i64 (1 : Int))))] [(Option.some (Go.Eng.HE.mk Bool.false (Go.Eng.HB.rows (Go.Sa.B.iKeySlot l1))))]) (KL Go.Eng.Ex.normal [Option.none] [(Option.some (Go.Eng.HE.mk Bool.false (Go.Eng.HB.rows (Go.Sa.B.iKeySlot l1))))])
  | _, _ => none
noncomputable def IT_spec_VolumeFault_w_0 (N : Nat) : Its E := addIt 0 (i_spec_VolumeFault_w_0 N) (noIt)
theorem IT_spec_VolumeFault_w_0_ok (N : Nat) : ItOk (IT_spec_VolumeFault_w_0 N) 1 49 sl_spec_VolumeFault_w (lsB Go.Proofs.Try.f84 [0]) :=
  addItB_ok (inner := []) ok (O_spec_VolumeFault_w_ok N) (jn_ok _ _ _) (noIt_ok) rfl (by kernel_rfl) rfl fun vs H KL r h => by
    unfold i_spec_VolumeFault_w_0 at h
    split at h
    · exact ⟨_, (le_spec_VolumeFault_w_0 N _ _ _ KL N _).trans h⟩
    · cases h
def g_spec_VolumeFault_w (N : Nat) {R : Type} (b : Bool) (s : ByteArray) (l : List Go.Sa.KeySlot) (k : Int → Option R) : Option R :=
  (oK (cond (decide (((((List.length l) : Nat) : Int) < (1 : Int))))
    (some Bool.true)
    (cond (decide (((((List.length l) : Nat) : Int) > (4 : Int))))
      (some Bool.true)
      (some ((((ByteArray.size s) : Nat) : Int) != (8 : Int))))) fun j =>
  (cond j
  (k (1 : Int))
  (c_spec_VolumeFault_w_0 N l b s (0 : Int) (
    (k (1 : Int))) (
    (k (0 : Int))))))
def ga_g_spec_VolumeFault_w (N : Nat) (G_spec_l01IsWord : ∀ {R : Type} (n : Int) (k : Bool → Option R), Option R) {R : Type} (b : Bool) (s : ByteArray) (l : List Go.Sa.KeySlot) (k : Int → Option R) : Option R :=
  (oK (cond (decide (((((List.length l) : Nat) : Int) < (1 : Int))))
    (some Bool.true)
    (cond (decide (((((List.length l) : Nat) : Int) > (4 : Int))))
      (some Bool.true)
      (some ((((ByteArray.size s) : Nat) : Int) != (8 : Int))))) fun j =>
  (cond j
  (k (1 : Int))
  (c_spec_VolumeFault_w_0 N l b s (0 : Int) (
    (k (1 : Int))) (
    (k (0 : Int))))))
theorem ea_e_spec_VolumeFault_w (N : Nat) (G_spec_l01IsWord : ∀ {R : Type} (n : Int) (k : Bool → Option R), Option R) {R : Type} (b : Bool) (s : ByteArray) (l : List Go.Sa.KeySlot) (K : AV → Hp E → Option R) :
    runFnI (E := E) (OA_spec_VolumeFault_w N G_spec_l01IsWord) (IT_spec_VolumeFault_w_0 N) sl_spec_VolumeFault_w J_spec_VolumeFault_w Go.Proofs.Try.f84 [(Go.Eng.AV.agg [(Go.Eng.SV.slc 0 Option.none b), (Go.Eng.SV.str s)])] [(Option.some (Go.Eng.HE.mk Bool.false (Go.Eng.HB.rows (Go.Sa.B.iKeySlot l))))] K =
      ga_g_spec_VolumeFault_w N G_spec_l01IsWord b s l (fun n1 => K (Go.Eng.AV.sc (Go.Eng.SV.int Go.IntKind.i64 n1)) [(Option.some (Go.Eng.HE.mk Bool.false (Go.Eng.HB.rows (Go.Sa.B.iKeySlot l))))]) := by kernel_rfl
theorem e_spec_VolumeFault_w (N : Nat) {R : Type} (b : Bool) (s : ByteArray) (l : List Go.Sa.KeySlot) (K : AV → Hp E → Option R) :
    runFnI (E := E) (O_spec_VolumeFault_w N) (IT_spec_VolumeFault_w_0 N) sl_spec_VolumeFault_w J_spec_VolumeFault_w Go.Proofs.Try.f84 [(Go.Eng.AV.agg [(Go.Eng.SV.slc 0 Option.none b), (Go.Eng.SV.str s)])] [(Option.some (Go.Eng.HE.mk Bool.false (Go.Eng.HB.rows (Go.Sa.B.iKeySlot l))))] K =
      g_spec_VolumeFault_w N b s l (fun n1 => K (Go.Eng.AV.sc (Go.Eng.SV.int Go.IntKind.i64 n1)) [(Option.some (Go.Eng.HE.mk Bool.false (Go.Eng.HB.rows (Go.Sa.B.iKeySlot l))))]) := castPr (by kernel_rfl) (ea_e_spec_VolumeFault_w N (g_spec_l01IsWord N) b s l K)
def o_spec_VolumeFault_w (N : Nat) {R : Type} (args : List AV) (H : Hp E) (K : AV → Hp E → Option R) : Option R :=
  match args, H with
  | [(Go.Eng.AV.agg [(Go.Eng.SV.slc 0 Option.none b), (Go.Eng.SV.str s)])], [(Option.some (Go.Eng.HE.mk Bool.false (Go.Eng.HB.rows (Go.Sa.B.iKeySlot l))))] => g_spec_VolumeFault_w N b s l (fun n1 => K (Go.Eng.AV.sc (Go.Eng.SV.int Go.IntKind.i64 n1)) [(Option.some (Go.Eng.HE.mk Bool.false (Go.Eng.HB.rows (Go.Sa.B.iKeySlot l))))])
  | _, _ => none
theorem o_spec_VolumeFault_w_ok (N : Nat) : FnOk E 84 (o_spec_VolumeFault_w N) := by
  intro R args H K r h
  unfold o_spec_VolumeFault_w at h
  dsimp only at h
  split at h
  · exact fnB_ok (ids := [0]) (top := [0]) ok (O_spec_VolumeFault_w_ok N) (jn_ok _ _ _) Go.Proofs.Try.func84 (by kernel_rfl) (IT := IT_spec_VolumeFault_w_0 N) (sl := sl_spec_VolumeFault_w) (J := J_spec_VolumeFault_w) (K := K) (H := [(Option.some (Go.Eng.HE.mk Bool.false (Go.Eng.HB.rows (Go.Sa.B.iKeySlot _))))]) (IT_spec_VolumeFault_w_0_ok N) (by kernel_rfl) rfl ((e_spec_VolumeFault_w N _ _ _ K).trans h)
  · cases h
/-! ### loop.example/g00038/spec.OpenVolume -/
abbrev sl_spec_OpenVolume_w : SlotT := [(0, ([1, 2, 4, 5], [4]))]
abbrev J_spec_OpenVolume_w : JT := jn [] [] []
noncomputable def O_spec_OpenVolume_w (N : Nat) : Orc E := addFn 41 (o_spec_Crypt N) (addFn 56 (o_spec_TagOf N) (addFn 84 (o_spec_VolumeFault_w N) (noFn)))
def pa_spec_OpenVolume_w__o_spec_Crypt (N : Nat) (G_spec_Crypt : ∀ {R : Type} (s : ByteArray) (n : Int) (s1 : ByteArray) (k : ByteArray → Option R), Option R) (G_spec_TagOf : ∀ {R : Type} (s : ByteArray) (s1 : ByteArray) (k : ByteArray → Option R), Option R) (G_spec_VolumeFault_w : ∀ {R : Type} (b : Bool) (s : ByteArray) (l : List Go.Sa.KeySlot) (k : Int → Option R), Option R) {R : Type} (args : List AV) (H : Hp E) (K : AV → Hp E → Option R) : Option R :=
  match args, H with
  | [(Go.Eng.AV.sc (Go.Eng.SV.str s)), (Go.Eng.AV.sc (Go.Eng.SV.int Go.IntKind.i64 n)), (Go.Eng.AV.sc (Go.Eng.SV.str s1))], [] => G_spec_Crypt s n s1 (fun s5 => K (Go.Eng.AV.sc (Go.Eng.SV.str s5)) [])
  | _, _ => none
def pa_spec_OpenVolume_w__o_spec_TagOf (N : Nat) (G_spec_Crypt : ∀ {R : Type} (s : ByteArray) (n : Int) (s1 : ByteArray) (k : ByteArray → Option R), Option R) (G_spec_TagOf : ∀ {R : Type} (s : ByteArray) (s1 : ByteArray) (k : ByteArray → Option R), Option R) (G_spec_VolumeFault_w : ∀ {R : Type} (b : Bool) (s : ByteArray) (l : List Go.Sa.KeySlot) (k : Int → Option R), Option R) {R : Type} (args : List AV) (H : Hp E) (K : AV → Hp E → Option R) : Option R :=
  match args, H with
  | [(Go.Eng.AV.sc (Go.Eng.SV.str s)), (Go.Eng.AV.sc (Go.Eng.SV.str s1))], [] => G_spec_TagOf s s1 (fun s4 => K (Go.Eng.AV.sc (Go.Eng.SV.str s4)) [])
  | _, _ => none
def pa_spec_OpenVolume_w__o_spec_VolumeFault_w (N : Nat) (G_spec_Crypt : ∀ {R : Type} (s : ByteArray) (n : Int) (s1 : ByteArray) (k : ByteArray → Option R), Option R) (G_spec_TagOf : ∀ {R : Type} (s : ByteArray) (s1 : ByteArray) (k : ByteArray → Option R), Option R) (G_spec_VolumeFault_w : ∀ {R : Type} (b : Bool) (s : ByteArray) (l : List Go.Sa.KeySlot) (k : Int → Option R), Option R) {R : Type} (args : List AV) (H : Hp E) (K : AV → Hp E → Option R) : Option R :=
  match args, H with
  | [(Go.Eng.AV.agg [(Go.Eng.SV.slc 0 Option.none b), (Go.Eng.SV.str s)])], [(Option.some (Go.Eng.HE.mk Bool.false (Go.Eng.HB.rows (Go.Sa.B.iKeySlot l))))] => G_spec_VolumeFault_w b s l (fun n1 => K (Go.Eng.AV.sc (Go.Eng.SV.int Go.IntKind.i64 n1)) [(Option.some (Go.Eng.HE.mk Bool.false (Go.Eng.HB.rows (Go.Sa.B.iKeySlot l))))])
  | _, _ => none
noncomputable def OA_spec_OpenVolume_w (N : Nat) (G_spec_Crypt : ∀ {R : Type} (s : ByteArray) (n : Int) (s1 : ByteArray) (k : ByteArray → Option R), Option R) (G_spec_TagOf : ∀ {R : Type} (s : ByteArray) (s1 : ByteArray) (k : ByteArray → Option R), Option R) (G_spec_VolumeFault_w : ∀ {R : Type} (b : Bool) (s : ByteArray) (l : List Go.Sa.KeySlot) (k : Int → Option R), Option R) : Orc E := addFn 41 (pa_spec_OpenVolume_w__o_spec_Crypt N G_spec_Crypt G_spec_TagOf G_spec_VolumeFault_w) (addFn 56 (pa_spec_OpenVolume_w__o_spec_TagOf N G_spec_Crypt G_spec_TagOf G_spec_VolumeFault_w) (addFn 84 (pa_spec_OpenVolume_w__o_spec_VolumeFault_w N G_spec_Crypt G_spec_TagOf G_spec_VolumeFault_w) (noFn)))
theorem O_spec_OpenVolume_w_ok (N : Nat) : OrcOk (O_spec_OpenVolume_w N) := addFn_ok (o_spec_Crypt_ok N) (addFn_ok (o_spec_TagOf_ok N) (addFn_ok (o_spec_VolumeFault_w_ok N) (noFn_ok)))
def s_spec_OpenVolume_w_0 (N : Nat) {R : Type} (s2 : ByteArray) (l1 : List Go.Sa.KeySlot) (b1 : Bool) (s3 : ByteArray) (n2 : Int) (s4 : ByteArray) (n1 : Int) (ag : Int → Option R)  (kR : ByteArray → Option R) (kN : Option R) : Option R :=
  (cond (decide ((n1 < (((List.length l1) : Nat) : Int))))
  (cond ((decide (((0 : Int) ≤ n1))) && (decide ((n1 < (((List.length l1) : Nat) : Int)))))
    (elemK l1 (Int.toNat n1) fun x =>
      (g_spec_TagOf N s2 (Go.Sa.KeySlot.fKey x) fun s5 =>
      (cond (!(decide ((s5 = (Go.Sa.KeySlot.fTag x)))))
      (ag (Go.IntKind.wrap Go.IntKind.i64 (n1 + (1 : Int))))
      (g_spec_Crypt N s2 (Go.Sa.KeySlot.fSalt x) (Go.Sa.KeySlot.fKey x) fun s6 =>
        (g_spec_TagOf N s6 (ByteArray.mk (List.toArray [])) fun s7 =>
        (cond (decide ((s7 = s3)))
        (kR s6)
        (ag (Go.IntKind.wrap Go.IntKind.i64 (n1 + (1 : Int))))))))))
    none)
  kN)
def ga_s_spec_OpenVolume_w_0 (N : Nat) (G_spec_Crypt : ∀ {R : Type} (s : ByteArray) (n : Int) (s1 : ByteArray) (k : ByteArray → Option R), Option R) (G_spec_TagOf : ∀ {R : Type} (s : ByteArray) (s1 : ByteArray) (k : ByteArray → Option R), Option R) (G_spec_VolumeFault_w : ∀ {R : Type} (b : Bool) (s : ByteArray) (l : List Go.Sa.KeySlot) (k : Int → Option R), Option R) {R : Type} (s2 : ByteArray) (l1 : List Go.Sa.KeySlot) (b1 : Bool) (s3 : ByteArray) (n2 : Int) (s4 : ByteArray) (n1 : Int) (ag : Int → Option R)  (kR : ByteArray → Option R) (kN : Option R) : Option R :=
  (cond (decide ((n1 < (((List.length l1) : Nat) : Int))))
  (cond ((decide (((0 : Int) ≤ n1))) && (decide ((n1 < (((List.length l1) : Nat) : Int)))))
    (elemK l1 (Int.toNat n1) fun x =>
      (G_spec_TagOf s2 (Go.Sa.KeySlot.fKey x) fun s5 =>
      (cond (!(decide ((s5 = (Go.Sa.KeySlot.fTag x)))))
      (ag (Go.IntKind.wrap Go.IntKind.i64 (n1 + (1 : Int))))
      (G_spec_Crypt s2 (Go.Sa.KeySlot.fSalt x) (Go.Sa.KeySlot.fKey x) fun s6 =>
        (G_spec_TagOf s6 (ByteArray.mk (List.toArray [])) fun s7 =>
        (cond (decide ((s7 = s3)))
        (kR s6)
        (ag (Go.IntKind.wrap Go.IntKind.i64 (n1 + (1 : Int))))))))))
    none)
  kN)
def l_spec_OpenVolume_w_0 (N : Nat) {R : Type} (s2 : ByteArray) (l1 : List Go.Sa.KeySlot) (b1 : Bool) (s3 : ByteArray) (n2 : Int) (s4 : ByteArray) (kR : ByteArray → Option R) (kN : Option R) : Nat → Int → Option R
  | 0, _ => none
  | f + 1, n1 => s_spec_OpenVolume_w_0 N s2 l1 b1 s3 n2 s4 n1 (fun n1 => l_spec_OpenVolume_w_0 N s2 l1 b1 s3 n2 s4 kR kN f n1)  kR kN
def c_spec_OpenVolume_w_0 (N : Nat) {R : Type} (s2 : ByteArray) (l1 : List Go.Sa.KeySlot) (b1 : Bool) (s3 : ByteArray) (n2 : Int) (s4 : ByteArray) (n1 : Int) (kR : ByteArray → Option R) (kN : Option R) : Option R := l_spec_OpenVolume_w_0 N s2 l1 b1 s3 n2 s4 kR kN N n1
theorem ea_se_spec_OpenVolume_w_0 (N : Nat) (G_spec_Crypt : ∀ {R : Type} (s : ByteArray) (n : Int) (s1 : ByteArray) (k : ByteArray → Option R), Option R) (G_spec_TagOf : ∀ {R : Type} (s : ByteArray) (s1 : ByteArray) (k : ByteArray → Option R), Option R) (G_spec_VolumeFault_w : ∀ {R : Type} (b : Bool) (s : ByteArray) (l : List Go.Sa.KeySlot) (k : Int → Option R), Option R) {R : Type} (s2 : ByteArray) (l1 : List Go.Sa.KeySlot) (b1 : Bool) (s3 : ByteArray) (n2 : Int) (s4 : ByteArray) (n1 : Int) (AG : List (Option AV) → Hp E → Option R) (KL : Ex → List (Option AV) → Hp E → Option R) :
    iterStep (E := E) (OA_spec_OpenVolume_w N G_spec_Crypt G_spec_TagOf G_spec_VolumeFault_w) (fun {R} => LI (noIt) 1 49 sl_spec_OpenVolume_w (R := R)) J_spec_OpenVolume_w 1 49 0 [1, 2, 4, 5] [4] (body Go.Proofs.Try.f35 0) AG KL [(Option.some (Go.Eng.AV.sc (Go.Eng.SV.str s2))), (Option.some (Go.Eng.AV.sc (Go.Eng.SV.ptr 1 0 0))), (Option.some (Go.Eng.AV.sc (Go.Eng.SV.ptr 2 0 0))), (Option.some (Go.Eng.AV.sc (Go.Eng.SV.int Go.IntKind.i64 n1)))] [(Option.some (Go.Eng.HE.mk Bool.false (Go.Eng.HB.rows (Go.Sa.B.iKeySlot l1)))), (Option.some (Go.Eng.HE.mk Bool.false (Go.Eng.HB.exp Option.none [(Go.Eng.SV.slc 0 Option.none b1), (Go.Eng.SV.str s3)]))), (Option.some (Go.Eng.HE.mk Bool.false (Go.Eng.HB.exp Option.none [(Go.Eng.SV.int Go.IntKind.i64 n2), (Go.Eng.SV.str s4)])))] =
      ga_s_spec_OpenVolume_w_0 N G_spec_Crypt G_spec_TagOf G_spec_VolumeFault_w s2 l1 b1 s3 n2 s4 n1 (fun n1 => AG [(Option.some (Go.Eng.AV.sc (Go.Eng.SV.str s2))), (Option.some (Go.Eng.AV.sc (Go.Eng.SV.ptr 1 0 0))), (Option.some (Go.Eng.AV.sc (Go.Eng.SV.ptr 2 0 0))), (Option.some (Go.Eng.AV.sc (Go.Eng.SV.int Go.IntKind.i64 n1)))] [(Option.some (Go.Eng.HE.mk Bool.false (Go.Eng.HB.rows (Go.Sa.B.iKeySlot l1)))), (Option.some (Go.Eng.HE.mk Bool.false (Go.Eng.HB.exp Option.none [(Go.Eng.SV.slc 0 Option.none b1), (Go.Eng.SV.str s3)]))), (Option.some (Go.Eng.HE.mk Bool.false (Go.Eng.HB.exp Option.none [(Go.Eng.SV.int Go.IntKind.i64 n2), (Go.Eng.SV.str s4)])))])  (fun s10 => KL Go.Eng.Ex.ret [(Option.some (Go.Eng.AV.sc (Go.Eng.SV.ptr 1 0 0)))] [(Option.some (Go.Eng.HE.mk Bool.false (Go.Eng.HB.rows (Go.Sa.B.iKeySlot l1)))), (Option.some (Go.Eng.HE.mk Bool.false (Go.Eng.HB.exp Option.none [(Go.Eng.SV.int Go.IntKind.i64 (0 : Int)), (Go.Eng.SV.str s10)])))]) (KL Go.Eng.Ex.normal [(Option.some (Go.Eng.AV.sc (Go.Eng.SV.ptr 1 0 0)))] [(Option.some (Go.Eng.HE.mk Bool.false (Go.Eng.HB.rows (Go.Sa.B.iKeySlot l1)))), (Option.some (Go.Eng.HE.mk Bool.false (Go.Eng.HB.exp Option.none [(Go.Eng.SV.int Go.IntKind.i64 n2), (Go.Eng.SV.str s4)])))]) := by kernel_rfl
theorem se_spec_OpenVolume_w_0 (N : Nat) {R : Type} (s2 : ByteArray) (l1 : List Go.Sa.KeySlot) (b1 : Bool) (s3 : ByteArray) (n2 : Int) (s4 : ByteArray) (n1 : Int) (AG : List (Option AV) → Hp E → Option R) (KL : Ex → List (Option AV) → Hp E → Option R) :
    iterStep (E := E) (O_spec_OpenVolume_w N) (fun {R} => LI (noIt) 1 49 sl_spec_OpenVolume_w (R := R)) J_spec_OpenVolume_w 1 49 0 [1, 2, 4, 5] [4] (body Go.Proofs.Try.f35 0) AG KL [(Option.some (Go.Eng.AV.sc (Go.Eng.SV.str s2))), (Option.some (Go.Eng.AV.sc (Go.Eng.SV.ptr 1 0 0))), (Option.some (Go.Eng.AV.sc (Go.Eng.SV.ptr 2 0 0))), (Option.some (Go.Eng.AV.sc (Go.Eng.SV.int Go.IntKind.i64 n1)))] [(Option.some (Go.Eng.HE.mk Bool.false (Go.Eng.HB.rows (Go.Sa.B.iKeySlot l1)))), (Option.some (Go.Eng.HE.mk Bool.false (Go.Eng.HB.exp Option.none [(Go.Eng.SV.slc 0 Option.none b1), (Go.Eng.SV.str s3)]))), (Option.some (Go.Eng.HE.mk Bool.false (Go.Eng.HB.exp Option.none [(Go.Eng.SV.int Go.IntKind.i64 n2), (Go.Eng.SV.str s4)])))] =
      s_spec_OpenVolume_w_0 N s2 l1 b1 s3 n2 s4 n1 (fun n1 => AG [(Option.some (Go.Eng.AV.sc (Go.Eng.SV.str s2))), (Option.some (Go.Eng.AV.sc (Go.Eng.SV.ptr 1 0 0))), (Option.some (Go.Eng.AV.sc (Go.Eng.SV.ptr 2 0 0))), (Option.some (Go.Eng.AV.sc (Go.Eng.SV.int Go.IntKind.i64 n1)))] [(Option.some (Go.Eng.HE.mk Bool.false (Go.Eng.HB.rows (Go.Sa.B.iKeySlot l1)))), (Option.some (Go.Eng.HE.mk Bool.false (Go.Eng.HB.exp Option.none [(Go.Eng.SV.slc 0 Option.none b1), (Go.Eng.SV.str s3)]))), (Option.some (Go.Eng.HE.mk Bool.false (Go.Eng.HB.exp Option.none [(Go.Eng.SV.int Go.IntKind.i64 n2), (Go.Eng.SV.str s4)])))])  (fun s10 => KL Go.Eng.Ex.ret [(Option.some (Go.Eng.AV.sc (Go.Eng.SV.ptr 1 0 0)))] [(Option.some (Go.Eng.HE.mk Bool.false (Go.Eng.HB.rows (Go.Sa.B.iKeySlot l1)))), (Option.some (Go.Eng.HE.mk Bool.false (Go.Eng.HB.exp Option.none [(Go.Eng.SV.int Go.IntKind.i64 (0 : Int)), (Go.Eng.SV.str s10)])))]) (KL Go.Eng.Ex.normal [(Option.some (Go.Eng.AV.sc (Go.Eng.SV.ptr 1 0 0)))] [(Option.some (Go.Eng.HE.mk Bool.false (Go.Eng.HB.rows (Go.Sa.B.iKeySlot l1)))), (Option.some (Go.Eng.HE.mk Bool.false (Go.Eng.HB.exp Option.none [(Go.Eng.SV.int Go.IntKind.i64 n2), (Go.Eng.SV.str s4)])))]) := castPr (by kernel_rfl) (ea_se_spec_OpenVolume_w_0 N (g_spec_Crypt N) (g_spec_TagOf N) (g_spec_VolumeFault_w N) s2 l1 b1 s3 n2 s4 n1 AG KL)
theorem le_spec_OpenVolume_w_0 (N : Nat) {R : Type} (s2 : ByteArray) (l1 : List Go.Sa.KeySlot) (b1 : Bool) (s3 : ByteArray) (n2 : Int) (s4 : ByteArray) (KL : Ex → List (Option AV) → Hp E → Option R) : ∀ (f : Nat), ∀ (n1 : Int), iterK (E := E) (O_spec_OpenVolume_w N) (fun {R} => LI (noIt) 1 49 sl_spec_OpenVolume_w (R := R)) J_spec_OpenVolume_w 1 49 0 [1, 2, 4, 5] [4] (body Go.Proofs.Try.f35 0) f [(Option.some (Go.Eng.AV.sc (Go.Eng.SV.str s2))), (Option.some (Go.Eng.AV.sc (Go.Eng.SV.ptr 1 0 0))), (Option.some (Go.Eng.AV.sc (Go.Eng.SV.ptr 2 0 0))), (Option.some (Go.Eng.AV.sc (Go.Eng.SV.int Go.IntKind.i64 n1)))] [(Option.some (Go.Eng.HE.mk Bool.false (Go.Eng.HB.rows (Go.Sa.B.iKeySlot l1)))), (Option.some (Go.Eng.HE.mk Bool.false (Go.Eng.HB.exp Option.none [(Go.Eng.SV.slc 0 Option.none b1), (Go.Eng.SV.str s3)]))), (Option.some (Go.Eng.HE.mk Bool.false (Go.Eng.HB.exp Option.none [(Go.Eng.SV.int Go.IntKind.i64 n2), (Go.Eng.SV.str s4)])))] KL = l_spec_OpenVolume_w_0 N s2 l1 b1 s3 n2 s4 (fun s10 => KL Go.Eng.Ex.ret [(Option.some (Go.Eng.AV.sc (Go.Eng.SV.ptr 1 0 0)))] [(Option.some (Go.Eng.HE.mk Bool.false (Go.Eng.HB.rows (Go.Sa.B.iKeySlot l1)))), (Option.some (Go.Eng.HE.mk Bool.false (Go.Eng.HB.exp Option.none [(Go.Eng.SV.int Go.IntKind.i64 (0 : Int)), (Go.Eng.SV.str s10)])))]) (KL Go.Eng.Ex.normal [(Option.some (Go.Eng.AV.sc (Go.Eng.SV.ptr 1 0 0)))] [(Option.some (Go.Eng.HE.mk Bool.false (Go.Eng.HB.rows (Go.Sa.B.iKeySlot l1)))), (Option.some (Go.Eng.HE.mk Bool.false (Go.Eng.HB.exp Option.none [(Go.Eng.SV.int Go.IntKind.i64 n2), (Go.Eng.SV.str s4)])))]) f n1 := by
  intro f
  induction f with
  | zero => intros; rfl
  | succ f ih =>
    intro n1
    rw [iterK_succ, se_spec_OpenVolume_w_0]
    exact (congrArg (fun z0 => s_spec_OpenVolume_w_0 N s2 l1 b1 s3 n2 s4 n1 z0 (fun s10 => KL Go.Eng.Ex.ret [(Option.some (Go.Eng.AV.sc (Go.Eng.SV.ptr 1 0 0)))] [(Option.some (Go.Eng.HE.mk Bool.false (Go.Eng.HB.rows (Go.Sa.B.iKeySlot l1)))), (Option.some (Go.Eng.HE.mk Bool.false (Go.Eng.HB.exp Option.none [(Go.Eng.SV.int Go.IntKind.i64 (0 : Int)), (Go.Eng.SV.str s10)])))]) (KL Go.Eng.Ex.normal [(Option.some (Go.Eng.AV.sc (Go.Eng.SV.ptr 1 0 0)))] [(Option.some (Go.Eng.HE.mk Bool.false (Go.Eng.HB.rows (Go.Sa.B.iKeySlot l1)))), (Option.some (Go.Eng.HE.mk Bool.false (Go.Eng.HB.exp Option.none [(Go.Eng.SV.int Go.IntKind.i64 n2), (Go.Eng.SV.str s4)])))])) (funext fun n1 => ih n1))
def i_spec_OpenVolume_w_0 (N : Nat) {R : Type} (vs : List (Option AV)) (H : Hp E) (KL : Ex → List (Option AV) → Hp E → Option R) : Option R :=
  match vs, H with
  | [(Option.some (Go.Eng.AV.sc (Go.Eng.SV.str s2))), (Option.some (Go.Eng.AV.sc (Go.Eng.SV.ptr 1 0 0))), (Option.some (Go.Eng.AV.sc (Go.Eng.SV.ptr 2 0 0))), (Option.some (Go.Eng.AV.sc (Go.Eng.SV.int Go.IntKind.i64 n1)))], [(Option.some (Go.Eng.HE.mk Bool.false (Go.Eng.HB.rows (Go.Sa.B.iKeySlot l1)))), (Option.some (Go.Eng.HE.mk Bool.false (Go.Eng.HB.exp Option.none [(Go.Eng.SV.slc 0 Option.none b1), (Go.Eng.SV.str s3)]))), (Option.some (Go.Eng.HE.mk Bool.false (Go.Eng.HB.exp Option.none [(Go.Eng.SV.int Go.IntKind.i64 n2), (Go.Eng.SV.str s4)])))] => c_spec_OpenVolume_w_0 N s2 l1 b1 s3 n2 s4 n1 (fun s11 => KL Go.Eng.Ex.ret [(Option.some (Go.Eng.AV.sc (Go.Eng.SV.ptr 1 0 0)))] [(Option.some (Go.Eng.HE.mk Bool.false (Go.Eng.HB.rows (Go.Sa.B.iKeySlot l1)))), (Option.some (Go.Eng.HE.mk Bool.false (Go.Eng.HB.exp Option.none [(Go.Eng.SV.int Go.IntKind.i64 (0 : Int)), (Go.Eng.SV.str s11)])))]) (KL Go.Eng.Ex.normal [(Option.some (Go.Eng.AV.sc (Go.Eng.SV.ptr 1 0 0)))] [(Option.some (Go.Eng.HE.mk Bool.false (Go.Eng.HB.rows (Go.Sa.B.iKeySlot l1)))), (Option.some (Go.Eng.HE.mk Bool.false (Go.Eng.HB.exp Option.none [(Go.Eng.SV.int Go.IntKind.i64 n2), (Go.Eng.SV.str s4)])))])
  | _, _ => none
noncomputable def IT_spec_OpenVolume_w_0 (N : Nat) : Its E := addIt 0 (i_spec_OpenVolume_w_0 N) (noIt)
theorem IT_spec_OpenVolume_w_0_ok (N : Nat) : ItOk (IT_spec_OpenVolume_w_0 N) 1 49 sl_spec_OpenVolume_w (lsB Go.Proofs.Try.f35 [0]) :=
  addItB_ok (inner := []) ok (O_spec_OpenVolume_w_ok N) (jn_ok _ _ _) (noIt_ok) rfl (by kernel_rfl) rfl fun vs H KL r h => by
    unfold i_spec_OpenVolume_w_0 at h
    split at h
    · exact ⟨_, (le_spec_OpenVolume_w_0 N _ _ _ _ _ _ KL N _).trans h⟩
    · cases h
def g_spec_OpenVolume_w (N : Nat) {R : Type} (b : Bool) (s : ByteArray) (s1 : ByteArray) (l : List Go.Sa.KeySlot) (k : Int → ByteArray → Option R) : Option R :=
  (cond (decide (((((ByteArray.size s1) : Nat) : Int) > (4096 : Int))))
  (k (2 : Int) (ByteArray.mk (List.toArray [])))
  (g_spec_VolumeFault_w N b s l fun n =>
    (cond (n != (0 : Int))
    (k (1 : Int) (ByteArray.mk (List.toArray [])))
    (c_spec_OpenVolume_w_0 N s1 l b s (0 : Int) (ByteArray.mk (List.toArray [])) (0 : Int) (fun s8 =>
      (k (0 : Int) s8)) (
      (k (7 : Int) (ByteArray.mk (List.toArray []))))))))
def ga_g_spec_OpenVolume_w (N : Nat) (G_spec_Crypt : ∀ {R : Type} (s : ByteArray) (n : Int) (s1 : ByteArray) (k : ByteArray → Option R), Option R) (G_spec_TagOf : ∀ {R : Type} (s : ByteArray) (s1 : ByteArray) (k : ByteArray → Option R), Option R) (G_spec_VolumeFault_w : ∀ {R : Type} (b : Bool) (s : ByteArray) (l : List Go.Sa.KeySlot) (k : Int → Option R), Option R) {R : Type} (b : Bool) (s : ByteArray) (s1 : ByteArray) (l : List Go.Sa.KeySlot) (k : Int → ByteArray → Option R) : Option R :=
  (cond (decide (((((ByteArray.size s1) : Nat) : Int) > (4096 : Int))))
  (k (2 : Int) (ByteArray.mk (List.toArray [])))
  (G_spec_VolumeFault_w b s l fun n =>
    (cond (n != (0 : Int))
    (k (1 : Int) (ByteArray.mk (List.toArray [])))
    (c_spec_OpenVolume_w_0 N s1 l b s (0 : Int) (ByteArray.mk (List.toArray [])) (0 : Int) (fun s8 =>
      (k (0 : Int) s8)) (
      (k (7 : Int) (ByteArray.mk (List.toArray []))))))))
theorem ea_e_spec_OpenVolume_w (N : Nat) (G_spec_Crypt : ∀ {R : Type} (s : ByteArray) (n : Int) (s1 : ByteArray) (k : ByteArray → Option R), Option R) (G_spec_TagOf : ∀ {R : Type} (s : ByteArray) (s1 : ByteArray) (k : ByteArray → Option R), Option R) (G_spec_VolumeFault_w : ∀ {R : Type} (b : Bool) (s : ByteArray) (l : List Go.Sa.KeySlot) (k : Int → Option R), Option R) {R : Type} (b : Bool) (s : ByteArray) (s1 : ByteArray) (l : List Go.Sa.KeySlot) (K : AV → Hp E → Option R) :
    runFnI (E := E) (OA_spec_OpenVolume_w N G_spec_Crypt G_spec_TagOf G_spec_VolumeFault_w) (IT_spec_OpenVolume_w_0 N) sl_spec_OpenVolume_w J_spec_OpenVolume_w Go.Proofs.Try.f35 [(Go.Eng.AV.agg [(Go.Eng.SV.slc 0 Option.none b), (Go.Eng.SV.str s)]), (Go.Eng.AV.sc (Go.Eng.SV.str s1))] [(Option.some (Go.Eng.HE.mk Bool.false (Go.Eng.HB.rows (Go.Sa.B.iKeySlot l))))] K =
      ga_g_spec_OpenVolume_w N G_spec_Crypt G_spec_TagOf G_spec_VolumeFault_w b s s1 l (fun n3 s9 => K (Go.Eng.AV.agg [(Go.Eng.SV.int Go.IntKind.i64 n3), (Go.Eng.SV.str s9)]) [(Option.some (Go.Eng.HE.mk Bool.false (Go.Eng.HB.rows (Go.Sa.B.iKeySlot l))))]) := by kernel_rfl
theorem e_spec_OpenVolume_w (N : Nat) {R : Type} (b : Bool) (s : ByteArray) (s1 : ByteArray) (l : List Go.Sa.KeySlot) (K : AV → Hp E → Option R) :
    runFnI (E := E) (O_spec_OpenVolume_w N) (IT_spec_OpenVolume_w_0 N) sl_spec_OpenVolume_w J_spec_OpenVolume_w Go.Proofs.Try.f35 [(Go.Eng.AV.agg [(Go.Eng.SV.slc 0 Option.none b), (Go.Eng.SV.str s)]), (Go.Eng.AV.sc (Go.Eng.SV.str s1))] [(Option.some (Go.Eng.HE.mk Bool.false (Go.Eng.HB.rows (Go.Sa.B.iKeySlot l))))] K =
      g_spec_OpenVolume_w N b s s1 l (fun n3 s9 => K (Go.Eng.AV.agg [(Go.Eng.SV.int Go.IntKind.i64 n3), (Go.Eng.SV.str s9)]) [(Option.some (Go.Eng.HE.mk Bool.false (Go.Eng.HB.rows (Go.Sa.B.iKeySlot l))))]) := castPr (by kernel_rfl) (ea_e_spec_OpenVolume_w N (g_spec_Crypt N) (g_spec_TagOf N) (g_spec_VolumeFault_w N) b s s1 l K)
def o_spec_OpenVolume_w (N : Nat) {R : Type} (args : List AV) (H : Hp E) (K : AV → Hp E → Option R) : Option R :=
  match args, H with
  | [(Go.Eng.AV.agg [(Go.Eng.SV.slc 0 Option.none b), (Go.Eng.SV.str s)]), (Go.Eng.AV.sc (Go.Eng.SV.str s1))], [(Option.some (Go.Eng.HE.mk Bool.false (Go.Eng.HB.rows (Go.Sa.B.iKeySlot l))))] => g_spec_OpenVolume_w N b s s1 l (fun n3 s9 => K (Go.Eng.AV.agg [(Go.Eng.SV.int Go.IntKind.i64 n3), (Go.Eng.SV.str s9)]) [(Option.some (Go.Eng.HE.mk Bool.false (Go.Eng.HB.rows (Go.Sa.B.iKeySlot l))))])
  | _, _ => none
theorem o_spec_OpenVolume_w_ok (N : Nat) : FnOk E 35 (o_spec_OpenVolume_w N) := by
  intro R args H K r h
  unfold o_spec_OpenVolume_w at h
  dsimp only at h
  split at h
  · exact fnB_ok (ids := [0]) (top := [0]) ok (O_spec_OpenVolume_w_ok N) (jn_ok _ _ _) Go.Proofs.Try.func35 (by kernel_rfl) (IT := IT_spec_OpenVolume_w_0 N) (sl := sl_spec_OpenVolume_w) (J := J_spec_OpenVolume_w) (K := K) (H := [(Option.some (Go.Eng.HE.mk Bool.false (Go.Eng.HB.rows (Go.Sa.B.iKeySlot _))))]) (IT_spec_OpenVolume_w_0_ok N) (by kernel_rfl) rfl ((e_spec_OpenVolume_w N _ _ _ _ K).trans h)
  · cases h
/-! ### loop.example/g00038/spec.AddPass -/
abbrev sl_spec_AddPass_w : SlotT := []
abbrev J_spec_AddPass_w : JT := jn [(1, [(17, .b)])] [] [(10, [3, 10])]
noncomputable def O_spec_AddPass_w (N : Nat) : Orc E := addFn 79 (o_spec_l15Slot N) (addFn 78 (o_spec_l01IsWord N) (addFn 35 (o_spec_OpenVolume_w N) (noFn)))
def pa_spec_AddPass_w__o_spec_l15Slot (N : Nat) (G_spec_l15Slot : ∀ {R : Type} (s : ByteArray) (s1 : ByteArray) (n : Int) (k : ByteArray → ByteArray → Option R), Option R) (G_spec_l01IsWord : ∀ {R : Type} (n : Int) (k : Bool → Option R), Option R) (G_spec_OpenVolume_w : ∀ {R : Type} (b : Bool) (s : ByteArray) (s1 : ByteArray) (l : List Go.Sa.KeySlot) (k : Int → ByteArray → Option R), Option R) {R : Type} (args : List AV) (H : Hp E) (K : AV → Hp E → Option R) : Option R :=
  match args, H with
  | [(Go.Eng.AV.sc (Go.Eng.SV.str s)), (Go.Eng.AV.sc (Go.Eng.SV.str s1)), (Go.Eng.AV.sc (Go.Eng.SV.int Go.IntKind.i64 n))], [] => G_spec_l15Slot s s1 n (fun s4 s5 => K (Go.Eng.AV.agg [(Go.Eng.SV.int Go.IntKind.i64 n), (Go.Eng.SV.str s4), (Go.Eng.SV.str s5)]) [])
  | _, _ => none
def pa_spec_AddPass_w__o_spec_l01IsWord (N : Nat) (G_spec_l15Slot : ∀ {R : Type} (s : ByteArray) (s1 : ByteArray) (n : Int) (k : ByteArray → ByteArray → Option R), Option R) (G_spec_l01IsWord : ∀ {R : Type} (n : Int) (k : Bool → Option R), Option R) (G_spec_OpenVolume_w : ∀ {R : Type} (b : Bool) (s : ByteArray) (s1 : ByteArray) (l : List Go.Sa.KeySlot) (k : Int → ByteArray → Option R), Option R) {R : Type} (args : List AV) (H : Hp E) (K : AV → Hp E → Option R) : Option R :=
  match args, H with
  | [(Go.Eng.AV.sc (Go.Eng.SV.int Go.IntKind.i64 n))], [] => G_spec_l01IsWord n (fun b => K (Go.Eng.AV.sc (Go.Eng.SV.bool b)) [])
  | _, _ => none
def pa_spec_AddPass_w__o_spec_OpenVolume_w (N : Nat) (G_spec_l15Slot : ∀ {R : Type} (s : ByteArray) (s1 : ByteArray) (n : Int) (k : ByteArray → ByteArray → Option R), Option R) (G_spec_l01IsWord : ∀ {R : Type} (n : Int) (k : Bool → Option R), Option R) (G_spec_OpenVolume_w : ∀ {R : Type} (b : Bool) (s : ByteArray) (s1 : ByteArray) (l : List Go.Sa.KeySlot) (k : Int → ByteArray → Option R), Option R) {R : Type} (args : List AV) (H : Hp E) (K : AV → Hp E → Option R) : Option R :=
  match args, H with
  | [(Go.Eng.AV.agg [(Go.Eng.SV.slc 0 Option.none b), (Go.Eng.SV.str s)]), (Go.Eng.AV.sc (Go.Eng.SV.str s1))], [(Option.some (Go.Eng.HE.mk Bool.false (Go.Eng.HB.rows (Go.Sa.B.iKeySlot l))))] => G_spec_OpenVolume_w b s s1 l (fun n3 s9 => K (Go.Eng.AV.agg [(Go.Eng.SV.int Go.IntKind.i64 n3), (Go.Eng.SV.str s9)]) [(Option.some (Go.Eng.HE.mk Bool.false (Go.Eng.HB.rows (Go.Sa.B.iKeySlot l))))])
  | _, _ => none
noncomputable def OA_spec_AddPass_w (N : Nat) (G_spec_l15Slot : ∀ {R : Type} (s : ByteArray) (s1 : ByteArray) (n : Int) (k : ByteArray → ByteArray → Option R), Option R) (G_spec_l01IsWord : ∀ {R : Type} (n : Int) (k : Bool → Option R), Option R) (G_spec_OpenVolume_w : ∀ {R : Type} (b : Bool) (s : ByteArray) (s1 : ByteArray) (l : List Go.Sa.KeySlot) (k : Int → ByteArray → Option R), Option R) : Orc E := addFn 79 (pa_spec_AddPass_w__o_spec_l15Slot N G_spec_l15Slot G_spec_l01IsWord G_spec_OpenVolume_w) (addFn 78 (pa_spec_AddPass_w__o_spec_l01IsWord N G_spec_l15Slot G_spec_l01IsWord G_spec_OpenVolume_w) (addFn 35 (pa_spec_AddPass_w__o_spec_OpenVolume_w N G_spec_l15Slot G_spec_l01IsWord G_spec_OpenVolume_w) (noFn)))
theorem O_spec_AddPass_w_ok (N : Nat) : OrcOk (O_spec_AddPass_w N) := addFn_ok (o_spec_l15Slot_ok N) (addFn_ok (o_spec_l01IsWord_ok N) (addFn_ok (o_spec_OpenVolume_w_ok N) (noFn_ok)))
def g_spec_AddPass_w (N : Nat) {R : Type} (b : Bool) (s : ByteArray) (s1 : ByteArray) (s2 : ByteArray) (n : Int) (l : List Go.Sa.KeySlot) (k : Int → Bool → ByteArray → (List Go.Sa.KeySlot) → Option R) : Option R :=
  (oK (cond (decide (((((ByteArray.size s1) : Nat) : Int) > (4096 : Int))))
    (some Bool.true)
    (some (decide (((((ByteArray.size s2) : Nat) : Int) > (4096 : Int)))))) fun j =>
  (cond j
  (k (2 : Int) Bool.true (ByteArray.mk (List.toArray [])) [])
  (g_spec_OpenVolume_w N b s s1 l fun n1 s3 =>
    (cond (n1 != (0 : Int))
    (k n1 Bool.true (ByteArray.mk (List.toArray [])) [])
    (g_spec_l01IsWord N n fun b1 =>
      (cond (!b1)
      (k (1 : Int) Bool.true (ByteArray.mk (List.toArray [])) [])
      (cond ((((List.length l) : Nat) : Int) == (4 : Int))
        (k (4 : Int) Bool.true (ByteArray.mk (List.toArray [])) [])
        (cond (Go.Eng.roomOk (0 + (List.length l)) 40)
          (g_spec_l15Slot N s3 s2 n fun s4 s5 =>
            (cond (Go.Eng.roomOk ((List.length ([] ++ l)) + (List.length [(Go.Sa.KeySlot.mk n s4 s5)])) 40)
            (k (0 : Int) (cond (Nat.beq (List.length [(Go.Sa.KeySlot.mk n s4 s5)]) 0) (cond (Nat.beq (List.length l) 0) Bool.false Bool.false) Bool.false) s (([] ++ l) ++ [(Go.Sa.KeySlot.mk n s4 s5)]))
            none))
          none))))))))
def ga_g_spec_AddPass_w (N : Nat) (G_spec_l15Slot : ∀ {R : Type} (s : ByteArray) (s1 : ByteArray) (n : Int) (k : ByteArray → ByteArray → Option R), Option R) (G_spec_l01IsWord : ∀ {R : Type} (n : Int) (k : Bool → Option R), Option R) (G_spec_OpenVolume_w : ∀ {R : Type} (b : Bool) (s : ByteArray) (s1 : ByteArray) (l : List Go.Sa.KeySlot) (k : Int → ByteArray → Option R), Option R) {R : Type} (b : Bool) (s : ByteArray) (s1 : ByteArray) (s2 : ByteArray) (n : Int) (l : List Go.Sa.KeySlot) (k : Int → Bool → ByteArray → (List Go.Sa.KeySlot) → Option R) : Option R :=
  (oK (cond (decide (((((ByteArray.size s1) : Nat) : Int) > (4096 : Int))))
    (some Bool.true)
    (some (decide (((((ByteArray.size s2) : Nat) : Int) > (4096 : Int)))))) fun j =>
  (cond j
  (k (2 : Int) Bool.true (ByteArray.mk (List.toArray [])) [])
  (G_spec_OpenVolume_w b s s1 l fun n1 s3 =>
    (cond (n1 != (0 : Int))
    (k n1 Bool.true (ByteArray.mk (List.toArray [])) [])
    (G_spec_l01IsWord n fun b1 =>
      (cond (!b1)
      (k (1 : Int) Bool.true (ByteArray.mk (List.toArray [])) [])
      (cond ((((List.length l) : Nat) : Int) == (4 : Int))
        (k (4 : Int) Bool.true (ByteArray.mk (List.toArray [])) [])
        (cond (Go.Eng.roomOk (0 + (List.length l)) 40)
          (G_spec_l15Slot s3 s2 n fun s4 s5 =>
            (cond (Go.Eng.roomOk ((List.length ([] ++ l)) + (List.length [(Go.Sa.KeySlot.mk n s4 s5)])) 40)
            (k (0 : Int) (cond (Nat.beq (List.length [(Go.Sa.KeySlot.mk n s4 s5)]) 0) (cond (Nat.beq (List.length l) 0) Bool.false Bool.false) Bool.false) s (([] ++ l) ++ [(Go.Sa.KeySlot.mk n s4 s5)]))
            none))
          none))))))))
theorem ea_e_spec_AddPass_w (N : Nat) (G_spec_l15Slot : ∀ {R : Type} (s : ByteArray) (s1 : ByteArray) (n : Int) (k : ByteArray → ByteArray → Option R), Option R) (G_spec_l01IsWord : ∀ {R : Type} (n : Int) (k : Bool → Option R), Option R) (G_spec_OpenVolume_w : ∀ {R : Type} (b : Bool) (s : ByteArray) (s1 : ByteArray) (l : List Go.Sa.KeySlot) (k : Int → ByteArray → Option R), Option R) {R : Type} (b : Bool) (s : ByteArray) (s1 : ByteArray) (s2 : ByteArray) (n : Int) (l : List Go.Sa.KeySlot) (K : AV → Hp E → Option R) :
    runFnI (E := E) (OA_spec_AddPass_w N G_spec_l15Slot G_spec_l01IsWord G_spec_OpenVolume_w) (noIt) sl_spec_AddPass_w J_spec_AddPass_w Go.Proofs.Try.f52 [(Go.Eng.AV.agg [(Go.Eng.SV.slc 0 Option.none b), (Go.Eng.SV.str s)]), (Go.Eng.AV.sc (Go.Eng.SV.str s1)), (Go.Eng.AV.sc (Go.Eng.SV.str s2)), (Go.Eng.AV.sc (Go.Eng.SV.int Go.IntKind.i64 n))] [(Option.some (Go.Eng.HE.mk Bool.false (Go.Eng.HB.rows (Go.Sa.B.iKeySlot l))))] K =
      ga_g_spec_AddPass_w N G_spec_l15Slot G_spec_l01IsWord G_spec_OpenVolume_w b s s1 s2 n l (fun n2 b2 s6 l1 => K (Go.Eng.AV.agg [(Go.Eng.SV.int Go.IntKind.i64 n2), (Go.Eng.SV.slc 1 Option.none b2), (Go.Eng.SV.str s6)]) [(Option.some (Go.Eng.HE.mk Bool.false (Go.Eng.HB.rows (Go.Sa.B.iKeySlot l)))), (Option.some (Go.Eng.HE.mk Bool.false (Go.Eng.HB.rows (Go.Sa.B.iKeySlot l1))))]) := by kernel_rfl
theorem e_spec_AddPass_w (N : Nat) {R : Type} (b : Bool) (s : ByteArray) (s1 : ByteArray) (s2 : ByteArray) (n : Int) (l : List Go.Sa.KeySlot) (K : AV → Hp E → Option R) :
    runFnI (E := E) (O_spec_AddPass_w N) (noIt) sl_spec_AddPass_w J_spec_AddPass_w Go.Proofs.Try.f52 [(Go.Eng.AV.agg [(Go.Eng.SV.slc 0 Option.none b), (Go.Eng.SV.str s)]), (Go.Eng.AV.sc (Go.Eng.SV.str s1)), (Go.Eng.AV.sc (Go.Eng.SV.str s2)), (Go.Eng.AV.sc (Go.Eng.SV.int Go.IntKind.i64 n))] [(Option.some (Go.Eng.HE.mk Bool.false (Go.Eng.HB.rows (Go.Sa.B.iKeySlot l))))] K =
      g_spec_AddPass_w N b s s1 s2 n l (fun n2 b2 s6 l1 => K (Go.Eng.AV.agg [(Go.Eng.SV.int Go.IntKind.i64 n2), (Go.Eng.SV.slc 1 Option.none b2), (Go.Eng.SV.str s6)]) [(Option.some (Go.Eng.HE.mk Bool.false (Go.Eng.HB.rows (Go.Sa.B.iKeySlot l)))), (Option.some (Go.Eng.HE.mk Bool.false (Go.Eng.HB.rows (Go.Sa.B.iKeySlot l1))))]) := castPr (by kernel_rfl) (ea_e_spec_AddPass_w N (g_spec_l15Slot N) (g_spec_l01IsWord N) (g_spec_OpenVolume_w N) b s s1 s2 n l K)
def o_spec_AddPass_w (N : Nat) {R : Type} (args : List AV) (H : Hp E) (K : AV → Hp E → Option R) : Option R :=
  match args, H with
  | [(Go.Eng.AV.agg [(Go.Eng.SV.slc 0 Option.none b), (Go.Eng.SV.str s)]), (Go.Eng.AV.sc (Go.Eng.SV.str s1)), (Go.Eng.AV.sc (Go.Eng.SV.str s2)), (Go.Eng.AV.sc (Go.Eng.SV.int Go.IntKind.i64 n))], [(Option.some (Go.Eng.HE.mk Bool.false (Go.Eng.HB.rows (Go.Sa.B.iKeySlot l))))] => g_spec_AddPass_w N b s s1 s2 n l (fun n2 b2 s6 l1 => K (Go.Eng.AV.agg [(Go.Eng.SV.int Go.IntKind.i64 n2), (Go.Eng.SV.slc 1 Option.none b2), (Go.Eng.SV.str s6)]) [(Option.some (Go.Eng.HE.mk Bool.false (Go.Eng.HB.rows (Go.Sa.B.iKeySlot l)))), (Option.some (Go.Eng.HE.mk Bool.false (Go.Eng.HB.rows (Go.Sa.B.iKeySlot l1))))])
  | _, _ => none
theorem o_spec_AddPass_w_ok (N : Nat) : FnOk E 52 (o_spec_AddPass_w N) := by
  intro R args H K r h
  unfold o_spec_AddPass_w at h
  dsimp only at h
  split at h
  · exact fnB_ok (ids := []) (top := []) ok (O_spec_AddPass_w_ok N) (jn_ok _ _ _) Go.Proofs.Try.func52 (by kernel_rfl) (IT := noIt) (sl := sl_spec_AddPass_w) (J := J_spec_AddPass_w) (K := K) (H := [(Option.some (Go.Eng.HE.mk Bool.false (Go.Eng.HB.rows (Go.Sa.B.iKeySlot _))))]) (noIt_ok) (by kernel_rfl) rfl ((e_spec_AddPass_w N _ _ _ _ _ _ K).trans h)
  · cases h
end Go.Sa
