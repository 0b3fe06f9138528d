import Derived.Test.YtflmjaehnbnjnaaSpec
import Derived.Test.YtflmjaehnbnjnaaPLb
import Derived.Test.YtflmjaehnbnjnaaW0
set_option linter.all false
namespace Go.Sa
open Go Go.Eng Go.Proofs
set_option maxRecDepth 100000
set_option maxHeartbeats 4000000
/-! ### loop.example/g00038/spec.l01Ints -/
abbrev sl_spec_l01Ints_w : SlotT := []
abbrev J_spec_l01Ints_w : JT := jn [] [] []
noncomputable def O_spec_l01Ints_w (N : Nat) : Orc E := noFn
theorem O_spec_l01Ints_w_ok (N : Nat) : OrcOk (O_spec_l01Ints_w N) := noFn_ok
noncomputable def g_spec_l01Ints_w (N : Nat) {R : Type} (b : Bool) (l : List Int) (k : Bool → (List Int) → Option R) : Option R :=
 (cond (Go.Eng.roomOk (0 + (List.length l)) 8)
 (k (cond (Nat.beq (List.length l) 0) false false) ([] ++ l))
 none)
theorem e_spec_l01Ints_w (N : Nat) {R : Type} (b : Bool) (l : List Int) (K : AV → Hp E → Option R) :
    runFnI (E := E) (O_spec_l01Ints_w N) (noIt) sl_spec_l01Ints_w J_spec_l01Ints_w Try.f40 [(AV.sc (SV.slc 0 none b))] [(some (HE.mk false (HB.rows (B.i64 l))))] K =
      g_spec_l01Ints_w N b l (fun b1 l1 => K (AV.sc (SV.slc 1 none b1)) [(some (HE.mk false (HB.rows (B.i64 l)))), (some (HE.mk false (HB.rows (B.i64 l1))))]) := by kernel_rfl
noncomputable def o_spec_l01Ints_w (N : Nat) {R : Type} (args : List AV) (H : Hp E) (K : AV → Hp E → Option R) : Option R :=
 match args, H with
 | [(AV.sc (SV.slc 0 none b))], [(some (HE.mk false (HB.rows (B.i64 l))))] => g_spec_l01Ints_w N b l (fun b1 l1 => K (AV.sc (SV.slc 1 none b1)) [(some (HE.mk false (HB.rows (B.i64 l)))), (some (HE.mk false (HB.rows (B.i64 l1))))])
 | _, _ => none
theorem o_spec_l01Ints_w_ok (N : Nat) : FnOk E 40 (o_spec_l01Ints_w N) := by
  intro R args H K r h
  unfold o_spec_l01Ints_w at h
  dsimp only at h
  split at h
  · exact fnB_ok (ids := []) (top := []) ok (O_spec_l01Ints_w_ok N) (jn_ok _ _ _) Try.func40 (by kernel_rfl) (IT := noIt) (sl := sl_spec_l01Ints_w) (J := J_spec_l01Ints_w) (K := K) (H := [(some (HE.mk false (HB.rows (B.i64 _))))]) (noIt_ok) (by kernel_rfl) rfl ((e_spec_l01Ints_w N _ _ K).trans h)
  · cases h
/-! ### loop.example/g00038/spec.l01Word -/
abbrev sl_spec_l01Word : SlotT := []
abbrev J_spec_l01Word : JT := jn [] [] []
noncomputable def O_spec_l01Word (N : Nat) : Orc E := noFn
theorem O_spec_l01Word_ok (N : Nat) : OrcOk (O_spec_l01Word N) := noFn_ok
noncomputable def g_spec_l01Word (N : Nat) {R : Type} (s : ByteArray) (n : Int) (k : Int → Option R) : Option R :=
 (cond ((decide (((0 : Int) ≤ n))) && (decide ((n < (((ByteArray.size s) : Nat) : Int)))))
 (cond ((decide (((0 : Int) ≤ (IntKind.wrap IntKind.i64 (n + (1 : Int)))))) && (decide (((IntKind.wrap IntKind.i64 (n + (1 : Int))) < (((ByteArray.size s) : Nat) : Int)))))
 (cond ((decide (((0 : Int) ≤ (IntKind.wrap IntKind.i64 (n + (2 : Int)))))) && (decide (((IntKind.wrap IntKind.i64 (n + (2 : Int))) < (((ByteArray.size s) : Nat) : Int)))))
 (cond ((decide (((0 : Int) ≤ (IntKind.wrap IntKind.i64 (n + (3 : Int)))))) && (decide (((IntKind.wrap IntKind.i64 (n + (3 : Int))) < (((ByteArray.size s) : Nat) : Int)))))
 (k (IntKind.wrap IntKind.i64 ((IntKind.wrap IntKind.i64 ((IntKind.wrap IntKind.i64 ((IntKind.wrap IntKind.i64 (Go.Eng.bt s (Int.toNat n))) + (IntKind.wrap IntKind.i64 ((IntKind.wrap IntKind.i64 (Go.Eng.bt s (Int.toNat (IntKind.wrap IntKind.i64 (n + (1 : Int)))))) * (256 : Int))))) + (IntKind.wrap IntKind.i64 ((IntKind.wrap IntKind.i64 (Go.Eng.bt s (Int.toNat (IntKind.wrap IntKind.i64 (n + (2 : Int)))))) * (65536 : Int))))) + (IntKind.wrap IntKind.i64 ((IntKind.wrap IntKind.i64 (Go.Eng.bt s (Int.toNat (IntKind.wrap IntKind.i64 (n + (3 : Int)))))) * (16777216 : Int))))))
 none)
 none)
 none)
 none)
theorem e_spec_l01Word (N : Nat) {R : Type} (s : ByteArray) (n : Int) (K : AV → Hp E → Option R) :
    runFnI (E := E) (O_spec_l01Word N) (noIt) sl_spec_l01Word J_spec_l01Word Try.f51 [(AV.sc (SV.str s)), (AV.sc (SV.int IntKind.i64 n))] [] K =
      g_spec_l01Word N s n (fun n1 => K (AV.sc (SV.int IntKind.i64 n1)) []) := by kernel_rfl
noncomputable def o_spec_l01Word (N : Nat) {R : Type} (args : List AV) (H : Hp E) (K : AV → Hp E → Option R) : Option R :=
 match args, H with
 | [(AV.sc (SV.str s)), (AV.sc (SV.int IntKind.i64 n))], [] => g_spec_l01Word N s n (fun n1 => K (AV.sc (SV.int IntKind.i64 n1)) [])
 | _, _ => none
theorem o_spec_l01Word_ok (N : Nat) : FnOk E 51 (o_spec_l01Word N) := by
  intro R args H K r h
  unfold o_spec_l01Word at h
  dsimp only at h
  split at h
  · exact fnB_ok (ids := []) (top := []) ok (O_spec_l01Word_ok N) (jn_ok _ _ _) Try.func51 (by kernel_rfl) (IT := noIt) (sl := sl_spec_l01Word) (J := J_spec_l01Word) (K := K) (H := []) (noIt_ok) (by kernel_rfl) rfl ((e_spec_l01Word N _ _ K).trans h)
  · cases h
/-! ### loop.example/g00038/spec.GetWord -/
abbrev sl_spec_GetWord : SlotT := []
abbrev J_spec_GetWord : JT := jn [(1, [(18, .b)])] [] []
noncomputable def O_spec_GetWord (N : Nat) : Orc E := addFn 51 (o_spec_l01Word N) (noFn)
theorem O_spec_GetWord_ok (N : Nat) : OrcOk (O_spec_GetWord N) := addFn_ok (o_spec_l01Word_ok N) (noFn_ok)
noncomputable def g_spec_GetWord (N : Nat) {R : Type} (s : ByteArray) (n : Int) (k : Bool → Int → Option R) : Option R :=
 (oK (cond (decide (((((ByteArray.size s) : Nat) : Int) > (65536 : Int))))
 (some true)
 (cond (decide ((n < (0 : Int))))
 (some true)
 (some (decide ((n > (IntKind.wrap IntKind.i64 ((((ByteArray.size s) : Nat) : Int) - (4 : Int))))))))) fun j =>
 (cond j
 (k false (0 : Int))
 (g_spec_l01Word N s n fun n1 =>
 (k true n1))))
theorem e_spec_GetWord (N : Nat) {R : Type} (s : ByteArray) (n : Int) (K : AV → Hp E → Option R) :
    runFnI (E := E) (O_spec_GetWord N) (noIt) sl_spec_GetWord J_spec_GetWord Try.f59 [(AV.sc (SV.str s)), (AV.sc (SV.int IntKind.i64 n))] [] K =
      g_spec_GetWord N s n (fun b n2 => K (AV.agg [(SV.bool b), (SV.int IntKind.i64 n2)]) []) := by kernel_rfl
noncomputable def o_spec_GetWord (N : Nat) {R : Type} (args : List AV) (H : Hp E) (K : AV → Hp E → Option R) : Option R :=
 match args, H with
 | [(AV.sc (SV.str s)), (AV.sc (SV.int IntKind.i64 n))], [] => g_spec_GetWord N s n (fun b n2 => K (AV.agg [(SV.bool b), (SV.int IntKind.i64 n2)]) [])
 | _, _ => none
theorem o_spec_GetWord_ok (N : Nat) : FnOk E 59 (o_spec_GetWord N) := by
  intro R args H K r h
  unfold o_spec_GetWord at h
  dsimp only at h
  split at h
  · exact fnB_ok (ids := []) (top := []) ok (O_spec_GetWord_ok N) (jn_ok _ _ _) Try.func59 (by kernel_rfl) (IT := noIt) (sl := sl_spec_GetWord) (J := J_spec_GetWord) (K := K) (H := []) (noIt_ok) (by kernel_rfl) rfl ((e_spec_GetWord N _ _ K).trans h)
  · cases h
/-! ### loop.example/g00038/spec.l01Mod -/
abbrev sl_spec_l01Mod : SlotT := []
abbrev J_spec_l01Mod : JT := jn [] [(10, [(5, .i .i64)])] []
noncomputable def O_spec_l01Mod (N : Nat) : Orc E := noFn
theorem O_spec_l01Mod_ok (N : Nat) : OrcOk (O_spec_l01Mod N) := noFn_ok
noncomputable def g_spec_l01Mod (N : Nat) {R : Type} (n : Int) (n1 : Int) (k : Int → Option R) : Option R :=
 (cond (n1 == (0 : Int))
 none
 (oK (cond (decide (((Int.tmod n n1) < (0 : Int))))
 (some (IntKind.wrap IntKind.i64 ((Int.tmod n n1) + n1)))
 (some (Int.tmod n n1))) fun j =>
 (k j)))
theorem e_spec_l01Mod (N : Nat) {R : Type} (n : Int) (n1 : Int) (K : AV → Hp E → Option R) :
    runFnI (E := E) (O_spec_l01Mod N) (noIt) sl_spec_l01Mod J_spec_l01Mod Try.f71 [(AV.sc (SV.int IntKind.i64 n)), (AV.sc (SV.int IntKind.i64 n1))] [] K =
      g_spec_l01Mod N n n1 (fun n2 => K (AV.sc (SV.int IntKind.i64 n2)) []) := by kernel_rfl
noncomputable def o_spec_l01Mod (N : Nat) {R : Type} (args : List AV) (H : Hp E) (K : AV → Hp E → Option R) : Option R :=
 match args, H with
 | [(AV.sc (SV.int IntKind.i64 n)), (AV.sc (SV.int IntKind.i64 n1))], [] => g_spec_l01Mod N n n1 (fun n2 => K (AV.sc (SV.int IntKind.i64 n2)) [])
 | _, _ => none
theorem o_spec_l01Mod_ok (N : Nat) : FnOk E 71 (o_spec_l01Mod N) := by
  intro R args H K r h
  unfold o_spec_l01Mod at h
  dsimp only at h
  split at h
  · exact fnB_ok (ids := []) (top := []) ok (O_spec_l01Mod_ok N) (jn_ok _ _ _) Try.func71 (by kernel_rfl) (IT := noIt) (sl := sl_spec_l01Mod) (J := J_spec_l01Mod) (K := K) (H := []) (noIt_ok) (by kernel_rfl) rfl ((e_spec_l01Mod N _ _ K).trans h)
  · cases h
/-! ### loop.example/g00038/spec.Word -/
abbrev sl_spec_Word : SlotT := []
abbrev J_spec_Word : JT := jn [] [] []
noncomputable def O_spec_Word (N : Nat) : Orc E := addFn 71 (o_spec_l01Mod N) (noFn)
theorem O_spec_Word_ok (N : Nat) : OrcOk (O_spec_Word N) := addFn_ok (o_spec_l01Mod_ok N) (noFn_ok)
noncomputable def g_spec_Word (N : Nat) {R : Type} (n : Int) (k : Int → Option R) : Option R :=
 (g_spec_l01Mod N n (4294967296 : Int) fun n1 =>
 (k n1))
theorem e_spec_Word (N : Nat) {R : Type} (n : Int) (K : AV → Hp E → Option R) :
    runFnI (E := E) (O_spec_Word N) (noIt) sl_spec_Word J_spec_Word Try.f70 [(AV.sc (SV.int IntKind.i64 n))] [] K =
      g_spec_Word N n (fun n2 => K (AV.sc (SV.int IntKind.i64 n2)) []) := by kernel_rfl
noncomputable def o_spec_Word (N : Nat) {R : Type} (args : List AV) (H : Hp E) (K : AV → Hp E → Option R) : Option R :=
 match args, H with
 | [(AV.sc (SV.int IntKind.i64 n))], [] => g_spec_Word N n (fun n2 => K (AV.sc (SV.int IntKind.i64 n2)) [])
 | _, _ => none
theorem o_spec_Word_ok (N : Nat) : FnOk E 70 (o_spec_Word N) := by
  intro R args H K r h
  unfold o_spec_Word at h
  dsimp only at h
  split at h
  · exact fnB_ok (ids := []) (top := []) ok (O_spec_Word_ok N) (jn_ok _ _ _) Try.func70 (by kernel_rfl) (IT := noIt) (sl := sl_spec_Word) (J := J_spec_Word) (K := K) (H := []) (noIt_ok) (by kernel_rfl) rfl ((e_spec_Word N _ K).trans h)
  · cases h
/-! ### loop.example/g00038/spec.PutWord -/
abbrev sl_spec_PutWord : SlotT := []
abbrev J_spec_PutWord : JT := jn [] [] []
noncomputable def O_spec_PutWord (N : Nat) : Orc E := addFn 70 (o_spec_Word N) (noFn)
theorem O_spec_PutWord_ok (N : Nat) : OrcOk (O_spec_PutWord N) := addFn_ok (o_spec_Word_ok N) (noFn_ok)
noncomputable def g_spec_PutWord (N : Nat) {R : Type} (n : Int) (k : ByteArray → Option R) : Option R :=
 (g_spec_Word N n fun n1 =>
 (k (Go.Eng.toBytes (Go.Eng.seg [(IntKind.wrap IntKind.u8 n1), (IntKind.wrap IntKind.u8 (Int.fdiv n1 (256 : Int))), (IntKind.wrap IntKind.u8 (Int.fdiv n1 (65536 : Int))), (IntKind.wrap IntKind.u8 (Int.fdiv n1 (16777216 : Int)))] 0 (List.length [(IntKind.wrap IntKind.u8 n1), (IntKind.wrap IntKind.u8 (Int.fdiv n1 (256 : Int))), (IntKind.wrap IntKind.u8 (Int.fdiv n1 (65536 : Int))), (IntKind.wrap IntKind.u8 (Int.fdiv n1 (16777216 : Int)))])))))
theorem e_spec_PutWord (N : Nat) {R : Type} (n : Int) (K : AV → Hp E → Option R) :
    runFnI (E := E) (O_spec_PutWord N) (noIt) sl_spec_PutWord J_spec_PutWord Try.f67 [(AV.sc (SV.int IntKind.i64 n))] [] K =
      g_spec_PutWord N n (fun s => K (AV.sc (SV.str s)) []) := by kernel_rfl
noncomputable def o_spec_PutWord (N : Nat) {R : Type} (args : List AV) (H : Hp E) (K : AV → Hp E → Option R) : Option R :=
 match args, H with
 | [(AV.sc (SV.int IntKind.i64 n))], [] => g_spec_PutWord N n (fun s => K (AV.sc (SV.str s)) [])
 | _, _ => none
theorem o_spec_PutWord_ok (N : Nat) : FnOk E 67 (o_spec_PutWord N) := by
  intro R args H K r h
  unfold o_spec_PutWord at h
  dsimp only at h
  split at h
  · exact fnB_ok (ids := []) (top := []) ok (O_spec_PutWord_ok N) (jn_ok _ _ _) Try.func67 (by kernel_rfl) (IT := noIt) (sl := sl_spec_PutWord) (J := J_spec_PutWord) (K := K) (H := []) (noIt_ok) (by kernel_rfl) rfl ((e_spec_PutWord N _ K).trans h)
  · cases h
/-! ### loop.example/g00038/spec.SetWord -/
abbrev sl_spec_SetWord : SlotT := []
abbrev J_spec_SetWord : JT := jn [] [] []
noncomputable def O_spec_SetWord (N : Nat) : Orc E := addFn 67 (o_spec_PutWord N) (addFn 59 (o_spec_GetWord N) (noFn))
theorem O_spec_SetWord_ok (N : Nat) : OrcOk (O_spec_SetWord N) := addFn_ok (o_spec_PutWord_ok N) (addFn_ok (o_spec_GetWord_ok N) (noFn_ok))
noncomputable def g_spec_SetWord (N : Nat) {R : Type} (s : ByteArray) (n : Int) (n1 : Int) (k : ByteArray → Option R) : Option R :=
 (g_spec_GetWord N s n fun b n2 =>
 (cond (!b)
 (k (ByteArray.mk (List.toArray [])))
 (cond ((decide (((0 : Int) ≤ n))) && (decide ((n ≤ (((ByteArray.size s) : Nat) : Int)))))
 (g_spec_PutWord N n1 fun s1 =>
 (cond (Nat.ble ((ByteArray.size (ByteArray.extract s 0 (Int.toNat n))) + (ByteArray.size s1)) 9223372036854775807)
 (cond (((decide (((0 : Int) ≤ (IntKind.wrap IntKind.i64 (n + (4 : Int)))))) && (decide (((IntKind.wrap IntKind.i64 (n + (4 : Int))) ≤ (((ByteArray.size s) : Nat) : Int))))) && (decide (((((ByteArray.size s) : Nat) : Int) ≤ (((ByteArray.size s) : Nat) : Int)))))
 (cond (Nat.ble ((ByteArray.size ((ByteArray.extract s 0 (Int.toNat n)) ++ s1)) + (ByteArray.size (ByteArray.extract s (Int.toNat (IntKind.wrap IntKind.i64 (n + (4 : Int)))) (Int.toNat (((ByteArray.size s) : Nat) : Int))))) 9223372036854775807)
 (k (((ByteArray.extract s 0 (Int.toNat n)) ++ s1) ++ (ByteArray.extract s (Int.toNat (IntKind.wrap IntKind.i64 (n + (4 : Int)))) (Int.toNat (((ByteArray.size s) : Nat) : Int)))))
 none)
 none)
 none))
 none)))
theorem e_spec_SetWord (N : Nat) {R : Type} (s : ByteArray) (n : Int) (n1 : Int) (K : AV → Hp E → Option R) :
    runFnI (E := E) (O_spec_SetWord N) (noIt) sl_spec_SetWord J_spec_SetWord Try.f38 [(AV.sc (SV.str s)), (AV.sc (SV.int IntKind.i64 n)), (AV.sc (SV.int IntKind.i64 n1))] [] K =
      g_spec_SetWord N s n n1 (fun s2 => K (AV.sc (SV.str s2)) []) := by kernel_rfl
noncomputable def o_spec_SetWord (N : Nat) {R : Type} (args : List AV) (H : Hp E) (K : AV → Hp E → Option R) : Option R :=
 match args, H with
 | [(AV.sc (SV.str s)), (AV.sc (SV.int IntKind.i64 n)), (AV.sc (SV.int IntKind.i64 n1))], [] => g_spec_SetWord N s n n1 (fun s2 => K (AV.sc (SV.str s2)) [])
 | _, _ => none
theorem o_spec_SetWord_ok (N : Nat) : FnOk E 38 (o_spec_SetWord N) := by
  intro R args H K r h
  unfold o_spec_SetWord at h
  dsimp only at h
  split at h
  · exact fnB_ok (ids := []) (top := []) ok (O_spec_SetWord_ok N) (jn_ok _ _ _) Try.func38 (by kernel_rfl) (IT := noIt) (sl := sl_spec_SetWord) (J := J_spec_SetWord) (K := K) (H := []) (noIt_ok) (by kernel_rfl) rfl ((e_spec_SetWord N _ _ _ K).trans h)
  · cases h
/-! ### loop.example/g00038/spec.l03Entry -/
abbrev sl_spec_l03Entry : SlotT := []
abbrev J_spec_l03Entry : JT := jn [] [] []
noncomputable def O_spec_l03Entry (N : Nat) : Orc E := addFn 51 (o_spec_l01Word N) (noFn)
theorem O_spec_l03Entry_ok (N : Nat) : OrcOk (O_spec_l03Entry N) := addFn_ok (o_spec_l01Word_ok N) (noFn_ok)
noncomputable def g_spec_l03Entry (N : Nat) {R : Type} (s : ByteArray) (n : Int) (n1 : Int) (k : Int → Bool → Option R) : Option R :=
 (cond (decide (((IntKind.wrap IntKind.i64 ((IntKind.wrap IntKind.i64 (n + (1 : Int))) * (256 : Int))) > (((ByteArray.size s) : Nat) : Int))))
 (k (0 : Int) false)
 (g_spec_l01Word N s (IntKind.wrap IntKind.i64 ((IntKind.wrap IntKind.i64 (n * (256 : Int))) + (IntKind.wrap IntKind.i64 ((4 : Int) * n1)))) fun n2 =>
 (k n2 true)))
theorem e_spec_l03Entry (N : Nat) {R : Type} (s : ByteArray) (n : Int) (n1 : Int) (K : AV → Hp E → Option R) :
    runFnI (E := E) (O_spec_l03Entry N) (noIt) sl_spec_l03Entry J_spec_l03Entry Try.f36 [(AV.sc (SV.str s)), (AV.sc (SV.int IntKind.i64 n)), (AV.sc (SV.int IntKind.i64 n1))] [] K =
      g_spec_l03Entry N s n n1 (fun n3 b => K (AV.tup [(false, [(SV.int IntKind.i64 n3)]), (false, [(SV.bool b)])]) []) := by kernel_rfl
noncomputable def o_spec_l03Entry (N : Nat) {R : Type} (args : List AV) (H : Hp E) (K : AV → Hp E → Option R) : Option R :=
 match args, H with
 | [(AV.sc (SV.str s)), (AV.sc (SV.int IntKind.i64 n)), (AV.sc (SV.int IntKind.i64 n1))], [] => g_spec_l03Entry N s n n1 (fun n3 b => K (AV.tup [(false, [(SV.int IntKind.i64 n3)]), (false, [(SV.bool b)])]) [])
 | _, _ => none
theorem o_spec_l03Entry_ok (N : Nat) : FnOk E 36 (o_spec_l03Entry N) := by
  intro R args H K r h
  unfold o_spec_l03Entry at h
  dsimp only at h
  split at h
  · exact fnB_ok (ids := []) (top := []) ok (O_spec_l03Entry_ok N) (jn_ok _ _ _) Try.func36 (by kernel_rfl) (IT := noIt) (sl := sl_spec_l03Entry) (J := J_spec_l03Entry) (K := K) (H := []) (noIt_ok) (by kernel_rfl) rfl ((e_spec_l03Entry N _ _ _ K).trans h)
  · cases h
/-! ### loop.example/g00038/spec.l03Map -/
abbrev sl_spec_l03Map_w : SlotT := []
abbrev J_spec_l03Map_w : JT := jn [(4, [(68, .b)]), (13, [(107, .b)]), (24, [(160, .b)])] [(19, [(11, .i .i64)])] []
noncomputable def O_spec_l03Map_w (N : Nat) : Orc E := addFn 36 (o_spec_l03Entry N) (addFn 38 (o_spec_SetWord N) (addFn 51 (o_spec_l01Word N) (noFn)))
noncomputable def pa_spec_l03Map_w__o_spec_l03Entry (N : Nat) (G_spec_l03Entry : ∀ {R : Type} (s : ByteArray) (n : Int) (n1 : Int) (k : Int → Bool → Option R), Option R) {R : Type} (args : List AV) (H : Hp E) (K : AV → Hp E → Option R) : Option R :=
 match args, H with
 | [(AV.sc (SV.str s)), (AV.sc (SV.int IntKind.i64 n)), (AV.sc (SV.int IntKind.i64 n1))], [] => G_spec_l03Entry s n n1 (fun n3 b => K (AV.tup [(false, [(SV.int IntKind.i64 n3)]), (false, [(SV.bool b)])]) [])
 | _, _ => none
noncomputable def pa_spec_l03Map_w__o_spec_SetWord (N : Nat) (G_spec_SetWord : ∀ {R : Type} (s : ByteArray) (n : Int) (n1 : Int) (k : ByteArray → Option R), Option R) {R : Type} (args : List AV) (H : Hp E) (K : AV → Hp E → Option R) : Option R :=
 match args, H with
 | [(AV.sc (SV.str s)), (AV.sc (SV.int IntKind.i64 n)), (AV.sc (SV.int IntKind.i64 n1))], [] => G_spec_SetWord s n n1 (fun s2 => K (AV.sc (SV.str s2)) [])
 | _, _ => none
noncomputable def pa_spec_l03Map_w__o_spec_l01Word (N : Nat) (G_spec_l01Word : ∀ {R : Type} (s : ByteArray) (n : Int) (k : Int → Option R), Option R) {R : Type} (args : List AV) (H : Hp E) (K : AV → Hp E → Option R) : Option R :=
 match args, H with
 | [(AV.sc (SV.str s)), (AV.sc (SV.int IntKind.i64 n))], [] => G_spec_l01Word s n (fun n1 => K (AV.sc (SV.int IntKind.i64 n1)) [])
 | _, _ => none
noncomputable def OA_spec_l03Map_w (N : Nat) (G_spec_l03Entry : ∀ {R : Type} (s : ByteArray) (n : Int) (n1 : Int) (k : Int → Bool → Option R), Option R) (G_spec_SetWord : ∀ {R : Type} (s : ByteArray) (n : Int) (n1 : Int) (k : ByteArray → Option R), Option R) (G_spec_l01Word : ∀ {R : Type} (s : ByteArray) (n : Int) (k : Int → Option R), Option R) : Orc E := addFn 36 (pa_spec_l03Map_w__o_spec_l03Entry N G_spec_l03Entry) (addFn 38 (pa_spec_l03Map_w__o_spec_SetWord N G_spec_SetWord) (addFn 51 (pa_spec_l03Map_w__o_spec_l01Word N G_spec_l01Word) (noFn)))
theorem O_spec_l03Map_w_ok (N : Nat) : OrcOk (O_spec_l03Map_w N) := addFn_ok (o_spec_l03Entry_ok N) (addFn_ok (o_spec_SetWord_ok N) (addFn_ok (o_spec_l01Word_ok N) (noFn_ok)))
noncomputable def g_spec_l03Map_w (N : Nat) {R : Type} (s : ByteArray) (n : Int) (n1 : Int) (n2 : Int) (n3 : Int) (b : Bool) (b1 : Bool) (l : List Int) (k : ByteArray → Int → Option R) (k_1 : ByteArray → Nat → Nat → Int → Option R) : Option R :=
 (oK (cond b
 (some (8192 : Int))
 (some (256 : Int))) fun j =>
 (oK (cond (decide ((n1 < (0 : Int))))
 (some true)
 (cond (decide ((n1 ≥ (262144 : Int))))
 (some true)
 (cond (j == (0 : Int))
 none
 (cond ((Int.tmod n1 j) != (0 : Int))
 (some true)
 (cond (decide ((n2 < (0 : Int))))
 (some true)
 (cond (decide ((n2 > (1023 : Int))))
 (some true)
 (cond b
 (cond ((Int.tmod n2 (32 : Int)) != (0 : Int))
 (some true)
 (cond ((IntKind.wrap IntKind.i64 (((BitVec.toNat ((BitVec.ofInt 64 n3) &&& (BitVec.ofInt 64 (14 : Int)))) : Nat) : Int)) == (0 : Int))
 (some true)
 (some (n3 != (IntKind.wrap IntKind.i64 (((BitVec.toNat ((BitVec.ofInt 64 n3) &&& (BitVec.ofInt 64 (158 : Int)))) : Nat) : Int))))))
 (cond ((IntKind.wrap IntKind.i64 (((BitVec.toNat ((BitVec.ofInt 64 n3) &&& (BitVec.ofInt 64 (14 : Int)))) : Nat) : Int)) == (0 : Int))
 (some true)
 (some (n3 != (IntKind.wrap IntKind.i64 (((BitVec.toNat ((BitVec.ofInt 64 n3) &&& (BitVec.ofInt 64 (158 : Int)))) : Nat) : Int)))))))))))) fun j1 =>
 (cond j1
 (k s (1 : Int))
 (g_spec_l01Word N s (IntKind.wrap IntKind.i64 ((IntKind.wrap IntKind.i64 (n * (256 : Int))) + (IntKind.wrap IntKind.i64 ((4 : Int) * (Int.fdiv n1 (8192 : Int)))))) fun n4 =>
 (cond b
 (cond ((IntKind.wrap IntKind.i64 (((BitVec.toNat ((BitVec.ofInt 64 n4) &&& (BitVec.ofInt 64 (1 : Int)))) : Nat) : Int)) != (0 : Int))
 (k s (9 : Int))
 (g_spec_SetWord N s (IntKind.wrap IntKind.i64 ((IntKind.wrap IntKind.i64 (n * (256 : Int))) + (IntKind.wrap IntKind.i64 ((4 : Int) * (Int.fdiv n1 (8192 : Int)))))) (IntKind.wrap IntKind.i64 (((BitVec.toNat ((BitVec.ofInt 64 (IntKind.wrap IntKind.i64 (((BitVec.toNat ((BitVec.ofInt 64 (IntKind.wrap IntKind.i64 (n2 * (256 : Int)))) ||| (BitVec.ofInt 64 n3))) : Nat) : Int))) ||| (BitVec.ofInt 64 (1 : Int)))) : Nat) : Int)) fun s1 =>
 (k s1 (0 : Int))))
 (oK (cond ((IntKind.wrap IntKind.i64 (((BitVec.toNat ((BitVec.ofInt 64 n4) &&& (BitVec.ofInt 64 (1 : Int)))) : Nat) : Int)) != (0 : Int))
 (some ((IntKind.wrap IntKind.i64 (((BitVec.toNat ((BitVec.ofInt 64 n4) &&& (BitVec.ofInt 64 (14 : Int)))) : Nat) : Int)) != (0 : Int)))
 (some false)) fun j2 =>
 (cond j2
 (k s (9 : Int))
 (cond ((IntKind.wrap IntKind.i64 (((BitVec.toNat ((BitVec.ofInt 64 n4) &&& (BitVec.ofInt 64 (1 : Int)))) : Nat) : Int)) == (0 : Int))
 (cond ((((List.length l) : Nat) : Int) == (0 : Int))
 (k s (4 : Int))
 (cond (decide (((0 : Int) < (((List.length l) : Nat) : Int))))
 (elemK l 0 fun x =>
 (cond ((decide (((1 : Int) ≤ (((List.length l) : Nat) : Int)))) && (decide (((((List.length l) : Nat) : Int) ≤ (((List.length l) : Nat) : Int)))))
 (cond ((decide (((0 : Int) ≤ (IntKind.wrap IntKind.i64 (x * (256 : Int)))))) && (decide (((IntKind.wrap IntKind.i64 (x * (256 : Int))) ≤ (((ByteArray.size s) : Nat) : Int)))))
 (cond (Nat.ble ((ByteArray.size (ByteArray.extract s 0 (Int.toNat (IntKind.wrap IntKind.i64 (x * (256 : Int)))))) + 256) 9223372036854775807)
 (cond (((decide (((0 : Int) ≤ (IntKind.wrap IntKind.i64 ((IntKind.wrap IntKind.i64 (x + (1 : Int))) * (256 : Int)))))) && (decide (((IntKind.wrap IntKind.i64 ((IntKind.wrap IntKind.i64 (x + (1 : Int))) * (256 : Int))) ≤ (((ByteArray.size s) : Nat) : Int))))) && (decide (((((ByteArray.size s) : Nat) : Int) ≤ (((ByteArray.size s) : Nat) : Int)))))
 (cond (Nat.ble ((ByteArray.size ((ByteArray.extract s 0 (Int.toNat (IntKind.wrap IntKind.i64 (x * (256 : Int))))) ++ (Go.Eng.toBytes (Go.Eng.seg (List.replicate 256 (0 : Int)) 0 256)))) + (ByteArray.size (ByteArray.extract s (Int.toNat (IntKind.wrap IntKind.i64 ((IntKind.wrap IntKind.i64 (x + (1 : Int))) * (256 : Int)))) (Int.toNat (((ByteArray.size s) : Nat) : Int))))) 9223372036854775807)
 (g_spec_SetWord N (((ByteArray.extract s 0 (Int.toNat (IntKind.wrap IntKind.i64 (x * (256 : Int))))) ++ (Go.Eng.toBytes (Go.Eng.seg (List.replicate 256 (0 : Int)) 0 256))) ++ (ByteArray.extract s (Int.toNat (IntKind.wrap IntKind.i64 ((IntKind.wrap IntKind.i64 (x + (1 : Int))) * (256 : Int)))) (Int.toNat (((ByteArray.size s) : Nat) : Int)))) (IntKind.wrap IntKind.i64 ((IntKind.wrap IntKind.i64 (n * (256 : Int))) + (IntKind.wrap IntKind.i64 ((4 : Int) * (Int.fdiv n1 (8192 : Int)))))) (IntKind.wrap IntKind.i64 (((BitVec.toNat ((BitVec.ofInt 64 (IntKind.wrap IntKind.i64 (x * (256 : Int)))) ||| (BitVec.ofInt 64 (1 : Int)))) : Nat) : Int)) fun s2 =>
 (g_spec_l03Entry N s2 (Int.fdiv (IntKind.wrap IntKind.i64 (((BitVec.toNat ((BitVec.ofInt 64 (IntKind.wrap IntKind.i64 (x * (256 : Int)))) ||| (BitVec.ofInt 64 (1 : Int)))) : Nat) : Int)) (256 : Int)) (Int.tmod (Int.fdiv n1 (256 : Int)) (32 : Int)) fun n5 b2 =>
 (oK (cond (!b2)
 (some true)
 (some ((IntKind.wrap IntKind.i64 (((BitVec.toNat ((BitVec.ofInt 64 n5) &&& (BitVec.ofInt 64 (1 : Int)))) : Nat) : Int)) != (0 : Int)))) fun j3 =>
 (cond j3
 (k_1 s2 ((Int.toNat (((List.length l) : Nat) : Int)) - 1) ((List.length l) - (Int.toNat (((List.length l) : Nat) : Int))) (9 : Int))
 (g_spec_SetWord N s2 (IntKind.wrap IntKind.i64 ((IntKind.wrap IntKind.i64 ((Int.fdiv (IntKind.wrap IntKind.i64 (((BitVec.toNat ((BitVec.ofInt 64 (IntKind.wrap IntKind.i64 (x * (256 : Int)))) ||| (BitVec.ofInt 64 (1 : Int)))) : Nat) : Int)) (256 : Int)) * (256 : Int))) + (IntKind.wrap IntKind.i64 ((4 : Int) * (Int.tmod (Int.fdiv n1 (256 : Int)) (32 : Int)))))) (IntKind.wrap IntKind.i64 (((BitVec.toNat ((BitVec.ofInt 64 (IntKind.wrap IntKind.i64 (((BitVec.toNat ((BitVec.ofInt 64 (IntKind.wrap IntKind.i64 (n2 * (256 : Int)))) ||| (BitVec.ofInt 64 n3))) : Nat) : Int))) ||| (BitVec.ofInt 64 (1 : Int)))) : Nat) : Int)) fun s3 =>
 (k_1 s3 ((Int.toNat (((List.length l) : Nat) : Int)) - 1) ((List.length l) - (Int.toNat (((List.length l) : Nat) : Int))) (0 : Int)))))))
 none)
 none)
 none)
 none)
 none))
 none))
 (g_spec_l03Entry N s (Int.fdiv n4 (256 : Int)) (Int.tmod (Int.fdiv n1 (256 : Int)) (32 : Int)) fun n6 b3 =>
 (oK (cond (!b3)
 (some true)
 (some ((IntKind.wrap IntKind.i64 (((BitVec.toNat ((BitVec.ofInt 64 n6) &&& (BitVec.ofInt 64 (1 : Int)))) : Nat) : Int)) != (0 : Int)))) fun j4 =>
 (cond j4
 (k s (9 : Int))
 (g_spec_SetWord N s (IntKind.wrap IntKind.i64 ((IntKind.wrap IntKind.i64 ((Int.fdiv n4 (256 : Int)) * (256 : Int))) + (IntKind.wrap IntKind.i64 ((4 : Int) * (Int.tmod (Int.fdiv n1 (256 : Int)) (32 : Int)))))) (IntKind.wrap IntKind.i64 (((BitVec.toNat ((BitVec.ofInt 64 (IntKind.wrap IntKind.i64 (((BitVec.toNat ((BitVec.ofInt 64 (IntKind.wrap IntKind.i64 (n2 * (256 : Int)))) ||| (BitVec.ofInt 64 n3))) : Nat) : Int))) ||| (BitVec.ofInt 64 (1 : Int)))) : Nat) : Int)) fun s4 =>
 (k s4 (0 : Int))))))))))))))
noncomputable def ga_g_spec_l03Map_w (N : Nat) (G_spec_l03Entry : ∀ {R : Type} (s : ByteArray) (n : Int) (n1 : Int) (k : Int → Bool → Option R), Option R) (G_spec_SetWord : ∀ {R : Type} (s : ByteArray) (n : Int) (n1 : Int) (k : ByteArray → Option R), Option R) (G_spec_l01Word : ∀ {R : Type} (s : ByteArray) (n : Int) (k : Int → Option R), Option R) {R : Type} (s : ByteArray) (n : Int) (n1 : Int) (n2 : Int) (n3 : Int) (b : Bool) (b1 : Bool) (l : List Int) (k : ByteArray → Int → Option R) (k_1 : ByteArray → Nat → Nat → Int → Option R) : Option R :=
 (oK (cond b
 (some (8192 : Int))
 (some (256 : Int))) fun j =>
 (oK (cond (decide ((n1 < (0 : Int))))
 (some true)
 (cond (decide ((n1 ≥ (262144 : Int))))
 (some true)
 (cond (j == (0 : Int))
 none
 (cond ((Int.tmod n1 j) != (0 : Int))
 (some true)
 (cond (decide ((n2 < (0 : Int))))
 (some true)
 (cond (decide ((n2 > (1023 : Int))))
 (some true)
 (cond b
 (cond ((Int.tmod n2 (32 : Int)) != (0 : Int))
 (some true)
 (cond ((IntKind.wrap IntKind.i64 (((BitVec.toNat ((BitVec.ofInt 64 n3) &&& (BitVec.ofInt 64 (14 : Int)))) : Nat) : Int)) == (0 : Int))
 (some true)
 (some (n3 != (IntKind.wrap IntKind.i64 (((BitVec.toNat ((BitVec.ofInt 64 n3) &&& (BitVec.ofInt 64 (158 : Int)))) : Nat) : Int))))))
 (cond ((IntKind.wrap IntKind.i64 (((BitVec.toNat ((BitVec.ofInt 64 n3) &&& (BitVec.ofInt 64 (14 : Int)))) : Nat) : Int)) == (0 : Int))
 (some true)
 (some (n3 != (IntKind.wrap IntKind.i64 (((BitVec.toNat ((BitVec.ofInt 64 n3) &&& (BitVec.ofInt 64 (158 : Int)))) : Nat) : Int)))))))))))) fun j1 =>
 (cond j1
 (k s (1 : Int))
 (G_spec_l01Word s (IntKind.wrap IntKind.i64 ((IntKind.wrap IntKind.i64 (n * (256 : Int))) + (IntKind.wrap IntKind.i64 ((4 : Int) * (Int.fdiv n1 (8192 : Int)))))) fun n4 =>
 (cond b
 (cond ((IntKind.wrap IntKind.i64 (((BitVec.toNat ((BitVec.ofInt 64 n4) &&& (BitVec.ofInt 64 (1 : Int)))) : Nat) : Int)) != (0 : Int))
 (k s (9 : Int))
 (G_spec_SetWord s (IntKind.wrap IntKind.i64 ((IntKind.wrap IntKind.i64 (n * (256 : Int))) + (IntKind.wrap IntKind.i64 ((4 : Int) * (Int.fdiv n1 (8192 : Int)))))) (IntKind.wrap IntKind.i64 (((BitVec.toNat ((BitVec.ofInt 64 (IntKind.wrap IntKind.i64 (((BitVec.toNat ((BitVec.ofInt 64 (IntKind.wrap IntKind.i64 (n2 * (256 : Int)))) ||| (BitVec.ofInt 64 n3))) : Nat) : Int))) ||| (BitVec.ofInt 64 (1 : Int)))) : Nat) : Int)) fun s1 =>
 (k s1 (0 : Int))))
 (oK (cond ((IntKind.wrap IntKind.i64 (((BitVec.toNat ((BitVec.ofInt 64 n4) &&& (BitVec.ofInt 64 (1 : Int)))) : Nat) : Int)) != (0 : Int))
 (some ((IntKind.wrap IntKind.i64 (((BitVec.toNat ((BitVec.ofInt 64 n4) &&& (BitVec.ofInt 64 (14 : Int)))) : Nat) : Int)) != (0 : Int)))
 (some false)) fun j2 =>
 (cond j2
 (k s (9 : Int))
 (cond ((IntKind.wrap IntKind.i64 (((BitVec.toNat ((BitVec.ofInt 64 n4) &&& (BitVec.ofInt 64 (1 : Int)))) : Nat) : Int)) == (0 : Int))
 (cond ((((List.length l) : Nat) : Int) == (0 : Int))
 (k s (4 : Int))
 (cond (decide (((0 : Int) < (((List.length l) : Nat) : Int))))
 (elemK l 0 fun x =>
 (cond ((decide (((1 : Int) ≤ (((List.length l) : Nat) : Int)))) && (decide (((((List.length l) : Nat) : Int) ≤ (((List.length l) : Nat) : Int)))))
 (cond ((decide (((0 : Int) ≤ (IntKind.wrap IntKind.i64 (x * (256 : Int)))))) && (decide (((IntKind.wrap IntKind.i64 (x * (256 : Int))) ≤ (((ByteArray.size s) : Nat) : Int)))))
 (cond (Nat.ble ((ByteArray.size (ByteArray.extract s 0 (Int.toNat (IntKind.wrap IntKind.i64 (x * (256 : Int)))))) + 256) 9223372036854775807)
 (cond (((decide (((0 : Int) ≤ (IntKind.wrap IntKind.i64 ((IntKind.wrap IntKind.i64 (x + (1 : Int))) * (256 : Int)))))) && (decide (((IntKind.wrap IntKind.i64 ((IntKind.wrap IntKind.i64 (x + (1 : Int))) * (256 : Int))) ≤ (((ByteArray.size s) : Nat) : Int))))) && (decide (((((ByteArray.size s) : Nat) : Int) ≤ (((ByteArray.size s) : Nat) : Int)))))
 (cond (Nat.ble ((ByteArray.size ((ByteArray.extract s 0 (Int.toNat (IntKind.wrap IntKind.i64 (x * (256 : Int))))) ++ (Go.Eng.toBytes (Go.Eng.seg (List.replicate 256 (0 : Int)) 0 256)))) + (ByteArray.size (ByteArray.extract s (Int.toNat (IntKind.wrap IntKind.i64 ((IntKind.wrap IntKind.i64 (x + (1 : Int))) * (256 : Int)))) (Int.toNat (((ByteArray.size s) : Nat) : Int))))) 9223372036854775807)
 (G_spec_SetWord (((ByteArray.extract s 0 (Int.toNat (IntKind.wrap IntKind.i64 (x * (256 : Int))))) ++ (Go.Eng.toBytes (Go.Eng.seg (List.replicate 256 (0 : Int)) 0 256))) ++ (ByteArray.extract s (Int.toNat (IntKind.wrap IntKind.i64 ((IntKind.wrap IntKind.i64 (x + (1 : Int))) * (256 : Int)))) (Int.toNat (((ByteArray.size s) : Nat) : Int)))) (IntKind.wrap IntKind.i64 ((IntKind.wrap IntKind.i64 (n * (256 : Int))) + (IntKind.wrap IntKind.i64 ((4 : Int) * (Int.fdiv n1 (8192 : Int)))))) (IntKind.wrap IntKind.i64 (((BitVec.toNat ((BitVec.ofInt 64 (IntKind.wrap IntKind.i64 (x * (256 : Int)))) ||| (BitVec.ofInt 64 (1 : Int)))) : Nat) : Int)) fun s2 =>
 (G_spec_l03Entry s2 (Int.fdiv (IntKind.wrap IntKind.i64 (((BitVec.toNat ((BitVec.ofInt 64 (IntKind.wrap IntKind.i64 (x * (256 : Int)))) ||| (BitVec.ofInt 64 (1 : Int)))) : Nat) : Int)) (256 : Int)) (Int.tmod (Int.fdiv n1 (256 : Int)) (32 : Int)) fun n5 b2 =>
 (oK (cond (!b2)
 (some true)
 (some ((IntKind.wrap IntKind.i64 (((BitVec.toNat ((BitVec.ofInt 64 n5) &&& (BitVec.ofInt 64 (1 : Int)))) : Nat) : Int)) != (0 : Int)))) fun j3 =>
 (cond j3
 (k_1 s2 ((Int.toNat (((List.length l) : Nat) : Int)) - 1) ((List.length l) - (Int.toNat (((List.length l) : Nat) : Int))) (9 : Int))
 (G_spec_SetWord s2 (IntKind.wrap IntKind.i64 ((IntKind.wrap IntKind.i64 ((Int.fdiv (IntKind.wrap IntKind.i64 (((BitVec.toNat ((BitVec.ofInt 64 (IntKind.wrap IntKind.i64 (x * (256 : Int)))) ||| (BitVec.ofInt 64 (1 : Int)))) : Nat) : Int)) (256 : Int)) * (256 : Int))) + (IntKind.wrap IntKind.i64 ((4 : Int) * (Int.tmod (Int.fdiv n1 (256 : Int)) (32 : Int)))))) (IntKind.wrap IntKind.i64 (((BitVec.toNat ((BitVec.ofInt 64 (IntKind.wrap IntKind.i64 (((BitVec.toNat ((BitVec.ofInt 64 (IntKind.wrap IntKind.i64 (n2 * (256 : Int)))) ||| (BitVec.ofInt 64 n3))) : Nat) : Int))) ||| (BitVec.ofInt 64 (1 : Int)))) : Nat) : Int)) fun s3 =>
 (k_1 s3 ((Int.toNat (((List.length l) : Nat) : Int)) - 1) ((List.length l) - (Int.toNat (((List.length l) : Nat) : Int))) (0 : Int)))))))
 none)
 none)
 none)
 none)
 none))
 none))
 (G_spec_l03Entry s (Int.fdiv n4 (256 : Int)) (Int.tmod (Int.fdiv n1 (256 : Int)) (32 : Int)) fun n6 b3 =>
 (oK (cond (!b3)
 (some true)
 (some ((IntKind.wrap IntKind.i64 (((BitVec.toNat ((BitVec.ofInt 64 n6) &&& (BitVec.ofInt 64 (1 : Int)))) : Nat) : Int)) != (0 : Int)))) fun j4 =>
 (cond j4
 (k s (9 : Int))
 (G_spec_SetWord s (IntKind.wrap IntKind.i64 ((IntKind.wrap IntKind.i64 ((Int.fdiv n4 (256 : Int)) * (256 : Int))) + (IntKind.wrap IntKind.i64 ((4 : Int) * (Int.tmod (Int.fdiv n1 (256 : Int)) (32 : Int)))))) (IntKind.wrap IntKind.i64 (((BitVec.toNat ((BitVec.ofInt 64 (IntKind.wrap IntKind.i64 (((BitVec.toNat ((BitVec.ofInt 64 (IntKind.wrap IntKind.i64 (n2 * (256 : Int)))) ||| (BitVec.ofInt 64 n3))) : Nat) : Int))) ||| (BitVec.ofInt 64 (1 : Int)))) : Nat) : Int)) fun s4 =>
 (k s4 (0 : Int))))))))))))))
theorem ea_e_spec_l03Map_w (N : Nat) (G_spec_l03Entry : ∀ {R : Type} (s : ByteArray) (n : Int) (n1 : Int) (k : Int → Bool → Option R), Option R) (G_spec_SetWord : ∀ {R : Type} (s : ByteArray) (n : Int) (n1 : Int) (k : ByteArray → Option R), Option R) (G_spec_l01Word : ∀ {R : Type} (s : ByteArray) (n : Int) (k : Int → Option R), Option R) {R : Type} (s : ByteArray) (n : Int) (n1 : Int) (n2 : Int) (n3 : Int) (b : Bool) (b1 : Bool) (l : List Int) (K : AV → Hp E → Option R) :
    runFnI (E := E) (OA_spec_l03Map_w N G_spec_l03Entry G_spec_SetWord G_spec_l01Word) (noIt) sl_spec_l03Map_w J_spec_l03Map_w Try.f41 [(AV.sc (SV.str s)), (AV.sc (SV.int IntKind.i64 n)), (AV.agg [(SV.int IntKind.i64 n1), (SV.int IntKind.i64 n2), (SV.int IntKind.i64 n3), (SV.bool b)]), (AV.sc (SV.slc 0 none b1))] [(some (HE.mk false (HB.rows (B.i64 l))))] K =
      ga_g_spec_l03Map_w N G_spec_l03Entry G_spec_SetWord G_spec_l01Word s n n1 n2 n3 b b1 l (fun s5 n7 => K (AV.tup [(false, [(SV.str s5)]), (false, [(SV.slc 0 none b1)]), (false, [(SV.int IntKind.i64 n7)])]) [(some (HE.mk false (HB.rows (B.i64 l))))]) (fun s6 m m1 n8 => K (AV.tup [(false, [(SV.str s6)]), (false, [(SV.slc 0 (some (1, (m, m1))) b1)]), (false, [(SV.int IntKind.i64 n8)])]) [(some (HE.mk false (HB.rows (B.i64 l))))]) := by kernel_rfl
theorem e_spec_l03Map_w (N : Nat) {R : Type} (s : ByteArray) (n : Int) (n1 : Int) (n2 : Int) (n3 : Int) (b : Bool) (b1 : Bool) (l : List Int) (K : AV → Hp E → Option R) :
    runFnI (E := E) (O_spec_l03Map_w N) (noIt) sl_spec_l03Map_w J_spec_l03Map_w Try.f41 [(AV.sc (SV.str s)), (AV.sc (SV.int IntKind.i64 n)), (AV.agg [(SV.int IntKind.i64 n1), (SV.int IntKind.i64 n2), (SV.int IntKind.i64 n3), (SV.bool b)]), (AV.sc (SV.slc 0 none b1))] [(some (HE.mk false (HB.rows (B.i64 l))))] K =
      g_spec_l03Map_w N s n n1 n2 n3 b b1 l (fun s5 n7 => K (AV.tup [(false, [(SV.str s5)]), (false, [(SV.slc 0 none b1)]), (false, [(SV.int IntKind.i64 n7)])]) [(some (HE.mk false (HB.rows (B.i64 l))))]) (fun s6 m m1 n8 => K (AV.tup [(false, [(SV.str s6)]), (false, [(SV.slc 0 (some (1, (m, m1))) b1)]), (false, [(SV.int IntKind.i64 n8)])]) [(some (HE.mk false (HB.rows (B.i64 l))))]) := castPr (by kernel_rfl) (ea_e_spec_l03Map_w N (g_spec_l03Entry N) (g_spec_SetWord N) (g_spec_l01Word N) s n n1 n2 n3 b b1 l K)
noncomputable def o_spec_l03Map_w (N : Nat) {R : Type} (args : List AV) (H : Hp E) (K : AV → Hp E → Option R) : Option R :=
 match args, H with
 | [(AV.sc (SV.str s)), (AV.sc (SV.int IntKind.i64 n)), (AV.agg [(SV.int IntKind.i64 n1), (SV.int IntKind.i64 n2), (SV.int IntKind.i64 n3), (SV.bool b)]), (AV.sc (SV.slc 0 none b1))], [(some (HE.mk false (HB.rows (B.i64 l))))] => g_spec_l03Map_w N s n n1 n2 n3 b b1 l (fun s5 n7 => K (AV.tup [(false, [(SV.str s5)]), (false, [(SV.slc 0 none b1)]), (false, [(SV.int IntKind.i64 n7)])]) [(some (HE.mk false (HB.rows (B.i64 l))))]) (fun s6 m m1 n8 => K (AV.tup [(false, [(SV.str s6)]), (false, [(SV.slc 0 (some (1, (m, m1))) b1)]), (false, [(SV.int IntKind.i64 n8)])]) [(some (HE.mk false (HB.rows (B.i64 l))))])
 | _, _ => none
theorem o_spec_l03Map_w_ok (N : Nat) : FnOk E 41 (o_spec_l03Map_w N) := by
  intro R args H K r h
  unfold o_spec_l03Map_w at h
  dsimp only at h
  split at h
  · exact fnB_ok (ids := []) (top := []) ok (O_spec_l03Map_w_ok N) (jn_ok _ _ _) Try.func41 (by kernel_rfl) (IT := noIt) (sl := sl_spec_l03Map_w) (J := J_spec_l03Map_w) (K := K) (H := [(some (HE.mk false (HB.rows (B.i64 _))))]) (noIt_ok) (by kernel_rfl) rfl ((e_spec_l03Map_w N _ _ _ _ _ _ _ _ K).trans h)
  · cases h
/-! ### loop.example/g00038/spec.l03Map -/
abbrev sl_spec_l03Map_w_v1 : SlotT := []
abbrev J_spec_l03Map_w_v1 : JT := jn [(4, [(68, .b)]), (13, [(107, .b)]), (24, [(160, .b)])] [(19, [(11, .i .i64)])] []
noncomputable def O_spec_l03Map_w_v1 (N : Nat) : Orc E := addFn 36 (o_spec_l03Entry N) (addFn 38 (o_spec_SetWord N) (addFn 51 (o_spec_l01Word N) (noFn)))
noncomputable def pa_spec_l03Map_w_v1__o_spec_l03Entry (N : Nat) (G_spec_l03Entry : ∀ {R : Type} (s : ByteArray) (n : Int) (n1 : Int) (k : Int → Bool → Option R), Option R) {R : Type} (args : List AV) (H : Hp E) (K : AV → Hp E → Option R) : Option R :=
 match args, H with
 | [(AV.sc (SV.str s)), (AV.sc (SV.int IntKind.i64 n)), (AV.sc (SV.int IntKind.i64 n1))], [] => G_spec_l03Entry s n n1 (fun n3 b => K (AV.tup [(false, [(SV.int IntKind.i64 n3)]), (false, [(SV.bool b)])]) [])
 | _, _ => none
noncomputable def pa_spec_l03Map_w_v1__o_spec_SetWord (N : Nat) (G_spec_SetWord : ∀ {R : Type} (s : ByteArray) (n : Int) (n1 : Int) (k : ByteArray → Option R), Option R) {R : Type} (args : List AV) (H : Hp E) (K : AV → Hp E → Option R) : Option R :=
 match args, H with
 | [(AV.sc (SV.str s)), (AV.sc (SV.int IntKind.i64 n)), (AV.sc (SV.int IntKind.i64 n1))], [] => G_spec_SetWord s n n1 (fun s2 => K (AV.sc (SV.str s2)) [])
 | _, _ => none
noncomputable def pa_spec_l03Map_w_v1__o_spec_l01Word (N : Nat) (G_spec_l01Word : ∀ {R : Type} (s : ByteArray) (n : Int) (k : Int → Option R), Option R) {R : Type} (args : List AV) (H : Hp E) (K : AV → Hp E → Option R) : Option R :=
 match args, H with
 | [(AV.sc (SV.str s)), (AV.sc (SV.int IntKind.i64 n))], [] => G_spec_l01Word s n (fun n1 => K (AV.sc (SV.int IntKind.i64 n1)) [])
 | _, _ => none
noncomputable def OA_spec_l03Map_w_v1 (N : Nat) (G_spec_l03Entry : ∀ {R : Type} (s : ByteArray) (n : Int) (n1 : Int) (k : Int → Bool → Option R), Option R) (G_spec_SetWord : ∀ {R : Type} (s : ByteArray) (n : Int) (n1 : Int) (k : ByteArray → Option R), Option R) (G_spec_l01Word : ∀ {R : Type} (s : ByteArray) (n : Int) (k : Int → Option R), Option R) : Orc E := addFn 36 (pa_spec_l03Map_w_v1__o_spec_l03Entry N G_spec_l03Entry) (addFn 38 (pa_spec_l03Map_w_v1__o_spec_SetWord N G_spec_SetWord) (addFn 51 (pa_spec_l03Map_w_v1__o_spec_l01Word N G_spec_l01Word) (noFn)))
theorem O_spec_l03Map_w_v1_ok (N : Nat) : OrcOk (O_spec_l03Map_w_v1 N) := addFn_ok (o_spec_l03Entry_ok N) (addFn_ok (o_spec_SetWord_ok N) (addFn_ok (o_spec_l01Word_ok N) (noFn_ok)))
noncomputable def g_spec_l03Map_w_v1 (N : Nat) {R : Type} (s : ByteArray) (n : Int) (n1 : Int) (n2 : Int) (n3 : Int) (b : Bool) (m : Nat) (m1 : Nat) (m2 : Nat) (b1 : Bool) (l : List Int) (k : ByteArray → Nat → Nat → Nat → Int → Option R) : Option R :=
 (oK (cond b
 (some (8192 : Int))
 (some (256 : Int))) fun j =>
 (oK (cond (decide ((n1 < (0 : Int))))
 (some true)
 (cond (decide ((n1 ≥ (262144 : Int))))
 (some true)
 (cond (j == (0 : Int))
 none
 (cond ((Int.tmod n1 j) != (0 : Int))
 (some true)
 (cond (decide ((n2 < (0 : Int))))
 (some true)
 (cond (decide ((n2 > (1023 : Int))))
 (some true)
 (cond b
 (cond ((Int.tmod n2 (32 : Int)) != (0 : Int))
 (some true)
 (cond ((IntKind.wrap IntKind.i64 (((BitVec.toNat ((BitVec.ofInt 64 n3) &&& (BitVec.ofInt 64 (14 : Int)))) : Nat) : Int)) == (0 : Int))
 (some true)
 (some (n3 != (IntKind.wrap IntKind.i64 (((BitVec.toNat ((BitVec.ofInt 64 n3) &&& (BitVec.ofInt 64 (158 : Int)))) : Nat) : Int))))))
 (cond ((IntKind.wrap IntKind.i64 (((BitVec.toNat ((BitVec.ofInt 64 n3) &&& (BitVec.ofInt 64 (14 : Int)))) : Nat) : Int)) == (0 : Int))
 (some true)
 (some (n3 != (IntKind.wrap IntKind.i64 (((BitVec.toNat ((BitVec.ofInt 64 n3) &&& (BitVec.ofInt 64 (158 : Int)))) : Nat) : Int)))))))))))) fun j1 =>
 (cond j1
 (k s m m1 m2 (1 : Int))
 (g_spec_l01Word N s (IntKind.wrap IntKind.i64 ((IntKind.wrap IntKind.i64 (n * (256 : Int))) + (IntKind.wrap IntKind.i64 ((4 : Int) * (Int.fdiv n1 (8192 : Int)))))) fun n4 =>
 (cond b
 (cond ((IntKind.wrap IntKind.i64 (((BitVec.toNat ((BitVec.ofInt 64 n4) &&& (BitVec.ofInt 64 (1 : Int)))) : Nat) : Int)) != (0 : Int))
 (k s m m1 m2 (9 : Int))
 (g_spec_SetWord N s (IntKind.wrap IntKind.i64 ((IntKind.wrap IntKind.i64 (n * (256 : Int))) + (IntKind.wrap IntKind.i64 ((4 : Int) * (Int.fdiv n1 (8192 : Int)))))) (IntKind.wrap IntKind.i64 (((BitVec.toNat ((BitVec.ofInt 64 (IntKind.wrap IntKind.i64 (((BitVec.toNat ((BitVec.ofInt 64 (IntKind.wrap IntKind.i64 (n2 * (256 : Int)))) ||| (BitVec.ofInt 64 n3))) : Nat) : Int))) ||| (BitVec.ofInt 64 (1 : Int)))) : Nat) : Int)) fun s1 =>
 (k s1 m m1 m2 (0 : Int))))
 (oK (cond ((IntKind.wrap IntKind.i64 (((BitVec.toNat ((BitVec.ofInt 64 n4) &&& (BitVec.ofInt 64 (1 : Int)))) : Nat) : Int)) != (0 : Int))
 (some ((IntKind.wrap IntKind.i64 (((BitVec.toNat ((BitVec.ofInt 64 n4) &&& (BitVec.ofInt 64 (14 : Int)))) : Nat) : Int)) != (0 : Int)))
 (some false)) fun j2 =>
 (cond j2
 (k s m m1 m2 (9 : Int))
 (cond ((IntKind.wrap IntKind.i64 (((BitVec.toNat ((BitVec.ofInt 64 n4) &&& (BitVec.ofInt 64 (1 : Int)))) : Nat) : Int)) == (0 : Int))
 (cond (((m1 : Nat) : Int) == (0 : Int))
 (k s m m1 m2 (4 : Int))
 (cond (decide (((0 : Int) < ((m1 : Nat) : Int))))
 (elemK l (0 + m) fun x =>
 (cond ((decide (((1 : Int) ≤ ((m1 : Nat) : Int)))) && (decide ((((m1 : Nat) : Int) ≤ (((m1 + m2) : Nat) : Int)))))
 (cond ((decide (((0 : Int) ≤ (IntKind.wrap IntKind.i64 (x * (256 : Int)))))) && (decide (((IntKind.wrap IntKind.i64 (x * (256 : Int))) ≤ (((ByteArray.size s) : Nat) : Int)))))
 (cond (Nat.ble ((ByteArray.size (ByteArray.extract s 0 (Int.toNat (IntKind.wrap IntKind.i64 (x * (256 : Int)))))) + 256) 9223372036854775807)
 (cond (((decide (((0 : Int) ≤ (IntKind.wrap IntKind.i64 ((IntKind.wrap IntKind.i64 (x + (1 : Int))) * (256 : Int)))))) && (decide (((IntKind.wrap IntKind.i64 ((IntKind.wrap IntKind.i64 (x + (1 : Int))) * (256 : Int))) ≤ (((ByteArray.size s) : Nat) : Int))))) && (decide (((((ByteArray.size s) : Nat) : Int) ≤ (((ByteArray.size s) : Nat) : Int)))))
 (cond (Nat.ble ((ByteArray.size ((ByteArray.extract s 0 (Int.toNat (IntKind.wrap IntKind.i64 (x * (256 : Int))))) ++ (Go.Eng.toBytes (Go.Eng.seg (List.replicate 256 (0 : Int)) 0 256)))) + (ByteArray.size (ByteArray.extract s (Int.toNat (IntKind.wrap IntKind.i64 ((IntKind.wrap IntKind.i64 (x + (1 : Int))) * (256 : Int)))) (Int.toNat (((ByteArray.size s) : Nat) : Int))))) 9223372036854775807)
 (g_spec_SetWord N (((ByteArray.extract s 0 (Int.toNat (IntKind.wrap IntKind.i64 (x * (256 : Int))))) ++ (Go.Eng.toBytes (Go.Eng.seg (List.replicate 256 (0 : Int)) 0 256))) ++ (ByteArray.extract s (Int.toNat (IntKind.wrap IntKind.i64 ((IntKind.wrap IntKind.i64 (x + (1 : Int))) * (256 : Int)))) (Int.toNat (((ByteArray.size s) : Nat) : Int)))) (IntKind.wrap IntKind.i64 ((IntKind.wrap IntKind.i64 (n * (256 : Int))) + (IntKind.wrap IntKind.i64 ((4 : Int) * (Int.fdiv n1 (8192 : Int)))))) (IntKind.wrap IntKind.i64 (((BitVec.toNat ((BitVec.ofInt 64 (IntKind.wrap IntKind.i64 (x * (256 : Int)))) ||| (BitVec.ofInt 64 (1 : Int)))) : Nat) : Int)) fun s2 =>
 (g_spec_l03Entry N s2 (Int.fdiv (IntKind.wrap IntKind.i64 (((BitVec.toNat ((BitVec.ofInt 64 (IntKind.wrap IntKind.i64 (x * (256 : Int)))) ||| (BitVec.ofInt 64 (1 : Int)))) : Nat) : Int)) (256 : Int)) (Int.tmod (Int.fdiv n1 (256 : Int)) (32 : Int)) fun n5 b2 =>
 (oK (cond (!b2)
 (some true)
 (some ((IntKind.wrap IntKind.i64 (((BitVec.toNat ((BitVec.ofInt 64 n5) &&& (BitVec.ofInt 64 (1 : Int)))) : Nat) : Int)) != (0 : Int)))) fun j3 =>
 (cond j3
 (k s2 (1 + m) ((Int.toNat ((m1 : Nat) : Int)) - 1) ((m1 + m2) - (Int.toNat ((m1 : Nat) : Int))) (9 : Int))
 (g_spec_SetWord N s2 (IntKind.wrap IntKind.i64 ((IntKind.wrap IntKind.i64 ((Int.fdiv (IntKind.wrap IntKind.i64 (((BitVec.toNat ((BitVec.ofInt 64 (IntKind.wrap IntKind.i64 (x * (256 : Int)))) ||| (BitVec.ofInt 64 (1 : Int)))) : Nat) : Int)) (256 : Int)) * (256 : Int))) + (IntKind.wrap IntKind.i64 ((4 : Int) * (Int.tmod (Int.fdiv n1 (256 : Int)) (32 : Int)))))) (IntKind.wrap IntKind.i64 (((BitVec.toNat ((BitVec.ofInt 64 (IntKind.wrap IntKind.i64 (((BitVec.toNat ((BitVec.ofInt 64 (IntKind.wrap IntKind.i64 (n2 * (256 : Int)))) ||| (BitVec.ofInt 64 n3))) : Nat) : Int))) ||| (BitVec.ofInt 64 (1 : Int)))) : Nat) : Int)) fun s3 =>
 (k s3 (1 + m) ((Int.toNat ((m1 : Nat) : Int)) - 1) ((m1 + m2) - (Int.toNat ((m1 : Nat) : Int))) (0 : Int)))))))
 none)
 none)
 none)
 none)
 none))
 none))
 (g_spec_l03Entry N s (Int.fdiv n4 (256 : Int)) (Int.tmod (Int.fdiv n1 (256 : Int)) (32 : Int)) fun n6 b3 =>
 (oK (cond (!b3)
 (some true)
 (some ((IntKind.wrap IntKind.i64 (((BitVec.toNat ((BitVec.ofInt 64 n6) &&& (BitVec.ofInt 64 (1 : Int)))) : Nat) : Int)) != (0 : Int)))) fun j4 =>
 (cond j4
 (k s m m1 m2 (9 : Int))
 (g_spec_SetWord N s (IntKind.wrap IntKind.i64 ((IntKind.wrap IntKind.i64 ((Int.fdiv n4 (256 : Int)) * (256 : Int))) + (IntKind.wrap IntKind.i64 ((4 : Int) * (Int.tmod (Int.fdiv n1 (256 : Int)) (32 : Int)))))) (IntKind.wrap IntKind.i64 (((BitVec.toNat ((BitVec.ofInt 64 (IntKind.wrap IntKind.i64 (((BitVec.toNat ((BitVec.ofInt 64 (IntKind.wrap IntKind.i64 (n2 * (256 : Int)))) ||| (BitVec.ofInt 64 n3))) : Nat) : Int))) ||| (BitVec.ofInt 64 (1 : Int)))) : Nat) : Int)) fun s4 =>
 (k s4 m m1 m2 (0 : Int))))))))))))))
noncomputable def ga_g_spec_l03Map_w_v1 (N : Nat) (G_spec_l03Entry : ∀ {R : Type} (s : ByteArray) (n : Int) (n1 : Int) (k : Int → Bool → Option R), Option R) (G_spec_SetWord : ∀ {R : Type} (s : ByteArray) (n : Int) (n1 : Int) (k : ByteArray → Option R), Option R) (G_spec_l01Word : ∀ {R : Type} (s : ByteArray) (n : Int) (k : Int → Option R), Option R) {R : Type} (s : ByteArray) (n : Int) (n1 : Int) (n2 : Int) (n3 : Int) (b : Bool) (m : Nat) (m1 : Nat) (m2 : Nat) (b1 : Bool) (l : List Int) (k : ByteArray → Nat → Nat → Nat → Int → Option R) : Option R :=
 (oK (cond b
 (some (8192 : Int))
 (some (256 : Int))) fun j =>
 (oK (cond (decide ((n1 < (0 : Int))))
 (some true)
 (cond (decide ((n1 ≥ (262144 : Int))))
 (some true)
 (cond (j == (0 : Int))
 none
 (cond ((Int.tmod n1 j) != (0 : Int))
 (some true)
 (cond (decide ((n2 < (0 : Int))))
 (some true)
 (cond (decide ((n2 > (1023 : Int))))
 (some true)
 (cond b
 (cond ((Int.tmod n2 (32 : Int)) != (0 : Int))
 (some true)
 (cond ((IntKind.wrap IntKind.i64 (((BitVec.toNat ((BitVec.ofInt 64 n3) &&& (BitVec.ofInt 64 (14 : Int)))) : Nat) : Int)) == (0 : Int))
 (some true)
 (some (n3 != (IntKind.wrap IntKind.i64 (((BitVec.toNat ((BitVec.ofInt 64 n3) &&& (BitVec.ofInt 64 (158 : Int)))) : Nat) : Int))))))
 (cond ((IntKind.wrap IntKind.i64 (((BitVec.toNat ((BitVec.ofInt 64 n3) &&& (BitVec.ofInt 64 (14 : Int)))) : Nat) : Int)) == (0 : Int))
 (some true)
 (some (n3 != (IntKind.wrap IntKind.i64 (((BitVec.toNat ((BitVec.ofInt 64 n3) &&& (BitVec.ofInt 64 (158 : Int)))) : Nat) : Int)))))))))))) fun j1 =>
 (cond j1
 (k s m m1 m2 (1 : Int))
 (G_spec_l01Word s (IntKind.wrap IntKind.i64 ((IntKind.wrap IntKind.i64 (n * (256 : Int))) + (IntKind.wrap IntKind.i64 ((4 : Int) * (Int.fdiv n1 (8192 : Int)))))) fun n4 =>
 (cond b
 (cond ((IntKind.wrap IntKind.i64 (((BitVec.toNat ((BitVec.ofInt 64 n4) &&& (BitVec.ofInt 64 (1 : Int)))) : Nat) : Int)) != (0 : Int))
 (k s m m1 m2 (9 : Int))
 (G_spec_SetWord s (IntKind.wrap IntKind.i64 ((IntKind.wrap IntKind.i64 (n * (256 : Int))) + (IntKind.wrap IntKind.i64 ((4 : Int) * (Int.fdiv n1 (8192 : Int)))))) (IntKind.wrap IntKind.i64 (((BitVec.toNat ((BitVec.ofInt 64 (IntKind.wrap IntKind.i64 (((BitVec.toNat ((BitVec.ofInt 64 (IntKind.wrap IntKind.i64 (n2 * (256 : Int)))) ||| (BitVec.ofInt 64 n3))) : Nat) : Int))) ||| (BitVec.ofInt 64 (1 : Int)))) : Nat) : Int)) fun s1 =>
 (k s1 m m1 m2 (0 : Int))))
 (oK (cond ((IntKind.wrap IntKind.i64 (((BitVec.toNat ((BitVec.ofInt 64 n4) &&& (BitVec.ofInt 64 (1 : Int)))) : Nat) : Int)) != (0 : Int))
 (some ((IntKind.wrap IntKind.i64 (((BitVec.toNat ((BitVec.ofInt 64 n4) &&& (BitVec.ofInt 64 (14 : Int)))) : Nat) : Int)) != (0 : Int)))
 (some false)) fun j2 =>
 (cond j2
 (k s m m1 m2 (9 : Int))
 (cond ((IntKind.wrap IntKind.i64 (((BitVec.toNat ((BitVec.ofInt 64 n4) &&& (BitVec.ofInt 64 (1 : Int)))) : Nat) : Int)) == (0 : Int))
 (cond (((m1 : Nat) : Int) == (0 : Int))
 (k s m m1 m2 (4 : Int))
 (cond (decide (((0 : Int) < ((m1 : Nat) : Int))))
 (elemK l (0 + m) fun x =>
 (cond ((decide (((1 : Int) ≤ ((m1 : Nat) : Int)))) && (decide ((((m1 : Nat) : Int) ≤ (((m1 + m2) : Nat) : Int)))))
 (cond ((decide (((0 : Int) ≤ (IntKind.wrap IntKind.i64 (x * (256 : Int)))))) && (decide (((IntKind.wrap IntKind.i64 (x * (256 : Int))) ≤ (((ByteArray.size s) : Nat) : Int)))))
 (cond (Nat.ble ((ByteArray.size (ByteArray.extract s 0 (Int.toNat (IntKind.wrap IntKind.i64 (x * (256 : Int)))))) + 256) 9223372036854775807)
 (cond (((decide (((0 : Int) ≤ (IntKind.wrap IntKind.i64 ((IntKind.wrap IntKind.i64 (x + (1 : Int))) * (256 : Int)))))) && (decide (((IntKind.wrap IntKind.i64 ((IntKind.wrap IntKind.i64 (x + (1 : Int))) * (256 : Int))) ≤ (((ByteArray.size s) : Nat) : Int))))) && (decide (((((ByteArray.size s) : Nat) : Int) ≤ (((ByteArray.size s) : Nat) : Int)))))
 (cond (Nat.ble ((ByteArray.size ((ByteArray.extract s 0 (Int.toNat (IntKind.wrap IntKind.i64 (x * (256 : Int))))) ++ (Go.Eng.toBytes (Go.Eng.seg (List.replicate 256 (0 : Int)) 0 256)))) + (ByteArray.size (ByteArray.extract s (Int.toNat (IntKind.wrap IntKind.i64 ((IntKind.wrap IntKind.i64 (x + (1 : Int))) * (256 : Int)))) (Int.toNat (((ByteArray.size s) : Nat) : Int))))) 9223372036854775807)
 (G_spec_SetWord (((ByteArray.extract s 0 (Int.toNat (IntKind.wrap IntKind.i64 (x * (256 : Int))))) ++ (Go.Eng.toBytes (Go.Eng.seg (List.replicate 256 (0 : Int)) 0 256))) ++ (ByteArray.extract s (Int.toNat (IntKind.wrap IntKind.i64 ((IntKind.wrap IntKind.i64 (x + (1 : Int))) * (256 : Int)))) (Int.toNat (((ByteArray.size s) : Nat) : Int)))) (IntKind.wrap IntKind.i64 ((IntKind.wrap IntKind.i64 (n * (256 : Int))) + (IntKind.wrap IntKind.i64 ((4 : Int) * (Int.fdiv n1 (8192 : Int)))))) (IntKind.wrap IntKind.i64 (((BitVec.toNat ((BitVec.ofInt 64 (IntKind.wrap IntKind.i64 (x * (256 : Int)))) ||| (BitVec.ofInt 64 (1 : Int)))) : Nat) : Int)) fun s2 =>
 (G_spec_l03Entry s2 (Int.fdiv (IntKind.wrap IntKind.i64 (((BitVec.toNat ((BitVec.ofInt 64 (IntKind.wrap IntKind.i64 (x * (256 : Int)))) ||| (BitVec.ofInt 64 (1 : Int)))) : Nat) : Int)) (256 : Int)) (Int.tmod (Int.fdiv n1 (256 : Int)) (32 : Int)) fun n5 b2 =>
 (oK (cond (!b2)
 (some true)
 (some ((IntKind.wrap IntKind.i64 (((BitVec.toNat ((BitVec.ofInt 64 n5) &&& (BitVec.ofInt 64 (1 : Int)))) : Nat) : Int)) != (0 : Int)))) fun j3 =>
 (cond j3
 (k s2 (1 + m) ((Int.toNat ((m1 : Nat) : Int)) - 1) ((m1 + m2) - (Int.toNat ((m1 : Nat) : Int))) (9 : Int))
 (G_spec_SetWord s2 (IntKind.wrap IntKind.i64 ((IntKind.wrap IntKind.i64 ((Int.fdiv (IntKind.wrap IntKind.i64 (((BitVec.toNat ((BitVec.ofInt 64 (IntKind.wrap IntKind.i64 (x * (256 : Int)))) ||| (BitVec.ofInt 64 (1 : Int)))) : Nat) : Int)) (256 : Int)) * (256 : Int))) + (IntKind.wrap IntKind.i64 ((4 : Int) * (Int.tmod (Int.fdiv n1 (256 : Int)) (32 : Int)))))) (IntKind.wrap IntKind.i64 (((BitVec.toNat ((BitVec.ofInt 64 (IntKind.wrap IntKind.i64 (((BitVec.toNat ((BitVec.ofInt 64 (IntKind.wrap IntKind.i64 (n2 * (256 : Int)))) ||| (BitVec.ofInt 64 n3))) : Nat) : Int))) ||| (BitVec.ofInt 64 (1 : Int)))) : Nat) : Int)) fun s3 =>
 (k s3 (1 + m) ((Int.toNat ((m1 : Nat) : Int)) - 1) ((m1 + m2) - (Int.toNat ((m1 : Nat) : Int))) (0 : Int)))))))
 none)
 none)
 none)
 none)
 none))
 none))
 (G_spec_l03Entry s (Int.fdiv n4 (256 : Int)) (Int.tmod (Int.fdiv n1 (256 : Int)) (32 : Int)) fun n6 b3 =>
 (oK (cond (!b3)
 (some true)
 (some ((IntKind.wrap IntKind.i64 (((BitVec.toNat ((BitVec.ofInt 64 n6) &&& (BitVec.ofInt 64 (1 : Int)))) : Nat) : Int)) != (0 : Int)))) fun j4 =>
 (cond j4
 (k s m m1 m2 (9 : Int))
 (G_spec_SetWord s (IntKind.wrap IntKind.i64 ((IntKind.wrap IntKind.i64 ((Int.fdiv n4 (256 : Int)) * (256 : Int))) + (IntKind.wrap IntKind.i64 ((4 : Int) * (Int.tmod (Int.fdiv n1 (256 : Int)) (32 : Int)))))) (IntKind.wrap IntKind.i64 (((BitVec.toNat ((BitVec.ofInt 64 (IntKind.wrap IntKind.i64 (((BitVec.toNat ((BitVec.ofInt 64 (IntKind.wrap IntKind.i64 (n2 * (256 : Int)))) ||| (BitVec.ofInt 64 n3))) : Nat) : Int))) ||| (BitVec.ofInt 64 (1 : Int)))) : Nat) : Int)) fun s4 =>
 (k s4 m m1 m2 (0 : Int))))))))))))))
theorem ea_e_spec_l03Map_w_v1 (N : Nat) (G_spec_l03Entry : ∀ {R : Type} (s : ByteArray) (n : Int) (n1 : Int) (k : Int → Bool → Option R), Option R) (G_spec_SetWord : ∀ {R : Type} (s : ByteArray) (n : Int) (n1 : Int) (k : ByteArray → Option R), Option R) (G_spec_l01Word : ∀ {R : Type} (s : ByteArray) (n : Int) (k : Int → Option R), Option R) {R : Type} (s : ByteArray) (n : Int) (n1 : Int) (n2 : Int) (n3 : Int) (b : Bool) (m : Nat) (m1 : Nat) (m2 : Nat) (b1 : Bool) (l : List Int) (K : AV → Hp E → Option R) :
    runFnI (E := E) (OA_spec_l03Map_w_v1 N G_spec_l03Entry G_spec_SetWord G_spec_l01Word) (noIt) sl_spec_l03Map_w_v1 J_spec_l03Map_w_v1 Try.f41 [(AV.sc (SV.str s)), (AV.sc (SV.int IntKind.i64 n)), (AV.agg [(SV.int IntKind.i64 n1), (SV.int IntKind.i64 n2), (SV.int IntKind.i64 n3), (SV.bool b)]), (AV.sc (SV.slc 0 (some (m, (m1, m2))) b1))] [(some (HE.mk false (HB.rows (B.i64 l))))] K =
      ga_g_spec_l03Map_w_v1 N G_spec_l03Entry G_spec_SetWord G_spec_l01Word s n n1 n2 n3 b m m1 m2 b1 l (fun s5 m3 m4 m5 n7 => K (AV.tup [(false, [(SV.str s5)]), (false, [(SV.slc 0 (some (m3, (m4, m5))) b1)]), (false, [(SV.int IntKind.i64 n7)])]) [(some (HE.mk false (HB.rows (B.i64 l))))]) := by kernel_rfl
theorem e_spec_l03Map_w_v1 (N : Nat) {R : Type} (s : ByteArray) (n : Int) (n1 : Int) (n2 : Int) (n3 : Int) (b : Bool) (m : Nat) (m1 : Nat) (m2 : Nat) (b1 : Bool) (l : List Int) (K : AV → Hp E → Option R) :
    runFnI (E := E) (O_spec_l03Map_w_v1 N) (noIt) sl_spec_l03Map_w_v1 J_spec_l03Map_w_v1 Try.f41 [(AV.sc (SV.str s)), (AV.sc (SV.int IntKind.i64 n)), (AV.agg [(SV.int IntKind.i64 n1), (SV.int IntKind.i64 n2), (SV.int IntKind.i64 n3), (SV.bool b)]), (AV.sc (SV.slc 0 (some (m, (m1, m2))) b1))] [(some (HE.mk false (HB.rows (B.i64 l))))] K =
      g_spec_l03Map_w_v1 N s n n1 n2 n3 b m m1 m2 b1 l (fun s5 m3 m4 m5 n7 => K (AV.tup [(false, [(SV.str s5)]), (false, [(SV.slc 0 (some (m3, (m4, m5))) b1)]), (false, [(SV.int IntKind.i64 n7)])]) [(some (HE.mk false (HB.rows (B.i64 l))))]) := castPr (by kernel_rfl) (ea_e_spec_l03Map_w_v1 N (g_spec_l03Entry N) (g_spec_SetWord N) (g_spec_l01Word N) s n n1 n2 n3 b m m1 m2 b1 l K)
noncomputable def o_spec_l03Map_w_v1 (N : Nat) {R : Type} (args : List AV) (H : Hp E) (K : AV → Hp E → Option R) : Option R :=
 match args, H with
 | [(AV.sc (SV.str s)), (AV.sc (SV.int IntKind.i64 n)), (AV.agg [(SV.int IntKind.i64 n1), (SV.int IntKind.i64 n2), (SV.int IntKind.i64 n3), (SV.bool b)]), (AV.sc (SV.slc 0 (some (m, (m1, m2))) b1))], [(some (HE.mk false (HB.rows (B.i64 l))))] => g_spec_l03Map_w_v1 N s n n1 n2 n3 b m m1 m2 b1 l (fun s5 m3 m4 m5 n7 => K (AV.tup [(false, [(SV.str s5)]), (false, [(SV.slc 0 (some (m3, (m4, m5))) b1)]), (false, [(SV.int IntKind.i64 n7)])]) [(some (HE.mk false (HB.rows (B.i64 l))))])
 | _, _ => none
theorem o_spec_l03Map_w_v1_ok (N : Nat) : FnOk E 41 (o_spec_l03Map_w_v1 N) := by
  intro R args H K r h
  unfold o_spec_l03Map_w_v1 at h
  dsimp only at h
  split at h
  · exact fnB_ok (ids := []) (top := []) ok (O_spec_l03Map_w_v1_ok N) (jn_ok _ _ _) Try.func41 (by kernel_rfl) (IT := noIt) (sl := sl_spec_l03Map_w_v1) (J := J_spec_l03Map_w_v1) (K := K) (H := [(some (HE.mk false (HB.rows (B.i64 _))))]) (noIt_ok) (by kernel_rfl) rfl ((e_spec_l03Map_w_v1 N _ _ _ _ _ _ _ _ _ _ _ K).trans h)
  · cases h
end Go.Sa
