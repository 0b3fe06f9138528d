import Derived.Test.YtaffhdhamfilpaaSpec
import Derived.Test.YtaffhdhamfilpaaPLb
import Derived.Test.YtaffhdhamfilpaaW5
set_option linter.all false
namespace Go.Sa
open Go Go.Eng Go.Proofs
set_option maxRecDepth 100000
set_option maxHeartbeats 4000000
/-! ### loop.example/g00038/impl.yboot -/
abbrev sl_impl_yboot_w : SlotT := []
abbrev J_impl_yboot_w : JT := jn [(1, [(21, .b)]), (6, [(50, .b)])] [] [(20, [9])]
noncomputable def O_impl_yboot_w (N : Nat) : Orc E := addFn 94 osp_94 (addFn 98 (o_impl_ymeasure_ww N) (addFn 97 (o_impl_NewMachine N) (addFn 95 (o_impl_PutTables_w N) (addFn 96 (o_impl_TablesOf_w N) (addFn 93 (o_impl_ysplice N) (addFn 44 (o_impl_ymix N) (addFn 92 (o_impl_yfits N) (addFn 78 (o_impl_yin N) (addFn 91 (o_impl_ywordAt N) (addFn 90 (o_strings_HasPrefix N) (addFn 89 (o_impl_BoardFault_r N) (noFn))))))))))))
noncomputable def pa_impl_yboot_w__o_impl_ymeasure_ww (N : Nat) (G_impl_ymeasure_ww : ∀ {R : Type} (b : Bool) (b1 : Bool) (l : List Int) (l1 : List Stage) (k : Bool → (List Int) → Option R), Option R) {R : Type} (args : List AV) (H : Hp E) (K : AV → Hp E → Option R) : Option R :=
  match args, H with
  | [(AV.sc (SV.slc 0 none b)), (AV.sc (SV.slc 1 none b1))], [(some (HE.mk false (HB.rows (B.i64 l)))), (some (HE.mk false (HB.rows (B.iStage l1))))] => G_impl_ymeasure_ww b b1 l l1 (fun b5 l7 => K (AV.sc (SV.slc 2 none b5)) [(some (HE.mk false (HB.rows (B.i64 l)))), (some (HE.mk false (HB.rows (B.iStage l1)))), (some (HE.mk false (HB.rows (B.i64 l7))))])
  | _, _ => none
noncomputable def pa_impl_yboot_w__o_impl_NewMachine (N : Nat) (G_impl_NewMachine : ∀ {R : Type} (s : ByteArray) (k : Bool → Int → Bool → Bool → ByteArray → (List Int) → (List Int) → (List Int) → Option R), Option R) {R : Type} (args : List AV) (H : Hp E) (K : AV → Hp E → Option R) : Option R :=
  match args, H with
  | [(AV.sc (SV.str s))], [] => G_impl_NewMachine s (fun b1 n b2 b3 s1 l l1 l2 => K (AV.agg [(SV.int IntKind.i64 (0 : Int)), (SV.slc 0 none b1), (SV.int IntKind.i64 n), (SV.slc 1 none b2), (SV.slc 2 none b3), (SV.str s1), (SV.int IntKind.i64 (0 : Int)), (SV.int IntKind.i64 (0 : Int)), (SV.int IntKind.i64 (0 : Int)), (SV.slc 3 none true), (SV.slc 4 none true), (SV.int IntKind.i64 (0 : Int))]) [(some (HE.mk false (HB.rows (B.i64 l)))), (some (HE.mk false (HB.rows (B.i64 l1)))), (some (HE.mk false (HB.rows (B.i64 l2)))), (some (HE.mk false (HB.rows (B.iPortValue [])))), (some (HE.mk false (HB.rows (B.iPortValue []))))])
  | _, _ => none
noncomputable def pa_impl_yboot_w__o_impl_PutTables_w (N : Nat) (G_impl_PutTables_w : ∀ {R : Type} (s : ByteArray) (n : Int) (b : Bool) (l : List FirmTable) (k : ByteArray → Option R), Option R) {R : Type} (args : List AV) (H : Hp E) (K : AV → Hp E → Option R) : Option R :=
  match args, H with
  | [(AV.sc (SV.str s)), (AV.sc (SV.int IntKind.i64 n)), (AV.sc (SV.slc 0 none b))], [(some (HE.mk false (HB.rows (B.iFirmTable l))))] => G_impl_PutTables_w s n b l (fun s12 => K (AV.sc (SV.str s12)) [(some (HE.mk false (HB.rows (B.iFirmTable l))))])
  | _, _ => none
noncomputable def pa_impl_yboot_w__o_impl_TablesOf_w (N : Nat) (G_impl_TablesOf_w : ∀ {R : Type} (n : Int) (n1 : Int) (b : Bool) (l : List Device) (k : Bool → (List FirmTable) → Option R), Option R) {R : Type} (args : List AV) (H : Hp E) (K : AV → Hp E → Option R) : Option R :=
  match args, H with
  | [(AV.agg [(SV.int IntKind.i64 n), (SV.int IntKind.i64 n1), (SV.slc 0 none b)])], [(some (HE.mk false (HB.rows (B.iDevice l))))] => G_impl_TablesOf_w n n1 b l (fun b3 l2 => K (AV.sc (SV.slc 1 none b3)) [(some (HE.mk false (HB.rows (B.iDevice l)))), (some (HE.mk false (HB.rows (B.iFirmTable l2))))])
  | _, _ => none
noncomputable def pa_impl_yboot_w__o_impl_ysplice (N : Nat) (G_impl_ysplice : ∀ {R : Type} (s : ByteArray) (n : Int) (s1 : ByteArray) (k : ByteArray → Option R), Option R) {R : Type} (args : List AV) (H : Hp E) (K : AV → Hp E → Option R) : Option R :=
  match args, H with
  | [(AV.sc (SV.str s)), (AV.sc (SV.int IntKind.i64 n)), (AV.sc (SV.str s1))], [] => G_impl_ysplice s n s1 (fun s2 => K (AV.sc (SV.str s2)) [])
  | _, _ => none
noncomputable def pa_impl_yboot_w__o_impl_ymix (N : Nat) (G_impl_ymix : ∀ {R : Type} (s : ByteArray) (n : Int) (k : Int → Option R), Option R) {R : Type} (args : List AV) (H : Hp E) (K : AV → Hp E → Option R) : Option R :=
  match args, H with
  | [(AV.sc (SV.str s)), (AV.sc (SV.int IntKind.i64 n))], [] => G_impl_ymix s n (fun n6 => K (AV.sc (SV.int IntKind.i64 n6)) [])
  | _, _ => none
noncomputable def pa_impl_yboot_w__o_impl_yfits (N : Nat) (G_impl_yfits : ∀ {R : Type} (n : Int) (n1 : Int) (n2 : Int) (k : Bool → Option R), Option R) {R : Type} (args : List AV) (H : Hp E) (K : AV → Hp E → Option R) : Option R :=
  match args, H with
  | [(AV.sc (SV.int IntKind.i64 n)), (AV.sc (SV.int IntKind.i64 n1)), (AV.sc (SV.int IntKind.i64 n2))], [] => G_impl_yfits n n1 n2 (fun b => K (AV.sc (SV.bool b)) [])
  | _, _ => none
noncomputable def pa_impl_yboot_w__o_impl_yin (N : Nat) (G_impl_yin : ∀ {R : Type} (n : Int) (n1 : Int) (n2 : Int) (k : Bool → Option R), Option R) {R : Type} (args : List AV) (H : Hp E) (K : AV → Hp E → Option R) : Option R :=
  match args, H with
  | [(AV.sc (SV.int IntKind.i64 n)), (AV.sc (SV.int IntKind.i64 n1)), (AV.sc (SV.int IntKind.i64 n2))], [] => G_impl_yin n n1 n2 (fun b => K (AV.sc (SV.bool b)) [])
  | _, _ => none
noncomputable def pa_impl_yboot_w__o_impl_ywordAt (N : Nat) (G_impl_ywordAt : ∀ {R : Type} (s : ByteArray) (n : Int) (k : Int → Option R), Option R) {R : Type} (args : List AV) (H : Hp E) (K : AV → Hp E → Option R) : Option R :=
  match args, H with
  | [(AV.sc (SV.str s)), (AV.sc (SV.int IntKind.i64 n))], [] => G_impl_ywordAt s n (fun n1 => K (AV.sc (SV.int IntKind.i64 n1)) [])
  | _, _ => none
noncomputable def pa_impl_yboot_w__o_strings_HasPrefix (N : Nat) (G_strings_HasPrefix : ∀ {R : Type} (s : ByteArray) (s1 : ByteArray) (k : Bool → Option R), Option R) {R : Type} (args : List AV) (H : Hp E) (K : AV → Hp E → Option R) : Option R :=
  match args, H with
  | [(AV.sc (SV.str s)), (AV.sc (SV.str s1))], [] => G_strings_HasPrefix s s1 (fun b1 => K (AV.sc (SV.bool b1)) [])
  | _, _ => none
noncomputable def pa_impl_yboot_w__o_impl_BoardFault_r (N : Nat) (G_impl_BoardFault_r : ∀ {R : Type} (n : Int) (n1 : Int) (b : Bool) (l : List Device) (k : Int → Option R), Option R) {R : Type} (args : List AV) (H : Hp E) (K : AV → Hp E → Option R) : Option R :=
  match args, H with
  | [(AV.agg [(SV.int IntKind.i64 n), (SV.int IntKind.i64 n1), (SV.slc 0 none b)])], [(some (HE.mk true (HB.rows (B.iDevice l))))] => G_impl_BoardFault_r n n1 b l (fun n6 => K (AV.sc (SV.int IntKind.i64 n6)) [(some (HE.mk true (HB.rows (B.iDevice l))))])
  | _, _ => none
noncomputable def OA_impl_yboot_w (N : Nat) (G_impl_ymeasure_ww : ∀ {R : Type} (b : Bool) (b1 : Bool) (l : List Int) (l1 : List Stage) (k : Bool → (List Int) → Option R), Option R) (G_impl_NewMachine : ∀ {R : Type} (s : ByteArray) (k : Bool → Int → Bool → Bool → ByteArray → (List Int) → (List Int) → (List Int) → Option R), Option R) (G_impl_PutTables_w : ∀ {R : Type} (s : ByteArray) (n : Int) (b : Bool) (l : List FirmTable) (k : ByteArray → Option R), Option R) (G_impl_TablesOf_w : ∀ {R : Type} (n : Int) (n1 : Int) (b : Bool) (l : List Device) (k : Bool → (List FirmTable) → Option R), Option R) (G_impl_ysplice : ∀ {R : Type} (s : ByteArray) (n : Int) (s1 : ByteArray) (k : ByteArray → Option R), Option R) (G_impl_ymix : ∀ {R : Type} (s : ByteArray) (n : Int) (k : Int → Option R), Option R) (G_impl_yfits : ∀ {R : Type} (n : Int) (n1 : Int) (n2 : Int) (k : Bool → Option R), Option R) (G_impl_yin : ∀ {R : Type} (n : Int) (n1 : Int) (n2 : Int) (k : Bool → Option R), Option R) (G_impl_ywordAt : ∀ {R : Type} (s : ByteArray) (n : Int) (k : Int → Option R), Option R) (G_strings_HasPrefix : ∀ {R : Type} (s : ByteArray) (s1 : ByteArray) (k : Bool → Option R), Option R) (G_impl_BoardFault_r : ∀ {R : Type} (n : Int) (n1 : Int) (b : Bool) (l : List Device) (k : Int → Option R), Option R) : Orc E := addFn 94 osp_94 (addFn 98 (pa_impl_yboot_w__o_impl_ymeasure_ww N G_impl_ymeasure_ww) (addFn 97 (pa_impl_yboot_w__o_impl_NewMachine N G_impl_NewMachine) (addFn 95 (pa_impl_yboot_w__o_impl_PutTables_w N G_impl_PutTables_w) (addFn 96 (pa_impl_yboot_w__o_impl_TablesOf_w N G_impl_TablesOf_w) (addFn 93 (pa_impl_yboot_w__o_impl_ysplice N G_impl_ysplice) (addFn 44 (pa_impl_yboot_w__o_impl_ymix N G_impl_ymix) (addFn 92 (pa_impl_yboot_w__o_impl_yfits N G_impl_yfits) (addFn 78 (pa_impl_yboot_w__o_impl_yin N G_impl_yin) (addFn 91 (pa_impl_yboot_w__o_impl_ywordAt N G_impl_ywordAt) (addFn 90 (pa_impl_yboot_w__o_strings_HasPrefix N G_strings_HasPrefix) (addFn 89 (pa_impl_yboot_w__o_impl_BoardFault_r N G_impl_BoardFault_r) (noFn))))))))))))
theorem O_impl_yboot_w_ok (N : Nat) : OrcOk (O_impl_yboot_w N) := addFn_ok osp_94_ok (addFn_ok (o_impl_ymeasure_ww_ok N) (addFn_ok (o_impl_NewMachine_ok N) (addFn_ok (o_impl_PutTables_w_ok N) (addFn_ok (o_impl_TablesOf_w_ok N) (addFn_ok (o_impl_ysplice_ok N) (addFn_ok (o_impl_ymix_ok N) (addFn_ok (o_impl_yfits_ok N) (addFn_ok (o_impl_yin_ok N) (addFn_ok (o_impl_ywordAt_ok N) (addFn_ok (o_strings_HasPrefix_ok N) (addFn_ok (o_impl_BoardFault_r_ok N) (noFn_ok))))))))))))
noncomputable def g_impl_yboot_w (N : Nat) {R : Type} (s : ByteArray) (n : Int) (n1 : Int) (b : Bool) (l : List Device) (k : Int → Int → Bool → Int → Bool → Bool → ByteArray → Bool → (List Int) → (List Int) → (List Int) → (List Int) → Option R) : Option R :=
  (oK (g_impl_BoardFault_r N n n1 b l fun n2 =>
    (cond (n2 != (0 : Int))
    (some true)
    (some ((Int.tmod (((ByteArray.size s) : Nat) : Int) (64 : Int)) != (0 : Int))))) fun j =>
  (cond j
  (k (1 : Int) (0 : Int) true (0 : Int) true true (ByteArray.mk (List.toArray [])) true [] [] [] [])
  (g_strings_HasPrefix N s (ByteArray.mk (List.toArray [(66 : UInt8), (79 : UInt8), (79 : UInt8), (84 : UInt8)])) fun b1 =>
    (cond (!b1)
    (k (3 : Int) (0 : Int) true (0 : Int) true true (ByteArray.mk (List.toArray [])) true [] [] [] [])
    (g_impl_ywordAt N s (4 : Int) fun n3 =>
      (g_impl_ywordAt N s (8 : Int) fun n4 =>
      (g_impl_ywordAt N s (12 : Int) fun n5 =>
      (g_impl_ywordAt N s (16 : Int) fun n6 =>
      (oK (cond ((Int.tmod n3 (4 : Int)) != (0 : Int))
        (some true)
        (g_impl_yin N n5 (1 : Int) (1000 : Int) fun b2 =>
          (cond (!b2)
          (some true)
          (g_impl_yfits N (((ByteArray.size s) : Nat) : Int) (64 : Int) (IntKind.wrap IntKind.i64 ((4 : Int) * n5)) fun b3 =>
            (some (!b3)))))) fun j1 =>
      (cond j1
      (k (3 : Int) (0 : Int) true (0 : Int) true true (ByteArray.mk (List.toArray [])) true [] [] [] [])
      (cond ((decide (((64 : Int) ≤ (IntKind.wrap IntKind.i64 ((64 : Int) + (IntKind.wrap IntKind.i64 ((4 : Int) * n5))))))) && (decide (((IntKind.wrap IntKind.i64 ((64 : Int) + (IntKind.wrap IntKind.i64 ((4 : Int) * n5)))) ≤ (((ByteArray.size s) : Nat) : Int)))))
        (g_impl_ymix N (ByteArray.extract s 64 (Int.toNat (IntKind.wrap IntKind.i64 ((64 : Int) + (IntKind.wrap IntKind.i64 ((4 : Int) * n5)))))) (71 : Int) fun n7 =>
          (cond (n7 != n6)
          (k (10 : Int) (0 : Int) true (0 : Int) true true (ByteArray.mk (List.toArray [])) true [] [] [] [])
          (cond (decide (((IntKind.wrap IntKind.i64 (n3 + (IntKind.wrap IntKind.i64 ((4 : Int) * n5)))) > (IntKind.wrap IntKind.i64 ((IntKind.wrap IntKind.i64 (n - (1 : Int))) * (256 : Int))))))
            (k (2 : Int) (0 : Int) true (0 : Int) true true (ByteArray.mk (List.toArray [])) true [] [] [] [])
            (cond (Go.Eng.repOk (ByteArray.mk (List.toArray [(0 : UInt8)])) (IntKind.wrap IntKind.i64 (n * (256 : Int))))
              (g_impl_ysplice N (Go.Eng.repB (ByteArray.mk (List.toArray [(0 : UInt8)])) (IntKind.wrap IntKind.i64 (n * (256 : Int)))) n3 (ByteArray.extract s 64 (Int.toNat (IntKind.wrap IntKind.i64 ((64 : Int) + (IntKind.wrap IntKind.i64 ((4 : Int) * n5)))))) fun s1 =>
                (g_impl_TablesOf_w N n n1 b l fun b4 l1 =>
                (g_impl_PutTables_w N s1 (IntKind.wrap IntKind.i64 ((IntKind.wrap IntKind.i64 (n - (1 : Int))) * (256 : Int))) b4 l1 fun s2 =>
                (cond (decide ((s2 = (ByteArray.mk (List.toArray [])))))
                (k (2 : Int) (0 : Int) true (0 : Int) true true (ByteArray.mk (List.toArray [])) true [] [] [] [])
                (g_impl_NewMachine N s2 fun b5 n8 b6 b7 s3 l2 l3 l4 =>
                  (cond (decide (((1 : Int) < (((List.length l2) : Nat) : Int))))
                  (elemK l2 1 fun x =>
                    (cond (Nat.blt 1 (List.length l2))
                    (cond (decide (((2 : Int) < (((List.length (nset l2 1 (IntKind.wrap IntKind.i64 ((IntKind.wrap IntKind.i64 (n - (1 : Int))) * (256 : Int))))) : Nat) : Int))))
                      (elemK (nset l2 1 (IntKind.wrap IntKind.i64 ((IntKind.wrap IntKind.i64 (n - (1 : Int))) * (256 : Int)))) 2 fun x1 =>
                        (cond (Nat.blt 2 (List.length (nset l2 1 (IntKind.wrap IntKind.i64 ((IntKind.wrap IntKind.i64 (n - (1 : Int))) * (256 : Int))))))
                        (cond (((decide (((0 : Int) ≤ (IntKind.wrap IntKind.i64 ((IntKind.wrap IntKind.i64 (n - (1 : Int))) * (256 : Int)))))) && (decide (((IntKind.wrap IntKind.i64 ((IntKind.wrap IntKind.i64 (n - (1 : Int))) * (256 : Int))) ≤ (((ByteArray.size s2) : Nat) : Int))))) && (decide (((((ByteArray.size s2) : Nat) : Int) ≤ (((ByteArray.size s2) : Nat) : Int)))))
                          (g_impl_ymeasure_ww N false false [(0 : Int), (0 : Int)] [(Stage.mk (0 : Int) (ByteArray.extract s2 (Int.toNat (IntKind.wrap IntKind.i64 ((IntKind.wrap IntKind.i64 (n - (1 : Int))) * (256 : Int)))) (Int.toNat (((ByteArray.size s2) : Nat) : Int)))), (Stage.mk (1 : Int) (ByteArray.extract s 64 (Int.toNat (IntKind.wrap IntKind.i64 ((64 : Int) + (IntKind.wrap IntKind.i64 ((4 : Int) * n5)))))))] fun b8 l5 =>
                            (k (0 : Int) n4 b5 n8 b6 b7 s3 b8 (nset (nset l2 1 (IntKind.wrap IntKind.i64 ((IntKind.wrap IntKind.i64 (n - (1 : Int))) * (256 : Int)))) 2 n5) l3 l4 l5))
                          none)
                        none))
                      none)
                    none))
                  none))))))
              none))))
        none)))))))))))
noncomputable def ga_g_impl_yboot_w (N : Nat) (G_impl_ymeasure_ww : ∀ {R : Type} (b : Bool) (b1 : Bool) (l : List Int) (l1 : List Stage) (k : Bool → (List Int) → Option R), Option R) (G_impl_NewMachine : ∀ {R : Type} (s : ByteArray) (k : Bool → Int → Bool → Bool → ByteArray → (List Int) → (List Int) → (List Int) → Option R), Option R) (G_impl_PutTables_w : ∀ {R : Type} (s : ByteArray) (n : Int) (b : Bool) (l : List FirmTable) (k : ByteArray → Option R), Option R) (G_impl_TablesOf_w : ∀ {R : Type} (n : Int) (n1 : Int) (b : Bool) (l : List Device) (k : Bool → (List FirmTable) → Option R), Option R) (G_impl_ysplice : ∀ {R : Type} (s : ByteArray) (n : Int) (s1 : ByteArray) (k : ByteArray → Option R), Option R) (G_impl_ymix : ∀ {R : Type} (s : ByteArray) (n : Int) (k : Int → Option R), Option R) (G_impl_yfits : ∀ {R : Type} (n : Int) (n1 : Int) (n2 : Int) (k : Bool → Option R), Option R) (G_impl_yin : ∀ {R : Type} (n : Int) (n1 : Int) (n2 : Int) (k : Bool → Option R), Option R) (G_impl_ywordAt : ∀ {R : Type} (s : ByteArray) (n : Int) (k : Int → Option R), Option R) (G_strings_HasPrefix : ∀ {R : Type} (s : ByteArray) (s1 : ByteArray) (k : Bool → Option R), Option R) (G_impl_BoardFault_r : ∀ {R : Type} (n : Int) (n1 : Int) (b : Bool) (l : List Device) (k : Int → Option R), Option R) {R : Type} (s : ByteArray) (n : Int) (n1 : Int) (b : Bool) (l : List Device) (k : Int → Int → Bool → Int → Bool → Bool → ByteArray → Bool → (List Int) → (List Int) → (List Int) → (List Int) → Option R) : Option R :=
  (oK (G_impl_BoardFault_r n n1 b l fun n2 =>
    (cond (n2 != (0 : Int))
    (some true)
    (some ((Int.tmod (((ByteArray.size s) : Nat) : Int) (64 : Int)) != (0 : Int))))) fun j =>
  (cond j
  (k (1 : Int) (0 : Int) true (0 : Int) true true (ByteArray.mk (List.toArray [])) true [] [] [] [])
  (G_strings_HasPrefix s (ByteArray.mk (List.toArray [(66 : UInt8), (79 : UInt8), (79 : UInt8), (84 : UInt8)])) fun b1 =>
    (cond (!b1)
    (k (3 : Int) (0 : Int) true (0 : Int) true true (ByteArray.mk (List.toArray [])) true [] [] [] [])
    (G_impl_ywordAt s (4 : Int) fun n3 =>
      (G_impl_ywordAt s (8 : Int) fun n4 =>
      (G_impl_ywordAt s (12 : Int) fun n5 =>
      (G_impl_ywordAt s (16 : Int) fun n6 =>
      (oK (cond ((Int.tmod n3 (4 : Int)) != (0 : Int))
        (some true)
        (G_impl_yin n5 (1 : Int) (1000 : Int) fun b2 =>
          (cond (!b2)
          (some true)
          (G_impl_yfits (((ByteArray.size s) : Nat) : Int) (64 : Int) (IntKind.wrap IntKind.i64 ((4 : Int) * n5)) fun b3 =>
            (some (!b3)))))) fun j1 =>
      (cond j1
      (k (3 : Int) (0 : Int) true (0 : Int) true true (ByteArray.mk (List.toArray [])) true [] [] [] [])
      (cond ((decide (((64 : Int) ≤ (IntKind.wrap IntKind.i64 ((64 : Int) + (IntKind.wrap IntKind.i64 ((4 : Int) * n5))))))) && (decide (((IntKind.wrap IntKind.i64 ((64 : Int) + (IntKind.wrap IntKind.i64 ((4 : Int) * n5)))) ≤ (((ByteArray.size s) : Nat) : Int)))))
        (G_impl_ymix (ByteArray.extract s 64 (Int.toNat (IntKind.wrap IntKind.i64 ((64 : Int) + (IntKind.wrap IntKind.i64 ((4 : Int) * n5)))))) (71 : Int) fun n7 =>
          (cond (n7 != n6)
          (k (10 : Int) (0 : Int) true (0 : Int) true true (ByteArray.mk (List.toArray [])) true [] [] [] [])
          (cond (decide (((IntKind.wrap IntKind.i64 (n3 + (IntKind.wrap IntKind.i64 ((4 : Int) * n5)))) > (IntKind.wrap IntKind.i64 ((IntKind.wrap IntKind.i64 (n - (1 : Int))) * (256 : Int))))))
            (k (2 : Int) (0 : Int) true (0 : Int) true true (ByteArray.mk (List.toArray [])) true [] [] [] [])
            (cond (Go.Eng.repOk (ByteArray.mk (List.toArray [(0 : UInt8)])) (IntKind.wrap IntKind.i64 (n * (256 : Int))))
              (G_impl_ysplice (Go.Eng.repB (ByteArray.mk (List.toArray [(0 : UInt8)])) (IntKind.wrap IntKind.i64 (n * (256 : Int)))) n3 (ByteArray.extract s 64 (Int.toNat (IntKind.wrap IntKind.i64 ((64 : Int) + (IntKind.wrap IntKind.i64 ((4 : Int) * n5)))))) fun s1 =>
                (G_impl_TablesOf_w n n1 b l fun b4 l1 =>
                (G_impl_PutTables_w s1 (IntKind.wrap IntKind.i64 ((IntKind.wrap IntKind.i64 (n - (1 : Int))) * (256 : Int))) b4 l1 fun s2 =>
                (cond (decide ((s2 = (ByteArray.mk (List.toArray [])))))
                (k (2 : Int) (0 : Int) true (0 : Int) true true (ByteArray.mk (List.toArray [])) true [] [] [] [])
                (G_impl_NewMachine s2 fun b5 n8 b6 b7 s3 l2 l3 l4 =>
                  (cond (decide (((1 : Int) < (((List.length l2) : Nat) : Int))))
                  (elemK l2 1 fun x =>
                    (cond (Nat.blt 1 (List.length l2))
                    (cond (decide (((2 : Int) < (((List.length (nset l2 1 (IntKind.wrap IntKind.i64 ((IntKind.wrap IntKind.i64 (n - (1 : Int))) * (256 : Int))))) : Nat) : Int))))
                      (elemK (nset l2 1 (IntKind.wrap IntKind.i64 ((IntKind.wrap IntKind.i64 (n - (1 : Int))) * (256 : Int)))) 2 fun x1 =>
                        (cond (Nat.blt 2 (List.length (nset l2 1 (IntKind.wrap IntKind.i64 ((IntKind.wrap IntKind.i64 (n - (1 : Int))) * (256 : Int))))))
                        (cond (((decide (((0 : Int) ≤ (IntKind.wrap IntKind.i64 ((IntKind.wrap IntKind.i64 (n - (1 : Int))) * (256 : Int)))))) && (decide (((IntKind.wrap IntKind.i64 ((IntKind.wrap IntKind.i64 (n - (1 : Int))) * (256 : Int))) ≤ (((ByteArray.size s2) : Nat) : Int))))) && (decide (((((ByteArray.size s2) : Nat) : Int) ≤ (((ByteArray.size s2) : Nat) : Int)))))
                          (G_impl_ymeasure_ww false false [(0 : Int), (0 : Int)] [(Stage.mk (0 : Int) (ByteArray.extract s2 (Int.toNat (IntKind.wrap IntKind.i64 ((IntKind.wrap IntKind.i64 (n - (1 : Int))) * (256 : Int)))) (Int.toNat (((ByteArray.size s2) : Nat) : Int)))), (Stage.mk (1 : Int) (ByteArray.extract s 64 (Int.toNat (IntKind.wrap IntKind.i64 ((64 : Int) + (IntKind.wrap IntKind.i64 ((4 : Int) * n5)))))))] fun b8 l5 =>
                            (k (0 : Int) n4 b5 n8 b6 b7 s3 b8 (nset (nset l2 1 (IntKind.wrap IntKind.i64 ((IntKind.wrap IntKind.i64 (n - (1 : Int))) * (256 : Int)))) 2 n5) l3 l4 l5))
                          none)
                        none))
                      none)
                    none))
                  none))))))
              none))))
        none)))))))))))
theorem ea_e_impl_yboot_w (N : Nat) (G_impl_ymeasure_ww : ∀ {R : Type} (b : Bool) (b1 : Bool) (l : List Int) (l1 : List Stage) (k : Bool → (List Int) → Option R), Option R) (G_impl_NewMachine : ∀ {R : Type} (s : ByteArray) (k : Bool → Int → Bool → Bool → ByteArray → (List Int) → (List Int) → (List Int) → Option R), Option R) (G_impl_PutTables_w : ∀ {R : Type} (s : ByteArray) (n : Int) (b : Bool) (l : List FirmTable) (k : ByteArray → Option R), Option R) (G_impl_TablesOf_w : ∀ {R : Type} (n : Int) (n1 : Int) (b : Bool) (l : List Device) (k : Bool → (List FirmTable) → Option R), Option R) (G_impl_ysplice : ∀ {R : Type} (s : ByteArray) (n : Int) (s1 : ByteArray) (k : ByteArray → Option R), Option R) (G_impl_ymix : ∀ {R : Type} (s : ByteArray) (n : Int) (k : Int → Option R), Option R) (G_impl_yfits : ∀ {R : Type} (n : Int) (n1 : Int) (n2 : Int) (k : Bool → Option R), Option R) (G_impl_yin : ∀ {R : Type} (n : Int) (n1 : Int) (n2 : Int) (k : Bool → Option R), Option R) (G_impl_ywordAt : ∀ {R : Type} (s : ByteArray) (n : Int) (k : Int → Option R), Option R) (G_strings_HasPrefix : ∀ {R : Type} (s : ByteArray) (s1 : ByteArray) (k : Bool → Option R), Option R) (G_impl_BoardFault_r : ∀ {R : Type} (n : Int) (n1 : Int) (b : Bool) (l : List Device) (k : Int → Option R), Option R) {R : Type} (s : ByteArray) (n : Int) (n1 : Int) (b : Bool) (l : List Device) (K : AV → Hp E → Option R) :
    runFnI (E := E) (OA_impl_yboot_w N G_impl_ymeasure_ww G_impl_NewMachine G_impl_PutTables_w G_impl_TablesOf_w G_impl_ysplice G_impl_ymix G_impl_yfits G_impl_yin G_impl_ywordAt G_strings_HasPrefix G_impl_BoardFault_r) (noIt) sl_impl_yboot_w J_impl_yboot_w Go.Proofs.Try.f60 [(AV.sc (SV.str s)), (AV.agg [(SV.int IntKind.i64 n), (SV.int IntKind.i64 n1), (SV.slc 0 none b)])] [(some (HE.mk false (HB.rows (B.iDevice l))))] K =
      ga_g_impl_yboot_w N G_impl_ymeasure_ww G_impl_NewMachine G_impl_PutTables_w G_impl_TablesOf_w G_impl_ysplice G_impl_ymix G_impl_yfits G_impl_yin G_impl_ywordAt G_strings_HasPrefix G_impl_BoardFault_r s n n1 b l (fun n9 n10 b9 n11 b10 b11 s4 b12 l6 l7 l8 l9 => K (AV.agg [(SV.int IntKind.i64 n9), (SV.int IntKind.i64 n10), (SV.slc 1 none b9), (SV.int IntKind.i64 n11), (SV.slc 2 none b10), (SV.slc 3 none b11), (SV.str s4), (SV.int IntKind.i64 (0 : Int)), (SV.int IntKind.i64 (0 : Int)), (SV.int IntKind.i64 (0 : Int)), (SV.slc 4 none true), (SV.slc 5 none true), (SV.int IntKind.i64 (0 : Int)), (SV.slc 6 none b12)]) [(some (HE.mk false (HB.rows (B.iDevice l)))), (some (HE.mk false (HB.rows (B.i64 l6)))), (some (HE.mk false (HB.rows (B.i64 l7)))), (some (HE.mk false (HB.rows (B.i64 l8)))), (some (HE.mk false (HB.rows (B.iPortValue [])))), (some (HE.mk false (HB.rows (B.iPortValue [])))), (some (HE.mk false (HB.rows (B.i64 l9))))]) := by kernel_rfl
theorem e_impl_yboot_w (N : Nat) {R : Type} (s : ByteArray) (n : Int) (n1 : Int) (b : Bool) (l : List Device) (K : AV → Hp E → Option R) :
    runFnI (E := E) (O_impl_yboot_w N) (noIt) sl_impl_yboot_w J_impl_yboot_w Go.Proofs.Try.f60 [(AV.sc (SV.str s)), (AV.agg [(SV.int IntKind.i64 n), (SV.int IntKind.i64 n1), (SV.slc 0 none b)])] [(some (HE.mk false (HB.rows (B.iDevice l))))] K =
      g_impl_yboot_w N s n n1 b l (fun n9 n10 b9 n11 b10 b11 s4 b12 l6 l7 l8 l9 => K (AV.agg [(SV.int IntKind.i64 n9), (SV.int IntKind.i64 n10), (SV.slc 1 none b9), (SV.int IntKind.i64 n11), (SV.slc 2 none b10), (SV.slc 3 none b11), (SV.str s4), (SV.int IntKind.i64 (0 : Int)), (SV.int IntKind.i64 (0 : Int)), (SV.int IntKind.i64 (0 : Int)), (SV.slc 4 none true), (SV.slc 5 none true), (SV.int IntKind.i64 (0 : Int)), (SV.slc 6 none b12)]) [(some (HE.mk false (HB.rows (B.iDevice l)))), (some (HE.mk false (HB.rows (B.i64 l6)))), (some (HE.mk false (HB.rows (B.i64 l7)))), (some (HE.mk false (HB.rows (B.i64 l8)))), (some (HE.mk false (HB.rows (B.iPortValue [])))), (some (HE.mk false (HB.rows (B.iPortValue [])))), (some (HE.mk false (HB.rows (B.i64 l9))))]) := castPr (by kernel_rfl) (ea_e_impl_yboot_w N (g_impl_ymeasure_ww N) (g_impl_NewMachine N) (g_impl_PutTables_w N) (g_impl_TablesOf_w N) (g_impl_ysplice N) (g_impl_ymix N) (g_impl_yfits N) (g_impl_yin N) (g_impl_ywordAt N) (g_strings_HasPrefix N) (g_impl_BoardFault_r N) s n n1 b l K)
noncomputable def o_impl_yboot_w (N : Nat) {R : Type} (args : List AV) (H : Hp E) (K : AV → Hp E → Option R) : Option R :=
  match args, H with
  | [(AV.sc (SV.str s)), (AV.agg [(SV.int IntKind.i64 n), (SV.int IntKind.i64 n1), (SV.slc 0 none b)])], [(some (HE.mk false (HB.rows (B.iDevice l))))] => g_impl_yboot_w N s n n1 b l (fun n9 n10 b9 n11 b10 b11 s4 b12 l6 l7 l8 l9 => K (AV.agg [(SV.int IntKind.i64 n9), (SV.int IntKind.i64 n10), (SV.slc 1 none b9), (SV.int IntKind.i64 n11), (SV.slc 2 none b10), (SV.slc 3 none b11), (SV.str s4), (SV.int IntKind.i64 (0 : Int)), (SV.int IntKind.i64 (0 : Int)), (SV.int IntKind.i64 (0 : Int)), (SV.slc 4 none true), (SV.slc 5 none true), (SV.int IntKind.i64 (0 : Int)), (SV.slc 6 none b12)]) [(some (HE.mk false (HB.rows (B.iDevice l)))), (some (HE.mk false (HB.rows (B.i64 l6)))), (some (HE.mk false (HB.rows (B.i64 l7)))), (some (HE.mk false (HB.rows (B.i64 l8)))), (some (HE.mk false (HB.rows (B.iPortValue [])))), (some (HE.mk false (HB.rows (B.iPortValue [])))), (some (HE.mk false (HB.rows (B.i64 l9))))])
  | _, _ => none
theorem o_impl_yboot_w_ok (N : Nat) : FnOk E 60 (o_impl_yboot_w N) := by
  intro R args H K r h
  unfold o_impl_yboot_w at h
  dsimp only at h
  split at h
  · exact fnB_ok (ids := []) (top := []) ok (O_impl_yboot_w_ok N) (jn_ok _ _ _) Go.Proofs.Try.func60 (by kernel_rfl) (IT := noIt) (sl := sl_impl_yboot_w) (J := J_impl_yboot_w) (K := K) (H := [(some (HE.mk false (HB.rows (B.iDevice _))))]) (noIt_ok) (by kernel_rfl) rfl ((e_impl_yboot_w N _ _ _ _ _ K).trans h)
  · cases h
/-! ### loop.example/g00038/impl.Boot -/
abbrev sl_impl_Boot_w : SlotT := []
abbrev J_impl_Boot_w : JT := jn [] [] []
noncomputable def O_impl_Boot_w (N : Nat) : Orc E := addFn 60 (o_impl_yboot_w N) (addFn 59 (o_impl_ybig_w N) (noFn))
noncomputable def pa_impl_Boot_w__o_impl_yboot_w (N : Nat) (G_impl_yboot_w : ∀ {R : Type} (s : ByteArray) (n : Int) (n1 : Int) (b : Bool) (l : List Device) (k : Int → Int → Bool → Int → Bool → Bool → ByteArray → Bool → (List Int) → (List Int) → (List Int) → (List Int) → Option R), Option R) {R : Type} (args : List AV) (H : Hp E) (K : AV → Hp E → Option R) : Option R :=
  match args, H with
  | [(AV.sc (SV.str s)), (AV.agg [(SV.int IntKind.i64 n), (SV.int IntKind.i64 n1), (SV.slc 0 none b)])], [(some (HE.mk false (HB.rows (B.iDevice l))))] => G_impl_yboot_w s n n1 b l (fun n9 n10 b9 n11 b10 b11 s4 b12 l6 l7 l8 l9 => K (AV.agg [(SV.int IntKind.i64 n9), (SV.int IntKind.i64 n10), (SV.slc 1 none b9), (SV.int IntKind.i64 n11), (SV.slc 2 none b10), (SV.slc 3 none b11), (SV.str s4), (SV.int IntKind.i64 (0 : Int)), (SV.int IntKind.i64 (0 : Int)), (SV.int IntKind.i64 (0 : Int)), (SV.slc 4 none true), (SV.slc 5 none true), (SV.int IntKind.i64 (0 : Int)), (SV.slc 6 none b12)]) [(some (HE.mk false (HB.rows (B.iDevice l)))), (some (HE.mk false (HB.rows (B.i64 l6)))), (some (HE.mk false (HB.rows (B.i64 l7)))), (some (HE.mk false (HB.rows (B.i64 l8)))), (some (HE.mk false (HB.rows (B.iPortValue [])))), (some (HE.mk false (HB.rows (B.iPortValue [])))), (some (HE.mk false (HB.rows (B.i64 l9))))])
  | _, _ => none
noncomputable def pa_impl_Boot_w__o_impl_ybig_w (N : Nat) (G_impl_ybig_w : ∀ {R : Type} (b : Bool) (l : List ByteArray) (k : Bool → Option R), Option R) {R : Type} (args : List AV) (H : Hp E) (K : AV → Hp E → Option R) : Option R :=
  match args, H with
  | [(AV.sc (SV.slc 0 none b))], [(some (HE.mk false (HB.rows (B.str l))))] => G_impl_ybig_w b l (fun b2 => K (AV.sc (SV.bool b2)) [(some (HE.mk false (HB.rows (B.str l))))])
  | _, _ => none
noncomputable def OA_impl_Boot_w (N : Nat) (G_impl_yboot_w : ∀ {R : Type} (s : ByteArray) (n : Int) (n1 : Int) (b : Bool) (l : List Device) (k : Int → Int → Bool → Int → Bool → Bool → ByteArray → Bool → (List Int) → (List Int) → (List Int) → (List Int) → Option R), Option R) (G_impl_ybig_w : ∀ {R : Type} (b : Bool) (l : List ByteArray) (k : Bool → Option R), Option R) : Orc E := addFn 60 (pa_impl_Boot_w__o_impl_yboot_w N G_impl_yboot_w) (addFn 59 (pa_impl_Boot_w__o_impl_ybig_w N G_impl_ybig_w) (noFn))
theorem O_impl_Boot_w_ok (N : Nat) : OrcOk (O_impl_Boot_w N) := addFn_ok (o_impl_yboot_w_ok N) (addFn_ok (o_impl_ybig_w_ok N) (noFn_ok))
noncomputable def g_impl_Boot_w (N : Nat) {R : Type} (s : ByteArray) (n : Int) (n1 : Int) (b : Bool) (l : List Device) (k : Int → Int → Bool → Int → Bool → Bool → ByteArray → Bool → (List Int) → (List Int) → (List Int) → (List Int) → Option R) : Option R :=
  (g_impl_ybig_w N false [s] fun b1 =>
  (cond b1
  (k (2 : Int) (0 : Int) true (0 : Int) true true (ByteArray.mk (List.toArray [])) true [] [] [] [])
  (g_impl_yboot_w N s n n1 b l fun n2 n3 b2 n4 b3 b4 s1 b5 l1 l2 l3 l4 =>
    (k n2 n3 b2 n4 b3 b4 s1 b5 l1 l2 l3 l4))))
noncomputable def ga_g_impl_Boot_w (N : Nat) (G_impl_yboot_w : ∀ {R : Type} (s : ByteArray) (n : Int) (n1 : Int) (b : Bool) (l : List Device) (k : Int → Int → Bool → Int → Bool → Bool → ByteArray → Bool → (List Int) → (List Int) → (List Int) → (List Int) → Option R), Option R) (G_impl_ybig_w : ∀ {R : Type} (b : Bool) (l : List ByteArray) (k : Bool → Option R), Option R) {R : Type} (s : ByteArray) (n : Int) (n1 : Int) (b : Bool) (l : List Device) (k : Int → Int → Bool → Int → Bool → Bool → ByteArray → Bool → (List Int) → (List Int) → (List Int) → (List Int) → Option R) : Option R :=
  (G_impl_ybig_w false [s] fun b1 =>
  (cond b1
  (k (2 : Int) (0 : Int) true (0 : Int) true true (ByteArray.mk (List.toArray [])) true [] [] [] [])
  (G_impl_yboot_w s n n1 b l fun n2 n3 b2 n4 b3 b4 s1 b5 l1 l2 l3 l4 =>
    (k n2 n3 b2 n4 b3 b4 s1 b5 l1 l2 l3 l4))))
theorem ea_e_impl_Boot_w (N : Nat) (G_impl_yboot_w : ∀ {R : Type} (s : ByteArray) (n : Int) (n1 : Int) (b : Bool) (l : List Device) (k : Int → Int → Bool → Int → Bool → Bool → ByteArray → Bool → (List Int) → (List Int) → (List Int) → (List Int) → Option R), Option R) (G_impl_ybig_w : ∀ {R : Type} (b : Bool) (l : List ByteArray) (k : Bool → Option R), Option R) {R : Type} (s : ByteArray) (n : Int) (n1 : Int) (b : Bool) (l : List Device) (K : AV → Hp E → Option R) :
    runFnI (E := E) (OA_impl_Boot_w N G_impl_yboot_w G_impl_ybig_w) (noIt) sl_impl_Boot_w J_impl_Boot_w Go.Proofs.Try.f16 [(AV.sc (SV.str s)), (AV.agg [(SV.int IntKind.i64 n), (SV.int IntKind.i64 n1), (SV.slc 0 none b)])] [(some (HE.mk false (HB.rows (B.iDevice l))))] K =
      ga_g_impl_Boot_w N G_impl_yboot_w G_impl_ybig_w s n n1 b l (fun n5 n6 b6 n7 b7 b8 s2 b9 l5 l6 l7 l8 => K (AV.agg [(SV.int IntKind.i64 n5), (SV.int IntKind.i64 n6), (SV.slc 1 none b6), (SV.int IntKind.i64 n7), (SV.slc 2 none b7), (SV.slc 3 none b8), (SV.str s2), (SV.int IntKind.i64 (0 : Int)), (SV.int IntKind.i64 (0 : Int)), (SV.int IntKind.i64 (0 : Int)), (SV.slc 4 none true), (SV.slc 5 none true), (SV.int IntKind.i64 (0 : Int)), (SV.slc 6 none b9)]) [(some (HE.mk false (HB.rows (B.iDevice l)))), (some (HE.mk false (HB.rows (B.i64 l5)))), (some (HE.mk false (HB.rows (B.i64 l6)))), (some (HE.mk false (HB.rows (B.i64 l7)))), (some (HE.mk false (HB.rows (B.iPortValue [])))), (some (HE.mk false (HB.rows (B.iPortValue [])))), (some (HE.mk false (HB.rows (B.i64 l8))))]) := by kernel_rfl
theorem e_impl_Boot_w (N : Nat) {R : Type} (s : ByteArray) (n : Int) (n1 : Int) (b : Bool) (l : List Device) (K : AV → Hp E → Option R) :
    runFnI (E := E) (O_impl_Boot_w N) (noIt) sl_impl_Boot_w J_impl_Boot_w Go.Proofs.Try.f16 [(AV.sc (SV.str s)), (AV.agg [(SV.int IntKind.i64 n), (SV.int IntKind.i64 n1), (SV.slc 0 none b)])] [(some (HE.mk false (HB.rows (B.iDevice l))))] K =
      g_impl_Boot_w N s n n1 b l (fun n5 n6 b6 n7 b7 b8 s2 b9 l5 l6 l7 l8 => K (AV.agg [(SV.int IntKind.i64 n5), (SV.int IntKind.i64 n6), (SV.slc 1 none b6), (SV.int IntKind.i64 n7), (SV.slc 2 none b7), (SV.slc 3 none b8), (SV.str s2), (SV.int IntKind.i64 (0 : Int)), (SV.int IntKind.i64 (0 : Int)), (SV.int IntKind.i64 (0 : Int)), (SV.slc 4 none true), (SV.slc 5 none true), (SV.int IntKind.i64 (0 : Int)), (SV.slc 6 none b9)]) [(some (HE.mk false (HB.rows (B.iDevice l)))), (some (HE.mk false (HB.rows (B.i64 l5)))), (some (HE.mk false (HB.rows (B.i64 l6)))), (some (HE.mk false (HB.rows (B.i64 l7)))), (some (HE.mk false (HB.rows (B.iPortValue [])))), (some (HE.mk false (HB.rows (B.iPortValue [])))), (some (HE.mk false (HB.rows (B.i64 l8))))]) := castPr (by kernel_rfl) (ea_e_impl_Boot_w N (g_impl_yboot_w N) (g_impl_ybig_w N) s n n1 b l K)
noncomputable def o_impl_Boot_w (N : Nat) {R : Type} (args : List AV) (H : Hp E) (K : AV → Hp E → Option R) : Option R :=
  match args, H with
  | [(AV.sc (SV.str s)), (AV.agg [(SV.int IntKind.i64 n), (SV.int IntKind.i64 n1), (SV.slc 0 none b)])], [(some (HE.mk false (HB.rows (B.iDevice l))))] => g_impl_Boot_w N s n n1 b l (fun n5 n6 b6 n7 b7 b8 s2 b9 l5 l6 l7 l8 => K (AV.agg [(SV.int IntKind.i64 n5), (SV.int IntKind.i64 n6), (SV.slc 1 none b6), (SV.int IntKind.i64 n7), (SV.slc 2 none b7), (SV.slc 3 none b8), (SV.str s2), (SV.int IntKind.i64 (0 : Int)), (SV.int IntKind.i64 (0 : Int)), (SV.int IntKind.i64 (0 : Int)), (SV.slc 4 none true), (SV.slc 5 none true), (SV.int IntKind.i64 (0 : Int)), (SV.slc 6 none b9)]) [(some (HE.mk false (HB.rows (B.iDevice l)))), (some (HE.mk false (HB.rows (B.i64 l5)))), (some (HE.mk false (HB.rows (B.i64 l6)))), (some (HE.mk false (HB.rows (B.i64 l7)))), (some (HE.mk false (HB.rows (B.iPortValue [])))), (some (HE.mk false (HB.rows (B.iPortValue [])))), (some (HE.mk false (HB.rows (B.i64 l8))))])
  | _, _ => none
theorem o_impl_Boot_w_ok (N : Nat) : FnOk E 16 (o_impl_Boot_w N) := by
  intro R args H K r h
  unfold o_impl_Boot_w at h
  dsimp only at h
  split at h
  · exact fnB_ok (ids := []) (top := []) ok (O_impl_Boot_w_ok N) (jn_ok _ _ _) Go.Proofs.Try.func16 (by kernel_rfl) (IT := noIt) (sl := sl_impl_Boot_w) (J := J_impl_Boot_w) (K := K) (H := [(some (HE.mk false (HB.rows (B.iDevice _))))]) (noIt_ok) (by kernel_rfl) rfl ((e_impl_Boot_w N _ _ _ _ _ K).trans h)
  · cases h
/-! ### loop.example/g00038/laws.eqInt64S -/
abbrev sl_laws_eqInt64S_ww : SlotT := [(0, ([0, 1, 5], [4]))]
abbrev J_laws_eqInt64S_ww : JT := jn [] [] []
noncomputable def O_laws_eqInt64S_ww (N : Nat) : Orc E := noFn
theorem O_laws_eqInt64S_ww_ok (N : Nat) : OrcOk (O_laws_eqInt64S_ww N) := noFn_ok
noncomputable def s_laws_eqInt64S_ww_0 (N : Nat) {R : Type} (b2 : Bool) (b3 : Bool) (l2 : List Int) (l3 : List Int) (n : Int) (ag : Int → Option R)  (kR : Option R) (kN : Option R) : Option R :=
  (cond (decide ((n < (((List.length l2) : Nat) : Int))))
  (cond ((decide (((0 : Int) ≤ n))) && (decide ((n < (((List.length l2) : Nat) : Int)))))
    (elemK l2 (Int.toNat n) fun x =>
      (cond ((decide (((0 : Int) ≤ n))) && (decide ((n < (((List.length l3) : Nat) : Int)))))
      (elemK l3 (Int.toNat n) fun x1 =>
        (cond (x != x1)
        kR
        (ag (IntKind.wrap IntKind.i64 (n + (1 : Int))))))
      none))
    none)
  kN)
noncomputable def l_laws_eqInt64S_ww_0 (N : Nat) {R : Type} (b2 : Bool) (b3 : Bool) (l2 : List Int) (l3 : List Int) (kR : Option R) (kN : Option R) : Nat → Int → Option R
  | 0, _ => none
  | f + 1, n => s_laws_eqInt64S_ww_0 N b2 b3 l2 l3 n (fun n => l_laws_eqInt64S_ww_0 N b2 b3 l2 l3 kR kN f n)  kR kN
noncomputable def c_laws_eqInt64S_ww_0 (N : Nat) {R : Type} (b2 : Bool) (b3 : Bool) (l2 : List Int) (l3 : List Int) (n : Int) (kR : Option R) (kN : Option R) : Option R := l_laws_eqInt64S_ww_0 N b2 b3 l2 l3 kR kN N n
theorem se_laws_eqInt64S_ww_0 (N : Nat) {R : Type} (b2 : Bool) (b3 : Bool) (l2 : List Int) (l3 : List Int) (n : Int) (AG : List (Option AV) → Hp E → Option R) (KL : Ex → List (Option AV) → Hp E → Option R) :
    iterStep (E := E) (O_laws_eqInt64S_ww N) (fun {R} => LI (noIt) 2 26 sl_laws_eqInt64S_ww (R := R)) J_laws_eqInt64S_ww 2 26 0 [0, 1, 5] [4] (body Go.Proofs.Try.f45 0) AG KL [(some (AV.sc (SV.slc 0 none b2))), (some (AV.sc (SV.slc 1 none b3))), (some (AV.sc (SV.int IntKind.i64 n)))] [(some (HE.mk false (HB.rows (B.i64 l2)))), (some (HE.mk false (HB.rows (B.i64 l3))))] =
      s_laws_eqInt64S_ww_0 N b2 b3 l2 l3 n (fun n => AG [(some (AV.sc (SV.slc 0 none b2))), (some (AV.sc (SV.slc 1 none b3))), (some (AV.sc (SV.int IntKind.i64 n)))] [(some (HE.mk false (HB.rows (B.i64 l2)))), (some (HE.mk false (HB.rows (B.i64 l3))))])  (KL Ex.ret [(some (AV.sc (SV.bool false)))] [(some (HE.mk false (HB.rows (B.i64 l2)))), (some (HE.mk false (HB.rows (B.i64 l3))))]) (KL Ex.normal [none] [(some (HE.mk false (HB.rows (B.i64 l2)))), (some (HE.mk false (HB.rows (B.i64 l3))))]) := by kernel_rfl
theorem le_laws_eqInt64S_ww_0 (N : Nat) {R : Type} (b2 : Bool) (b3 : Bool) (l2 : List Int) (l3 : List Int) (KL : Ex → List (Option AV) → Hp E → Option R) : ∀ (f : Nat), ∀ (n : Int), iterK (E := E) (O_laws_eqInt64S_ww N) (fun {R} => LI (noIt) 2 26 sl_laws_eqInt64S_ww (R := R)) J_laws_eqInt64S_ww 2 26 0 [0, 1, 5] [4] (body Go.Proofs.Try.f45 0) f [(some (AV.sc (SV.slc 0 none b2))), (some (AV.sc (SV.slc 1 none b3))), (some (AV.sc (SV.int IntKind.i64 n)))] [(some (HE.mk false (HB.rows (B.i64 l2)))), (some (HE.mk false (HB.rows (B.i64 l3))))] KL = l_laws_eqInt64S_ww_0 N b2 b3 l2 l3 (KL Ex.ret [(some (AV.sc (SV.bool false)))] [(some (HE.mk false (HB.rows (B.i64 l2)))), (some (HE.mk false (HB.rows (B.i64 l3))))]) (KL Ex.normal [none] [(some (HE.mk false (HB.rows (B.i64 l2)))), (some (HE.mk false (HB.rows (B.i64 l3))))]) f n := by
  intro f
  induction f with
  | zero => intros; rfl
  | succ f ih =>
    intro n
    rw [iterK_succ, se_laws_eqInt64S_ww_0]
    exact (congrArg (fun z0 => s_laws_eqInt64S_ww_0 N b2 b3 l2 l3 n z0 (KL Ex.ret [(some (AV.sc (SV.bool false)))] [(some (HE.mk false (HB.rows (B.i64 l2)))), (some (HE.mk false (HB.rows (B.i64 l3))))]) (KL Ex.normal [none] [(some (HE.mk false (HB.rows (B.i64 l2)))), (some (HE.mk false (HB.rows (B.i64 l3))))])) (funext fun n => ih n))
noncomputable def i_laws_eqInt64S_ww_0 (N : Nat) {R : Type} (vs : List (Option AV)) (H : Hp E) (KL : Ex → List (Option AV) → Hp E → Option R) : Option R :=
  match vs, H with
  | [(some (AV.sc (SV.slc 0 none b2))), (some (AV.sc (SV.slc 1 none b3))), (some (AV.sc (SV.int IntKind.i64 n)))], [(some (HE.mk false (HB.rows (B.i64 l2)))), (some (HE.mk false (HB.rows (B.i64 l3))))] => c_laws_eqInt64S_ww_0 N b2 b3 l2 l3 n (KL Ex.ret [(some (AV.sc (SV.bool false)))] [(some (HE.mk false (HB.rows (B.i64 l2)))), (some (HE.mk false (HB.rows (B.i64 l3))))]) (KL Ex.normal [none] [(some (HE.mk false (HB.rows (B.i64 l2)))), (some (HE.mk false (HB.rows (B.i64 l3))))])
  | _, _ => none
noncomputable def IT_laws_eqInt64S_ww_0 (N : Nat) : Its E := addIt 0 (i_laws_eqInt64S_ww_0 N) (noIt)
theorem IT_laws_eqInt64S_ww_0_ok (N : Nat) : ItOk (IT_laws_eqInt64S_ww_0 N) 2 26 sl_laws_eqInt64S_ww (lsB Go.Proofs.Try.f45 [0]) :=
  addItB_ok (inner := []) ok (O_laws_eqInt64S_ww_ok N) (jn_ok _ _ _) (noIt_ok) rfl (by kernel_rfl) rfl fun vs H KL r h => by
    unfold i_laws_eqInt64S_ww_0 at h
    split at h
    · exact ⟨_, (le_laws_eqInt64S_ww_0 N _ _ _ _ KL N _).trans h⟩
    · cases h
noncomputable def g_laws_eqInt64S_ww (N : Nat) {R : Type} (b : Bool) (b1 : Bool) (l : List Int) (l1 : List Int) (k : Bool → Option R) : Option R :=
  (cond ((((List.length l) : Nat) : Int) != (((List.length l1) : Nat) : Int))
  (k false)
  (c_laws_eqInt64S_ww_0 N b b1 l l1 (0 : Int) (
    (k false)) (
    (k true))))
theorem e_laws_eqInt64S_ww (N : Nat) {R : Type} (b : Bool) (b1 : Bool) (l : List Int) (l1 : List Int) (K : AV → Hp E → Option R) :
    runFnI (E := E) (O_laws_eqInt64S_ww N) (IT_laws_eqInt64S_ww_0 N) sl_laws_eqInt64S_ww J_laws_eqInt64S_ww Go.Proofs.Try.f45 [(AV.sc (SV.slc 0 none b)), (AV.sc (SV.slc 1 none b1))] [(some (HE.mk false (HB.rows (B.i64 l)))), (some (HE.mk false (HB.rows (B.i64 l1))))] K =
      g_laws_eqInt64S_ww N b b1 l l1 (fun b4 => K (AV.sc (SV.bool b4)) [(some (HE.mk false (HB.rows (B.i64 l)))), (some (HE.mk false (HB.rows (B.i64 l1))))]) := by kernel_rfl
noncomputable def o_laws_eqInt64S_ww (N : Nat) {R : Type} (args : List AV) (H : Hp E) (K : AV → Hp E → Option R) : Option R :=
  match args, H with
  | [(AV.sc (SV.slc 0 none b)), (AV.sc (SV.slc 1 none b1))], [(some (HE.mk false (HB.rows (B.i64 l)))), (some (HE.mk false (HB.rows (B.i64 l1))))] => g_laws_eqInt64S_ww N b b1 l l1 (fun b4 => K (AV.sc (SV.bool b4)) [(some (HE.mk false (HB.rows (B.i64 l)))), (some (HE.mk false (HB.rows (B.i64 l1))))])
  | _, _ => none
theorem o_laws_eqInt64S_ww_ok (N : Nat) : FnOk E 45 (o_laws_eqInt64S_ww N) := by
  intro R args H K r h
  unfold o_laws_eqInt64S_ww at h
  dsimp only at h
  split at h
  · exact fnB_ok (ids := [0]) (top := [0]) ok (O_laws_eqInt64S_ww_ok N) (jn_ok _ _ _) Go.Proofs.Try.func45 (by kernel_rfl) (IT := IT_laws_eqInt64S_ww_0 N) (sl := sl_laws_eqInt64S_ww) (J := J_laws_eqInt64S_ww) (K := K) (H := [(some (HE.mk false (HB.rows (B.i64 _)))), (some (HE.mk false (HB.rows (B.i64 _))))]) (IT_laws_eqInt64S_ww_0_ok N) (by kernel_rfl) rfl ((e_laws_eqInt64S_ww N _ _ _ _ K).trans h)
  · cases h
/-! ### loop.example/g00038/laws.eqPortValue -/
abbrev sl_laws_eqPortValue : SlotT := []
abbrev J_laws_eqPortValue : JT := jn [] [] []
noncomputable def O_laws_eqPortValue (N : Nat) : Orc E := noFn
theorem O_laws_eqPortValue_ok (N : Nat) : OrcOk (O_laws_eqPortValue N) := noFn_ok
noncomputable def g_laws_eqPortValue (N : Nat) {R : Type} (n : Int) (n1 : Int) (n2 : Int) (n3 : Int) (k : Bool → Option R) : Option R :=
  (cond (n != n2)
  (k false)
  (cond (n1 != n3)
    (k false)
    (k true)))
theorem e_laws_eqPortValue (N : Nat) {R : Type} (n : Int) (n1 : Int) (n2 : Int) (n3 : Int) (K : AV → Hp E → Option R) :
    runFnI (E := E) (O_laws_eqPortValue N) (noIt) sl_laws_eqPortValue J_laws_eqPortValue Go.Proofs.Try.f82 [(AV.agg [(SV.int IntKind.i64 n), (SV.int IntKind.i64 n1)]), (AV.agg [(SV.int IntKind.i64 n2), (SV.int IntKind.i64 n3)])] [] K =
      g_laws_eqPortValue N n n1 n2 n3 (fun b => K (AV.sc (SV.bool b)) []) := by kernel_rfl
noncomputable def o_laws_eqPortValue (N : Nat) {R : Type} (args : List AV) (H : Hp E) (K : AV → Hp E → Option R) : Option R :=
  match args, H with
  | [(AV.agg [(SV.int IntKind.i64 n), (SV.int IntKind.i64 n1)]), (AV.agg [(SV.int IntKind.i64 n2), (SV.int IntKind.i64 n3)])], [] => g_laws_eqPortValue N n n1 n2 n3 (fun b => K (AV.sc (SV.bool b)) [])
  | _, _ => none
theorem o_laws_eqPortValue_ok (N : Nat) : FnOk E 82 (o_laws_eqPortValue N) := by
  intro R args H K r h
  unfold o_laws_eqPortValue at h
  dsimp only at h
  split at h
  · exact fnB_ok (ids := []) (top := []) ok (O_laws_eqPortValue_ok N) (jn_ok _ _ _) Go.Proofs.Try.func82 (by kernel_rfl) (IT := noIt) (sl := sl_laws_eqPortValue) (J := J_laws_eqPortValue) (K := K) (H := []) (noIt_ok) (by kernel_rfl) rfl ((e_laws_eqPortValue N _ _ _ _ K).trans h)
  · cases h
/-! ### loop.example/g00038/laws.eqPortValueS -/
abbrev sl_laws_eqPortValueS_ww : SlotT := [(0, ([0, 1, 5], [4]))]
abbrev J_laws_eqPortValueS_ww : JT := jn [] [] []
noncomputable def O_laws_eqPortValueS_ww (N : Nat) : Orc E := addFn 82 (o_laws_eqPortValue N) (noFn)
theorem O_laws_eqPortValueS_ww_ok (N : Nat) : OrcOk (O_laws_eqPortValueS_ww N) := addFn_ok (o_laws_eqPortValue_ok N) (noFn_ok)
noncomputable def s_laws_eqPortValueS_ww_0 (N : Nat) {R : Type} (b2 : Bool) (b3 : Bool) (l2 : List PortValue) (l3 : List PortValue) (n : Int) (ag : Int → Option R)  (kR : Option R) (kN : Option R) : Option R :=
  (cond (decide ((n < (((List.length l2) : Nat) : Int))))
  (cond ((decide (((0 : Int) ≤ n))) && (decide ((n < (((List.length l2) : Nat) : Int)))))
    (elemK l2 (Int.toNat n) fun x =>
      (cond ((decide (((0 : Int) ≤ n))) && (decide ((n < (((List.length l3) : Nat) : Int)))))
      (elemK l3 (Int.toNat n) fun x1 =>
        (g_laws_eqPortValue N (PortValue.fPort x) (PortValue.fValue x) (PortValue.fPort x1) (PortValue.fValue x1) fun b4 =>
        (cond (!b4)
        kR
        (ag (IntKind.wrap IntKind.i64 (n + (1 : Int)))))))
      none))
    none)
  kN)
noncomputable def l_laws_eqPortValueS_ww_0 (N : Nat) {R : Type} (b2 : Bool) (b3 : Bool) (l2 : List PortValue) (l3 : List PortValue) (kR : Option R) (kN : Option R) : Nat → Int → Option R
  | 0, _ => none
  | f + 1, n => s_laws_eqPortValueS_ww_0 N b2 b3 l2 l3 n (fun n => l_laws_eqPortValueS_ww_0 N b2 b3 l2 l3 kR kN f n)  kR kN
noncomputable def c_laws_eqPortValueS_ww_0 (N : Nat) {R : Type} (b2 : Bool) (b3 : Bool) (l2 : List PortValue) (l3 : List PortValue) (n : Int) (kR : Option R) (kN : Option R) : Option R := l_laws_eqPortValueS_ww_0 N b2 b3 l2 l3 kR kN N n
theorem se_laws_eqPortValueS_ww_0 (N : Nat) {R : Type} (b2 : Bool) (b3 : Bool) (l2 : List PortValue) (l3 : List PortValue) (n : Int) (AG : List (Option AV) → Hp E → Option R) (KL : Ex → List (Option AV) → Hp E → Option R) :
    iterStep (E := E) (O_laws_eqPortValueS_ww N) (fun {R} => LI (noIt) 2 27 sl_laws_eqPortValueS_ww (R := R)) J_laws_eqPortValueS_ww 2 27 0 [0, 1, 5] [4] (body Go.Proofs.Try.f46 0) AG KL [(some (AV.sc (SV.slc 0 none b2))), (some (AV.sc (SV.slc 1 none b3))), (some (AV.sc (SV.int IntKind.i64 n)))] [(some (HE.mk false (HB.rows (B.iPortValue l2)))), (some (HE.mk false (HB.rows (B.iPortValue l3))))] =
      s_laws_eqPortValueS_ww_0 N b2 b3 l2 l3 n (fun n => AG [(some (AV.sc (SV.slc 0 none b2))), (some (AV.sc (SV.slc 1 none b3))), (some (AV.sc (SV.int IntKind.i64 n)))] [(some (HE.mk false (HB.rows (B.iPortValue l2)))), (some (HE.mk false (HB.rows (B.iPortValue l3))))])  (KL Ex.ret [(some (AV.sc (SV.bool false)))] [(some (HE.mk false (HB.rows (B.iPortValue l2)))), (some (HE.mk false (HB.rows (B.iPortValue l3))))]) (KL Ex.normal [none] [(some (HE.mk false (HB.rows (B.iPortValue l2)))), (some (HE.mk false (HB.rows (B.iPortValue l3))))]) := by kernel_rfl
theorem le_laws_eqPortValueS_ww_0 (N : Nat) {R : Type} (b2 : Bool) (b3 : Bool) (l2 : List PortValue) (l3 : List PortValue) (KL : Ex → List (Option AV) → Hp E → Option R) : ∀ (f : Nat), ∀ (n : Int), iterK (E := E) (O_laws_eqPortValueS_ww N) (fun {R} => LI (noIt) 2 27 sl_laws_eqPortValueS_ww (R := R)) J_laws_eqPortValueS_ww 2 27 0 [0, 1, 5] [4] (body Go.Proofs.Try.f46 0) f [(some (AV.sc (SV.slc 0 none b2))), (some (AV.sc (SV.slc 1 none b3))), (some (AV.sc (SV.int IntKind.i64 n)))] [(some (HE.mk false (HB.rows (B.iPortValue l2)))), (some (HE.mk false (HB.rows (B.iPortValue l3))))] KL = l_laws_eqPortValueS_ww_0 N b2 b3 l2 l3 (KL Ex.ret [(some (AV.sc (SV.bool false)))] [(some (HE.mk false (HB.rows (B.iPortValue l2)))), (some (HE.mk false (HB.rows (B.iPortValue l3))))]) (KL Ex.normal [none] [(some (HE.mk false (HB.rows (B.iPortValue l2)))), (some (HE.mk false (HB.rows (B.iPortValue l3))))]) f n := by
  intro f
  induction f with
  | zero => intros; rfl
  | succ f ih =>
    intro n
    rw [iterK_succ, se_laws_eqPortValueS_ww_0]
    exact (congrArg (fun z0 => s_laws_eqPortValueS_ww_0 N b2 b3 l2 l3 n z0 (KL Ex.ret [(some (AV.sc (SV.bool false)))] [(some (HE.mk false (HB.rows (B.iPortValue l2)))), (some (HE.mk false (HB.rows (B.iPortValue l3))))]) (KL Ex.normal [none] [(some (HE.mk false (HB.rows (B.iPortValue l2)))), (some (HE.mk false (HB.rows (B.iPortValue l3))))])) (funext fun n => ih n))
noncomputable def i_laws_eqPortValueS_ww_0 (N : Nat) {R : Type} (vs : List (Option AV)) (H : Hp E) (KL : Ex → List (Option AV) → Hp E → Option R) : Option R :=
  match vs, H with
  | [(some (AV.sc (SV.slc 0 none b2))), (some (AV.sc (SV.slc 1 none b3))), (some (AV.sc (SV.int IntKind.i64 n)))], [(some (HE.mk false (HB.rows (B.iPortValue l2)))), (some (HE.mk false (HB.rows (B.iPortValue l3))))] => c_laws_eqPortValueS_ww_0 N b2 b3 l2 l3 n (KL Ex.ret [(some (AV.sc (SV.bool false)))] [(some (HE.mk false (HB.rows (B.iPortValue l2)))), (some (HE.mk false (HB.rows (B.iPortValue l3))))]) (KL Ex.normal [none] [(some (HE.mk false (HB.rows (B.iPortValue l2)))), (some (HE.mk false (HB.rows (B.iPortValue l3))))])
  | _, _ => none
noncomputable def IT_laws_eqPortValueS_ww_0 (N : Nat) : Its E := addIt 0 (i_laws_eqPortValueS_ww_0 N) (noIt)
theorem IT_laws_eqPortValueS_ww_0_ok (N : Nat) : ItOk (IT_laws_eqPortValueS_ww_0 N) 2 27 sl_laws_eqPortValueS_ww (lsB Go.Proofs.Try.f46 [0]) :=
  addItB_ok (inner := []) ok (O_laws_eqPortValueS_ww_ok N) (jn_ok _ _ _) (noIt_ok) rfl (by kernel_rfl) rfl fun vs H KL r h => by
    unfold i_laws_eqPortValueS_ww_0 at h
    split at h
    · exact ⟨_, (le_laws_eqPortValueS_ww_0 N _ _ _ _ KL N _).trans h⟩
    · cases h
noncomputable def g_laws_eqPortValueS_ww (N : Nat) {R : Type} (b : Bool) (b1 : Bool) (l : List PortValue) (l1 : List PortValue) (k : Bool → Option R) : Option R :=
  (cond ((((List.length l) : Nat) : Int) != (((List.length l1) : Nat) : Int))
  (k false)
  (c_laws_eqPortValueS_ww_0 N b b1 l l1 (0 : Int) (
    (k false)) (
    (k true))))
theorem e_laws_eqPortValueS_ww (N : Nat) {R : Type} (b : Bool) (b1 : Bool) (l : List PortValue) (l1 : List PortValue) (K : AV → Hp E → Option R) :
    runFnI (E := E) (O_laws_eqPortValueS_ww N) (IT_laws_eqPortValueS_ww_0 N) sl_laws_eqPortValueS_ww J_laws_eqPortValueS_ww Go.Proofs.Try.f46 [(AV.sc (SV.slc 0 none b)), (AV.sc (SV.slc 1 none b1))] [(some (HE.mk false (HB.rows (B.iPortValue l)))), (some (HE.mk false (HB.rows (B.iPortValue l1))))] K =
      g_laws_eqPortValueS_ww N b b1 l l1 (fun b5 => K (AV.sc (SV.bool b5)) [(some (HE.mk false (HB.rows (B.iPortValue l)))), (some (HE.mk false (HB.rows (B.iPortValue l1))))]) := by kernel_rfl
noncomputable def o_laws_eqPortValueS_ww (N : Nat) {R : Type} (args : List AV) (H : Hp E) (K : AV → Hp E → Option R) : Option R :=
  match args, H with
  | [(AV.sc (SV.slc 0 none b)), (AV.sc (SV.slc 1 none b1))], [(some (HE.mk false (HB.rows (B.iPortValue l)))), (some (HE.mk false (HB.rows (B.iPortValue l1))))] => g_laws_eqPortValueS_ww N b b1 l l1 (fun b5 => K (AV.sc (SV.bool b5)) [(some (HE.mk false (HB.rows (B.iPortValue l)))), (some (HE.mk false (HB.rows (B.iPortValue l1))))])
  | _, _ => none
theorem o_laws_eqPortValueS_ww_ok (N : Nat) : FnOk E 46 (o_laws_eqPortValueS_ww N) := by
  intro R args H K r h
  unfold o_laws_eqPortValueS_ww at h
  dsimp only at h
  split at h
  · exact fnB_ok (ids := [0]) (top := [0]) ok (O_laws_eqPortValueS_ww_ok N) (jn_ok _ _ _) Go.Proofs.Try.func46 (by kernel_rfl) (IT := IT_laws_eqPortValueS_ww_0 N) (sl := sl_laws_eqPortValueS_ww) (J := J_laws_eqPortValueS_ww) (K := K) (H := [(some (HE.mk false (HB.rows (B.iPortValue _)))), (some (HE.mk false (HB.rows (B.iPortValue _))))]) (IT_laws_eqPortValueS_ww_0_ok N) (by kernel_rfl) rfl ((e_laws_eqPortValueS_ww N _ _ _ _ K).trans h)
  · cases h
end Go.Sa
