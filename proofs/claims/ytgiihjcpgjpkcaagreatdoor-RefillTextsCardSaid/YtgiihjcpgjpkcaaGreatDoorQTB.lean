/- Contracts of functions of the given program: each Go function as a plain Lean function (name.f) and the proof that its call answers just so, for every reading of its arguments. Written by the session's program wip/xprint.py out of the translation. -/
import Derived.Test.YtgiihjcpgjpkcaaGreatDoorQ0
namespace Go.Proofs.YtgiihjcpgjpkcaaGreatDoor.Q
open Go.RowKit Go.Proofs.YtgiihjcpgjpkcaaGreatDoorW.PrintWords Go.Proofs.YtgiihjcpgjpkcaaGreatDoorW.PrintLast Go.Proofs.YtgiihjcpgjpkcaaGreatDoorW.PrintMore
attribute [local go_sem] max2_int min2_int max_two min_two max_three min_three max_four min_four   -- for this text's walks alone
set_option linter.unusedVariables false
set_option linter.unusedSimpArgs false
theorem u8w_ (x : Int) : wrap64 (IntKind.u8.wrap x) = x % 256 := by
  have e : IntKind.u8.wrap x = x % 256 := by first | rfl | (simp [IntKind.wrap]; done) | (unfold IntKind.wrap; rfl)
  rw [e]
  unfold wrap64
  omega

/-! ### waterhourref04_words: function 35 -/
def waterhourref04_words.l0 : Nat → ByteArray → List ByteArray → Int → Option (List ByteArray)
 | 0, _, _, _ => none
 | k + 1, x0, x3, x4 => if x4 < (x0.size : Int) then (if 0 ≤ x4 then (if (bt x0 x4) = 32 then (if x3.length < 8796093022208 then (waterhourref04_words.l0 k x0 (x3 ++ [(⟨#[]⟩ : ByteArray)]) (wrap64 (x4 + 1))) else (none)) else (if 0 ≤ (wrap64 ((x3.length : Int) - 1)) then (if (wrap64 ((x3.length : Int) - 1)) < (x3.length : Int) then (if x4 ≤ (wrap64 (x4 + 1)) then (if (wrap64 (x4 + 1)) ≤ (x0.size : Int) then (if (rdOf ByteArray.empty x3 (wrap64 ((x3.length : Int) - 1))).size + (x0.extract (x4 : Int).toNat ((wrap64 (x4 + 1)) : Int).toNat).size ≤ 9223372036854775807 then (waterhourref04_words.l0 k x0 (x3.set ((wrap64 ((x3.length : Int) - 1)) : Int).toNat ((rdOf ByteArray.empty x3 (wrap64 ((x3.length : Int) - 1))) ++ (x0.extract (x4 : Int).toNat ((wrap64 (x4 + 1)) : Int).toNat))) (wrap64 (x4 + 1))) else (none)) else (none)) else (none)) else (none)) else (none))) else (none)) else (some x3)
def waterhourref04_words.f (k : Nat) (a0 : ByteArray) : Option (List ByteArray) := waterhourref04_words.l0 k a0 (([(⟨#[]⟩ : ByteArray)] : List ByteArray)) 0
theorem waterhourref04_words.mono_l : ∀ k, (∀ y0 y1 y2, LeO (waterhourref04_words.l0 k y0 y1 y2) (waterhourref04_words.l0 (k + 1) y0 y1 y2))
 | 0 => fun _ _ _ r h => by simp [waterhourref04_words.l0] at h
 | k + 1 => by
  have ih0 := waterhourref04_words.mono_l k
  ·intro y0 y1 y2
   unfold waterhourref04_words.l0
   repeat' first
   | (with_reducible exact ih0 _ _ _)
   | (with_reducible exact LeO.refl _)
   | (with_reducible exact LeO.none _)
   | (with_reducible refine LeO.ite ?_ ?_)
   | (with_reducible refine LeO.bind ?_ (fun _ => ?_))
   | exact ih0 _ _ _
   | exact LeO.none _
   | refine LeO.ite ?_ ?_
   | refine LeO.bind ?_ (fun _ => ?_)
theorem waterhourref04_words.mono : ∀ a0 k, LeO (waterhourref04_words.f k a0) (waterhourref04_words.f (k + 1) a0) := by
 intro a0 k
 have ih0 := waterhourref04_words.mono_l k
 unfold waterhourref04_words.f
 repeat' first
   | (with_reducible exact ih0 _ _ _)
   | (with_reducible exact LeO.refl _)
   | (with_reducible exact LeO.none _)
   | (with_reducible refine LeO.ite ?_ ?_)
   | (with_reducible refine LeO.bind ?_ (fun _ => ?_))
   | exact ih0 _ _ _
   | exact LeO.none _
   | refine LeO.ite ?_ ?_
   | refine LeO.bind ?_ (fun _ => ?_)
def waterhourref04_words.T8 : Bool × List (List Nat × List Nat) := (true, [([], []), ([], []), ([1], [1]), ([0, 2], [0, 2]), ([3], [3]), ([], []), ([], []), ([], []), ([7], [7]), ([5, 6, 8], [5, 6, 8]), ([4, 9], [4, 9]), ([0, 2, 0, 1, 2, 3, 4, 5, 6, 7, 8, 9, 10], [0, 2]), ([11, 10, 0, 1, 2, 3, 4, 5, 6, 7, 8, 9, 10], [10, 11])])
def waterhourref04_words.B8 : List Nat := [0, 0, 2, 7, 15, 0, 0, 0, 128, 480, 1023, 2047, 4095]
theorem waterhourref04_words.tab8 : rtab .any (opsOf Tryz.f35 8) = waterhourref04_words.T8 := by kernel_rfl
theorem waterhourref04_words.bits8 : waitsOk waterhourref04_words.T8.2 waterhourref04_words.B8 = true := by kernel_rfl
set_option maxHeartbeats 8000000 in
set_option maxRecDepth 100000 in
theorem waterhourref04_words.calls (k : Nat) (a0 : ByteArray) (r : List ByteArray) (w : World) (h : waterhourref04_words.f k a0 = some r) :
  Calls Tryz.prog 35 #[.string a0] w fun e w' => ∃ v0_ : Value, e = .returned (v0_) ∧ Kd.R Kd.string 9 w' w.heap.size (fun _ => True) v0_ r ∧ Below w.heap.size w w' := by
 have HB := a_ (Below.refl w.heap.size w)
 have H : (waterhourref04_words.l0 k a0 (([(⟨#[]⟩ : ByteArray)] : List ByteArray)) 0) = some r := h
 clear h
 obtain ⟨y320, hy320⟩ : ∃ y_ : List ByteArray, y_ = (([(⟨#[]⟩ : ByteArray)] : List ByteArray)) := ⟨_, rfl⟩
 replace H : (waterhourref04_words.l0 k a0 y320 0) = some r := by first | (rw [hy320]; with_reducible exact H) | (have H2_ := (Option.bind_some _ _).symm.trans H; rw [hy320]; with_reducible exact H2_) | (have H2_ := (Option.bind_some _ _).symm.trans H; with_reducible exact H2_) | with_reducible exact H | (rw [hy320]; exact H) | exact H
 have Ny320 := a_ hy320
 clear hy320
 have H' := a_ H
 clear H
 go_enter Tryz.func35, Tryz.ntmps35
 go_wp2_with (first | ((with_reducible refine gate_dst (N := 6) rfl ?_); refine Kd.R_lit Kd.string _ 9 ?hg (N := 6) ?hd (xs := ([(⟨#[]⟩ : ByteArray)] : List ByteArray)) (inner := [.string (⟨#[]⟩ : ByteArray)]) (ok := fun _ => True) (okp := fun _ => True) ?hr ?hp (fun _ hk => hk) trivial (Below.refl _ _) (Nat.le_refl _) (by simp) ?_; (case hd => rfl); (case hg => rfl); (case hr => first | (go_simp; done) | (go_simp; rfl)); (case hp => exact (Reps.one (show Kd.M Kd.string _ _ _ (⟨#[]⟩ : ByteArray) [.string (⟨#[]⟩ : ByteArray)] from rfl) (Reps.none _ _))); intro v321 w2 ho3 hb hg_ hnew_; clear hg_ hnew_; (first | rw [← Ny320.out] at ho3 | (simp only [Int.reduceToNat] at ho3; rw [← Ny320.out] at ho3)); have n0_ := a_ (Kd.R_lower ho3 (below_size bl_)); have n1_ := a_ (below_step bl_ hb); clear HB; have HO322 := n0_; have HB := n1_; clear n0_ n1_; clear hb ho3))
 go_loopg [3, 4] k (fun kq v3 v4 w' => ∃ (x3_1 : List ByteArray) (x4_1 : Int), v4 = .int .i64 x4_1 ∧ Aside0 (waterhourref04_words.l0 kq a0 x3_1 x4_1 = some r) ∧ Aside0 (kq ≤ k) ∧ Aside0 (Kd.R Kd.string 9 w' w.heap.size (fun _ => True) v3 x3_1) ∧ Aside0 (Below w.heap.size w w'))
 case atStart => exact ⟨(y320), (0), (by first | rfl | (simp; done) | (simp [*]; done)), H', ⟨Nat.le_refl _⟩, ⟨rl_ HO322.out⟩, ⟨bl_⟩⟩
 case round =>
  clear H'
  try clear p2
  try clear c3
  obtain ⟨x3_1, x4_1, rfl, HA, HK1, HO_3, HB⟩ := hrel
  cases gk with
  | zero => exact absurd HA.out (by simp [waterhourref04_words.l0])
  | succ k1 =>
   have H := HA.out
   clear HA
   simp only [waterhourref04_words.l0] at H
   by_cases c4 : x4_1 < (a0.size : Int)
   ·rw [if_pos c4] at H
    have c4b0 : decide (x4_1 < (a0.size : Int)) = true := decide_eq_true c4
    clear c4
    by_cases c5 : 0 ≤ x4_1
    ·rw [if_pos c5] at H
     have c5b0 : decide (0 ≤ x4_1) = true := decide_eq_true c5
     clear c5
     by_cases c7 : (bt a0 x4_1) = 32
     ·rw [if_pos c7] at H
      have c7b0 : ((bt a0 x4_1) == 32) = true := beq_iff_eq.mpr c7
      have c7b1 : ((bt a0 x4_1) != 32) = false := bne_eq_false_iff_eq.mpr c7
      clear c7
      by_cases c8 : x3_1.length < 8796093022208
      ·rw [if_pos c8] at H
       have LMc8 := a_ c8
       clear c8
       obtain ⟨y323, hy323⟩ : ∃ y_ : List ByteArray, y_ = (x3_1 ++ [(⟨#[]⟩ : ByteArray)]) := ⟨_, rfl⟩
       replace H : (waterhourref04_words.l0 k1 a0 y323 (wrap64 (x4_1 + 1))) = some r := by first | (rw [hy323]; with_reducible exact H) | (have H2_ := (Option.bind_some _ _).symm.trans H; rw [hy323]; with_reducible exact H2_) | (have H2_ := (Option.bind_some _ _).symm.trans H; with_reducible exact H2_) | with_reducible exact H | (rw [hy323]; exact H) | exact H
       have Ny323 := a_ hy323
       clear hy323
       have H' := a_ H
       clear H
       obtain ⟨Ao9, co9, eo9⟩ := Kd.R_slice HO_3.out
       subst eo9
       have p6 : 0 ≤ (x4_1 : Int) := of_decide_eq_true (by first | (with_reducible assumption) | assumption)
       have q6 : x4_1 < (a0.size : Int) := of_decide_eq_true (by first | (with_reducible assumption) | assumption)
       have hx6 := bt_at a0 x4_1
       replace p6 := eq_true p6
       replace q6 := eq_true q6
       go_wp2_with (first | ((with_reducible refine gate_builtin (b := .append) (xs := #[.tmp 19, .tmp 20]) rfl ?_); at_builtin; refine Kd.R_append Kd.string (w0 := w) w.heap.size rfl (.tmp 19) (.tmp 20) 58 9 (.string ⟨#[]⟩) 16 rfl Tryz.underlying58 info9 rfl (by decide) (by omega) (.slice Ao9 x3_1.length co9) x3_1 (⟨#[]⟩ : ByteArray) [.string (⟨#[]⟩ : ByteArray)] (fun _ => True) (fun _ => False) rfl rfl ?aP (fun _ hk => hk.elim) ?aF ?aO ?aB ?aS ?aL ?_; (case aP => exact rfl); (case aB => exact bl_); (case aF => exact (fun _ _ => trivial)); (case aO => exact (rl_ HO_3.out)); (case aS => exact (below_size bl_)); (case aL => have := LMc8.out; omega); intro v324 w10 ho hb hg hat; rw [← Ny323.out] at ho; have n0_ := a_ (hb); have n1_ := a_ (ho); clear HB; clear HO_3; have HB := n0_; have HO325 := n1_; clear n0_ n1_; clear ho hb hg hat))
       go_roundg k1
       case measure => have := HK1.out; omega
       case rel => exact ⟨(y323), (wrap64 (x4_1 + 1)), (by first | rfl | (simp; done) | (simp [*]; done)), H', ⟨by have := HK1.out; omega⟩, ⟨rl_ HO325.out⟩, ⟨bl_⟩⟩
      ·rw [if_neg c8] at H
       exact absurd H (by simp)
     ·rw [if_neg c7] at H
      have c7b0 : ((bt a0 x4_1) == 32) = false := beq_eq_false_iff_ne.mpr c7
      have c7b1 : ((bt a0 x4_1) != 32) = true := bne_iff_ne.mpr c7
      obtain ⟨ji11, hji11⟩ : ∃ j_ : Int, (wrap64 ((x3_1.length : Int) - 1)) = j_ := ⟨_, rfl⟩
      replace H : (if 0 ≤ (ji11) then (if (ji11) < (x3_1.length : Int) then (if x4_1 ≤ (wrap64 (x4_1 + 1)) then (if (wrap64 (x4_1 + 1)) ≤ (a0.size : Int) then (if (rdOf ByteArray.empty x3_1 (ji11)).size + (a0.extract (x4_1 : Int).toNat ((wrap64 (x4_1 + 1)) : Int).toNat).size ≤ 9223372036854775807 then (waterhourref04_words.l0 k1 a0 (x3_1.set ((ji11) : Int).toNat ((rdOf ByteArray.empty x3_1 (ji11)) ++ (a0.extract (x4_1 : Int).toNat ((wrap64 (x4_1 + 1)) : Int).toNat))) (wrap64 (x4_1 + 1))) else (none)) else (none)) else (none)) else (none)) else (none)) = some r := by first | (rw [hji11] at H; exact H) | (simp only [hji11] at H ⊢; exact H)
      have hji11w : (IntKind.i64.wrap ((x3_1.length : Int) - 1)) = ji11 := (i64_w _).trans hji11
      by_cases c12 : 0 ≤ (ji11)
      ·rw [if_pos c12] at H
       have c12b0 : decide (0 ≤ (ji11)) = true := decide_eq_true c12
       clear c12
       by_cases c13 : (ji11) < (x3_1.length : Int)
       ·rw [if_pos c13] at H
        have c13b0 : decide ((ji11) < (x3_1.length : Int)) = true := decide_eq_true c13
        clear c13
        have c14b0 := eq_true (of_decide_eq_true (by first | (with_reducible assumption) | assumption) : 0 ≤ x4_1)
        by_cases c15 : x4_1 ≤ (wrap64 (x4_1 + 1))
        ·rw [if_pos c15] at H
         have c15b0 := eq_true c15
         have c15b1 : decide (x4_1 ≤ (wrap64 (x4_1 + 1))) = true := decide_eq_true c15
         by_cases c16 : (wrap64 (x4_1 + 1)) ≤ (a0.size : Int)
         ·rw [if_pos c16] at H
          have c16b0 := eq_true c16
          have c16b1 : decide ((wrap64 (x4_1 + 1)) ≤ (a0.size : Int)) = true := decide_eq_true c16
          by_cases c17 : (rdOf ByteArray.empty x3_1 (ji11)).size + (a0.extract (x4_1 : Int).toNat ((wrap64 (x4_1 + 1)) : Int).toNat).size ≤ 9223372036854775807
          ·rw [if_pos c17] at H
           have c17b0 := eq_true c17
           have c17b1 : decide ((rdOf ByteArray.empty x3_1 (ji11)).size + (a0.extract (x4_1 : Int).toNat ((wrap64 (x4_1 + 1)) : Int).toNat).size ≤ 9223372036854775807) = true := decide_eq_true c17
           try have c17b2 : (9223372036854775807 < (rdOf ByteArray.empty x3_1 (ji11)).size + (a0.extract (x4_1 : Int).toNat ((wrap64 (x4_1 + 1)) : Int).toNat).size) = False := eq_false (Nat.not_lt.2 c17)
           have c17n : (9223372036854775807 < (rdOf ByteArray.empty x3_1 (ji11)).size + (((wrap64 (x4_1 + 1)).toNat - x4_1.toNat))) = False := eq_false (by have h_ := Nat.not_lt.2 c17; have e1_ : (⟨#[45]⟩ : ByteArray).size = 1 := rfl; have e2_ : (⟨#[64]⟩ : ByteArray).size = 1 := rfl; have e3_ : (⟨#[32]⟩ : ByteArray).size = 1 := rfl; simp only [ByteArray.size_append, ByteArray.size_extract] at h_; omega)
           obtain ⟨y327, hy327⟩ : ∃ y_ : List ByteArray, y_ = (x3_1.set ((ji11) : Int).toNat ((rdOf ByteArray.empty x3_1 (ji11)) ++ (a0.extract (x4_1 : Int).toNat ((wrap64 (x4_1 + 1)) : Int).toNat))) := ⟨_, rfl⟩
           replace H : (waterhourref04_words.l0 k1 a0 y327 (wrap64 (x4_1 + 1))) = some r := by first | (rw [hy327]; with_reducible exact H) | (have H2_ := (Option.bind_some _ _).symm.trans H; rw [hy327]; with_reducible exact H2_) | (have H2_ := (Option.bind_some _ _).symm.trans H; with_reducible exact H2_) | with_reducible exact H | (rw [hy327]; exact H) | exact H
           have Ny327 := a_ hy327
           clear hy327
           have H' := a_ H
           clear H
           obtain ⟨Ao19, co19, eo19⟩ := Kd.R_slice HO_3.out
           subst eo19
           have p6 : 0 ≤ (x4_1 : Int) := of_decide_eq_true (by first | (with_reducible assumption) | assumption)
           have q6 : x4_1 < (a0.size : Int) := of_decide_eq_true (by first | (with_reducible assumption) | assumption)
           have hx6 := bt_at a0 x4_1
           replace p6 := eq_true p6
           replace q6 := eq_true q6
           try go_wp2
           have n0_ := a_ (Kd.R_drew HO_3.out)
           have n1_ := a_ (below_drew1 HB.out)
           clear HO_3
           clear HB
           have HO_3 := n0_
           have HB := n1_
           clear n0_ n1_
           have p326 : 0 ≤ ((ji11) : Int) := of_decide_eq_true (by first | (with_reducible assumption) | assumption)
           have q326 : (ji11) < (x3_1.length : Int) := of_decide_eq_true (by first | (with_reducible assumption) | assumption)
           obtain ⟨ad326, e326, hx326_0⟩ := Kd.at_string (Kd.R_reads' HO_3.out).2.2 (ji11) p326 q326
           cases e326
           replace p326 := eq_true p326
           replace q326 := eq_true q326
           have p18 : 0 ≤ ((ji11) : Int) := of_decide_eq_true (by first | (with_reducible assumption) | assumption)
           have q18 : ((ji11) : Int) < ((x3_1.length : Int) : Int) := of_decide_eq_true (by first | (with_reducible assumption) | assumption)
           obtain ⟨go18, co18, eo18, gb18, gl18, cl18, HG18⟩ := Kd.R_form HO_3.out (by omega)
           (first | cases eo18 | (injection eo18 with ea_ en_ ec_; (first | subst ea_ | (injection ea_ with ea_; subst ea_)); subst ec_; clear en_))
           have GB18 := a_ gb18
           have GG18 := a_ HG18
           clear gb18 gl18 HG18
           (first | simp only [add_plain] at hx326_0 | skip)
           obtain ⟨hx18_0, hf18_0⟩ := Kd.R_celln (⟨#[]⟩ : ByteArray) HO_3.out ((ji11) : Int) p18 q18
           replace p18 := eq_true p18
           replace q18 := eq_true q18
           have HP21 := Kd.R_putn HO_3.out ((ji11) : Int) ((rdOf ByteArray.empty x3_1 (ji11)) ++ (a0.extract (x4_1 : Int).toNat ((wrap64 (x4_1 + 1)) : Int).toNat))
           rw [← Ny327.out] at HP21
           have HQ21 := a_ HP21
           clear HP21
           refine start_ (n := 13) (S := fun w' => w'.cell? ⟨go18, ((ji11)).toNat, none⟩ = some (.string (rdOf ByteArray.empty x3_1 (ji11)))) (ds := [12]) #[false, false, false, false, false, false, false, false, false, false, false, false, false] (by kernel_rfl) rfl rfl (hx326_0) (fun hHeld => ?_); refine with_tabW waterhourref04_words.tab8 waterhourref04_words.bits8 (fun HT_ HW_ => ?_)
           generalize wr.drew = w20 at HO_3 HB GG18 HQ21 hf18_0 hx18_0 hx326_0 hHeld ⊢
           refine pz_ 0 22 HT_ ?_
           refine pz_ 1 23 HT_ ?_
           refine pz_ 2 24 HT_ ?_
           refine pz_ 3 25 HT_ ?_
           refine pz_ 5 27 HT_ ?_
           refine pz_ 6 28 HT_ ?_
           refine pz_ 7 29 HT_ ?_
           refine pz_ 8 30 HT_ ?_
           refine pz_ 9 31 HT_ ?_
           refine take_ (i := 4) (N := some 26) (v := ?_) (a' := ?_) #[true, true, true, true, true, true, true, true, true, true, false, false, false] rfl rfl (take_ofW HT_.out HW_.out (by kernel_rfl)) (fun _ _ _ h => h) (Or.inl ⟨by rfl, ?_⟩) hHeld ?_ ?_
           rotate_left
           ·intro w' s0
            go_simp
            with_reducible rfl
           rotate_left
           ·simp only [Act.put, List.setIfInBounds_toArray, List.set_cons_zero, List.set_cons_succ, i64_w, i32_w]
            rfl
           refine pz_ 10 32 HT_ ?_
           refine pz_ 11 33 HT_ ?_
           refine last_ (i := 12) (N := none) #[true, true, true, true, true, true, true, true, true, true, true, true, true] rfl rfl (one_of HT_.out (by kernel_rfl)) (by decide) (fun K hK => ?_)
           refine skip_ (w1 := ?_) (by rfl) rfl ?_ ?_
           rotate_left
           ·go_simp
            rfl
           refine hK.out _ _ ?_
           clear hK K
           refine done_ (done_of HT_.out (by kernel_rfl)) ?_
           try go_wp2
           go_roundg k1
           case measure => have := HK1.out; omega
           case rel => exact ⟨(y327), (wrap64 (x4_1 + 1)), (by first | rfl | (simp; done) | (simp [*]; done)), H', ⟨by have := HK1.out; omega⟩, ⟨rl_ HQ21.out⟩, ⟨bl_⟩⟩
          ·rw [if_neg c17] at H
           exact absurd H (by simp)
         ·rw [if_neg c16] at H
          exact absurd H (by simp)
        ·rw [if_neg c15] at H
         exact absurd H (by simp)
       ·rw [if_neg c13] at H
        exact absurd H (by simp)
      ·rw [if_neg c12] at H
       exact absurd H (by simp)
    ·rw [if_neg c5] at H
     exact absurd H (by simp)
   ·rw [if_neg c4] at H
    have c4b0 : decide (x4_1 < (a0.size : Int)) = false := decide_eq_false c4
    clear c4
    obtain rfl := Option.some.inj H
    go_wp2
    go_ret
    exact ⟨_, by first | rfl | (simp [errW_none, errW_some] <;> rfl) | (simp [*, errW_none, errW_some] <;> rfl), by (with_reducible repeat (first | apply Kd.R_alloc | apply Kd.R_drewN | apply Kd.R_drew)); exact HO_3.out, bl_⟩

/-! ### waterhourref04_numbers: function 36 -/
mutual
def waterhourref04_numbers.l0 : Nat → ByteArray → List Int → Int → Option (List Int × Bool)
 | 0, _, _, _ => none
 | k + 1, x0, x4, x5 => if x5 < (x0.size : Int) then (if 0 ≤ x5 then (if (bt x0 x5) = 45 then (waterhourref04_numbers.j1 k x0 x4 x5 (x4.length : Int) true) else (waterhourref04_numbers.j1 k x0 x4 x5 (x4.length : Int) ((bt x0 x5) == 64))) else (none)) else (some (x4, true))
def waterhourref04_numbers.j1 : Nat → ByteArray → List Int → Int → Int → Bool → Option (List Int × Bool)
 | 0, _, _, _, _, _ => none
 | k + 1, x0, x4, x5, x6, x25 => if x25 = true then (if x4.length < 17592186044416 then (waterhourref04_numbers.l0 k x0 (x4 ++ [0]) (wrap64 (x5 + 1))) else (none)) else (if 0 ≤ x5 then (if x5 < (x0.size : Int) then (if (bt x0 x5) ≥ 48 then (if (bt x0 x5) ≤ 57 then (if 0 ≤ (wrap64 (x6 - 1)) then (if (wrap64 (x6 - 1)) < (x4.length : Int) then (waterhourref04_numbers.l0 k x0 (x4.set ((wrap64 (x6 - 1)) : Int).toNat (mn (wrap64 ((wrap64 (10 * (rd x4 (wrap64 (x6 - 1))))) + (((bt x0 x5) - 48) % 256))) 33554432)) (wrap64 (x5 + 1))) else (none)) else (none)) else (some (([] : List Int), false))) else (some (([] : List Int), false))) else (none)) else (none))
end
def waterhourref04_numbers.f (k : Nat) (a0 : ByteArray) : Option (List Int × Bool) := waterhourref04_numbers.l0 k a0 (([0] : List Int)) 0
theorem waterhourref04_numbers.mono_l : ∀ k, (∀ y0 y1 y2, LeO (waterhourref04_numbers.l0 k y0 y1 y2) (waterhourref04_numbers.l0 (k + 1) y0 y1 y2)) ∧ (∀ y0 y1 y2 y3 y4, LeO (waterhourref04_numbers.j1 k y0 y1 y2 y3 y4) (waterhourref04_numbers.j1 (k + 1) y0 y1 y2 y3 y4))
 | 0 => ⟨fun _ _ _ r h => by simp [waterhourref04_numbers.l0] at h, fun _ _ _ _ _ r h => by simp [waterhourref04_numbers.j1] at h⟩
 | k + 1 => by
  obtain ⟨ih0, ih1⟩ := waterhourref04_numbers.mono_l k
  refine ⟨?_, ?_⟩
  ·intro y0 y1 y2
   unfold waterhourref04_numbers.l0
   repeat' first
   | (with_reducible exact ih0 _ _ _)
   | (with_reducible exact ih1 _ _ _ _ _)
   | (with_reducible exact LeO.refl _)
   | (with_reducible exact LeO.none _)
   | (with_reducible refine LeO.ite ?_ ?_)
   | (with_reducible refine LeO.bind ?_ (fun _ => ?_))
   | exact ih0 _ _ _
   | exact ih1 _ _ _ _ _
   | exact LeO.none _
   | refine LeO.ite ?_ ?_
   | refine LeO.bind ?_ (fun _ => ?_)
  ·intro y0 y1 y2 y3 y4
   unfold waterhourref04_numbers.j1
   repeat' first
   | (with_reducible exact ih0 _ _ _)
   | (with_reducible exact ih1 _ _ _ _ _)
   | (with_reducible exact LeO.refl _)
   | (with_reducible exact LeO.none _)
   | (with_reducible refine LeO.ite ?_ ?_)
   | (with_reducible refine LeO.bind ?_ (fun _ => ?_))
   | exact ih0 _ _ _
   | exact ih1 _ _ _ _ _
   | exact LeO.none _
   | refine LeO.ite ?_ ?_
   | refine LeO.bind ?_ (fun _ => ?_)
theorem waterhourref04_numbers.mono : ∀ a0 k, LeO (waterhourref04_numbers.f k a0) (waterhourref04_numbers.f (k + 1) a0) := by
 intro a0 k
 obtain ⟨ih0, ih1⟩ := waterhourref04_numbers.mono_l k
 unfold waterhourref04_numbers.f
 repeat' first
   | (with_reducible exact ih0 _ _ _)
   | (with_reducible exact ih1 _ _ _ _ _)
   | (with_reducible exact LeO.refl _)
   | (with_reducible exact LeO.none _)
   | (with_reducible refine LeO.ite ?_ ?_)
   | (with_reducible refine LeO.bind ?_ (fun _ => ?_))
   | exact ih0 _ _ _
   | exact ih1 _ _ _ _ _
   | exact LeO.none _
   | refine LeO.ite ?_ ?_
   | refine LeO.bind ?_ (fun _ => ?_)
def waterhourref04_numbers.T9 : Bool × List (List Nat × List Nat) := (true, [([], []), ([], []), ([1], [1]), ([], []), ([], []), ([4], [4]), ([3, 5], [3, 5]), ([6], [6]), ([7], [7]), ([], []), ([], []), ([9, 10], [9, 10]), ([11], [11]), ([12], [12]), ([8, 13], [8, 13]), ([14], [14]), ([0, 2, 0, 1, 2, 3, 4, 5, 6, 7, 8, 9, 10, 11, 12, 13, 14, 15], [0, 2]), ([16, 15, 0, 1, 2, 3, 4, 5, 6, 7, 8, 9, 10, 11, 12, 13, 14, 15], [15, 16])])
def waterhourref04_numbers.B9 : List Nat := [0, 0, 2, 0, 0, 16, 56, 120, 248, 0, 0, 1536, 3584, 7680, 16376, 32760, 65535, 131071]
theorem waterhourref04_numbers.tab9 : rtab .any (opsOf Tryz.f36 9) = waterhourref04_numbers.T9 := by kernel_rfl
theorem waterhourref04_numbers.bits9 : waitsOk waterhourref04_numbers.T9.2 waterhourref04_numbers.B9 = true := by kernel_rfl
set_option maxHeartbeats 8000000 in
set_option maxRecDepth 100000 in
theorem waterhourref04_numbers.calls (k : Nat) (a0 : ByteArray) (r1 : List Int) (r2 : Bool) (w : World) (h : waterhourref04_numbers.f k a0 = some (r1, r2)) :
  Calls Tryz.prog 36 #[.string a0] w fun e w' => ∃ v0_ : Value, e = .returned (.tuple #[v0_, .bool r2]) ∧ Kd.R (Kd.int .i64) 3 w' w.heap.size (fun _ => True) v0_ r1 ∧ Below w.heap.size w w' := by
 have HB := a_ (Below.refl w.heap.size w)
 have H : (waterhourref04_numbers.l0 k a0 (([0] : List Int)) 0) = some (r1, r2) := h
 clear h
 obtain ⟨y328, hy328⟩ : ∃ y_ : List Int, y_ = (([0] : List Int)) := ⟨_, rfl⟩
 replace H : (waterhourref04_numbers.l0 k a0 y328 0) = some (r1, r2) := by first | (rw [hy328]; with_reducible exact H) | (have H2_ := (Option.bind_some _ _).symm.trans H; rw [hy328]; with_reducible exact H2_) | (have H2_ := (Option.bind_some _ _).symm.trans H; with_reducible exact H2_) | with_reducible exact H | (rw [hy328]; exact H) | exact H
 have Ny328 := a_ hy328
 clear hy328
 have H' := a_ H
 clear H
 go_enter Tryz.func36, Tryz.ntmps36
 go_wp2_with (first | ((with_reducible refine gate_dst (N := 7) rfl ?_); refine Kd.R_lit (Kd.int .i64) _ 3 ?hg (N := 7) ?hd (xs := ([0] : List Int)) (inner := [.int .i64 0]) (ok := fun _ => True) (okp := fun _ => True) ?hr ?hp (fun _ hk => hk) trivial (Below.refl _ _) (Nat.le_refl _) (by simp) ?_; (case hd => rfl); (case hg => rfl); (case hr => first | (go_simp; done) | (go_simp; rfl)); (case hp => exact (Reps.one (show Kd.M (Kd.int .i64) _ _ _ 0 [.int .i64 0] from rfl) (Reps.none _ _))); intro v329 w2 ho3 hb hg_ hnew_; clear hg_ hnew_; (first | rw [← Ny328.out] at ho3 | (simp only [Int.reduceToNat] at ho3; rw [← Ny328.out] at ho3)); have n0_ := a_ (Kd.R_lower ho3 (below_size bl_)); have n1_ := a_ (below_step bl_ hb); clear HB; have HO330 := n0_; have HB := n1_; clear n0_ n1_; clear hb ho3))
 go_loopg [4, 5] k (fun kq v4 v5 w' => ∃ (x4_1 : List Int) (x5_1 : Int), v5 = .int .i64 x5_1 ∧ Aside0 (waterhourref04_numbers.l0 kq a0 x4_1 x5_1 = some (r1, r2)) ∧ Aside0 (kq ≤ k) ∧ Aside0 (Kd.R (Kd.int .i64) 3 w' w.heap.size (fun _ => True) v4 x4_1) ∧ Aside0 (Below w.heap.size w w'))
 case atStart => exact ⟨(y328), (0), (by first | rfl | (simp; done) | (simp [*]; done)), H', ⟨Nat.le_refl _⟩, ⟨rl_ HO330.out⟩, ⟨bl_⟩⟩
 case round =>
  clear H'
  try clear p2
  try clear c3
  obtain ⟨x4_1, x5_1, rfl, HA, HK1, HO_4, HB⟩ := hrel
  cases gk with
  | zero => exact absurd HA.out (by simp [waterhourref04_numbers.l0])
  | succ k1 =>
   have H := HA.out
   clear HA
   simp only [waterhourref04_numbers.l0] at H
   by_cases c4 : x5_1 < (a0.size : Int)
   ·rw [if_pos c4] at H
    have c4b0 : decide (x5_1 < (a0.size : Int)) = true := decide_eq_true c4
    clear c4
    have HC5 := a_ H
    clear H
    obtain ⟨Ao6, co6, eo6⟩ := Kd.R_slice HO_4.out
    subst eo6
    go_upto_region 6 with (fail)
    go_cut [25] (fun v25 wc => ∃ (kq : Nat) (x25_4 : Bool), v25 = .bool x25_4 ∧ Aside0 (waterhourref04_numbers.j1 kq a0 x4_1 x5_1 (x4_1.length : Int) x25_4 = some (r1, r2)) ∧ Aside0 (kq ≤ k1) ∧ Aside0 (Kd.R (Kd.int .i64) 3 wc w.heap.size (fun _ => True) (.slice Ao6 x4_1.length co6) x4_1) ∧ Aside0 (Below w.heap.size w wc))
    case first =>
     have H := HC5.out
     clear HC5
     by_cases c7 : 0 ≤ x5_1
     ·rw [if_pos c7] at H
      have c7b0 : decide (0 ≤ x5_1) = true := decide_eq_true c7
      clear c7
      (first | rw [c7b0] | (simp only [i64_w, i32_w]; rw [c7b0]) | skip)
      by_cases c9 : (bt a0 x5_1) = 45
      ·rw [if_pos c9] at H
       have c9b0 : ((bt a0 x5_1) == 45) = true := beq_iff_eq.mpr c9
       have c9b1 : ((bt a0 x5_1) != 45) = false := bne_eq_false_iff_eq.mpr c9
       clear c9
       have H' := a_ H
       clear H
       have p8 : 0 ≤ (x5_1 : Int) := of_decide_eq_true (by first | (with_reducible assumption) | assumption)
       have q8 : x5_1 < (a0.size : Int) := of_decide_eq_true (by first | (with_reducible assumption) | assumption)
       have hx8 := bt_at a0 x5_1
       replace p8 := eq_true p8
       replace q8 := eq_true q8
       go_wp2
       go_meet
       case rel => exact ⟨_, (true), (by first | rfl | (simp; done) | (simp [*]; done)), H', ⟨by have := HK1.out; first | omega | exact Nat.le_refl _⟩, ⟨rl_ HO_4.out⟩, ⟨bl_⟩⟩
      ·rw [if_neg c9] at H
       have c9b0 : ((bt a0 x5_1) == 45) = false := beq_eq_false_iff_ne.mpr c9
       have c9b1 : ((bt a0 x5_1) != 45) = true := bne_iff_ne.mpr c9
       have H' := a_ H
       clear H
       have p8 : 0 ≤ (x5_1 : Int) := of_decide_eq_true (by first | (with_reducible assumption) | assumption)
       have q8 : x5_1 < (a0.size : Int) := of_decide_eq_true (by first | (with_reducible assumption) | assumption)
       have hx8 := bt_at a0 x5_1
       replace p8 := eq_true p8
       replace q8 := eq_true q8
       have p10 : 0 ≤ (x5_1 : Int) := of_decide_eq_true (by first | (with_reducible assumption) | assumption)
       have q10 : x5_1 < (a0.size : Int) := of_decide_eq_true (by first | (with_reducible assumption) | assumption)
       have hx10 := bt_at a0 x5_1
       replace p10 := eq_true p10
       replace q10 := eq_true q10
       go_wp2
       go_meet
       case rel => exact ⟨_, (((bt a0 x5_1) == 64)), (by first | rfl | (simp; done) | (simp [*]; done)), H', ⟨by have := HK1.out; first | omega | exact Nat.le_refl _⟩, ⟨rl_ HO_4.out⟩, ⟨bl_⟩⟩
     ·rw [if_neg c7] at H
      exact absurd H (by simp)
    case rest =>
     clear HC5
     try clear p1
     try clear q1
     try clear hx1
     try clear p2
     try clear c3
     try clear c4
     try clear c4b0
     try clear c7
     try clear c7b0
     try clear p8
     try clear q8
     try clear hx8
     try clear c9
     try clear c9b0
     try clear c9b1
     try clear p10
     try clear q10
     try clear hx10
     try clear p10
     try clear p2
     try clear p8
     try clear q10
     try clear q8
     obtain ⟨kq, x25_4, rfl, HA, HJ4, HO_4, HB⟩ := hcut
     cases kq with
     | zero => exact absurd HA.out (by simp [waterhourref04_numbers.j1])
     | succ kj4 =>
      have H := HA.out
      clear HA
      simp only [waterhourref04_numbers.j1] at H
      by_cases c11 : x25_4 = true
      ·subst c11
       have H1 : (if x4_1.length < 17592186044416 then (waterhourref04_numbers.l0 kj4 a0 (x4_1 ++ [0]) (wrap64 (x5_1 + 1))) else (none)) = some (r1, r2) := by rw [if_pos rfl] at H; exact H
       clear H
       have H := H1
       clear H1
       by_cases c12 : x4_1.length < 17592186044416
       ·rw [if_pos c12] at H
        have LMc12 := a_ c12
        clear c12
        obtain ⟨y331, hy331⟩ : ∃ y_ : List Int, y_ = (x4_1 ++ [0]) := ⟨_, rfl⟩
        replace H : (waterhourref04_numbers.l0 kj4 a0 y331 (wrap64 (x5_1 + 1))) = some (r1, r2) := by first | (rw [hy331]; with_reducible exact H) | (have H2_ := (Option.bind_some _ _).symm.trans H; rw [hy331]; with_reducible exact H2_) | (have H2_ := (Option.bind_some _ _).symm.trans H; with_reducible exact H2_) | with_reducible exact H | (rw [hy331]; exact H) | exact H
        have Ny331 := a_ hy331
        clear hy331
        have H' := a_ H
        clear H
        go_wp2_with (first | ((with_reducible refine gate_builtin (b := .append) (xs := #[.tmp 26, .tmp 27]) rfl ?_); at_builtin; refine Kd.R_append (Kd.int .i64) (w0 := w) w.heap.size rfl (.tmp 26) (.tmp 27) 38 3 (.int .i64 0) 8 rfl Tryz.underlying38 info3 rfl (by decide) (by omega) (.slice Ao6 x4_1.length co6) x4_1 0 [.int .i64 0] (fun _ => True) (fun _ => False) rfl rfl ?aP (fun _ hk => hk.elim) ?aF ?aO ?aB ?aS ?aL ?_; (case aP => exact rfl); (case aB => exact bl_); (case aF => exact (fun _ _ => trivial)); (case aO => exact (rl_ HO_4.out)); (case aS => exact (below_size bl_)); (case aL => have := LMc12.out; omega); intro v332 w13 ho hb hg hat; rw [← Ny331.out] at ho; have n0_ := a_ (hb); have n1_ := a_ (ho); clear HB; clear HO_4; have HB := n0_; have HO333 := n1_; clear n0_ n1_; clear ho hb hg hat))
        go_roundg kj4
        case measure => have := HK1.out; have := HJ4.out; omega
        case rel => exact ⟨(y331), (wrap64 (x5_1 + 1)), (by first | rfl | (simp; done) | (simp [*]; done)), H', ⟨by have := HK1.out; have := HJ4.out; omega⟩, ⟨rl_ HO333.out⟩, ⟨bl_⟩⟩
       ·rw [if_neg c12] at H
        exact absurd H (by simp)
      ·replace c11 := Bool.eq_false_iff.mpr c11
       subst c11
       have H1 : (if 0 ≤ x5_1 then (if x5_1 < (a0.size : Int) then (if (bt a0 x5_1) ≥ 48 then (if (bt a0 x5_1) ≤ 57 then (if 0 ≤ (wrap64 ((x4_1.length : Int) - 1)) then (if (wrap64 ((x4_1.length : Int) - 1)) < (x4_1.length : Int) then (waterhourref04_numbers.l0 kj4 a0 (x4_1.set ((wrap64 ((x4_1.length : Int) - 1)) : Int).toNat (mn (wrap64 ((wrap64 (10 * (rd x4_1 (wrap64 ((x4_1.length : Int) - 1))))) + (((bt a0 x5_1) - 48) % 256))) 33554432)) (wrap64 (x5_1 + 1))) else (none)) else (none)) else (some (([] : List Int), false))) else (some (([] : List Int), false))) else (none)) else (none)) = some (r1, r2) := by rw [if_neg (show ¬ (false = true) by decide)] at H; exact H
       clear H
       have H := H1
       clear H1
       by_cases c14 : 0 ≤ x5_1
       ·rw [if_pos c14] at H
        have c14b0 : decide (0 ≤ x5_1) = true := decide_eq_true c14
        clear c14
        by_cases c15 : x5_1 < (a0.size : Int)
        ·rw [if_pos c15] at H
         have c15b0 : decide (x5_1 < (a0.size : Int)) = true := decide_eq_true c15
         clear c15
         by_cases c17 : (bt a0 x5_1) ≥ 48
         ·rw [if_pos c17] at H
          have c17b0 : decide (48 ≤ (bt a0 x5_1)) = true := decide_eq_true c17
          clear c17
          by_cases c19 : (bt a0 x5_1) ≤ 57
          ·rw [if_pos c19] at H
           have c19b0 : decide ((bt a0 x5_1) ≤ 57) = true := decide_eq_true c19
           clear c19
           obtain ⟨ji20, hji20⟩ : ∃ j_ : Int, (wrap64 ((x4_1.length : Int) - 1)) = j_ := ⟨_, rfl⟩
           replace H : (if 0 ≤ (ji20) then (if (ji20) < (x4_1.length : Int) then (waterhourref04_numbers.l0 kj4 a0 (x4_1.set ((ji20) : Int).toNat (mn (wrap64 ((wrap64 (10 * (rd x4_1 (ji20)))) + (((bt a0 x5_1) - 48) % 256))) 33554432)) (wrap64 (x5_1 + 1))) else (none)) else (none)) = some (r1, r2) := by first | (rw [hji20] at H; exact H) | (simp only [hji20] at H ⊢; exact H)
           have hji20w : (IntKind.i64.wrap ((x4_1.length : Int) - 1)) = ji20 := (i64_w _).trans hji20
           by_cases c21 : 0 ≤ (ji20)
           ·rw [if_pos c21] at H
            have c21b0 : decide (0 ≤ (ji20)) = true := decide_eq_true c21
            clear c21
            by_cases c22 : (ji20) < (x4_1.length : Int)
            ·rw [if_pos c22] at H
             have c22b0 : decide ((ji20) < (x4_1.length : Int)) = true := decide_eq_true c22
             clear c22
             obtain ⟨ji24, hji24⟩ : ∃ j_ : Int, (mn (wrap64 ((wrap64 (10 * (rd x4_1 (ji20)))) + (((bt a0 x5_1) - 48) % 256))) 33554432) = j_ := ⟨_, rfl⟩
             replace H : (waterhourref04_numbers.l0 kj4 a0 (x4_1.set ((ji20) : Int).toNat (ji24)) (wrap64 (x5_1 + 1))) = some (r1, r2) := by first | (rw [hji24] at H; exact H) | (simp only [hji24] at H ⊢; exact H)
             have hji24_ : (if 33554432 < (wrap64 ((wrap64 (10 * (rd x4_1 (ji20)))) + (((bt a0 x5_1) - 48) % 256))) then 33554432 else (wrap64 ((wrap64 (10 * (rd x4_1 (ji20)))) + (((bt a0 x5_1) - 48) % 256)))) = ji24 := hji24
             obtain ⟨y335, hy335⟩ : ∃ y_ : List Int, y_ = (x4_1.set ((ji20) : Int).toNat (ji24)) := ⟨_, rfl⟩
             replace H : (waterhourref04_numbers.l0 kj4 a0 y335 (wrap64 (x5_1 + 1))) = some (r1, r2) := by first | (rw [hy335]; with_reducible exact H) | (have H2_ := (Option.bind_some _ _).symm.trans H; rw [hy335]; with_reducible exact H2_) | (have H2_ := (Option.bind_some _ _).symm.trans H; with_reducible exact H2_) | with_reducible exact H | (rw [hy335]; exact H) | exact H
             have Ny335 := a_ hy335
             clear hy335
             have H' := a_ H
             clear H
             have p16 : 0 ≤ (x5_1 : Int) := of_decide_eq_true (by first | (with_reducible assumption) | assumption)
             have q16 : x5_1 < (a0.size : Int) := of_decide_eq_true (by first | (with_reducible assumption) | assumption)
             have hx16 := bt_at a0 x5_1
             replace p16 := eq_true p16
             replace q16 := eq_true q16
             have p18 : 0 ≤ (x5_1 : Int) := of_decide_eq_true (by first | (with_reducible assumption) | assumption)
             have q18 : x5_1 < (a0.size : Int) := of_decide_eq_true (by first | (with_reducible assumption) | assumption)
             have hx18 := bt_at a0 x5_1
             replace p18 := eq_true p18
             replace q18 := eq_true q18
             try go_wp2
             have n0_ := a_ (Kd.R_drew HO_4.out)
             have n1_ := a_ (below_drew1 HB.out)
             clear HO_4
             clear HB
             have HO_4 := n0_
             have HB := n1_
             clear n0_ n1_
             have p334 : 0 ≤ ((ji20) : Int) := of_decide_eq_true (by first | (with_reducible assumption) | assumption)
             have q334 : (ji20) < (x4_1.length : Int) := of_decide_eq_true (by first | (with_reducible assumption) | assumption)
             obtain ⟨ad334, e334, hx334_0⟩ := Kd.at_int (Kd.R_reads' HO_4.out).2.2 (ji20) p334 q334
             cases e334
             replace p334 := eq_true p334
             replace q334 := eq_true q334
             have p23 : 0 ≤ (x5_1 : Int) := of_decide_eq_true (by first | (with_reducible assumption) | assumption)
             have q23 : x5_1 < (a0.size : Int) := of_decide_eq_true (by first | (with_reducible assumption) | assumption)
             have hx23 := bt_at a0 x5_1
             replace p23 := eq_true p23
             replace q23 := eq_true q23
             have p25 : 0 ≤ ((ji20) : Int) := of_decide_eq_true (by first | (with_reducible assumption) | assumption)
             have q25 : ((ji20) : Int) < ((x4_1.length : Int) : Int) := of_decide_eq_true (by first | (with_reducible assumption) | assumption)
             obtain ⟨go25, co25, eo25, gb25, gl25, cl25, HG25⟩ := Kd.R_form HO_4.out (by omega)
             (first | cases eo25 | (injection eo25 with ea_ en_ ec_; (first | subst ea_ | (injection ea_ with ea_; subst ea_)); subst ec_; clear en_))
             have GB25 := a_ gb25
             have GG25 := a_ HG25
             clear gb25 gl25 HG25
             (first | simp only [add_plain] at hx334_0 | skip)
             obtain ⟨hx25_0, hf25_0⟩ := Kd.R_celln 0 HO_4.out ((ji20) : Int) p25 q25
             replace p25 := eq_true p25
             replace q25 := eq_true q25
             have HP27 := Kd.R_putn HO_4.out ((ji20) : Int) ji24
             rw [← Ny335.out] at HP27
             have HQ27 := a_ HP27
             clear HP27
             refine start_ (n := 18) (S := fun w' => w'.cell? ⟨go25, ((ji20)).toNat, none⟩ = some (.int .i64 (rd x4_1 (ji20)))) (ds := [17]) #[false, false, false, false, false, false, false, false, false, false, false, false, false, false, false, false, false, false] (by kernel_rfl) rfl rfl (hx334_0) (fun hHeld => ?_); refine with_tabW waterhourref04_numbers.tab9 waterhourref04_numbers.bits9 (fun HT_ HW_ => ?_)
             generalize wc.drew = w26 at HO_4 HB GG25 HQ27 hf25_0 hx25_0 hx334_0 hHeld ⊢
             refine pz_ 0 39 HT_ ?_
             refine pz_ 1 40 HT_ ?_
             refine pz_ 2 41 HT_ ?_
             refine pz_ 3 42 HT_ ?_
             refine pz_ 4 43 HT_ ?_
             refine pz_ 5 44 HT_ ?_
             refine pz_ 6 45 HT_ ?_
             refine pz_ 9 48 HT_ ?_
             refine pz_ 10 49 HT_ ?_
             refine take_ (i := 7) (N := some 46) (v := ?_) (a' := ?_) #[true, true, true, true, true, true, true, true, false, true, true, false, false, false, false, false, false, false] rfl rfl (take_ofW HT_.out HW_.out (by kernel_rfl)) (fun _ _ _ h => h) (Or.inl ⟨by rfl, ?_⟩) hHeld ?_ ?_
             rotate_left
             ·intro w' s0
              go_simp
              with_reducible rfl
             rotate_left
             ·simp only [Act.put, List.setIfInBounds_toArray, List.set_cons_zero, List.set_cons_succ, i64_w, i32_w]
              rfl
             refine pz_ 8 47 HT_ ?_
             refine take_ (i := 11) (N := some 50) (v := ?_) (a' := ?_) #[true, true, true, true, true, true, true, true, true, true, true, true, false, false, false, false, false, false] rfl rfl (take_ofW HT_.out HW_.out (by kernel_rfl)) (fun _ _ _ h => h) (Or.inl ⟨by rfl, ?_⟩) hHeld ?_ ?_
             rotate_left
             ·intro w' s0
              go_simp
              with_reducible rfl
             rotate_left
             ·simp only [Act.put, List.setIfInBounds_toArray, List.set_cons_zero, List.set_cons_succ, i64_w, i32_w]
              rfl
             refine pz_ 12 51 HT_ ?_
             refine pz_ 13 52 HT_ ?_
             refine pz_ 14 53 HT_ ?_
             refine pz_ 15 54 HT_ ?_
             refine pz_ 16 55 HT_ ?_
             refine last_ (i := 17) (N := none) #[true, true, true, true, true, true, true, true, true, true, true, true, true, true, true, true, true, true] rfl rfl (one_of HT_.out (by kernel_rfl)) (by decide) (fun K hK => ?_)
             refine skip_ (w1 := ?_) (by rfl) rfl ?_ ?_
             rotate_left
             ·go_simp
              rfl
             refine hK.out _ _ ?_
             clear hK K
             refine done_ (done_of HT_.out (by kernel_rfl)) ?_
             rw [u8w_, hji24_]
             try go_wp2
             go_roundg kj4
             case measure => have := HK1.out; have := HJ4.out; omega
             case rel => exact ⟨(y335), (wrap64 (x5_1 + 1)), (by first | rfl | (simp; done) | (simp [*]; done)), H', ⟨by have := HK1.out; have := HJ4.out; omega⟩, ⟨rl_ HQ27.out⟩, ⟨bl_⟩⟩
            ·rw [if_neg c22] at H
             exact absurd H (by simp)
           ·rw [if_neg c21] at H
            exact absurd H (by simp)
          ·rw [if_neg c19] at H
           have c19b0 : decide ((bt a0 x5_1) ≤ 57) = false := decide_eq_false c19
           clear c19
           simp only [Option.some.injEq, Prod.mk.injEq] at H
           obtain ⟨rfl, rfl⟩ := H
           have p16 : 0 ≤ (x5_1 : Int) := of_decide_eq_true (by first | (with_reducible assumption) | assumption)
           have q16 : x5_1 < (a0.size : Int) := of_decide_eq_true (by first | (with_reducible assumption) | assumption)
           have hx16 := bt_at a0 x5_1
           replace p16 := eq_true p16
           replace q16 := eq_true q16
           have p18 : 0 ≤ (x5_1 : Int) := of_decide_eq_true (by first | (with_reducible assumption) | assumption)
           have q18 : x5_1 < (a0.size : Int) := of_decide_eq_true (by first | (with_reducible assumption) | assumption)
           have hx18 := bt_at a0 x5_1
           replace p18 := eq_true p18
           replace q18 := eq_true q18
           go_wp2
           go_ret2
           exact ⟨_, by first | rfl | (simp [errW_none, errW_some] <;> rfl) | (simp [*, errW_none, errW_some] <;> rfl), by first | exact Kd.R_nil _ _ _ _ _ | exact Kd.N_nil _ _ _ _ _ | exact Kd.V_nil _ _ _ _ _ | exact Kd.Q_nil _ _ _ _ _ | exact Kd.S_nil _ _ _ _ _, bl_⟩
         ·rw [if_neg c17] at H
          have c17b0 : decide (48 ≤ (bt a0 x5_1)) = false := decide_eq_false c17
          clear c17
          simp only [Option.some.injEq, Prod.mk.injEq] at H
          obtain ⟨rfl, rfl⟩ := H
          have p16 : 0 ≤ (x5_1 : Int) := of_decide_eq_true (by first | (with_reducible assumption) | assumption)
          have q16 : x5_1 < (a0.size : Int) := of_decide_eq_true (by first | (with_reducible assumption) | assumption)
          have hx16 := bt_at a0 x5_1
          replace p16 := eq_true p16
          replace q16 := eq_true q16
          go_wp2
          go_ret2
          exact ⟨_, by first | rfl | (simp [errW_none, errW_some] <;> rfl) | (simp [*, errW_none, errW_some] <;> rfl), by first | exact Kd.R_nil _ _ _ _ _ | exact Kd.N_nil _ _ _ _ _ | exact Kd.V_nil _ _ _ _ _ | exact Kd.Q_nil _ _ _ _ _ | exact Kd.S_nil _ _ _ _ _, bl_⟩
        ·rw [if_neg c15] at H
         exact absurd H (by simp)
       ·rw [if_neg c14] at H
        exact absurd H (by simp)
   ·rw [if_neg c4] at H
    have c4b0 : decide (x5_1 < (a0.size : Int)) = false := decide_eq_false c4
    clear c4
    simp only [Option.some.injEq, Prod.mk.injEq] at H
    obtain ⟨rfl, rfl⟩ := H
    go_wp2
    go_ret2
    exact ⟨_, by first | rfl | (simp [errW_none, errW_some] <;> rfl) | (simp [*, errW_none, errW_some] <;> rfl), by (with_reducible repeat (first | apply Kd.R_alloc | apply Kd.R_drewN | apply Kd.R_drew)); exact HO_4.out, bl_⟩

end Go.Proofs.YtgiihjcpgjpkcaaGreatDoor.Q
