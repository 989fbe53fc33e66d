/- Contracts walked by hand and lemmas for them, as far as RefillDays needs them. -/
import Derived.Test.YtgiihjcpgjpkcaaDoorKM1
import Derived.Test.YtgiihjcpgjpkcaaDoorKHRegion
import Derived.Deep.RegionHeld
namespace Go.Proofs.YtgiihjcpgjpkcaaDoor.Q
open Go.RowKit Go.Shelf Go.Proofs.YtgiihjcpgjpkcaaDoorW.PrintWords Go.Proofs.YtgiihjcpgjpkcaaDoorW.PrintLast Go.Proofs.YtgiihjcpgjpkcaaDoorW.PrintMore
set_option linter.unusedVariables false
set_option linter.unusedSimpArgs false
attribute [local go_sem] Oper.semAt_some max2_int min2_int
theorem at_hi {W : World} {base go n co : Nat} {l : List S51} {i : Nat} (ho : Kd.R k51 51 W base (fun _ => True) (.slice (some ⟨go, 0, none⟩) n co) l) (h1 : i < n) :
    W.cell? ⟨go, i * 4 + 3, none⟩ = some (.int .i64 (rd_T51 l (i : Int)).f1.f1) ∧ W.frozen? ⟨go, i * 4 + 3, none⟩ = false ∧
    ∀ x : Int, Kd.R k51 51 (W.setCell ⟨go, i * 4 + 3, none⟩ (.int .i64 x)) base (fun _ => True) (.slice (some ⟨go, 0, none⟩) n co) (l.set i ⟨⟨(rd_T51 l (i : Int)).f0.f0, (rd_T51 l (i : Int)).f0.f1⟩, ⟨(rd_T51 l (i : Int)).f1.f0, x⟩⟩) := by
  obtain ⟨ce, hcl, hM, hcc, hfr⟩ := Kd.R_elem ho z51 (i : Int) (by omega) (by omega)
  obtain rfl := k51_openM hM
  exact ⟨hcc 3 _ rfl, hfr 3, fun x => (Kd.R_seg ho (i : Int) (by omega) (by omega) (seg := [.int .i64 x]) (j := 3) hcl hcc (show 4 ≤ 4 from by decide) (x' := (⟨⟨(rd_T51 l (i : Int)).f0.f0, (rd_T51 l (i : Int)).f0.f1⟩, ⟨(rd_T51 l (i : Int)).f1.f0, x⟩⟩ : S51)) (k51_mkM _ _ _ _) (fun _ hk => hk)).1⟩
theorem readsInt_two (w : World) (g : Nat) (i j : Int) (h : w.cell? ⟨g, 0, none⟩ = some (.int .i64 i)) (h' : w.cell? ⟨g, 1, none⟩ = some (.int .i64 j)) : Kd.C (Kd.int .i64) w (some ⟨g, 0, none⟩) 2 [i, j] :=
  Kd.C_of_reads (d := (0 : Int)) (h1 := fun _ => rfl) ⟨rfl, by omega, fun _ => ⟨_, rfl, fun k hk => by
    rcases Nat.lt_or_ge k 1 with hk1 | hk1
    · obtain rfl : k = 0 := by omega
      exact h
    · obtain rfl : k = 1 := by omega
      exact h'⟩⟩
def law_sane.f : Option Bool := some true
set_option maxHeartbeats 16000000 in
set_option maxRecDepth 100000 in
theorem law_sane.calls (r : Bool) (w : World) (ht : TabB w) (h : law_sane.f = some r) : Calls Tryd.prog 18 #[] w fun e w' => e = .returned (.bool r) ∧ Below w.heap.size w w' := by
  obtain rfl := Option.some.inj h
  clear h
  have hu49 := Tryd.underlying49
  have hu51 := Tryd.underlying51
  have HT := Aside0.mk ht
  clear ht
  go_enter Tryd.func18, Tryd.ntmps18
  go_wp2_with fail
  refine (waterhourlaw04_example.calls exD _ sane_example).mono ?_
  rintro e w1 ⟨v1, rfl, ho1, hb1⟩
  obtain ⟨g1, c1, e1, gb1, gl1, cl1, HG1⟩ := Kd.R_form ho1 (by decide)
  subst e1
  have HE := Aside0.mk (Kd.R_reads' ho1).2.2
  have hc1 : 2 ≤ c1 := (Kd.R_reads' ho1).2.1
  have HB := Aside0.mk hb1
  clear ho1 hb1 gb1 gl1 cl1 HG1
  simp only [show exD.length = 2 from rfl] at HE ⊢
  go_wp2_with fail
  refine (waterhourlaw04_example.calls exD _ sane_example).mono ?_
  rintro e w2 ⟨v2, rfl, ho2, hb2⟩
  obtain ⟨g2, c2, e2, gb2, gl2, cl2, HG2⟩ := Kd.R_form ho2 (by decide)
  subst e2
  simp only [show exD.length = 2 from rfl] at ho2 ⊢
  obtain ⟨hx, hf, hput⟩ := at_hi ho2 (i := 1) (by decide)
  have ho3 := hput 105
  have hb3 : Below w1.heap.size w1 (w2.setCell ⟨g2, 1 * 4 + 3, none⟩ (.int .i64 105)) := below_set hb2 gb2
  have HO3 := Aside0.mk ho3
  have HB3 := Aside0.mk hb3
  simp only [Nat.one_mul, Nat.reduceAdd] at hx hf
  clear hput ho2 ho3 hb3 hb2 gb2 gl2 cl2 HG2
  go_wp2_with fail
  have ho3 : Kd.R k51 51 (w2.setCell ⟨g2, 7, none⟩ (.int .i64 105)) w1.heap.size (fun _ => True) (.slice (some ⟨g2, 0, none⟩) 2 c2) lateD := HO3.out
  have hb3 : Below w1.heap.size w1 (w2.setCell ⟨g2, 7, none⟩ (.int .i64 105)) := HB3.out
  generalize w2.setCell ⟨g2, 7, none⟩ (.int .i64 105) = w3 at ho3 hb3 ⊢
  clear hx hf HO3 HB3
  have HL := Aside0.mk (Kd.R_reads' ho3).2.2
  have hc2 : 2 ≤ c2 := (Kd.R_reads' ho3).2.1
  replace HE := Aside0.mk (Kd.C_below HE.out hb3)
  replace HB := Aside0.mk (HB.out.trans (Below.mono hb3 HB.out.size))
  clear ho3 hb3
  refine (refill_Earliest.calls (some ⟨g1, 0, none⟩) c1 exD _ _ _ HE.out hc1 sane_Earliest).mono ?_
  rintro e w4 ⟨va, rfl, hoa, hb⟩
  replace HE := Aside0.mk (Kd.C_below HE.out hb)
  replace HL := Aside0.mk (Kd.C_below HL.out hb)
  replace HB := Aside0.mk (HB.out.trans (Below.mono hb HB.out.size))
  obtain ⟨Aa, ca, e_⟩ := Kd.R_slice hoa
  subst e_
  have HA := Aside0.mk (Kd.R_reads' hoa).2.2
  have hca : 2 ≤ ca := (Kd.R_reads' hoa).2.1
  simp only [List.length_cons, List.length_nil, Nat.reduceAdd, show closedD.length = 2 from rfl, show withoutD.length = 1 from rfl] at HA ⊢
  clear hoa
  clear hb
  go_wp2_with fail
  refine (refill_Latest.calls (some ⟨g1, 0, none⟩) c1 exD _ _ _ HE.out hc1 sane_Latest).mono ?_
  rintro e w5 ⟨vb, rfl, hob, hb⟩
  replace HE := Aside0.mk (Kd.C_below HE.out hb)
  replace HL := Aside0.mk (Kd.C_below HL.out hb)
  replace HA := Aside0.mk (Kd.C_below HA.out hb)
  replace HB := Aside0.mk (HB.out.trans (Below.mono hb HB.out.size))
  obtain ⟨Ab, cb, e_⟩ := Kd.R_slice hob
  subst e_
  have HBb := Aside0.mk (Kd.R_reads' hob).2.2
  have hcb : 2 ≤ cb := (Kd.R_reads' hob).2.1
  simp only [List.length_cons, List.length_nil, Nat.reduceAdd, show closedD.length = 2 from rfl, show withoutD.length = 1 from rfl] at HBb ⊢
  clear hob
  clear hb
  go_wp2_with fail
  refine (refill_Between.calls 60 (some ⟨g1, 0, none⟩) c1 exD 0 1 _ _ _ _ HE.out hc1 sane_Between).mono ?_
  rintro e w6 ⟨rfl, hb⟩
  replace HE := Aside0.mk (Kd.C_below HE.out hb)
  replace HL := Aside0.mk (Kd.C_below HL.out hb)
  replace HA := Aside0.mk (Kd.C_below HA.out hb)
  replace HBb := Aside0.mk (Kd.C_below HBb.out hb)
  replace HB := Aside0.mk (HB.out.trans (Below.mono hb HB.out.size))
  clear hb
  have hbk := Blk.new w6 49 #[.int .i64 100, .int .i64 115]
  have hbl : Below w6.heap.size w6 (w6.alloc (.cells #[.int .i64 100, .int .i64 115] 49)) := below_alloc (Below.refl _ _) _
  have HBK := Aside0.mk hbk
  have HBL := Aside0.mk hbl
  obtain ⟨gc, hgc⟩ : ∃ g, g = w6.heap.size := ⟨_, rfl⟩
  have HGC := Aside0.mk hgc
  clear hbk hbl hgc
  go_wp2_with fail
  have hbk := HBK.out
  have hbl := HBL.out
  rw [← HGC.out] at hbk ⊢
  clear HBK HBL
  generalize w6.alloc (.cells #[.int .i64 100, .int .i64 115] 49) = w7 at hbk hbl ⊢
  replace HE := Aside0.mk (Kd.C_below HE.out hbl)
  replace HL := Aside0.mk (Kd.C_below HL.out hbl)
  replace HA := Aside0.mk (Kd.C_below HA.out hbl)
  replace HBb := Aside0.mk (Kd.C_below HBb.out hbl)
  replace HB := Aside0.mk (HB.out.trans (Below.mono hbl HB.out.size))
  have HC := Aside0.mk hbk
  clear hbk hbl
  refine (refill_Clash.calls 60 (some ⟨g2, 0, none⟩) c2 lateD _ _ _ _ _ HL.out hc2 sane_Clash).mono ?_
  rintro e w8 ⟨rfl, hb⟩
  replace HE := Aside0.mk (Kd.C_below HE.out hb)
  replace HL := Aside0.mk (Kd.C_below HL.out hb)
  replace HA := Aside0.mk (Kd.C_below HA.out hb)
  replace HBb := Aside0.mk (Kd.C_below HBb.out hb)
  replace HC := Aside0.mk (Blk.below' HC.out hb)
  replace HB := Aside0.mk (HB.out.trans (Below.mono hb HB.out.size))
  clear hb
  go_wp2_with fail
  refine (refill_Proof.calls (some ⟨g1, 0, none⟩) c1 exD 0 true _ _ _ HE.out hc1 sane_Proof).mono ?_
  rintro e w9 ⟨rfl, hb⟩
  replace HE := Aside0.mk (Kd.C_below HE.out hb)
  replace HL := Aside0.mk (Kd.C_below HL.out hb)
  replace HA := Aside0.mk (Kd.C_below HA.out hb)
  replace HBb := Aside0.mk (Kd.C_below HBb.out hb)
  replace HC := Aside0.mk (Blk.below' HC.out hb)
  replace HB := Aside0.mk (HB.out.trans (Below.mono hb HB.out.size))
  clear hb
  go_wp2_with fail
  refine (refill_Closed.calls 60 (some ⟨g1, 0, none⟩) c1 exD _ _ _ HE.out hc1 sane_Closed).mono ?_
  rintro e w10 ⟨vk, rfl, hok, hb⟩
  replace HE := Aside0.mk (Kd.C_below HE.out hb)
  replace HL := Aside0.mk (Kd.C_below HL.out hb)
  replace HA := Aside0.mk (Kd.C_below HA.out hb)
  replace HBb := Aside0.mk (Kd.C_below HBb.out hb)
  replace HC := Aside0.mk (Blk.below' HC.out hb)
  replace HB := Aside0.mk (HB.out.trans (Below.mono hb HB.out.size))
  obtain ⟨Ak, ck, e_⟩ := Kd.R_slice hok
  subst e_
  have HK := Aside0.mk (Kd.R_reads' hok).2.2
  have hck : 2 ≤ ck := (Kd.R_reads' hok).2.1
  simp only [List.length_cons, List.length_nil, Nat.reduceAdd, show closedD.length = 2 from rfl, show withoutD.length = 1 from rfl] at HK ⊢
  clear hok
  clear hb
  go_wp2_with fail
  refine (refill_Print.calls 60 _ _ closedD _ _ _ HK.out hck (TabB.below HT.out HB.out) sane_Print).mono ?_
  rintro e w11 ⟨rfl, hb⟩
  replace HE := Aside0.mk (Kd.C_below HE.out hb)
  replace HL := Aside0.mk (Kd.C_below HL.out hb)
  replace HA := Aside0.mk (Kd.C_below HA.out hb)
  replace HBb := Aside0.mk (Kd.C_below HBb.out hb)
  replace HC := Aside0.mk (Blk.below' HC.out hb)
  replace HK := Aside0.mk (Kd.C_below HK.out hb)
  replace HB := Aside0.mk (HB.out.trans (Below.mono hb HB.out.size))
  unfold exText
  clear hb
  go_wp2_with fail
  clear HK hck
  refine (refill_Attain.calls 60 (some ⟨g1, 0, none⟩) c1 exD 1 120 _ _ _ _ HE.out hc1 sane_Attain).mono ?_
  rintro e w12 ⟨vn, rfl, hon, hb⟩
  replace HE := Aside0.mk (Kd.C_below HE.out hb)
  replace HL := Aside0.mk (Kd.C_below HL.out hb)
  replace HA := Aside0.mk (Kd.C_below HA.out hb)
  replace HBb := Aside0.mk (Kd.C_below HBb.out hb)
  replace HC := Aside0.mk (Blk.below' HC.out hb)
  replace HB := Aside0.mk (HB.out.trans (Below.mono hb HB.out.size))
  obtain ⟨An, cn, e_⟩ := Kd.R_slice hon
  subst e_
  have HN := Aside0.mk (Kd.R_reads' hon).2.2
  have hcn : 2 ≤ cn := (Kd.R_reads' hon).2.1
  simp only [List.length_cons, List.length_nil, Nat.reduceAdd, show closedD.length = 2 from rfl, show withoutD.length = 1 from rfl] at HN ⊢
  clear hon
  clear hb
  go_wp2_with fail
  refine (refill_Known.calls (some ⟨g1, 0, none⟩) c1 exD 1 126 130 _ _ _ HE.out hc1 sane_Known).mono ?_
  rintro e w13 ⟨vp, rfl, hop, hb⟩
  replace HE := Aside0.mk (Kd.C_below HE.out hb)
  replace HL := Aside0.mk (Kd.C_below HL.out hb)
  replace HA := Aside0.mk (Kd.C_below HA.out hb)
  replace HBb := Aside0.mk (Kd.C_below HBb.out hb)
  replace HC := Aside0.mk (Blk.below' HC.out hb)
  replace HN := Aside0.mk (Kd.C_below HN.out hb)
  replace HB := Aside0.mk (HB.out.trans (Below.mono hb HB.out.size))
  obtain ⟨Ap, cp, e_⟩ := Kd.R_slice hop
  subst e_
  simp only [List.length_nil]
  clear hop
  clear hb
  go_wp2_with fail
  refine (refill_Without.calls (some ⟨g1, 0, none⟩) c1 exD 0 _ _ _ HE.out hc1 sane_Without).mono ?_
  rintro e w14 ⟨vw, rfl, how, hb⟩
  replace HE := Aside0.mk (Kd.C_below HE.out hb)
  replace HL := Aside0.mk (Kd.C_below HL.out hb)
  replace HA := Aside0.mk (Kd.C_below HA.out hb)
  replace HBb := Aside0.mk (Kd.C_below HBb.out hb)
  replace HC := Aside0.mk (Blk.below' HC.out hb)
  replace HN := Aside0.mk (Kd.C_below HN.out hb)
  replace HB := Aside0.mk (HB.out.trans (Below.mono hb HB.out.size))
  obtain ⟨Aw, cw, e_⟩ := Kd.R_slice how
  subst e_
  have HW := Aside0.mk (Kd.R_reads' how).2.2
  have hcw : 1 ≤ cw := (Kd.R_reads' how).2.1
  simp only [List.length_cons, List.length_nil, Nat.reduceAdd, show closedD.length = 2 from rfl, show withoutD.length = 1 from rfl] at HW ⊢
  clear how
  clear hb
  go_wp2_with fail
  have hwc := Kd.C_below HW.out (Below.refl _ _)
  obtain ⟨adw, e_, _⟩ := at_T51 hwc 0 (by decide) (by decide)
  subst e_
  clear hwc
  have hblk := Blk.new w14 3 #[.int .i64 10, .int .i64 110]
  have hrr := readsInt_two _ _ 10 110 (hblk.cell 0) (hblk.cell 1)
  have HR1 := Aside0.mk hrr
  have hbl : Below w14.heap.size w14 (w14.alloc (.cells #[.int .i64 10, .int .i64 110] 3)) := below_alloc (Below.refl _ _) _
  replace HE := Aside0.mk (Kd.C_below HE.out hbl)
  replace HL := Aside0.mk (Kd.C_below HL.out hbl)
  replace HA := Aside0.mk (Kd.C_below HA.out hbl)
  replace HBb := Aside0.mk (Kd.C_below HBb.out hbl)
  replace HC := Aside0.mk (Blk.below' HC.out hbl)
  replace HN := Aside0.mk (Kd.C_below HN.out hbl)
  replace HW := Aside0.mk (Kd.C_below HW.out hbl)
  replace HB := Aside0.mk (HB.out.trans (Below.mono hbl HB.out.size))
  clear hblk hrr hbl
  refine (slices_Equal_int_int.calls 60 Aa ca [10, 110] _ 2 [10, 110] true _ HA.out hca HR1.out (Nat.le_refl _) (sane_Equal _ _ _ rfl)).mono ?_
  rintro e w15 ⟨rfl, hb⟩
  replace hb := Drawn0.below hb
  replace HE := Aside0.mk (Kd.C_below HE.out hb)
  replace HL := Aside0.mk (Kd.C_below HL.out hb)
  replace HA := Aside0.mk (Kd.C_below HA.out hb)
  replace HBb := Aside0.mk (Kd.C_below HBb.out hb)
  replace HC := Aside0.mk (Blk.below' HC.out hb)
  replace HN := Aside0.mk (Kd.C_below HN.out hb)
  replace HW := Aside0.mk (Kd.C_below HW.out hb)
  replace HB := Aside0.mk (HB.out.trans (Below.mono hb HB.out.size))
  clear hb
  clear HR1
  go_wp2_with fail
  have hblk := Blk.new w15 3 #[.int .i64 25, .int .i64 125]
  have hrr := readsInt_two _ _ 25 125 (hblk.cell 0) (hblk.cell 1)
  have HR1 := Aside0.mk hrr
  have hbl : Below w15.heap.size w15 (w15.alloc (.cells #[.int .i64 25, .int .i64 125] 3)) := below_alloc (Below.refl _ _) _
  replace HE := Aside0.mk (Kd.C_below HE.out hbl)
  replace HL := Aside0.mk (Kd.C_below HL.out hbl)
  replace HA := Aside0.mk (Kd.C_below HA.out hbl)
  replace HBb := Aside0.mk (Kd.C_below HBb.out hbl)
  replace HC := Aside0.mk (Blk.below' HC.out hbl)
  replace HN := Aside0.mk (Kd.C_below HN.out hbl)
  replace HW := Aside0.mk (Kd.C_below HW.out hbl)
  replace HB := Aside0.mk (HB.out.trans (Below.mono hbl HB.out.size))
  clear hblk hrr hbl
  refine (slices_Equal_int_int.calls 60 Ab cb [25, 125] _ 2 [25, 125] true _ HBb.out hcb HR1.out (Nat.le_refl _) (sane_Equal _ _ _ rfl)).mono ?_
  rintro e w16 ⟨rfl, hb⟩
  replace hb := Drawn0.below hb
  replace HE := Aside0.mk (Kd.C_below HE.out hb)
  replace HL := Aside0.mk (Kd.C_below HL.out hb)
  replace HA := Aside0.mk (Kd.C_below HA.out hb)
  replace HBb := Aside0.mk (Kd.C_below HBb.out hb)
  replace HC := Aside0.mk (Blk.below' HC.out hb)
  replace HN := Aside0.mk (Kd.C_below HN.out hb)
  replace HW := Aside0.mk (Kd.C_below HW.out hb)
  replace HB := Aside0.mk (HB.out.trans (Below.mono hb HB.out.size))
  clear hb
  clear HR1
  have q0 : w16.cell? ⟨gc, 0, none⟩ = some (.int .i64 100) := HC.out.cell 0
  have q1 : w16.cell? ⟨gc, 1, none⟩ = some (.int .i64 115) := HC.out.cell 1
  go_wp2_with fail
  have hblk := Blk.new w16 3 #[.int .i64 10, .int .i64 120]
  have hrr := readsInt_two _ _ 10 120 (hblk.cell 0) (hblk.cell 1)
  have HR1 := Aside0.mk hrr
  have hbl : Below w16.heap.size w16 (w16.alloc (.cells #[.int .i64 10, .int .i64 120] 3)) := below_alloc (Below.refl _ _) _
  replace HE := Aside0.mk (Kd.C_below HE.out hbl)
  replace HL := Aside0.mk (Kd.C_below HL.out hbl)
  replace HA := Aside0.mk (Kd.C_below HA.out hbl)
  replace HBb := Aside0.mk (Kd.C_below HBb.out hbl)
  replace HC := Aside0.mk (Blk.below' HC.out hbl)
  replace HN := Aside0.mk (Kd.C_below HN.out hbl)
  replace HW := Aside0.mk (Kd.C_below HW.out hbl)
  replace HB := Aside0.mk (HB.out.trans (Below.mono hbl HB.out.size))
  clear hblk hrr hbl
  refine (slices_Equal_int_int.calls 60 An cn [10, 120] _ 2 [10, 120] true _ HN.out hcn HR1.out (Nat.le_refl _) (sane_Equal _ _ _ rfl)).mono ?_
  rintro e w17 ⟨rfl, hb⟩
  replace hb := Drawn0.below hb
  replace HE := Aside0.mk (Kd.C_below HE.out hb)
  replace HL := Aside0.mk (Kd.C_below HL.out hb)
  replace HA := Aside0.mk (Kd.C_below HA.out hb)
  replace HBb := Aside0.mk (Kd.C_below HBb.out hb)
  replace HC := Aside0.mk (Blk.below' HC.out hb)
  replace HN := Aside0.mk (Kd.C_below HN.out hb)
  replace HW := Aside0.mk (Kd.C_below HW.out hb)
  replace HB := Aside0.mk (HB.out.trans (Below.mono hb HB.out.size))
  clear hb
  clear HR1 q0 q1
  obtain ⟨q0, q1⟩ := rd_cells HW.out 0 (by decide)
  rw [show adw.add (0 * 4) = adw from rfl] at q0 q1
  have hq0 : (rd_T51 withoutD ((0 : Nat) : Int)).f0.f0 = 110 := rfl
  have hq1 : (rd_T51 withoutD ((0 : Nat) : Int)).f0.f1 = 150 := rfl
  rw [hq0] at q0
  rw [hq1] at q1
  clear hq0 hq1
  go_wp2_with fail
  have hblk := Blk.new w17 3 #[.int .i64 25, .int .i64 125]
  have hrr := readsInt_two _ _ 25 125 (hblk.cell 0) (hblk.cell 1)
  have HR1 := Aside0.mk hrr
  have hbl : Below w17.heap.size w17 (w17.alloc (.cells #[.int .i64 25, .int .i64 125] 3)) := below_alloc (Below.refl _ _) _
  replace HE := Aside0.mk (Kd.C_below HE.out hbl)
  replace HL := Aside0.mk (Kd.C_below HL.out hbl)
  replace HA := Aside0.mk (Kd.C_below HA.out hbl)
  replace HBb := Aside0.mk (Kd.C_below HBb.out hbl)
  replace HC := Aside0.mk (Blk.below' HC.out hbl)
  replace HN := Aside0.mk (Kd.C_below HN.out hbl)
  replace HW := Aside0.mk (Kd.C_below HW.out hbl)
  replace HB := Aside0.mk (HB.out.trans (Below.mono hbl HB.out.size))
  clear hblk hrr hbl
  refine (refill_CheckTimes.calls (some ⟨g1, 0, none⟩) c1 exD _ 2 [25, 125] _ _ HE.out hc1 HR1.out (Nat.le_refl _) sane_Times).mono ?_
  rintro e w18 ⟨rfl, hb⟩
  replace HE := Aside0.mk (Kd.C_below HE.out hb)
  replace HL := Aside0.mk (Kd.C_below HL.out hb)
  replace HA := Aside0.mk (Kd.C_below HA.out hb)
  replace HBb := Aside0.mk (Kd.C_below HBb.out hb)
  replace HC := Aside0.mk (Blk.below' HC.out hb)
  replace HN := Aside0.mk (Kd.C_below HN.out hb)
  replace HW := Aside0.mk (Kd.C_below HW.out hb)
  replace HB := Aside0.mk (HB.out.trans (Below.mono hb HB.out.size))
  clear hb
  clear HR1 q0 q1
  go_wp2_with fail
  have hblk := Blk.new w18 3 #[.int .i64 26, .int .i64 125]
  have hrr := readsInt_two _ _ 26 125 (hblk.cell 0) (hblk.cell 1)
  have HR1 := Aside0.mk hrr
  have hbl : Below w18.heap.size w18 (w18.alloc (.cells #[.int .i64 26, .int .i64 125] 3)) := below_alloc (Below.refl _ _) _
  replace HE := Aside0.mk (Kd.C_below HE.out hbl)
  replace HL := Aside0.mk (Kd.C_below HL.out hbl)
  replace HA := Aside0.mk (Kd.C_below HA.out hbl)
  replace HBb := Aside0.mk (Kd.C_below HBb.out hbl)
  replace HC := Aside0.mk (Blk.below' HC.out hbl)
  replace HN := Aside0.mk (Kd.C_below HN.out hbl)
  replace HW := Aside0.mk (Kd.C_below HW.out hbl)
  replace HB := Aside0.mk (HB.out.trans (Below.mono hbl HB.out.size))
  clear hblk hrr hbl
  refine (refill_CheckTimes.calls (some ⟨g1, 0, none⟩) c1 exD _ 2 [26, 125] _ _ HE.out hc1 HR1.out (Nat.le_refl _) sane_Times').mono ?_
  rintro e w19 ⟨rfl, hb⟩
  replace HE := Aside0.mk (Kd.C_below HE.out hb)
  replace HL := Aside0.mk (Kd.C_below HL.out hb)
  replace HA := Aside0.mk (Kd.C_below HA.out hb)
  replace HBb := Aside0.mk (Kd.C_below HBb.out hb)
  replace HC := Aside0.mk (Blk.below' HC.out hb)
  replace HN := Aside0.mk (Kd.C_below HN.out hb)
  replace HW := Aside0.mk (Kd.C_below HW.out hb)
  replace HB := Aside0.mk (HB.out.trans (Below.mono hb HB.out.size))
  clear hb
  clear HR1
  go_wp2_with fail
  refine (refill_CheckClash.calls 60 (some ⟨g2, 0, none⟩) c2 lateD (-1) 1 _ _ HL.out hc2 sane_CheckClash).mono ?_
  rintro e w20 ⟨rfl, hb⟩
  replace HE := Aside0.mk (Kd.C_below HE.out hb)
  replace HL := Aside0.mk (Kd.C_below HL.out hb)
  replace HA := Aside0.mk (Kd.C_below HA.out hb)
  replace HBb := Aside0.mk (Kd.C_below HBb.out hb)
  replace HC := Aside0.mk (Blk.below' HC.out hb)
  replace HN := Aside0.mk (Kd.C_below HN.out hb)
  replace HW := Aside0.mk (Kd.C_below HW.out hb)
  replace HB := Aside0.mk (HB.out.trans (Below.mono hb HB.out.size))
  clear hb
  go_wp2_with fail
  refine (refill_CheckProof.calls 60 (some ⟨g1, 0, none⟩) c1 exD 0 true 24 1 _ _ HE.out hc1 sane_CheckProof).mono ?_
  rintro e w21 ⟨rfl, hb⟩
  replace HE := Aside0.mk (Kd.C_below HE.out hb)
  replace HL := Aside0.mk (Kd.C_below HL.out hb)
  replace HA := Aside0.mk (Kd.C_below HA.out hb)
  replace HBb := Aside0.mk (Kd.C_below HBb.out hb)
  replace HC := Aside0.mk (Blk.below' HC.out hb)
  replace HN := Aside0.mk (Kd.C_below HN.out hb)
  replace HW := Aside0.mk (Kd.C_below HW.out hb)
  replace HB := Aside0.mk (HB.out.trans (Below.mono hb HB.out.size))
  clear hb
  go_wp2_with fail
  refine (refill_Check.calls 60 none 0 [] _ _ (Kd.C_nil _ _) (Nat.le_refl _) sane_Check).mono ?_
  rintro e w22 ⟨rfl, hb⟩
  replace HE := Aside0.mk (Kd.C_below HE.out hb)
  replace HL := Aside0.mk (Kd.C_below HL.out hb)
  replace HA := Aside0.mk (Kd.C_below HA.out hb)
  replace HBb := Aside0.mk (Kd.C_below HBb.out hb)
  replace HC := Aside0.mk (Blk.below' HC.out hb)
  replace HN := Aside0.mk (Kd.C_below HN.out hb)
  replace HW := Aside0.mk (Kd.C_below HW.out hb)
  replace HB := Aside0.mk (HB.out.trans (Below.mono hb HB.out.size))
  clear hb
  go_wp2
  go_ret
  exact ⟨rfl, HB.out⟩
end Go.Proofs.YtgiihjcpgjpkcaaDoor.Q
