/- Contracts walked by hand and lemmas for them, as far as RefillDays needs them. -/
import Derived.Test.YtgiihjcpgjpkcaaDoorKHKnown
import Derived.Test.YtgiihjcpgjpkcaaDoorKHDelete
namespace Go.Proofs.YtgiihjcpgjpkcaaDoor.Q
open Go.RowKit Go.Shelf Go.Proofs.YtgiihjcpgjpkcaaDoorW.PrintWords Go.Proofs.YtgiihjcpgjpkcaaDoorW.PrintLast Go.Proofs.YtgiihjcpgjpkcaaDoorW.PrintMore
set_option linter.unusedVariables false
set_option linter.unusedSimpArgs false
attribute [local go_sem] Oper.semAt_some max2_int min2_int
def sumBehind (d : List S51) (i : Nat) : Int × Int := ((rd_T51 d ((i + 1 : Nat) : Int)).f0.f0 + (rd_T51 d (i : Int)).f0.f0, (rd_T51 d ((i + 1 : Nat) : Int)).f0.f1 + (rd_T51 d (i : Int)).f0.f1)
def withoutErr (d : List S51) (i : Int) : Int := if vd d = true then (if 0 ≤ i ∧ i < d.length then (if d.length = 1 then 1 else if i.toNat + 1 < d.length then (if (sumBehind d i.toNat).2 > 524288 then 2 else 0) else 0) else 1) else 40
def summed (d : List S51) (i : Nat) : List S51 := if i + 1 < d.length then d.set (i + 1) ⟨⟨(sumBehind d i).1, (sumBehind d i).2⟩, ⟨(rd_T51 d ((i + 1 : Nat) : Int)).f1.f0, (rd_T51 d ((i + 1 : Nat) : Int)).f1.f1⟩⟩ else d
def refill_Without.f (l0 : List S51) (a1 : Int) : Option (List S51 × Int) := some (if withoutErr l0 a1 = 0 then (summed l0 a1.toNat).eraseIdx a1.toNat else [], withoutErr l0 a1)
theorem behind_lo {W : World} {base go n co : Nat} {l : List S51} {i : Nat} (ho : Kd.R k51 51 W base (fun _ => True) (.slice (some ⟨go, 0, none⟩) n co) l) (h1 : i < n) :
    W.cell? ⟨go, i * 4, none⟩ = some (.int .i64 (rd_T51 l (i : Int)).f0.f0) ∧ W.frozen? ⟨go, i * 4, none⟩ = false ∧
    ∀ x : Int, Kd.R k51 51 (W.setCell ⟨go, i * 4, none⟩ (.int .i64 x)) base (fun _ => True) (.slice (some ⟨go, 0, none⟩) n co) (l.set i ⟨⟨x, (rd_T51 l (i : Int)).f0.f1⟩, ⟨(rd_T51 l (i : Int)).f1.f0, (rd_T51 l (i : Int)).f1.f1⟩⟩) := by
  obtain ⟨ce, hcl, hM, hcc, hfr⟩ := Kd.R_elem ho z51 (i : Int) (by omega) (by omega)
  obtain rfl := k51_openM hM
  exact ⟨hcc 0 _ rfl, hfr 0, fun x => (Kd.R_seg ho (i : Int) (by omega) (by omega) (seg := [.int .i64 x]) (j := 0) hcl hcc (show 1 ≤ 4 from by decide) (x' := (⟨⟨x, (rd_T51 l (i : Int)).f0.f1⟩, ⟨(rd_T51 l (i : Int)).f1.f0, (rd_T51 l (i : Int)).f1.f1⟩⟩ : S51)) (k51_mkM _ _ _ _) (fun _ hk => hk)).1⟩
theorem behind_hi {W : World} {base go n co : Nat} {l : List S51} {i : Nat} (ho : Kd.R k51 51 W base (fun _ => True) (.slice (some ⟨go, 0, none⟩) n co) l) (h1 : i < n) :
    W.cell? ⟨go, i * 4 + 1, none⟩ = some (.int .i64 (rd_T51 l (i : Int)).f0.f1) ∧ W.frozen? ⟨go, i * 4 + 1, none⟩ = false ∧
    ∀ x : Int, Kd.R k51 51 (W.setCell ⟨go, i * 4 + 1, none⟩ (.int .i64 x)) base (fun _ => True) (.slice (some ⟨go, 0, none⟩) n co) (l.set i ⟨⟨(rd_T51 l (i : Int)).f0.f0, x⟩, ⟨(rd_T51 l (i : Int)).f1.f0, (rd_T51 l (i : Int)).f1.f1⟩⟩) := by
  obtain ⟨ce, hcl, hM, hcc, hfr⟩ := Kd.R_elem ho z51 (i : Int) (by omega) (by omega)
  obtain rfl := k51_openM hM
  exact ⟨hcc 1 _ rfl, hfr 1, fun x => (Kd.R_seg ho (i : Int) (by omega) (by omega) (seg := [.int .i64 x]) (j := 1) hcl hcc (show 2 ≤ 4 from by decide) (x' := (⟨⟨(rd_T51 l (i : Int)).f0.f0, x⟩, ⟨(rd_T51 l (i : Int)).f1.f0, (rd_T51 l (i : Int)).f1.f1⟩⟩ : S51)) (k51_mkM _ _ _ _) (fun _ hk => hk)).1⟩
theorem rd_set {l : List S51} {i : Nat} (x : S51) (h : i < l.length) : rd_T51 (l.set i x) (i : Int) = x := by
  unfold rd_T51
  rw [Int.toNat_natCast, List.getD_eq_getElem?_getD, List.getElem?_set_self h]
  rfl
theorem rd_ok {l : List S51} (h : vd l = true) {i : Nat} (hi : i < l.length) : evOk (rd_T51 l (i : Int)) = true := by
  unfold rd_T51
  rw [Int.toNat_natCast, List.getD_eq_getElem?_getD, List.getElem?_eq_getElem hi]
  exact (vd_iff.1 h).2.2 _ (List.getElem_mem hi)
theorem rd_cells {w : World} {ad : Addr} {n : Nat} {xs : List S51} (h : Kd.C k51 w (some ad) n xs) (i : Nat) (h1 : i < n) : w.cell? (ad.add (i * 4)) = some (.int .i64 (rd_T51 xs (i : Int)).f0.f0) ∧ w.cell? ⟨(ad.add (i * 4)).block, (ad.add (i * 4)).off + 1, none⟩ = some (.int .i64 (rd_T51 xs (i : Int)).f0.f1) := by
  obtain ⟨ad', e, h0, h1, _⟩ := at_T51 h (i : Int) (by omega) (by omega)
  injection e with e
  subst e
  exact ⟨h0, h1⟩
set_option maxHeartbeats 8000000 in
set_option maxRecDepth 100000 in
theorem refill_Without.calls (A0 : Option Addr) (c0 : Nat) (l0 : List S51) (a1 : Int) (r1 : List S51) (r2 : Int) (w : World) (hr0 : Kd.C k51 w A0 l0.length l0) (hc0 : l0.length ≤ c0) (h : refill_Without.f l0 a1 = some (r1, r2)) :
    Calls Tryd.prog 35 #[.slice A0 l0.length c0, .int .i64 a1] w fun e w' => ∃ v0_ : Value, e = .returned (.tuple #[v0_, .int .i64 r2]) ∧ Kd.R k51 51 w' w.heap.size (fun _ => True) v0_ r1 ∧ Below w.heap.size w w' := by
  unfold refill_Without.f at h
  simp only [Option.some.injEq, Prod.mk.injEq] at h
  obtain ⟨h1, h2⟩ := h
  have hev := event_one l0 a1 40 (Nat.le_refl _)
  have HC0 := Aside0.mk hc0
  have B2 : Below w.heap.size w (w.alloc (.cells #[.int .i64 a1] 3)) := below_alloc (Below.refl _ _) _
  have b1 := Blk.new w 3 #[.int .i64 a1]
  have NB1 := Aside0.mk b1
  have BB2 := Aside0.mk B2
  clear b1 B2 hc0
  by_cases hok : vd l0 = true ∧ 0 ≤ a1 ∧ a1 < l0.length
  · have hev' : refill_event.f 40 l0 0 [a1] = some 0 := by rw [hev, if_pos hok.1, if_pos hok.2]
    have HEV := Aside0.mk hev'
    have HER := Aside0.mk (show withoutErr l0 a1 = (if l0.length = 1 then 1 else if a1.toNat + 1 < l0.length then (if (sumBehind l0 a1.toNat).2 > 524288 then 2 else 0) else 0) by unfold withoutErr; rw [if_pos hok.1, if_pos hok.2])
    obtain ⟨hv, hi0, hi1⟩ := hok
    obtain ⟨i, rfl⟩ : ∃ i : Nat, a1 = i := ⟨a1.toNat, by omega⟩
    have hil : i < l0.length := by omega
    obtain ⟨ad, rfl⟩ : ∃ ad, A0 = some ad := by
      obtain ⟨ad, e, _⟩ := at_T51 hr0 (i : Int) hi0 hi1
      exact ⟨ad, e⟩
    have hadlt : (ad.add (i * 4)).block < w.heap.size := World.block_lt_of_cell? _ _ (rd_cells hr0 i hil).1
    have HAD := Aside0.mk hadlt
    have HR0 := Aside0.mk hr0
    have HV := Aside0.mk hv
    have hl32 := (vd_iff.1 hv).2.1
    have H1 := Aside0.mk h1
    have H2 := Aside0.mk h2
    clear hev hev' hr0 hadlt hv h1 h2
    go_enter Tryd.func35, Tryd.ntmps35
    go_wp2_with fail
    refine (refill_event.calls 40 _ _ l0 _ _ _ [(i : Int)] _ _ (Kd.C_below HR0.out BB2.out) HC0.out (readsInt_one _ _ _ (NB1.out.cell 0)) (Nat.le_refl _) HEV.out).mono ?_
    rintro e w4 ⟨rfl, hb4⟩
    have BB4 := Aside0.mk (BB2.out.trans (hb4.mono BB2.out.size))
    clear hb4
    by_cases hone : l0.length = 1
    · have hz : withoutErr l0 i = 1 := by rw [HER.out, if_pos hone]
      have e1 := H1.out
      have e2 := H2.out
      rw [hz] at e1 e2
      rw [if_neg (by decide)] at e1
      subst e1 e2
      have hone' : ((l0.length : Int) == 1) = true := by rw [hone]; rfl
      clear hz hone
      go_wp2
      go_ret2
      exact ⟨_, rfl, Kd.R_nil _ _ _ _ _, BB4.out⟩
    · have hone' : ((l0.length : Int) == 1) = false := by rw [beq_eq_false_iff_ne]; omega
      have hcl : slices_CloneDay.f l0 = some l0 := by
        unfold slices_CloneDay.f
        rw [if_pos (by omega)]
      have HCL := Aside0.mk hcl
      have HONE := Aside0.mk hone
      clear hcl hone
      go_wp2_with fail
      refine (slices_CloneDay.calls _ _ l0 _ _ (Kd.C_below HR0.out BB4.out) HC0.out HCL.out).mono ?_
      rintro e w6 ⟨v6, rfl, ho6, hb6⟩
      have BB6 := Aside0.mk (BB4.out.trans (hb6.mono BB4.out.size))
      obtain ⟨go, co, eo, gb, gl, cl, HG⟩ := Kd.R_form ho6 (by omega)
      subst eo
      have gbw : w.heap.size ≤ go := Nat.le_trans BB4.out.size gb
      have GB := Aside0.mk gbw
      have ho := Kd.R_lower ho6 BB4.out.size
      clear hb6 ho6 gb gl HG cl
      have hw1 : IntKind.i64.wrap ((i : Int) + 1) = (i : Int) + 1 := by rw [IntKind.wrap_i64]; omega
      by_cases hlast : i + 1 < l0.length
      · have hb1 := evOk_iff.1 (rd_ok HV.out hlast)
        have hb0 := evOk_iff.1 (rd_ok HV.out hil)
        obtain ⟨hy0, hy1⟩ := rd_cells (Kd.C_below HR0.out (below_drew BB6.out)) i hil
        obtain ⟨hx0, hf0, hput0⟩ := behind_lo (Kd.R_drew ho) hlast
        obtain ⟨e0, he0⟩ : ∃ e, e = rd_T51 l0 (i : Int) := ⟨_, rfl⟩
        obtain ⟨e1, he1⟩ : ∃ e, e = rd_T51 l0 ((i + 1 : Nat) : Int) := ⟨_, rfl⟩
        have HE0 := Aside0.mk he0
        have HE1 := Aside0.mk he1
        rw [← he1] at hx0 hput0 hb1
        rw [← he0] at hy0 hb0
        obtain ⟨u0, hu0⟩ : ∃ u, u = e1.f0.f0 + e0.f0.f0 := ⟨_, rfl⟩
        obtain ⟨u1, hu1⟩ : ∃ u, u = e1.f0.f1 + e0.f0.f1 := ⟨_, rfl⟩
        have hs0 : wrap64 (e1.f0.f0 + e0.f0.f0) = u0 := by rw [hu0]; unfold wrap64; omega
        have hs1 : wrap64 (e1.f0.f1 + e0.f0.f1) = u1 := by rw [hu1]; unfold wrap64; omega
        have ho7 := hput0 u0
        have bb7 : Below w.heap.size w (w6.drew.setCell ⟨go, (i + 1) * 4, none⟩ (.int .i64 u0)) := below_set (below_drew BB6.out) GB.out
        have HO7 := Aside0.mk ho7
        have BB7 := Aside0.mk bb7
        have HU0 := Aside0.mk hu0
        have HU1 := Aside0.mk hu1
        have hp0 : (0 : Int) ≤ (i : Int) + 1 := by omega
        have hp1 : (i : Int) + 1 < (l0.length : Int) := by omega
        have hp2 : ((i : Int) + 1).toNat = i + 1 := by omega
        have hi2 : (i : Int).toNat = i := by omega
        clear ho7 bb7 hput0 hu0 hu1 hb0 hb1 hy1 he0 he1
        go_wp2
        go_region
        have ho7 : Kd.R k51 51 ((w6.setCell ⟨go, (i + 1) * 4, none⟩ (.int .i64 u0)).drew) w.heap.size (fun _ => True) (.slice (some ⟨go, 0, none⟩) l0.length co) _ := HO7.out
        have bb7 : Below w.heap.size w ((w6.setCell ⟨go, (i + 1) * 4, none⟩ (.int .i64 u0)).drew) := BB7.out
        generalize (w6.setCell ⟨go, (i + 1) * 4, none⟩ (.int .i64 u0)).drew = w7 at ho7 bb7 ⊢
        clear hx0 hf0 hy0 HO7 BB7
        have hrs := rd_set (l := l0) (i := i + 1) ⟨⟨u0, e1.f0.f1⟩, ⟨e1.f1.f0, e1.f1.f1⟩⟩ hlast
        obtain ⟨_, hy1⟩ := rd_cells (Kd.C_below HR0.out (below_drew bb7)) i hil
        obtain ⟨hx0, hf0, hput0⟩ := behind_hi (Kd.R_drew ho7) hlast
        rw [hrs] at hx0 hput0
        rw [← HE0.out] at hy1
        have ho8 := hput0 u1
        rw [List.set_set] at ho8
        have bb8 : Below w.heap.size w (w7.drew.setCell ⟨go, (i + 1) * 4 + 1, none⟩ (.int .i64 u1)) := below_set (below_drew bb7) GB.out
        have HO8 := Aside0.mk ho8
        have BB8 := Aside0.mk bb8
        clear ho8 bb8 ho7 bb7 hput0 hrs
        go_wp2
        go_region
        have ho8 : Kd.R k51 51 ((w7.setCell ⟨go, (i + 1) * 4 + 1, none⟩ (.int .i64 u1)).drew) w.heap.size (fun _ => True) (.slice (some ⟨go, 0, none⟩) l0.length co) _ := HO8.out
        have bb8 : Below w.heap.size w ((w7.setCell ⟨go, (i + 1) * 4 + 1, none⟩ (.int .i64 u1)).drew) := BB8.out
        generalize (w7.setCell ⟨go, (i + 1) * 4 + 1, none⟩ (.int .i64 u1)).drew = w8 at ho8 bb8 ⊢
        clear hx0 hf0 hy1 HO8 BB8
        have hrs := rd_set (l := l0) (i := i + 1) ⟨⟨u0, u1⟩, ⟨e1.f1.f0, e1.f1.f1⟩⟩ hlast
        obtain ⟨hx0, _, _⟩ := behind_hi ho8 hlast
        simp only [hrs] at hx0
        have hsu : summed l0 i = l0.set (i + 1) ⟨⟨u0, u1⟩, ⟨e1.f1.f0, e1.f1.f1⟩⟩ := by
          unfold summed sumBehind
          rw [if_pos hlast, ← HE0.out, ← HE1.out, HU0.out, HU1.out]
        have hez : withoutErr l0 i = if u1 > 524288 then 2 else 0 := by
          rw [HER.out, if_neg HONE.out, hi2, if_pos hlast]
          unfold sumBehind
          rw [← HE0.out, ← HE1.out, ← HU1.out]
        have HSU := Aside0.mk hsu
        have HO8 := Aside0.mk ho8
        have BB8 := Aside0.mk bb8
        clear hrs hsu ho8 bb8
        by_cases hgt : u1 > 524288
        · rw [if_pos hgt] at hez
          have q1 := H1.out
          have q2 := H2.out
          rw [hez] at q1 q2
          rw [if_neg (by decide)] at q1
          subst q1 q2
          have hgt' : decide (524288 < u1) = true := decide_eq_true hgt
          clear hez hgt
          go_wp2
          go_ret2
          exact ⟨_, rfl, Kd.R_nil _ _ _ _ _, BB8.out⟩
        · rw [if_neg hgt] at hez
          have q1 := H1.out
          have q2 := H2.out
          rw [hez] at q1 q2
          rw [if_pos rfl, hi2, HSU.out] at q1
          subst q1 q2
          have hgt' : decide (524288 < u1) = false := decide_eq_false hgt
          clear hez hgt
          go_wp2_with fail
          obtain ⟨hlen, hgo, hrow⟩ := row_of_R HO8.out
          have hcalls := slices_DeleteDay.calls go co i _ _ hrow (by rw [← hlen]; exact hil)
          rw [← hlen] at hcalls
          refine hcalls.mono ?_
          rintro e w9 ⟨rfl, hrow9, hb9⟩
          have bb9 := BB8.out.trans (hb9.mono hgo)
          have hR := R_of_row hgo hrow9
          rw [List.length_eraseIdx_of_lt (by rw [← hlen]; exact hil), ← hlen] at hR
          clear hcalls hlen hrow hrow9 hgo hb9
          go_wp2
          go_ret2
          exact ⟨_, rfl, hR, bb9⟩
      · have hez : withoutErr l0 i = 0 := by rw [HER.out, if_neg HONE.out, if_neg (by omega)]
        have hsu : summed l0 i = l0 := if_neg hlast
        have hi2 : (i : Int).toNat = i := by omega
        have q1 := H1.out
        have q2 := H2.out
        rw [hez] at q1 q2
        rw [if_pos rfl, hi2, hsu] at q1
        subst q1 q2
        have hp1 : ¬ (i : Int) + 1 < (l0.length : Int) := by omega
        have HO := Aside0.mk ho
        clear hez hsu ho
        go_wp2_with fail
        obtain ⟨hlen, hgo, hrow⟩ := row_of_R HO.out
        have hcalls := slices_DeleteDay.calls go co i _ _ hrow (by rw [← hlen]; exact hil)
        refine hcalls.mono ?_
        rintro e w9 ⟨rfl, hrow9, hb9⟩
        have bb9 := BB6.out.trans (hb9.mono hgo)
        have hR := R_of_row hgo hrow9
        rw [List.length_eraseIdx_of_lt (by rw [← hlen]; exact hil)] at hR
        clear hcalls hlen hrow hrow9 hgo hb9
        go_wp2
        go_ret2
        exact ⟨_, rfl, hR, bb9⟩
  · obtain ⟨z, hz, hz0, hzv⟩ : ∃ z, refill_event.f 40 l0 0 [a1] = some z ∧ z ≠ 0 ∧ withoutErr l0 a1 = z := by
      unfold withoutErr
      rw [hev]
      by_cases hv : vd l0 = true
      · rw [if_pos hv, if_pos hv, if_neg (fun h => hok ⟨hv, h⟩), if_neg (fun h => hok ⟨hv, h⟩)]
        exact ⟨1, rfl, by decide, rfl⟩
      · rw [if_neg hv, if_neg hv]
        exact ⟨40, rfl, by decide, rfl⟩
    rw [hzv] at h1 h2
    rw [if_neg hz0] at h1
    subst h1 h2
    have c3 : (z != 0) = true := bne_iff_ne.mpr hz0
    have HZ := Aside0.mk hz
    have HR0 := Aside0.mk hr0
    clear hz hz0 hzv hev hok hr0
    go_enter Tryd.func35, Tryd.ntmps35
    go_wp2_with fail
    refine (refill_event.calls 40 _ _ l0 _ _ _ [a1] _ _ (Kd.C_below HR0.out BB2.out) HC0.out (readsInt_one _ _ _ (NB1.out.cell 0)) (Nat.le_refl _) HZ.out).mono ?_
    rintro e w4 ⟨rfl, hb4⟩
    have BB4 := Aside0.mk (BB2.out.trans (hb4.mono BB2.out.size))
    clear hb4
    go_wp2
    go_ret2
    exact ⟨_, rfl, Kd.R_nil _ _ _ _ _, BB4.out⟩
end Go.Proofs.YtgiihjcpgjpkcaaDoor.Q
