/- Package customhouselaw21's text: what it hands back. -/
import Derived.Test.YtpaldbejnbcokaaLawXr
import Derived.Test.YtpaldbejnbcokaaLawXp
import Derived.Test.YtpaldbejnbcokaaLawXe
import Derived.Test.YtpaldbejnbcokaaLawXw
import Derived.Test.YtpaldbejnbcokaaLawXt
import Derived.Deep.Cut
import Derived.Deep.CutRange
import Derived.Deep.CutBlock
namespace Go.Proofs.Ytpaldbejnbcokaa
open Go.RowKit
set_option linter.unusedSimpArgs false
set_option linter.unusedVariables false

theorem ok0_small {c : Cfg} {ok b : Bool} (h : ok = (ok0 c && b)) (e : ok = true) : c.ports.length ≤ 200 ∧ c.peers.length ≤ 200 ∧ c.ways.length ≤ 200 ∧ c.tables.length ≤ 200 := by
  have h' := ok0_lt (h ▸ e.symm)
  exact ⟨h'.1, h'.2.1, h'.2.2.1, h'.2.2.2.1⟩
theorem fit_ok0 (c : Cfg) : (ok0 c && c.ports.all portsFit && c.tables.all tablesFit) = c.fit := by
  have h (α : Type) (l : List α) : l.all yes = true := List.all_eq_true.2 fun _ _ => rfl
  unfold Cfg.fit fitL ok0
  rw [h, h]
  cases decide (c.ports.length ≤ 200) <;> cases decide (c.peers.length ≤ 200) <;> cases decide (c.ways.length ≤ 200) <;> cases decide (c.tables.length ≤ 200) <;> simp
theorem words_enc (c : Cfg) : enc8 (portsW' c.ports) ++ enc8 [c.tenants, UInt64.ofNat c.peers.length] ++ enc8 (c.peers.flatMap Pr.words) ++ enc8 [UInt64.ofNat c.ways.length] ++ enc8 (c.ways.flatMap Wy.words) ++ enc8 [UInt64.ofNat c.tables.length] ++ enc8 (c.tables.flatMap tablesW) = enc8 c.words := by
  rw [← enc8_append, ← enc8_append, ← enc8_append, ← enc8_append, ← enc8_append, ← enc8_append]
  congr 1
  unfold Cfg.words portsW' itemsW
  simp
theorem enc8_one (n : UInt64) : enc8 [n] = putF n 8 := by rw [enc8_cons, enc8_nil, List.append_nil]

set_option maxRecDepth 100000 in
set_option maxHeartbeats 4000000 in
theorem lw_text (w : World) (F : Nat → Prop) (c : Cfg) (v1 v2 v3 v4 : Value) (hv1 : SliceAt ptR.slice w F c.ports v1) (hv2 : SliceAt prR w F c.peers v2) (hv3 : SliceAt wyR w F c.ways v3) (hv4 : SliceAt rlR.slice.slice w F c.tables v4) :
    Calls Try.prog 13 #[.agg #[v1, .int .i64 (i64of c.tenants), v2, v3, v4]] w fun e w' => TxtOut w w' c e := by
  obtain ⟨A1, n1, k1, rfl, Hn1, hb1, hc1⟩ := hv1.form'
  obtain ⟨A2, n2, k2, rfl, Hn2, hb2, hc2⟩ := hv2.form'
  obtain ⟨A3, n3, k3, rfl, Hn3, hb3, hc3⟩ := hv3.form'
  obtain ⟨A4, n4, k4, rfl, Hn4, hb4, hc4⟩ := hv4.form'
  obtain ⟨wx, hwx⟩ : ∃ wx, wx = w.alloc (.cells #[.slice A1 n1 k1, .int .i64 (i64of c.tenants), .slice A2 n2 k2, .slice A3 n3 k3, .slice A4 n4 k4] 31) := ⟨_, rfl⟩
  have hax := heap_alloc_new w (.cells #[.slice A1 n1 k1, .int .i64 (i64of c.tenants), .slice A2 n2 k2, .slice A3 n3 k3, .slice A4 n4 k4] 31)
  have hka : Kp No w wx := by rw [hwx]; exact (Kp.refl No w).alloc _
  rw [← hwx] at hax
  obtain ⟨B, hB⟩ : ∃ B, B = w.heap.size := ⟨_, rfl⟩
  rw [← hB] at hax
  have Hwx := Lib.hid hwx
  have HB := Lib.hid hB
  have Hka := Lib.hid hka
  have Hv1 := Lib.hid (hv1.kp hka (fun _ _ => id))
  have Hv2 := Lib.hid (hv2.kp hka (fun _ _ => id))
  have Hv3 := Lib.hid (hv3.kp hka (fun _ _ => id))
  have Hv4 := Lib.hid (hv4.kp hka (fun _ _ => id))
  have c0 : wx.cell? ⟨B, 0, none⟩ = some (.slice A1 n1 k1) := cell_of_row _ _ 0 _ _ _ hax
  have c1 : wx.cell? ⟨B, 1, none⟩ = some (.int .i64 (i64of c.tenants)) := cell_of_row _ _ 1 _ _ _ hax
  have c2 : wx.cell? ⟨B, 2, none⟩ = some (.slice A2 n2 k2) := cell_of_row _ _ 2 _ _ _ hax
  have c3 : wx.cell? ⟨B, 3, none⟩ = some (.slice A3 n3 k3) := cell_of_row _ _ 3 _ _ _ hax
  have c4 : wx.cell? ⟨B, 4, none⟩ = some (.slice A4 n4 k4) := cell_of_row _ _ 4 _ _ _ hax
  have cf : ∀ o, wx.frozen? ⟨B, o, none⟩ = false := fun o => frz_of_row _ _ o _ _ hax
  clear hwx hka hv1 hv2 hv3 hv4 hax hB
  go_enter Try.func13, Try.ntmps13
  go_upto_region 1 with (fail)
  rw [← Hwx.out, ← HB.out]
  refine lw_text_first wx c A1 A2 A3 A4 n1 k1 n2 k2 n3 k3 n4 k4 B Hn1 Hn2 Hn3 Hn4 c0 c2 c3 c4 (Lib.hid ?_) _ rfl
  intro o v15 v16 v17 v18 v19 v20 v21 v22 v23 v24 v25 v26 v27 v28 v29 v30 v31 v32 v33 v34 v35 v36 v37 v38 v39 wr hrel
  obtain ⟨rfl, rfl⟩ := hrel
  go_wp2_with fail
  refine (lw_count _ n1 (by omega)).mono ?_
  rintro e w1 ⟨rfl, hk1⟩
  have Hk1 := Lib.hid hk1
  clear hk1
  go_upto_block 0 with (fail)
  refine lw_text_ports wx w1 F c A1 n1 k1 B Hv1 Hn1 hb1 hc1 c0 Hk1.out (Lib.hid ?_) _ rfl
  intro o s v6 v7 v8 v46 v47 v48 v49 v50 v51 v52 v53 v54 v55 v56 v57 v58 v59 v60 v61 v62 v63 v64 v65 v66 v67 v68 v69 v70 v71 v72 v73 v74 v75 v76 v77 v78 v79 v80 v81 v82 v83 v84 v85 v86 v87 v88 v89 v90 v91 v92 v93 v94 v95 v96 v97 v98 v99 v100 v101 v102 v103 v104 v105 v106 v107 v108 v109 v110 v111 v112 wr hrel
  obtain ⟨ok, L, rfl, rfl, hso⟩ := hrel
  have d0 := hso.2.2.2.cell c0 id
  have d1 := hso.2.2.2.cell c1 id
  have d2 := hso.2.2.2.cell c2 id
  have Hlen := Lib.hid hso.2.2.1
  have Hso := Lib.hid hso
  have j1 : bs L ++ bs (enc8 [c.tenants, UInt64.ofNat n2]) = bs (L ++ enc8 [c.tenants, UInt64.ofNat n2]) := bs_append _ _
  have j2 : (bs L).size + (bs (enc8 [c.tenants, UInt64.ofNat n2])).size ≤ 9223372036854775807 := by
    rw [bs_size, bs_size, enc8_len]
    have := Hlen.out
    simp only [List.length_cons, List.length_nil]
    omega
  clear hso
  go_upto_block 4 with (fail)
  refine (lw_nums_lit _ [c.tenants, UInt64.ofNat n2] _ 2 _ rfl (by simp [u64_toNat_lt n2 (by omega)]) rfl (by simp)).mono ?_
  rintro e w1 ⟨rfl, hk1⟩
  have Hso := Lib.hid (Hso.out.count (ws := [c.tenants, UInt64.ofNat n2]) hk1 (m := 16) (by simp))
  clear hk1 d0 d1 d2
  go_upto_block 4 with (fail)
  clear j1 j2
  obtain ⟨LL, hLL⟩ : ∃ LL, LL = L ++ enc8 [c.tenants, UInt64.ofNat n2] := ⟨_, rfl⟩
  obtain ⟨LS, hLS⟩ : ∃ LS, LS = enc8 (portsW' c.ports) ++ enc8 [c.tenants, UInt64.ofNat n2] := ⟨_, rfl⟩
  have Hso := Lib.hid (show TxSo wx w1 ok (ok0 c && c.ports.all portsFit) LL LS 3000016 by rw [hLL, hLS]; exact Hso.out)
  rw [← hLL]
  have HLS := Lib.hid hLS
  clear hLL hLS
  refine lw_text_peers wx w1 F c.peers A2 n2 k2 B ok _ LL LS Hv2 Hn2 hb2 hc2 c2 Hso (Lib.hid (fun e => by have := (ok0_small Hso.out.1 e).2.1; rw [← Hn2.out] at this; exact this)) (Lib.hid ?_) _ rfl
  intro s v9 v124 v125 v126 v127 v128 v129 v130 v131 v132 v133 v134 v135 v136 v137 v138 v139 v140 v141 v142 v143 v144 v145 v146 v147 v148 v149 v150 v151 v152 wr hrel
  obtain ⟨L2, rfl, hso⟩ := hrel
  have d3 := hso.2.2.2.cell c3 id
  have Hlen := Lib.hid hso.2.2.1
  have Hso := Lib.hid hso
  have j1 : bs L2 ++ bs (putF (UInt64.ofNat n3) 8) = bs (L2 ++ putF (UInt64.ofNat n3) 8) := bs_append _ _
  have j2 : (bs L2).size + (bs (putF (UInt64.ofNat n3) 8)).size ≤ 9223372036854775807 := by
    rw [bs_size, bs_size, putF_len]
    have := Hlen.out
    omega
  clear hso
  go_upto_block 6 with (fail)
  refine (lw_count _ n3 (by omega)).mono ?_
  rintro e w2 ⟨rfl, hk1⟩
  have Hso := Lib.hid (Hso.out.count (ws := [UInt64.ofNat n3]) hk1 (m := 8) (by simp))
  clear hk1 d3
  go_upto_block 6 with (fail)
  clear j1 j2
  obtain ⟨LL2, hLL⟩ : ∃ LL, LL = L2 ++ putF (UInt64.ofNat n3) 8 := ⟨_, rfl⟩
  obtain ⟨LS2, hLS⟩ : ∃ LS', LS' = LS ++ enc8 (c.peers.flatMap Pr.words) ++ enc8 [UInt64.ofNat n3] := ⟨_, rfl⟩
  have Hso := Lib.hid (show TxSo wx w2 ok (ok0 c && c.ports.all portsFit) LL2 LS2 3004008 by rw [hLL, hLS, ← enc8_one]; exact Hso.out)
  rw [← hLL]
  have HLS2 := Lib.hid hLS
  clear hLL hLS
  refine lw_text_ways wx w2 F c.ways A3 n3 k3 B ok _ LL2 LS2 Hv3 Hn3 hb3 hc3 c3 Hso (Lib.hid (fun e => by have := (ok0_small Hso.out.1 e).2.2.1; rw [← Hn3.out] at this; exact this)) (Lib.hid ?_) _ rfl
  intro s v10 v11 v161 v162 v163 v164 v165 v166 v167 v168 v169 v170 v171 v172 v173 v174 v175 v176 v177 v178 v179 v180 v181 v182 v183 v184 v185 v186 v187 wr hrel
  obtain ⟨L3, rfl, hso⟩ := hrel
  have d4 := hso.2.2.2.cell c4 id
  have Hlen := Lib.hid hso.2.2.1
  have Hso := Lib.hid hso
  have j1 : bs L3 ++ bs (putF (UInt64.ofNat n4) 8) = bs (L3 ++ putF (UInt64.ofNat n4) 8) := bs_append _ _
  have j2 : (bs L3).size + (bs (putF (UInt64.ofNat n4) 8)).size ≤ 9223372036854775807 := by
    rw [bs_size, bs_size, putF_len]
    have := Hlen.out
    omega
  clear hso
  go_upto_block 8 with (fail)
  refine (lw_count _ n4 (by omega)).mono ?_
  rintro e w3 ⟨rfl, hk1⟩
  have Hso := Lib.hid (Hso.out.count (ws := [UInt64.ofNat n4]) hk1 (m := 8) (by simp))
  clear hk1 d4
  go_upto_block 8 with (fail)
  clear j1 j2
  obtain ⟨LL3, hLL⟩ : ∃ LL, LL = L3 ++ putF (UInt64.ofNat n4) 8 := ⟨_, rfl⟩
  obtain ⟨LS3, hLS⟩ : ∃ LS', LS' = LS2 ++ enc8 (c.ways.flatMap Wy.words) ++ enc8 [UInt64.ofNat n4] := ⟨_, rfl⟩
  have Hso := Lib.hid (show TxSo wx w3 ok (ok0 c && c.ports.all portsFit) LL3 LS3 3009008 by rw [hLL, hLS, ← enc8_one]; exact Hso.out)
  rw [← hLL]
  have HLS3 := Lib.hid hLS
  clear hLL hLS
  refine lw_text_tables wx w3 F c.tables A4 n4 k4 B ok _ LL3 LS3 Hv4 Hn4 hb4 hc4 c4 Hso (Lib.hid (fun e => by have := (ok0_small Hso.out.1 e).2.2.2; rw [← Hn4.out] at this; exact this)) (Lib.hid ?_) _ rfl
  intro o s v12 v13 v14 v195 v196 v197 v198 v199 v200 v201 v202 v203 v204 v205 v206 v207 v208 v209 v210 v211 v212 v213 v214 v215 v216 v217 wr hrel
  obtain ⟨ok, L4, rfl, rfl, hso⟩ := hrel
  have Hso := Lib.hid hso
  clear hso
  go_wp2_with fail
  go_ret2
  obtain ⟨h1, h2, h3, h4⟩ := Hso.out
  rw [fit_ok0] at h1
  refine ⟨L4, by rw [h1]; rfl, fun e => ?_, by omega, Hka.out.trans h4⟩
  rw [h2 (h1.trans e), HLS3.out, HLS2.out, HLS.out, Hn2.out, Hn3.out, Hn4.out]
  exact words_enc c
end Go.Proofs.Ytpaldbejnbcokaa
