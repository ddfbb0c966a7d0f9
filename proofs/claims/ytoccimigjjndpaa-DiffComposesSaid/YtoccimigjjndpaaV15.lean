/-
  Walks.
-/
import Derived.Test.YtoccimigjjndpaaCmp
import Derived.Test.YtoccimigjjndpaaAnyS
set_option linter.unusedVariables false
set_option linter.unusedSimpArgs false
set_option maxRecDepth 100000
namespace Go.Proofs.Ytoccimigjjndpaa
open Go Go.RowKit
set_option maxHeartbeats 1000000 in
theorem compose1_c {w0 wE w : World} {b1 b2 b3 b4 b : Nat} {va vb : Value} {l1 l2 : List Ch} {vs : Nm} {s : ByteArray} {cs : List Value} (hs1 : SlC w0 va l1) (hs2 : SlC w0 vb l2) (hl1 : l1.length ≤ 1000000) (hl2 : l2.length ≤ 1000000)
    (hb40 : w0.heap.size ≤ b4) (hb30 : w0.heap.size ≤ b3) (hn14 : b1 ≠ b4) (hn24 : b2 ≠ b4) (hK : KC w0 wE b1 b2 b3 b4 va vb l1 l2 vs w) (hbl : Bk w b 52 cs) (hvs : vs.length ≤ 1000000) :
    Calls Try.prog 80 #[.string s, .pointer (some ⟨b1, 0, none⟩), .pointer (some ⟨b2, 0, none⟩), .pointer (some ⟨b3, 0, none⟩), .pointer (some ⟨b4, 0, none⟩)] w (RVis (KC w0 wE b1 b2 b3 b4 va vb l1 l2 (vs ++ [s])) b cs w) := by
 obtain ⟨hE, hET, ⟨hb1, hb2, hb3⟩, v, hb4, hO⟩ := hK
 have zE := hE.size
 have hq1 := hb1.lt
 have hq2 := hb2.lt
 have hq3 := hb3.lt
 have hq4 := hb4.lt
 have hq5 := hbl.lt
 have hfl := List.length_filterMap_le (cmp1 l1 l2) vs
 have hbn := hbl.neT hb4 (by decide)
 have hbn3 := hbl.neT hb3 (by decide)
 have hn34 := hb3.neT hb4 (by decide)
 have hn13 := hb1.neT hb3 (by decide)
 have hn23 := hb2.neT hb3 (by decide)
 have hn43 := hb4.neT hb3 (by decide)
 refine enter (args := [_, _, _, _, _]) Try.func80 rfl Try.ntmps80 rfl ?_
 refine WP_seq ?_
 rcases hx : cget l1 s with _ | x
 all_goals rcases hy : cget l2 s with _ | y
 · --
  skip
  refine WP_region ?_
  refine O_loadC Try.underlying66 rfl rfl rfl rfl hb1 rfl ?_
  refine O_move rfl rfl rfl ?_
  refine O_call enters81 rfl rfl rfl (find_N (hs1.ext hE) (by (try simp only [lens]); omega) hx) (fun v1 w1 e1 h1 => ?_)
  have z1 := e1.size
  try simp only [val_dig] at h1
  obtain rfl := h1
  refine O_move rfl rfl rfl ?_
  refine O_extract rfl rfl rfl rfl ?_
  refine O_extract rfl rfl rfl rfl ?_
  refine O_alloc S74 rfl rfl (fun g2 w2 b2 e2 gl2 gh2 => ?_)
  have z2 := e2.size
  refine O_storeA (cs' := [_, _, _, _]) S74 rfl rfl rfl b2 rfl rfl (one_cons rfl (one_cons rfl (one_cons rfl (one_cons rfl one_nil)))) rfl (fun w3 b3 q3 => ?_)
  have z3 := Nat.le_of_eq q3.size.symm
  have e3 : Ext w0 w3 := q3.ext ((hE.trans e1).trans e2) (by omega)
  have m4 := q3.ext e2 (by omega)
  refine O_assign rfl rfl rfl ?_
  refine WL_end [(0, _), (2, _), (3, _), (4, _), (6, _), (7, _)] ⟨rfl, rfl, rfl, rfl, rfl, rfl, trivial⟩ ?_
  refine WP_seq ?_
  refine WP_region ?_
  refine O_loadC Try.underlying66 rfl rfl rfl rfl ((hb2.ext e1).ext m4) rfl ?_
  refine O_move rfl rfl rfl ?_
  refine O_call enters81 rfl rfl rfl (find_N (hs2.ext e3) (by (try simp only [lens]); omega) hy) (fun v5 w5 e5 h5 => ?_)
  have z5 := e5.size
  try simp only [val_dig] at h5
  obtain rfl := h5
  refine O_move rfl rfl rfl ?_
  refine O_extract rfl rfl rfl rfl ?_
  refine O_extract rfl rfl rfl rfl ?_
  refine O_alloc S74 rfl rfl (fun g6 w6 b6 e6 gl6 gh6 => ?_)
  have z6 := e6.size
  refine O_storeA (cs' := [_, _, _, _]) S74 rfl rfl rfl b6 rfl rfl (one_cons rfl (one_cons rfl (one_cons rfl (one_cons rfl one_nil)))) rfl (fun w7 b7 q7 => ?_)
  have z7 := Nat.le_of_eq q7.size.symm
  have e7 : Ext w0 w7 := q7.ext ((e3.trans e5).trans e6) (by omega)
  have m8 := q7.ext e6 (by omega)
  refine O_assign rfl rfl rfl ?_
  refine WL_end [(0, _), (3, _), (4, _), (6, _), (7, _), (8, _), (9, _)] ⟨rfl, rfl, rfl, rfl, rfl, rfl, rfl, trivial⟩ ?_
  refine WP_seq ?_
  refine WP_block ?_
  refine WP_seq ?_
  refine WP_region ?_
  refine O_move rfl rfl rfl ?_
  refine O_not rfl rfl rfl rfl ?_
  refine O_assign rfl rfl rfl ?_
  refine WL_end [(0, _), (3, _), (4, _), (6, _), (7, _), (8, _), (24, _)] ⟨rfl, rfl, rfl, rfl, rfl, rfl, rfl, trivial⟩ ?_
  refine WP_condT rfl ?_
  refine WP_region ?_
  refine O_field F74_3 rfl rfl rfl ?_
  refine O_loadC Try.underlying3 rfl rfl rfl rfl ((b3.ext e5).ext m8) rfl ?_
  refine O_field F74_3 rfl rfl rfl ?_
  refine O_storeC (cs' := [_, _, _, _]) one3 rfl rfl rfl rfl b7 rfl rfl (fun w9 b9 q9 => ?_)
  have z9 := Nat.le_of_eq q9.size.symm
  have e9 : Ext w0 w9 := q9.ext e7 (by omega)
  have c10 := (((b3.ext e5).ext m8).chg q9 (by first | assumption | omega))
  have c11 := b9
  have m12 := q9.ext (((e1.trans m4).trans e5).trans m8) (by omega)
  refine WL_end [(0, _), (4, _), (6, _), (8, _)] ⟨rfl, rfl, rfl, rfl, trivial⟩ ?_
  refine WP_seq ?_
  refine WP_region ?_
  refine O_move rfl rfl rfl ?_
  refine O_field F74_2 rfl rfl rfl ?_
  refine O_loadC Try.underlying3 rfl rfl rfl rfl c10 rfl ?_
  refine O_field F74_3 rfl rfl rfl ?_
  refine O_loadC Try.underlying3 rfl rfl rfl rfl c11 rfl ?_
  refine O_call enters74 rfl rfl rfl (change_c) (fun v13 w13 e13 h13 => ?_)
  have z13 := e13.size
  try simp only [val_dig] at h13
  obtain rfl := h13
  refine O_move rfl rfl rfl ?_
  refine O_extract rfl rfl rfl rfl ?_
  refine O_extract rfl rfl rfl rfl ?_
  refine O_alloc S74 rfl rfl (fun g14 w14 b14 e14 gl14 gh14 => ?_)
  have z14 := e14.size
  refine O_storeA (cs' := [_, _, _, _]) S74 rfl rfl rfl b14 rfl rfl (one_cons rfl (one_cons rfl (one_cons rfl (one_cons rfl one_nil)))) rfl (fun w15 b15 q15 => ?_)
  have z15 := Nat.le_of_eq q15.size.symm
  have e15 : Ext w0 w15 := q15.ext ((e9.trans e13).trans e14) (by omega)
  have m16 := q15.ext e14 (by omega)
  refine O_assign rfl rfl rfl ?_
  refine WL_end [(4, _), (10, _), (11, _)] ⟨rfl, rfl, rfl, trivial⟩ ?_
  refine WP_seq ?_
  refine WP_region ?_
  refine O_move rfl rfl rfl ?_
  refine WL_end [(4, _), (10, _), (51, _)] ⟨rfl, rfl, rfl, trivial⟩ ?_
  refine WP_condD rfl (fun c51 => ?_) (fun c51 => ?_)
  · --
   refine WP_region ?_
   refine O_loadC Try.underlying66 rfl rfl rfl rfl (((hb4.ext m12).ext e13).ext m16) rfl ?_
   refine O_loadA (vs := [_, _, _, _]) S74 rfl rfl rfl b15 rfl rfl ?_
   refine C_lit1 (b := chOf s (0) (0)) Echange rfl rfl rfl (fun v17 w17 o17 e17 => ?_)
   have z17 := e17.size
   refine C_append Echange rfl rfl rfl rfl ((((hO.ext m12).ext e13).ext m16).ext e17) o17.sl (by simp only [List.length_singleton]; omega) rfl (by omega) (fun v18 w18 o18 r18 k18 => ?_)
   have e18 : Ext w0 w18 := ((((hO.ext m12).ext e13).ext m16).ext e17).ext_grown r18 (e15.trans e17) (by omega)
   have z18 := r18.size
   have x18 := OwC.grownT ((((hO.ext m12).ext e13).ext m16).ext e17) r18
   refine O_storeC (cs' := [_]) one66 rfl rfl rfl (o18).one (((((hb4.ext m12).ext e13).ext m16).ext e17).extT x18 (by decide)) rfl rfl (fun w19 b19 q19 => ?_)
   have z19 := Nat.le_of_eq q19.size.symm
   have e19 : Ext w0 w19 := q19.ext e18 (by omega)
   refine WL_end [] trivial ?_
   refine ret0 Try.results80 ?_
   first
     | exact ⟨rfl, ⟨e19, hET.trans (show ExtT SNC _ _ from (by first | exact ExtT.trans (ExtT.trans (ExtT.trans (ExtT.trans (ExtT.trans (Ext.toT m12) (Ext.toT e13)) (Ext.toT m16)) (Ext.toT e17)) (x18.mono (by decide))) ((Chg.toT q19 (((((hb4.ext m12).ext e13).ext m16).ext e17).extT x18 (by decide))).mono (by decide)) | exact ExtT.chgNew (ExtT.trans (ExtT.trans (ExtT.trans (ExtT.trans (Ext.toT m12) (Ext.toT e13)) (Ext.toT m16)) (Ext.toT e17)) (x18.mono (by decide))) q19 (by omega))), ⟨((((((hb1.ext m12).ext e13).ext m16).ext e17).extT x18 (by decide)).chg q19 (by first | assumption | omega)), ((((((hb2.ext m12).ext e13).ext m16).ext e17).extT x18 (by decide)).chg q19 (by first | assumption | omega)), by rw [any_skip (clash_N1 hx)]; exact ((((((hb3.ext m12).ext e13).ext m16).ext e17).extT x18 (by decide)).chg q19 (by first | assumption | omega))⟩, _, b19, by rw [fm_snoc ((cmp1_O hx hy).trans (chq_ne (by assumption)))]; exact (o18.extT (Chg.toT q19 (((((hb4.ext m12).ext e13).ext m16).ext e17).extT x18 (by decide))) (by decide))⟩, by omega, ((((((hbl.ext m12).ext e13).ext m16).ext e17).extT x18 (by decide)).chg q19 (by first | assumption | omega))⟩
     | exact ⟨rfl, ⟨e19, hET.trans (show ExtT SNC _ _ from (by first | exact ExtT.trans (ExtT.trans (ExtT.trans (ExtT.trans (ExtT.trans (Ext.toT m12) (Ext.toT e13)) (Ext.toT m16)) (Ext.toT e17)) (x18.mono (by decide))) ((Chg.toT q19 (((((hb4.ext m12).ext e13).ext m16).ext e17).extT x18 (by decide))).mono (by decide)) | exact ExtT.chgNew (ExtT.trans (ExtT.trans (ExtT.trans (ExtT.trans (Ext.toT m12) (Ext.toT e13)) (Ext.toT m16)) (Ext.toT e17)) (x18.mono (by decide))) q19 (by omega))), ⟨((((((hb1.ext m12).ext e13).ext m16).ext e17).extT x18 (by decide)).chg q19 (by first | assumption | omega)), ((((((hb2.ext m12).ext e13).ext m16).ext e17).extT x18 (by decide)).chg q19 (by first | assumption | omega)), by rw [any_skip (clash_N1 hx)]; exact ((((((hb3.ext m12).ext e13).ext m16).ext e17).extT x18 (by decide)).chg q19 (by first | assumption | omega))⟩, _, b19, by rw [fm_skip ((cmp1_O hx hy).trans (chq_eq (by assumption)))]; exact (o18.extT (Chg.toT q19 (((((hb4.ext m12).ext e13).ext m16).ext e17).extT x18 (by decide))) (by decide))⟩, by omega, ((((((hbl.ext m12).ext e13).ext m16).ext e17).extT x18 (by decide)).chg q19 (by first | assumption | omega))⟩
  · --
   refine WP_skip ?_
   refine ret0 Try.results80 ?_
   first
     | exact ⟨rfl, ⟨e15, hET.trans (show ExtT SNC _ _ from (ExtT.trans (ExtT.trans (Ext.toT m12) (Ext.toT e13)) (Ext.toT m16))), ⟨(((hb1.ext m12).ext e13).ext m16), (((hb2.ext m12).ext e13).ext m16), by rw [any_skip (clash_N1 hx)]; exact (((hb3.ext m12).ext e13).ext m16)⟩, _, (((hb4.ext m12).ext e13).ext m16), by rw [fm_snoc ((cmp1_O hx hy).trans (chq_ne (by assumption)))]; exact (((hO.ext m12).ext e13).ext m16)⟩, by omega, (((hbl.ext m12).ext e13).ext m16)⟩
     | exact ⟨rfl, ⟨e15, hET.trans (show ExtT SNC _ _ from (ExtT.trans (ExtT.trans (Ext.toT m12) (Ext.toT e13)) (Ext.toT m16))), ⟨(((hb1.ext m12).ext e13).ext m16), (((hb2.ext m12).ext e13).ext m16), by rw [any_skip (clash_N1 hx)]; exact (((hb3.ext m12).ext e13).ext m16)⟩, _, (((hb4.ext m12).ext e13).ext m16), by rw [fm_skip ((cmp1_O hx hy).trans (chq_eq (by assumption)))]; exact (((hO.ext m12).ext e13).ext m16)⟩, by omega, (((hbl.ext m12).ext e13).ext m16)⟩
 · --
  skip
  refine WP_region ?_
  refine O_loadC Try.underlying66 rfl rfl rfl rfl hb1 rfl ?_
  refine O_move rfl rfl rfl ?_
  refine O_call enters81 rfl rfl rfl (find_N (hs1.ext hE) (by (try simp only [lens]); omega) hx) (fun v20 w20 e20 h20 => ?_)
  have z20 := e20.size
  try simp only [val_dig] at h20
  obtain rfl := h20
  refine O_move rfl rfl rfl ?_
  refine O_extract rfl rfl rfl rfl ?_
  refine O_extract rfl rfl rfl rfl ?_
  refine O_alloc S74 rfl rfl (fun g21 w21 b21 e21 gl21 gh21 => ?_)
  have z21 := e21.size
  refine O_storeA (cs' := [_, _, _, _]) S74 rfl rfl rfl b21 rfl rfl (one_cons rfl (one_cons rfl (one_cons rfl (one_cons rfl one_nil)))) rfl (fun w22 b22 q22 => ?_)
  have z22 := Nat.le_of_eq q22.size.symm
  have e22 : Ext w0 w22 := q22.ext ((hE.trans e20).trans e21) (by omega)
  have m23 := q22.ext e21 (by omega)
  refine O_assign rfl rfl rfl ?_
  refine WL_end [(0, _), (2, _), (3, _), (4, _), (6, _), (7, _)] ⟨rfl, rfl, rfl, rfl, rfl, rfl, trivial⟩ ?_
  refine WP_seq ?_
  refine WP_region ?_
  refine O_loadC Try.underlying66 rfl rfl rfl rfl ((hb2.ext e20).ext m23) rfl ?_
  refine O_move rfl rfl rfl ?_
  refine O_call enters81 rfl rfl rfl (find_S (hs2.ext e22) (by (try simp only [lens]); omega) hy) (fun v24 w24 e24 h24 => ?_)
  have z24 := e24.size
  try simp only [val_dig] at h24
  obtain rfl := h24
  refine O_move rfl rfl rfl ?_
  refine O_extract rfl rfl rfl rfl ?_
  refine O_extract rfl rfl rfl rfl ?_
  refine O_alloc S74 rfl rfl (fun g25 w25 b25 e25 gl25 gh25 => ?_)
  have z25 := e25.size
  refine O_storeA (cs' := [_, _, _, _]) S74 rfl rfl rfl b25 rfl rfl (one_cons rfl (one_cons rfl (one_cons rfl (one_cons rfl one_nil)))) rfl (fun w26 b26 q26 => ?_)
  have z26 := Nat.le_of_eq q26.size.symm
  have e26 : Ext w0 w26 := q26.ext ((e22.trans e24).trans e25) (by omega)
  have m27 := q26.ext e25 (by omega)
  refine O_assign rfl rfl rfl ?_
  refine WL_end [(0, _), (3, _), (4, _), (6, _), (7, _), (8, _), (9, _)] ⟨rfl, rfl, rfl, rfl, rfl, rfl, rfl, trivial⟩ ?_
  refine WP_seq ?_
  refine WP_block ?_
  refine WP_seq ?_
  refine WP_region ?_
  refine O_move rfl rfl rfl ?_
  refine O_not rfl rfl rfl rfl ?_
  refine O_assign rfl rfl rfl ?_
  refine WL_end [(0, _), (3, _), (4, _), (6, _), (7, _), (8, _), (24, _)] ⟨rfl, rfl, rfl, rfl, rfl, rfl, rfl, trivial⟩ ?_
  refine WP_condF rfl ?_
  refine WP_seq ?_
  refine WP_region ?_
  refine O_move rfl rfl rfl ?_
  refine O_not rfl rfl rfl rfl ?_
  refine O_assign rfl rfl rfl ?_
  refine WL_end [(0, _), (3, _), (4, _), (6, _), (8, _), (30, _)] ⟨rfl, rfl, rfl, rfl, rfl, rfl, trivial⟩ ?_
  refine WP_condT rfl ?_
  refine WP_region ?_
  refine O_field F74_2 rfl rfl rfl ?_
  refine O_loadC Try.underlying3 rfl rfl rfl rfl b26 rfl ?_
  refine O_field F74_2 rfl rfl rfl ?_
  refine O_storeC (cs' := [_, _, _, _]) one3 rfl rfl rfl rfl ((b22.ext e24).ext m27) rfl rfl (fun w28 b28 q28 => ?_)
  have z28 := Nat.le_of_eq q28.size.symm
  have e28 : Ext w0 w28 := q28.ext e26 (by omega)
  have c29 := b28
  have c30 := (b26.chg q28 (by first | assumption | omega))
  have m31 := q28.ext (((e20.trans m23).trans e24).trans m27) (by omega)
  refine WL_end [(0, _), (4, _), (6, _), (8, _)] ⟨rfl, rfl, rfl, rfl, trivial⟩ ?_
  refine WP_seq ?_
  refine WP_region ?_
  refine O_move rfl rfl rfl ?_
  refine O_field F74_2 rfl rfl rfl ?_
  refine O_loadC Try.underlying3 rfl rfl rfl rfl c29 rfl ?_
  refine O_field F74_3 rfl rfl rfl ?_
  refine O_loadC Try.underlying3 rfl rfl rfl rfl c30 rfl ?_
  refine O_call enters74 rfl rfl rfl (change_c) (fun v32 w32 e32 h32 => ?_)
  have z32 := e32.size
  try simp only [val_dig] at h32
  obtain rfl := h32
  refine O_move rfl rfl rfl ?_
  refine O_extract rfl rfl rfl rfl ?_
  refine O_extract rfl rfl rfl rfl ?_
  refine O_alloc S74 rfl rfl (fun g33 w33 b33 e33 gl33 gh33 => ?_)
  have z33 := e33.size
  refine O_storeA (cs' := [_, _, _, _]) S74 rfl rfl rfl b33 rfl rfl (one_cons rfl (one_cons rfl (one_cons rfl (one_cons rfl one_nil)))) rfl (fun w34 b34 q34 => ?_)
  have z34 := Nat.le_of_eq q34.size.symm
  have e34 : Ext w0 w34 := q34.ext ((e28.trans e32).trans e33) (by omega)
  have m35 := q34.ext e33 (by omega)
  refine O_assign rfl rfl rfl ?_
  refine WL_end [(4, _), (10, _), (11, _)] ⟨rfl, rfl, rfl, trivial⟩ ?_
  refine WP_seq ?_
  refine WP_region ?_
  refine O_move rfl rfl rfl ?_
  refine WL_end [(4, _), (10, _), (51, _)] ⟨rfl, rfl, rfl, trivial⟩ ?_
  refine WP_condD rfl (fun c51 => ?_) (fun c51 => ?_)
  · --
   refine WP_region ?_
   refine O_loadC Try.underlying66 rfl rfl rfl rfl (((hb4.ext m31).ext e32).ext m35) rfl ?_
   refine O_loadA (vs := [_, _, _, _]) S74 rfl rfl rfl b34 rfl rfl ?_
   refine C_lit1 (b := chOf s (y.2.2.1) (y.2.2.2)) Echange rfl rfl rfl (fun v36 w36 o36 e36 => ?_)
   have z36 := e36.size
   refine C_append Echange rfl rfl rfl rfl ((((hO.ext m31).ext e32).ext m35).ext e36) o36.sl (by simp only [List.length_singleton]; omega) rfl (by omega) (fun v37 w37 o37 r37 k37 => ?_)
   have e37 : Ext w0 w37 := ((((hO.ext m31).ext e32).ext m35).ext e36).ext_grown r37 (e34.trans e36) (by omega)
   have z37 := r37.size
   have x37 := OwC.grownT ((((hO.ext m31).ext e32).ext m35).ext e36) r37
   refine O_storeC (cs' := [_]) one66 rfl rfl rfl (o37).one (((((hb4.ext m31).ext e32).ext m35).ext e36).extT x37 (by decide)) rfl rfl (fun w38 b38 q38 => ?_)
   have z38 := Nat.le_of_eq q38.size.symm
   have e38 : Ext w0 w38 := q38.ext e37 (by omega)
   refine WL_end [] trivial ?_
   refine ret0 Try.results80 ?_
   first
     | exact ⟨rfl, ⟨e38, hET.trans (show ExtT SNC _ _ from (by first | exact ExtT.trans (ExtT.trans (ExtT.trans (ExtT.trans (ExtT.trans (Ext.toT m31) (Ext.toT e32)) (Ext.toT m35)) (Ext.toT e36)) (x37.mono (by decide))) ((Chg.toT q38 (((((hb4.ext m31).ext e32).ext m35).ext e36).extT x37 (by decide))).mono (by decide)) | exact ExtT.chgNew (ExtT.trans (ExtT.trans (ExtT.trans (ExtT.trans (Ext.toT m31) (Ext.toT e32)) (Ext.toT m35)) (Ext.toT e36)) (x37.mono (by decide))) q38 (by omega))), ⟨((((((hb1.ext m31).ext e32).ext m35).ext e36).extT x37 (by decide)).chg q38 (by first | assumption | omega)), ((((((hb2.ext m31).ext e32).ext m35).ext e36).extT x37 (by decide)).chg q38 (by first | assumption | omega)), by rw [any_skip (clash_N1 hx)]; exact ((((((hb3.ext m31).ext e32).ext m35).ext e36).extT x37 (by decide)).chg q38 (by first | assumption | omega))⟩, _, b38, by rw [fm_snoc ((cmp1_Y hx hy).trans (chq_ne (by assumption)))]; exact (o37.extT (Chg.toT q38 (((((hb4.ext m31).ext e32).ext m35).ext e36).extT x37 (by decide))) (by decide))⟩, by omega, ((((((hbl.ext m31).ext e32).ext m35).ext e36).extT x37 (by decide)).chg q38 (by first | assumption | omega))⟩
     | exact ⟨rfl, ⟨e38, hET.trans (show ExtT SNC _ _ from (by first | exact ExtT.trans (ExtT.trans (ExtT.trans (ExtT.trans (ExtT.trans (Ext.toT m31) (Ext.toT e32)) (Ext.toT m35)) (Ext.toT e36)) (x37.mono (by decide))) ((Chg.toT q38 (((((hb4.ext m31).ext e32).ext m35).ext e36).extT x37 (by decide))).mono (by decide)) | exact ExtT.chgNew (ExtT.trans (ExtT.trans (ExtT.trans (ExtT.trans (Ext.toT m31) (Ext.toT e32)) (Ext.toT m35)) (Ext.toT e36)) (x37.mono (by decide))) q38 (by omega))), ⟨((((((hb1.ext m31).ext e32).ext m35).ext e36).extT x37 (by decide)).chg q38 (by first | assumption | omega)), ((((((hb2.ext m31).ext e32).ext m35).ext e36).extT x37 (by decide)).chg q38 (by first | assumption | omega)), by rw [any_skip (clash_N1 hx)]; exact ((((((hb3.ext m31).ext e32).ext m35).ext e36).extT x37 (by decide)).chg q38 (by first | assumption | omega))⟩, _, b38, by rw [fm_skip ((cmp1_Y hx hy).trans (chq_eq (by assumption)))]; exact (o37.extT (Chg.toT q38 (((((hb4.ext m31).ext e32).ext m35).ext e36).extT x37 (by decide))) (by decide))⟩, by omega, ((((((hbl.ext m31).ext e32).ext m35).ext e36).extT x37 (by decide)).chg q38 (by first | assumption | omega))⟩
  · --
   refine WP_skip ?_
   refine ret0 Try.results80 ?_
   first
     | exact ⟨rfl, ⟨e34, hET.trans (show ExtT SNC _ _ from (ExtT.trans (ExtT.trans (Ext.toT m31) (Ext.toT e32)) (Ext.toT m35))), ⟨(((hb1.ext m31).ext e32).ext m35), (((hb2.ext m31).ext e32).ext m35), by rw [any_skip (clash_N1 hx)]; exact (((hb3.ext m31).ext e32).ext m35)⟩, _, (((hb4.ext m31).ext e32).ext m35), by rw [fm_snoc ((cmp1_Y hx hy).trans (chq_ne (by assumption)))]; exact (((hO.ext m31).ext e32).ext m35)⟩, by omega, (((hbl.ext m31).ext e32).ext m35)⟩
     | exact ⟨rfl, ⟨e34, hET.trans (show ExtT SNC _ _ from (ExtT.trans (ExtT.trans (Ext.toT m31) (Ext.toT e32)) (Ext.toT m35))), ⟨(((hb1.ext m31).ext e32).ext m35), (((hb2.ext m31).ext e32).ext m35), by rw [any_skip (clash_N1 hx)]; exact (((hb3.ext m31).ext e32).ext m35)⟩, _, (((hb4.ext m31).ext e32).ext m35), by rw [fm_skip ((cmp1_Y hx hy).trans (chq_eq (by assumption)))]; exact (((hO.ext m31).ext e32).ext m35)⟩, by omega, (((hbl.ext m31).ext e32).ext m35)⟩
 · --
  skip
  refine WP_region ?_
  refine O_loadC Try.underlying66 rfl rfl rfl rfl hb1 rfl ?_
  refine O_move rfl rfl rfl ?_
  refine O_call enters81 rfl rfl rfl (find_S (hs1.ext hE) (by (try simp only [lens]); omega) hx) (fun v39 w39 e39 h39 => ?_)
  have z39 := e39.size
  try simp only [val_dig] at h39
  obtain rfl := h39
  refine O_move rfl rfl rfl ?_
  refine O_extract rfl rfl rfl rfl ?_
  refine O_extract rfl rfl rfl rfl ?_
  refine O_alloc S74 rfl rfl (fun g40 w40 b40 e40 gl40 gh40 => ?_)
  have z40 := e40.size
  refine O_storeA (cs' := [_, _, _, _]) S74 rfl rfl rfl b40 rfl rfl (one_cons rfl (one_cons rfl (one_cons rfl (one_cons rfl one_nil)))) rfl (fun w41 b41 q41 => ?_)
  have z41 := Nat.le_of_eq q41.size.symm
  have e41 : Ext w0 w41 := q41.ext ((hE.trans e39).trans e40) (by omega)
  have m42 := q41.ext e40 (by omega)
  refine O_assign rfl rfl rfl ?_
  refine WL_end [(0, _), (2, _), (3, _), (4, _), (6, _), (7, _)] ⟨rfl, rfl, rfl, rfl, rfl, rfl, trivial⟩ ?_
  refine WP_seq ?_
  refine WP_region ?_
  refine O_loadC Try.underlying66 rfl rfl rfl rfl ((hb2.ext e39).ext m42) rfl ?_
  refine O_move rfl rfl rfl ?_
  refine O_call enters81 rfl rfl rfl (find_N (hs2.ext e41) (by (try simp only [lens]); omega) hy) (fun v43 w43 e43 h43 => ?_)
  have z43 := e43.size
  try simp only [val_dig] at h43
  obtain rfl := h43
  refine O_move rfl rfl rfl ?_
  refine O_extract rfl rfl rfl rfl ?_
  refine O_extract rfl rfl rfl rfl ?_
  refine O_alloc S74 rfl rfl (fun g44 w44 b44 e44 gl44 gh44 => ?_)
  have z44 := e44.size
  refine O_storeA (cs' := [_, _, _, _]) S74 rfl rfl rfl b44 rfl rfl (one_cons rfl (one_cons rfl (one_cons rfl (one_cons rfl one_nil)))) rfl (fun w45 b45 q45 => ?_)
  have z45 := Nat.le_of_eq q45.size.symm
  have e45 : Ext w0 w45 := q45.ext ((e41.trans e43).trans e44) (by omega)
  have m46 := q45.ext e44 (by omega)
  refine O_assign rfl rfl rfl ?_
  refine WL_end [(0, _), (3, _), (4, _), (6, _), (7, _), (8, _), (9, _)] ⟨rfl, rfl, rfl, rfl, rfl, rfl, rfl, trivial⟩ ?_
  refine WP_seq ?_
  refine WP_block ?_
  refine WP_seq ?_
  refine WP_region ?_
  refine O_move rfl rfl rfl ?_
  refine O_not rfl rfl rfl rfl ?_
  refine O_assign rfl rfl rfl ?_
  refine WL_end [(0, _), (3, _), (4, _), (6, _), (7, _), (8, _), (24, _)] ⟨rfl, rfl, rfl, rfl, rfl, rfl, rfl, trivial⟩ ?_
  refine WP_condT rfl ?_
  refine WP_region ?_
  refine O_field F74_3 rfl rfl rfl ?_
  refine O_loadC Try.underlying3 rfl rfl rfl rfl ((b41.ext e43).ext m46) rfl ?_
  refine O_field F74_3 rfl rfl rfl ?_
  refine O_storeC (cs' := [_, _, _, _]) one3 rfl rfl rfl rfl b45 rfl rfl (fun w47 b47 q47 => ?_)
  have z47 := Nat.le_of_eq q47.size.symm
  have e47 : Ext w0 w47 := q47.ext e45 (by omega)
  have c48 := (((b41.ext e43).ext m46).chg q47 (by first | assumption | omega))
  have c49 := b47
  have m50 := q47.ext (((e39.trans m42).trans e43).trans m46) (by omega)
  refine WL_end [(0, _), (4, _), (6, _), (8, _)] ⟨rfl, rfl, rfl, rfl, trivial⟩ ?_
  refine WP_seq ?_
  refine WP_region ?_
  refine O_move rfl rfl rfl ?_
  refine O_field F74_2 rfl rfl rfl ?_
  refine O_loadC Try.underlying3 rfl rfl rfl rfl c48 rfl ?_
  refine O_field F74_3 rfl rfl rfl ?_
  refine O_loadC Try.underlying3 rfl rfl rfl rfl c49 rfl ?_
  refine O_call enters74 rfl rfl rfl (change_c) (fun v51 w51 e51 h51 => ?_)
  have z51 := e51.size
  try simp only [val_dig] at h51
  obtain rfl := h51
  refine O_move rfl rfl rfl ?_
  refine O_extract rfl rfl rfl rfl ?_
  refine O_extract rfl rfl rfl rfl ?_
  refine O_alloc S74 rfl rfl (fun g52 w52 b52 e52 gl52 gh52 => ?_)
  have z52 := e52.size
  refine O_storeA (cs' := [_, _, _, _]) S74 rfl rfl rfl b52 rfl rfl (one_cons rfl (one_cons rfl (one_cons rfl (one_cons rfl one_nil)))) rfl (fun w53 b53 q53 => ?_)
  have z53 := Nat.le_of_eq q53.size.symm
  have e53 : Ext w0 w53 := q53.ext ((e47.trans e51).trans e52) (by omega)
  have m54 := q53.ext e52 (by omega)
  refine O_assign rfl rfl rfl ?_
  refine WL_end [(4, _), (10, _), (11, _)] ⟨rfl, rfl, rfl, trivial⟩ ?_
  refine WP_seq ?_
  refine WP_region ?_
  refine O_move rfl rfl rfl ?_
  refine WL_end [(4, _), (10, _), (51, _)] ⟨rfl, rfl, rfl, trivial⟩ ?_
  refine WP_condD rfl (fun c51 => ?_) (fun c51 => ?_)
  · --
   refine WP_region ?_
   refine O_loadC Try.underlying66 rfl rfl rfl rfl (((hb4.ext m50).ext e51).ext m54) rfl ?_
   refine O_loadA (vs := [_, _, _, _]) S74 rfl rfl rfl b53 rfl rfl ?_
   refine C_lit1 (b := chOf s (x.2.2.1) (x.2.2.2)) Echange rfl rfl rfl (fun v55 w55 o55 e55 => ?_)
   have z55 := e55.size
   refine C_append Echange rfl rfl rfl rfl ((((hO.ext m50).ext e51).ext m54).ext e55) o55.sl (by simp only [List.length_singleton]; omega) rfl (by omega) (fun v56 w56 o56 r56 k56 => ?_)
   have e56 : Ext w0 w56 := ((((hO.ext m50).ext e51).ext m54).ext e55).ext_grown r56 (e53.trans e55) (by omega)
   have z56 := r56.size
   have x56 := OwC.grownT ((((hO.ext m50).ext e51).ext m54).ext e55) r56
   refine O_storeC (cs' := [_]) one66 rfl rfl rfl (o56).one (((((hb4.ext m50).ext e51).ext m54).ext e55).extT x56 (by decide)) rfl rfl (fun w57 b57 q57 => ?_)
   have z57 := Nat.le_of_eq q57.size.symm
   have e57 : Ext w0 w57 := q57.ext e56 (by omega)
   refine WL_end [] trivial ?_
   refine ret0 Try.results80 ?_
   first
     | exact ⟨rfl, ⟨e57, hET.trans (show ExtT SNC _ _ from (by first | exact ExtT.trans (ExtT.trans (ExtT.trans (ExtT.trans (ExtT.trans (Ext.toT m50) (Ext.toT e51)) (Ext.toT m54)) (Ext.toT e55)) (x56.mono (by decide))) ((Chg.toT q57 (((((hb4.ext m50).ext e51).ext m54).ext e55).extT x56 (by decide))).mono (by decide)) | exact ExtT.chgNew (ExtT.trans (ExtT.trans (ExtT.trans (ExtT.trans (Ext.toT m50) (Ext.toT e51)) (Ext.toT m54)) (Ext.toT e55)) (x56.mono (by decide))) q57 (by omega))), ⟨((((((hb1.ext m50).ext e51).ext m54).ext e55).extT x56 (by decide)).chg q57 (by first | assumption | omega)), ((((((hb2.ext m50).ext e51).ext m54).ext e55).extT x56 (by decide)).chg q57 (by first | assumption | omega)), by rw [any_skip (clash_N2 hy)]; exact ((((((hb3.ext m50).ext e51).ext m54).ext e55).extT x56 (by decide)).chg q57 (by first | assumption | omega))⟩, _, b57, by rw [fm_snoc ((cmp1_X hx hy).trans (chq_ne (by assumption)))]; exact (o56.extT (Chg.toT q57 (((((hb4.ext m50).ext e51).ext m54).ext e55).extT x56 (by decide))) (by decide))⟩, by omega, ((((((hbl.ext m50).ext e51).ext m54).ext e55).extT x56 (by decide)).chg q57 (by first | assumption | omega))⟩
     | exact ⟨rfl, ⟨e57, hET.trans (show ExtT SNC _ _ from (by first | exact ExtT.trans (ExtT.trans (ExtT.trans (ExtT.trans (ExtT.trans (Ext.toT m50) (Ext.toT e51)) (Ext.toT m54)) (Ext.toT e55)) (x56.mono (by decide))) ((Chg.toT q57 (((((hb4.ext m50).ext e51).ext m54).ext e55).extT x56 (by decide))).mono (by decide)) | exact ExtT.chgNew (ExtT.trans (ExtT.trans (ExtT.trans (ExtT.trans (Ext.toT m50) (Ext.toT e51)) (Ext.toT m54)) (Ext.toT e55)) (x56.mono (by decide))) q57 (by omega))), ⟨((((((hb1.ext m50).ext e51).ext m54).ext e55).extT x56 (by decide)).chg q57 (by first | assumption | omega)), ((((((hb2.ext m50).ext e51).ext m54).ext e55).extT x56 (by decide)).chg q57 (by first | assumption | omega)), by rw [any_skip (clash_N2 hy)]; exact ((((((hb3.ext m50).ext e51).ext m54).ext e55).extT x56 (by decide)).chg q57 (by first | assumption | omega))⟩, _, b57, by rw [fm_skip ((cmp1_X hx hy).trans (chq_eq (by assumption)))]; exact (o56.extT (Chg.toT q57 (((((hb4.ext m50).ext e51).ext m54).ext e55).extT x56 (by decide))) (by decide))⟩, by omega, ((((((hbl.ext m50).ext e51).ext m54).ext e55).extT x56 (by decide)).chg q57 (by first | assumption | omega))⟩
  · --
   refine WP_skip ?_
   refine ret0 Try.results80 ?_
   first
     | exact ⟨rfl, ⟨e53, hET.trans (show ExtT SNC _ _ from (ExtT.trans (ExtT.trans (Ext.toT m50) (Ext.toT e51)) (Ext.toT m54))), ⟨(((hb1.ext m50).ext e51).ext m54), (((hb2.ext m50).ext e51).ext m54), by rw [any_skip (clash_N2 hy)]; exact (((hb3.ext m50).ext e51).ext m54)⟩, _, (((hb4.ext m50).ext e51).ext m54), by rw [fm_snoc ((cmp1_X hx hy).trans (chq_ne (by assumption)))]; exact (((hO.ext m50).ext e51).ext m54)⟩, by omega, (((hbl.ext m50).ext e51).ext m54)⟩
     | exact ⟨rfl, ⟨e53, hET.trans (show ExtT SNC _ _ from (ExtT.trans (ExtT.trans (Ext.toT m50) (Ext.toT e51)) (Ext.toT m54))), ⟨(((hb1.ext m50).ext e51).ext m54), (((hb2.ext m50).ext e51).ext m54), by rw [any_skip (clash_N2 hy)]; exact (((hb3.ext m50).ext e51).ext m54)⟩, _, (((hb4.ext m50).ext e51).ext m54), by rw [fm_skip ((cmp1_X hx hy).trans (chq_eq (by assumption)))]; exact (((hO.ext m50).ext e51).ext m54)⟩, by omega, (((hbl.ext m50).ext e51).ext m54)⟩
 · --
  skip
  refine WP_region ?_
  refine O_loadC Try.underlying66 rfl rfl rfl rfl hb1 rfl ?_
  refine O_move rfl rfl rfl ?_
  refine O_call enters81 rfl rfl rfl (find_S (hs1.ext hE) (by (try simp only [lens]); omega) hx) (fun v58 w58 e58 h58 => ?_)
  have z58 := e58.size
  try simp only [val_dig] at h58
  obtain rfl := h58
  refine O_move rfl rfl rfl ?_
  refine O_extract rfl rfl rfl rfl ?_
  refine O_extract rfl rfl rfl rfl ?_
  refine O_alloc S74 rfl rfl (fun g59 w59 b59 e59 gl59 gh59 => ?_)
  have z59 := e59.size
  refine O_storeA (cs' := [_, _, _, _]) S74 rfl rfl rfl b59 rfl rfl (one_cons rfl (one_cons rfl (one_cons rfl (one_cons rfl one_nil)))) rfl (fun w60 b60 q60 => ?_)
  have z60 := Nat.le_of_eq q60.size.symm
  have e60 : Ext w0 w60 := q60.ext ((hE.trans e58).trans e59) (by omega)
  have m61 := q60.ext e59 (by omega)
  refine O_assign rfl rfl rfl ?_
  refine WL_end [(0, _), (2, _), (3, _), (4, _), (6, _), (7, _)] ⟨rfl, rfl, rfl, rfl, rfl, rfl, trivial⟩ ?_
  refine WP_seq ?_
  refine WP_region ?_
  refine O_loadC Try.underlying66 rfl rfl rfl rfl ((hb2.ext e58).ext m61) rfl ?_
  refine O_move rfl rfl rfl ?_
  refine O_call enters81 rfl rfl rfl (find_S (hs2.ext e60) (by (try simp only [lens]); omega) hy) (fun v62 w62 e62 h62 => ?_)
  have z62 := e62.size
  try simp only [val_dig] at h62
  obtain rfl := h62
  refine O_move rfl rfl rfl ?_
  refine O_extract rfl rfl rfl rfl ?_
  refine O_extract rfl rfl rfl rfl ?_
  refine O_alloc S74 rfl rfl (fun g63 w63 b63 e63 gl63 gh63 => ?_)
  have z63 := e63.size
  refine O_storeA (cs' := [_, _, _, _]) S74 rfl rfl rfl b63 rfl rfl (one_cons rfl (one_cons rfl (one_cons rfl (one_cons rfl one_nil)))) rfl (fun w64 b64 q64 => ?_)
  have z64 := Nat.le_of_eq q64.size.symm
  have e64 : Ext w0 w64 := q64.ext ((e60.trans e62).trans e63) (by omega)
  have m65 := q64.ext e63 (by omega)
  refine O_assign rfl rfl rfl ?_
  refine WL_end [(0, _), (3, _), (4, _), (6, _), (7, _), (8, _), (9, _)] ⟨rfl, rfl, rfl, rfl, rfl, rfl, rfl, trivial⟩ ?_
  refine WP_seq ?_
  refine WP_block ?_
  refine WP_seq ?_
  refine WP_region ?_
  refine O_move rfl rfl rfl ?_
  refine O_not rfl rfl rfl rfl ?_
  refine O_assign rfl rfl rfl ?_
  refine WL_end [(0, _), (3, _), (4, _), (6, _), (7, _), (8, _), (24, _)] ⟨rfl, rfl, rfl, rfl, rfl, rfl, rfl, trivial⟩ ?_
  refine WP_condF rfl ?_
  refine WP_seq ?_
  refine WP_region ?_
  refine O_move rfl rfl rfl ?_
  refine O_not rfl rfl rfl rfl ?_
  refine O_assign rfl rfl rfl ?_
  refine WL_end [(0, _), (3, _), (4, _), (6, _), (8, _), (30, _)] ⟨rfl, rfl, rfl, rfl, rfl, rfl, trivial⟩ ?_
  refine WP_condF rfl ?_
  refine WP_seq ?_
  refine WP_region ?_
  refine O_field F74_3 rfl rfl rfl ?_
  refine O_loadC Try.underlying3 rfl rfl rfl rfl ((b60.ext e62).ext m65) rfl ?_
  refine O_field F74_2 rfl rfl rfl ?_
  refine O_loadC Try.underlying3 rfl rfl rfl rfl b64 rfl ?_
  refine O_neq rfl rfl rfl rfl rfl ?_
  refine O_assign rfl rfl rfl ?_
  refine WL_end [(0, _), (3, _), (4, _), (6, _), (8, _), (36, _)] ⟨rfl, rfl, rfl, rfl, rfl, rfl, trivial⟩ ?_
  refine WP_condN rfl (fun c36 => ?_) (fun c36 => ?_)
  · --
   refine WP_region ?_
   refine O_storeC (cs' := [_]) one61 rfl rfl rfl rfl ((((hb3.ext e58).ext m61).ext e62).ext m65) rfl rfl (fun w66 b66 q66 => ?_)
   have z66 := Nat.le_of_eq q66.size.symm
   have e66 : Ext w0 w66 := q66.ext e64 (by omega)
   refine WL_end [(0, _), (4, _), (6, _), (8, _)] ⟨rfl, rfl, rfl, rfl, trivial⟩ ?_
   refine WP_seq ?_
   refine WP_region ?_
   refine O_move rfl rfl rfl ?_
   refine O_field F74_2 rfl rfl rfl ?_
   refine O_loadC Try.underlying3 rfl rfl rfl rfl (((b60.ext e62).ext m65).chg q66 (by first | assumption | omega)) rfl ?_
   refine O_field F74_3 rfl rfl rfl ?_
   refine O_loadC Try.underlying3 rfl rfl rfl rfl (b64.chg q66 (by first | assumption | omega)) rfl ?_
   refine O_call enters74 rfl rfl rfl (change_c) (fun v67 w67 e67 h67 => ?_)
   have z67 := e67.size
   try simp only [val_dig] at h67
   obtain rfl := h67
   refine O_move rfl rfl rfl ?_
   refine O_extract rfl rfl rfl rfl ?_
   refine O_extract rfl rfl rfl rfl ?_
   refine O_alloc S74 rfl rfl (fun g68 w68 b68 e68 gl68 gh68 => ?_)
   have z68 := e68.size
   refine O_storeA (cs' := [_, _, _, _]) S74 rfl rfl rfl b68 rfl rfl (one_cons rfl (one_cons rfl (one_cons rfl (one_cons rfl one_nil)))) rfl (fun w69 b69 q69 => ?_)
   have z69 := Nat.le_of_eq q69.size.symm
   have e69 : Ext w0 w69 := q69.ext ((e66.trans e67).trans e68) (by omega)
   have m70 := q69.ext e68 (by omega)
   refine O_assign rfl rfl rfl ?_
   refine WL_end [(4, _), (10, _), (11, _)] ⟨rfl, rfl, rfl, trivial⟩ ?_
   refine WP_seq ?_
   refine WP_region ?_
   refine O_move rfl rfl rfl ?_
   refine WL_end [(4, _), (10, _), (51, _)] ⟨rfl, rfl, rfl, trivial⟩ ?_
   refine WP_condD rfl (fun c51 => ?_) (fun c51 => ?_)
   · --
    refine WP_region ?_
    refine O_loadC Try.underlying66 rfl rfl rfl rfl (((((((hb4.ext e58).ext m61).ext e62).ext m65).chg q66 (by first | assumption | omega)).ext e67).ext m70) rfl ?_
    refine O_loadA (vs := [_, _, _, _]) S74 rfl rfl rfl b69 rfl rfl ?_
    refine C_lit1 (b := chOf s (x.2.2.1) (y.2.2.2)) Echange rfl rfl rfl (fun v71 w71 o71 e71 => ?_)
    have z71 := e71.size
    refine C_append Echange rfl rfl rfl rfl ((((((((hO.ext e58).ext m61).ext e62).ext m65).extT (Chg.toT q66 ((((hb3.ext e58).ext m61).ext e62).ext m65)) (by decide)).ext e67).ext m70).ext e71) o71.sl (by simp only [List.length_singleton]; omega) rfl (by omega) (fun v72 w72 o72 r72 k72 => ?_)
    have e72 : Ext w0 w72 := ((((((((hO.ext e58).ext m61).ext e62).ext m65).extT (Chg.toT q66 ((((hb3.ext e58).ext m61).ext e62).ext m65)) (by decide)).ext e67).ext m70).ext e71).ext_grown r72 (e69.trans e71) (by omega)
    have z72 := r72.size
    have x72 := OwC.grownT ((((((((hO.ext e58).ext m61).ext e62).ext m65).extT (Chg.toT q66 ((((hb3.ext e58).ext m61).ext e62).ext m65)) (by decide)).ext e67).ext m70).ext e71) r72
    refine O_storeC (cs' := [_]) one66 rfl rfl rfl (o72).one (((((((((hb4.ext e58).ext m61).ext e62).ext m65).chg q66 (by first | assumption | omega)).ext e67).ext m70).ext e71).extT x72 (by decide)) rfl rfl (fun w73 b73 q73 => ?_)
    have z73 := Nat.le_of_eq q73.size.symm
    have e73 : Ext w0 w73 := q73.ext e72 (by omega)
    refine WL_end [] trivial ?_
    refine ret0 Try.results80 ?_
    first
      | exact ⟨rfl, ⟨e73, hET.trans (show ExtT SNC _ _ from (by first | exact ExtT.trans (ExtT.trans (ExtT.trans (ExtT.trans (ExtT.trans (by first | exact ExtT.trans (ExtT.trans (ExtT.trans (ExtT.trans (Ext.toT e58) (Ext.toT m61)) (Ext.toT e62)) (Ext.toT m65)) ((Chg.toT q66 ((((hb3.ext e58).ext m61).ext e62).ext m65)).mono (by decide)) | exact ExtT.chgNew (ExtT.trans (ExtT.trans (ExtT.trans (Ext.toT e58) (Ext.toT m61)) (Ext.toT e62)) (Ext.toT m65)) q66 (by omega)) (Ext.toT e67)) (Ext.toT m70)) (Ext.toT e71)) (x72.mono (by decide))) ((Chg.toT q73 (((((((((hb4.ext e58).ext m61).ext e62).ext m65).chg q66 (by first | assumption | omega)).ext e67).ext m70).ext e71).extT x72 (by decide))).mono (by decide)) | exact ExtT.chgNew (ExtT.trans (ExtT.trans (ExtT.trans (ExtT.trans (by first | exact ExtT.trans (ExtT.trans (ExtT.trans (ExtT.trans (Ext.toT e58) (Ext.toT m61)) (Ext.toT e62)) (Ext.toT m65)) ((Chg.toT q66 ((((hb3.ext e58).ext m61).ext e62).ext m65)).mono (by decide)) | exact ExtT.chgNew (ExtT.trans (ExtT.trans (ExtT.trans (Ext.toT e58) (Ext.toT m61)) (Ext.toT e62)) (Ext.toT m65)) q66 (by omega)) (Ext.toT e67)) (Ext.toT m70)) (Ext.toT e71)) (x72.mono (by decide))) q73 (by omega))), ⟨((((((((((hb1.ext e58).ext m61).ext e62).ext m65).chg q66 (by first | assumption | omega)).ext e67).ext m70).ext e71).extT x72 (by decide)).chg q73 (by first | assumption | omega)), ((((((((((hb2.ext e58).ext m61).ext e62).ext m65).chg q66 (by first | assumption | omega)).ext e67).ext m70).ext e71).extT x72 (by decide)).chg q73 (by first | assumption | omega)), by rw [any_skip (clash_F hx hy (by assumption))]; exact (((((b66.ext e67).ext m70).ext e71).extT x72 (by decide)).chg q73 (by first | assumption | omega))⟩, _, b73, by rw [fm_snoc ((cmp1_B hx hy).trans (chq_ne (by assumption)))]; exact (o72.extT (Chg.toT q73 (((((((((hb4.ext e58).ext m61).ext e62).ext m65).chg q66 (by first | assumption | omega)).ext e67).ext m70).ext e71).extT x72 (by decide))) (by decide))⟩, by omega, ((((((((((hbl.ext e58).ext m61).ext e62).ext m65).chg q66 (by first | assumption | omega)).ext e67).ext m70).ext e71).extT x72 (by decide)).chg q73 (by first | assumption | omega))⟩
      | exact ⟨rfl, ⟨e73, hET.trans (show ExtT SNC _ _ from (by first | exact ExtT.trans (ExtT.trans (ExtT.trans (ExtT.trans (ExtT.trans (by first | exact ExtT.trans (ExtT.trans (ExtT.trans (ExtT.trans (Ext.toT e58) (Ext.toT m61)) (Ext.toT e62)) (Ext.toT m65)) ((Chg.toT q66 ((((hb3.ext e58).ext m61).ext e62).ext m65)).mono (by decide)) | exact ExtT.chgNew (ExtT.trans (ExtT.trans (ExtT.trans (Ext.toT e58) (Ext.toT m61)) (Ext.toT e62)) (Ext.toT m65)) q66 (by omega)) (Ext.toT e67)) (Ext.toT m70)) (Ext.toT e71)) (x72.mono (by decide))) ((Chg.toT q73 (((((((((hb4.ext e58).ext m61).ext e62).ext m65).chg q66 (by first | assumption | omega)).ext e67).ext m70).ext e71).extT x72 (by decide))).mono (by decide)) | exact ExtT.chgNew (ExtT.trans (ExtT.trans (ExtT.trans (ExtT.trans (by first | exact ExtT.trans (ExtT.trans (ExtT.trans (ExtT.trans (Ext.toT e58) (Ext.toT m61)) (Ext.toT e62)) (Ext.toT m65)) ((Chg.toT q66 ((((hb3.ext e58).ext m61).ext e62).ext m65)).mono (by decide)) | exact ExtT.chgNew (ExtT.trans (ExtT.trans (ExtT.trans (Ext.toT e58) (Ext.toT m61)) (Ext.toT e62)) (Ext.toT m65)) q66 (by omega)) (Ext.toT e67)) (Ext.toT m70)) (Ext.toT e71)) (x72.mono (by decide))) q73 (by omega))), ⟨((((((((((hb1.ext e58).ext m61).ext e62).ext m65).chg q66 (by first | assumption | omega)).ext e67).ext m70).ext e71).extT x72 (by decide)).chg q73 (by first | assumption | omega)), ((((((((((hb2.ext e58).ext m61).ext e62).ext m65).chg q66 (by first | assumption | omega)).ext e67).ext m70).ext e71).extT x72 (by decide)).chg q73 (by first | assumption | omega)), by rw [any_skip (clash_F hx hy (by assumption))]; exact (((((b66.ext e67).ext m70).ext e71).extT x72 (by decide)).chg q73 (by first | assumption | omega))⟩, _, b73, by rw [fm_skip ((cmp1_B hx hy).trans (chq_eq (by assumption)))]; exact (o72.extT (Chg.toT q73 (((((((((hb4.ext e58).ext m61).ext e62).ext m65).chg q66 (by first | assumption | omega)).ext e67).ext m70).ext e71).extT x72 (by decide))) (by decide))⟩, by omega, ((((((((((hbl.ext e58).ext m61).ext e62).ext m65).chg q66 (by first | assumption | omega)).ext e67).ext m70).ext e71).extT x72 (by decide)).chg q73 (by first | assumption | omega))⟩
      | exact ⟨rfl, ⟨e73, hET.trans (show ExtT SNC _ _ from (by first | exact ExtT.trans (ExtT.trans (ExtT.trans (ExtT.trans (ExtT.trans (by first | exact ExtT.trans (ExtT.trans (ExtT.trans (ExtT.trans (Ext.toT e58) (Ext.toT m61)) (Ext.toT e62)) (Ext.toT m65)) ((Chg.toT q66 ((((hb3.ext e58).ext m61).ext e62).ext m65)).mono (by decide)) | exact ExtT.chgNew (ExtT.trans (ExtT.trans (ExtT.trans (Ext.toT e58) (Ext.toT m61)) (Ext.toT e62)) (Ext.toT m65)) q66 (by omega)) (Ext.toT e67)) (Ext.toT m70)) (Ext.toT e71)) (x72.mono (by decide))) ((Chg.toT q73 (((((((((hb4.ext e58).ext m61).ext e62).ext m65).chg q66 (by first | assumption | omega)).ext e67).ext m70).ext e71).extT x72 (by decide))).mono (by decide)) | exact ExtT.chgNew (ExtT.trans (ExtT.trans (ExtT.trans (ExtT.trans (by first | exact ExtT.trans (ExtT.trans (ExtT.trans (ExtT.trans (Ext.toT e58) (Ext.toT m61)) (Ext.toT e62)) (Ext.toT m65)) ((Chg.toT q66 ((((hb3.ext e58).ext m61).ext e62).ext m65)).mono (by decide)) | exact ExtT.chgNew (ExtT.trans (ExtT.trans (ExtT.trans (Ext.toT e58) (Ext.toT m61)) (Ext.toT e62)) (Ext.toT m65)) q66 (by omega)) (Ext.toT e67)) (Ext.toT m70)) (Ext.toT e71)) (x72.mono (by decide))) q73 (by omega))), ⟨((((((((((hb1.ext e58).ext m61).ext e62).ext m65).chg q66 (by first | assumption | omega)).ext e67).ext m70).ext e71).extT x72 (by decide)).chg q73 (by first | assumption | omega)), ((((((((((hb2.ext e58).ext m61).ext e62).ext m65).chg q66 (by first | assumption | omega)).ext e67).ext m70).ext e71).extT x72 (by decide)).chg q73 (by first | assumption | omega)), by rw [if_pos (any_hit (clash_T hx hy (by assumption)))]; exact (((((b66.ext e67).ext m70).ext e71).extT x72 (by decide)).chg q73 (by first | assumption | omega))⟩, _, b73, by rw [fm_snoc ((cmp1_B hx hy).trans (chq_ne (by assumption)))]; exact (o72.extT (Chg.toT q73 (((((((((hb4.ext e58).ext m61).ext e62).ext m65).chg q66 (by first | assumption | omega)).ext e67).ext m70).ext e71).extT x72 (by decide))) (by decide))⟩, by omega, ((((((((((hbl.ext e58).ext m61).ext e62).ext m65).chg q66 (by first | assumption | omega)).ext e67).ext m70).ext e71).extT x72 (by decide)).chg q73 (by first | assumption | omega))⟩
      | exact ⟨rfl, ⟨e73, hET.trans (show ExtT SNC _ _ from (by first | exact ExtT.trans (ExtT.trans (ExtT.trans (ExtT.trans (ExtT.trans (by first | exact ExtT.trans (ExtT.trans (ExtT.trans (ExtT.trans (Ext.toT e58) (Ext.toT m61)) (Ext.toT e62)) (Ext.toT m65)) ((Chg.toT q66 ((((hb3.ext e58).ext m61).ext e62).ext m65)).mono (by decide)) | exact ExtT.chgNew (ExtT.trans (ExtT.trans (ExtT.trans (Ext.toT e58) (Ext.toT m61)) (Ext.toT e62)) (Ext.toT m65)) q66 (by omega)) (Ext.toT e67)) (Ext.toT m70)) (Ext.toT e71)) (x72.mono (by decide))) ((Chg.toT q73 (((((((((hb4.ext e58).ext m61).ext e62).ext m65).chg q66 (by first | assumption | omega)).ext e67).ext m70).ext e71).extT x72 (by decide))).mono (by decide)) | exact ExtT.chgNew (ExtT.trans (ExtT.trans (ExtT.trans (ExtT.trans (by first | exact ExtT.trans (ExtT.trans (ExtT.trans (ExtT.trans (Ext.toT e58) (Ext.toT m61)) (Ext.toT e62)) (Ext.toT m65)) ((Chg.toT q66 ((((hb3.ext e58).ext m61).ext e62).ext m65)).mono (by decide)) | exact ExtT.chgNew (ExtT.trans (ExtT.trans (ExtT.trans (Ext.toT e58) (Ext.toT m61)) (Ext.toT e62)) (Ext.toT m65)) q66 (by omega)) (Ext.toT e67)) (Ext.toT m70)) (Ext.toT e71)) (x72.mono (by decide))) q73 (by omega))), ⟨((((((((((hb1.ext e58).ext m61).ext e62).ext m65).chg q66 (by first | assumption | omega)).ext e67).ext m70).ext e71).extT x72 (by decide)).chg q73 (by first | assumption | omega)), ((((((((((hb2.ext e58).ext m61).ext e62).ext m65).chg q66 (by first | assumption | omega)).ext e67).ext m70).ext e71).extT x72 (by decide)).chg q73 (by first | assumption | omega)), by rw [if_pos (any_hit (clash_T hx hy (by assumption)))]; exact (((((b66.ext e67).ext m70).ext e71).extT x72 (by decide)).chg q73 (by first | assumption | omega))⟩, _, b73, by rw [fm_skip ((cmp1_B hx hy).trans (chq_eq (by assumption)))]; exact (o72.extT (Chg.toT q73 (((((((((hb4.ext e58).ext m61).ext e62).ext m65).chg q66 (by first | assumption | omega)).ext e67).ext m70).ext e71).extT x72 (by decide))) (by decide))⟩, by omega, ((((((((((hbl.ext e58).ext m61).ext e62).ext m65).chg q66 (by first | assumption | omega)).ext e67).ext m70).ext e71).extT x72 (by decide)).chg q73 (by first | assumption | omega))⟩
   · --
    refine WP_skip ?_
    refine ret0 Try.results80 ?_
    first
      | exact ⟨rfl, ⟨e69, hET.trans (show ExtT SNC _ _ from (ExtT.trans (ExtT.trans (by first | exact ExtT.trans (ExtT.trans (ExtT.trans (ExtT.trans (Ext.toT e58) (Ext.toT m61)) (Ext.toT e62)) (Ext.toT m65)) ((Chg.toT q66 ((((hb3.ext e58).ext m61).ext e62).ext m65)).mono (by decide)) | exact ExtT.chgNew (ExtT.trans (ExtT.trans (ExtT.trans (Ext.toT e58) (Ext.toT m61)) (Ext.toT e62)) (Ext.toT m65)) q66 (by omega)) (Ext.toT e67)) (Ext.toT m70))), ⟨(((((((hb1.ext e58).ext m61).ext e62).ext m65).chg q66 (by first | assumption | omega)).ext e67).ext m70), (((((((hb2.ext e58).ext m61).ext e62).ext m65).chg q66 (by first | assumption | omega)).ext e67).ext m70), by rw [any_skip (clash_F hx hy (by assumption))]; exact ((b66.ext e67).ext m70)⟩, _, (((((((hb4.ext e58).ext m61).ext e62).ext m65).chg q66 (by first | assumption | omega)).ext e67).ext m70), by rw [fm_snoc ((cmp1_B hx hy).trans (chq_ne (by assumption)))]; exact (((((((hO.ext e58).ext m61).ext e62).ext m65).extT (Chg.toT q66 ((((hb3.ext e58).ext m61).ext e62).ext m65)) (by decide)).ext e67).ext m70)⟩, by omega, (((((((hbl.ext e58).ext m61).ext e62).ext m65).chg q66 (by first | assumption | omega)).ext e67).ext m70)⟩
      | exact ⟨rfl, ⟨e69, hET.trans (show ExtT SNC _ _ from (ExtT.trans (ExtT.trans (by first | exact ExtT.trans (ExtT.trans (ExtT.trans (ExtT.trans (Ext.toT e58) (Ext.toT m61)) (Ext.toT e62)) (Ext.toT m65)) ((Chg.toT q66 ((((hb3.ext e58).ext m61).ext e62).ext m65)).mono (by decide)) | exact ExtT.chgNew (ExtT.trans (ExtT.trans (ExtT.trans (Ext.toT e58) (Ext.toT m61)) (Ext.toT e62)) (Ext.toT m65)) q66 (by omega)) (Ext.toT e67)) (Ext.toT m70))), ⟨(((((((hb1.ext e58).ext m61).ext e62).ext m65).chg q66 (by first | assumption | omega)).ext e67).ext m70), (((((((hb2.ext e58).ext m61).ext e62).ext m65).chg q66 (by first | assumption | omega)).ext e67).ext m70), by rw [any_skip (clash_F hx hy (by assumption))]; exact ((b66.ext e67).ext m70)⟩, _, (((((((hb4.ext e58).ext m61).ext e62).ext m65).chg q66 (by first | assumption | omega)).ext e67).ext m70), by rw [fm_skip ((cmp1_B hx hy).trans (chq_eq (by assumption)))]; exact (((((((hO.ext e58).ext m61).ext e62).ext m65).extT (Chg.toT q66 ((((hb3.ext e58).ext m61).ext e62).ext m65)) (by decide)).ext e67).ext m70)⟩, by omega, (((((((hbl.ext e58).ext m61).ext e62).ext m65).chg q66 (by first | assumption | omega)).ext e67).ext m70)⟩
      | exact ⟨rfl, ⟨e69, hET.trans (show ExtT SNC _ _ from (ExtT.trans (ExtT.trans (by first | exact ExtT.trans (ExtT.trans (ExtT.trans (ExtT.trans (Ext.toT e58) (Ext.toT m61)) (Ext.toT e62)) (Ext.toT m65)) ((Chg.toT q66 ((((hb3.ext e58).ext m61).ext e62).ext m65)).mono (by decide)) | exact ExtT.chgNew (ExtT.trans (ExtT.trans (ExtT.trans (Ext.toT e58) (Ext.toT m61)) (Ext.toT e62)) (Ext.toT m65)) q66 (by omega)) (Ext.toT e67)) (Ext.toT m70))), ⟨(((((((hb1.ext e58).ext m61).ext e62).ext m65).chg q66 (by first | assumption | omega)).ext e67).ext m70), (((((((hb2.ext e58).ext m61).ext e62).ext m65).chg q66 (by first | assumption | omega)).ext e67).ext m70), by rw [if_pos (any_hit (clash_T hx hy (by assumption)))]; exact ((b66.ext e67).ext m70)⟩, _, (((((((hb4.ext e58).ext m61).ext e62).ext m65).chg q66 (by first | assumption | omega)).ext e67).ext m70), by rw [fm_snoc ((cmp1_B hx hy).trans (chq_ne (by assumption)))]; exact (((((((hO.ext e58).ext m61).ext e62).ext m65).extT (Chg.toT q66 ((((hb3.ext e58).ext m61).ext e62).ext m65)) (by decide)).ext e67).ext m70)⟩, by omega, (((((((hbl.ext e58).ext m61).ext e62).ext m65).chg q66 (by first | assumption | omega)).ext e67).ext m70)⟩
      | exact ⟨rfl, ⟨e69, hET.trans (show ExtT SNC _ _ from (ExtT.trans (ExtT.trans (by first | exact ExtT.trans (ExtT.trans (ExtT.trans (ExtT.trans (Ext.toT e58) (Ext.toT m61)) (Ext.toT e62)) (Ext.toT m65)) ((Chg.toT q66 ((((hb3.ext e58).ext m61).ext e62).ext m65)).mono (by decide)) | exact ExtT.chgNew (ExtT.trans (ExtT.trans (ExtT.trans (Ext.toT e58) (Ext.toT m61)) (Ext.toT e62)) (Ext.toT m65)) q66 (by omega)) (Ext.toT e67)) (Ext.toT m70))), ⟨(((((((hb1.ext e58).ext m61).ext e62).ext m65).chg q66 (by first | assumption | omega)).ext e67).ext m70), (((((((hb2.ext e58).ext m61).ext e62).ext m65).chg q66 (by first | assumption | omega)).ext e67).ext m70), by rw [if_pos (any_hit (clash_T hx hy (by assumption)))]; exact ((b66.ext e67).ext m70)⟩, _, (((((((hb4.ext e58).ext m61).ext e62).ext m65).chg q66 (by first | assumption | omega)).ext e67).ext m70), by rw [fm_skip ((cmp1_B hx hy).trans (chq_eq (by assumption)))]; exact (((((((hO.ext e58).ext m61).ext e62).ext m65).extT (Chg.toT q66 ((((hb3.ext e58).ext m61).ext e62).ext m65)) (by decide)).ext e67).ext m70)⟩, by omega, (((((((hbl.ext e58).ext m61).ext e62).ext m65).chg q66 (by first | assumption | omega)).ext e67).ext m70)⟩
  · --
   refine WP_skip ?_
   refine WP_seq ?_
   refine WP_region ?_
   refine O_move rfl rfl rfl ?_
   refine O_field F74_2 rfl rfl rfl ?_
   refine O_loadC Try.underlying3 rfl rfl rfl rfl ((b60.ext e62).ext m65) rfl ?_
   refine O_field F74_3 rfl rfl rfl ?_
   refine O_loadC Try.underlying3 rfl rfl rfl rfl b64 rfl ?_
   refine O_call enters74 rfl rfl rfl (change_c) (fun v74 w74 e74 h74 => ?_)
   have z74 := e74.size
   try simp only [val_dig] at h74
   obtain rfl := h74
   refine O_move rfl rfl rfl ?_
   refine O_extract rfl rfl rfl rfl ?_
   refine O_extract rfl rfl rfl rfl ?_
   refine O_alloc S74 rfl rfl (fun g75 w75 b75 e75 gl75 gh75 => ?_)
   have z75 := e75.size
   refine O_storeA (cs' := [_, _, _, _]) S74 rfl rfl rfl b75 rfl rfl (one_cons rfl (one_cons rfl (one_cons rfl (one_cons rfl one_nil)))) rfl (fun w76 b76 q76 => ?_)
   have z76 := Nat.le_of_eq q76.size.symm
   have e76 : Ext w0 w76 := q76.ext ((e64.trans e74).trans e75) (by omega)
   have m77 := q76.ext e75 (by omega)
   refine O_assign rfl rfl rfl ?_
   refine WL_end [(4, _), (10, _), (11, _)] ⟨rfl, rfl, rfl, trivial⟩ ?_
   refine WP_seq ?_
   refine WP_region ?_
   refine O_move rfl rfl rfl ?_
   refine WL_end [(4, _), (10, _), (51, _)] ⟨rfl, rfl, rfl, trivial⟩ ?_
   refine WP_condD rfl (fun c51 => ?_) (fun c51 => ?_)
   · --
    refine WP_region ?_
    refine O_loadC Try.underlying66 rfl rfl rfl rfl ((((((hb4.ext e58).ext m61).ext e62).ext m65).ext e74).ext m77) rfl ?_
    refine O_loadA (vs := [_, _, _, _]) S74 rfl rfl rfl b76 rfl rfl ?_
    refine C_lit1 (b := chOf s (x.2.2.1) (y.2.2.2)) Echange rfl rfl rfl (fun v78 w78 o78 e78 => ?_)
    have z78 := e78.size
    refine C_append Echange rfl rfl rfl rfl (((((((hO.ext e58).ext m61).ext e62).ext m65).ext e74).ext m77).ext e78) o78.sl (by simp only [List.length_singleton]; omega) rfl (by omega) (fun v79 w79 o79 r79 k79 => ?_)
    have e79 : Ext w0 w79 := (((((((hO.ext e58).ext m61).ext e62).ext m65).ext e74).ext m77).ext e78).ext_grown r79 (e76.trans e78) (by omega)
    have z79 := r79.size
    have x79 := OwC.grownT (((((((hO.ext e58).ext m61).ext e62).ext m65).ext e74).ext m77).ext e78) r79
    refine O_storeC (cs' := [_]) one66 rfl rfl rfl (o79).one ((((((((hb4.ext e58).ext m61).ext e62).ext m65).ext e74).ext m77).ext e78).extT x79 (by decide)) rfl rfl (fun w80 b80 q80 => ?_)
    have z80 := Nat.le_of_eq q80.size.symm
    have e80 : Ext w0 w80 := q80.ext e79 (by omega)
    refine WL_end [] trivial ?_
    refine ret0 Try.results80 ?_
    first
      | exact ⟨rfl, ⟨e80, hET.trans (show ExtT SNC _ _ from (by first | exact ExtT.trans (ExtT.trans (ExtT.trans (ExtT.trans (ExtT.trans (ExtT.trans (ExtT.trans (ExtT.trans (Ext.toT e58) (Ext.toT m61)) (Ext.toT e62)) (Ext.toT m65)) (Ext.toT e74)) (Ext.toT m77)) (Ext.toT e78)) (x79.mono (by decide))) ((Chg.toT q80 ((((((((hb4.ext e58).ext m61).ext e62).ext m65).ext e74).ext m77).ext e78).extT x79 (by decide))).mono (by decide)) | exact ExtT.chgNew (ExtT.trans (ExtT.trans (ExtT.trans (ExtT.trans (ExtT.trans (ExtT.trans (ExtT.trans (Ext.toT e58) (Ext.toT m61)) (Ext.toT e62)) (Ext.toT m65)) (Ext.toT e74)) (Ext.toT m77)) (Ext.toT e78)) (x79.mono (by decide))) q80 (by omega))), ⟨(((((((((hb1.ext e58).ext m61).ext e62).ext m65).ext e74).ext m77).ext e78).extT x79 (by decide)).chg q80 (by first | assumption | omega)), (((((((((hb2.ext e58).ext m61).ext e62).ext m65).ext e74).ext m77).ext e78).extT x79 (by decide)).chg q80 (by first | assumption | omega)), by rw [any_skip (clash_F hx hy (by assumption))]; exact (((((((((hb3.ext e58).ext m61).ext e62).ext m65).ext e74).ext m77).ext e78).extT x79 (by decide)).chg q80 (by first | assumption | omega))⟩, _, b80, by rw [fm_snoc ((cmp1_B hx hy).trans (chq_ne (by assumption)))]; exact (o79.extT (Chg.toT q80 ((((((((hb4.ext e58).ext m61).ext e62).ext m65).ext e74).ext m77).ext e78).extT x79 (by decide))) (by decide))⟩, by omega, (((((((((hbl.ext e58).ext m61).ext e62).ext m65).ext e74).ext m77).ext e78).extT x79 (by decide)).chg q80 (by first | assumption | omega))⟩
      | exact ⟨rfl, ⟨e80, hET.trans (show ExtT SNC _ _ from (by first | exact ExtT.trans (ExtT.trans (ExtT.trans (ExtT.trans (ExtT.trans (ExtT.trans (ExtT.trans (ExtT.trans (Ext.toT e58) (Ext.toT m61)) (Ext.toT e62)) (Ext.toT m65)) (Ext.toT e74)) (Ext.toT m77)) (Ext.toT e78)) (x79.mono (by decide))) ((Chg.toT q80 ((((((((hb4.ext e58).ext m61).ext e62).ext m65).ext e74).ext m77).ext e78).extT x79 (by decide))).mono (by decide)) | exact ExtT.chgNew (ExtT.trans (ExtT.trans (ExtT.trans (ExtT.trans (ExtT.trans (ExtT.trans (ExtT.trans (Ext.toT e58) (Ext.toT m61)) (Ext.toT e62)) (Ext.toT m65)) (Ext.toT e74)) (Ext.toT m77)) (Ext.toT e78)) (x79.mono (by decide))) q80 (by omega))), ⟨(((((((((hb1.ext e58).ext m61).ext e62).ext m65).ext e74).ext m77).ext e78).extT x79 (by decide)).chg q80 (by first | assumption | omega)), (((((((((hb2.ext e58).ext m61).ext e62).ext m65).ext e74).ext m77).ext e78).extT x79 (by decide)).chg q80 (by first | assumption | omega)), by rw [any_skip (clash_F hx hy (by assumption))]; exact (((((((((hb3.ext e58).ext m61).ext e62).ext m65).ext e74).ext m77).ext e78).extT x79 (by decide)).chg q80 (by first | assumption | omega))⟩, _, b80, by rw [fm_skip ((cmp1_B hx hy).trans (chq_eq (by assumption)))]; exact (o79.extT (Chg.toT q80 ((((((((hb4.ext e58).ext m61).ext e62).ext m65).ext e74).ext m77).ext e78).extT x79 (by decide))) (by decide))⟩, by omega, (((((((((hbl.ext e58).ext m61).ext e62).ext m65).ext e74).ext m77).ext e78).extT x79 (by decide)).chg q80 (by first | assumption | omega))⟩
      | exact ⟨rfl, ⟨e80, hET.trans (show ExtT SNC _ _ from (by first | exact ExtT.trans (ExtT.trans (ExtT.trans (ExtT.trans (ExtT.trans (ExtT.trans (ExtT.trans (ExtT.trans (Ext.toT e58) (Ext.toT m61)) (Ext.toT e62)) (Ext.toT m65)) (Ext.toT e74)) (Ext.toT m77)) (Ext.toT e78)) (x79.mono (by decide))) ((Chg.toT q80 ((((((((hb4.ext e58).ext m61).ext e62).ext m65).ext e74).ext m77).ext e78).extT x79 (by decide))).mono (by decide)) | exact ExtT.chgNew (ExtT.trans (ExtT.trans (ExtT.trans (ExtT.trans (ExtT.trans (ExtT.trans (ExtT.trans (Ext.toT e58) (Ext.toT m61)) (Ext.toT e62)) (Ext.toT m65)) (Ext.toT e74)) (Ext.toT m77)) (Ext.toT e78)) (x79.mono (by decide))) q80 (by omega))), ⟨(((((((((hb1.ext e58).ext m61).ext e62).ext m65).ext e74).ext m77).ext e78).extT x79 (by decide)).chg q80 (by first | assumption | omega)), (((((((((hb2.ext e58).ext m61).ext e62).ext m65).ext e74).ext m77).ext e78).extT x79 (by decide)).chg q80 (by first | assumption | omega)), by rw [if_pos (any_hit (clash_T hx hy (by assumption)))]; exact (((((((((hb3.ext e58).ext m61).ext e62).ext m65).ext e74).ext m77).ext e78).extT x79 (by decide)).chg q80 (by first | assumption | omega))⟩, _, b80, by rw [fm_snoc ((cmp1_B hx hy).trans (chq_ne (by assumption)))]; exact (o79.extT (Chg.toT q80 ((((((((hb4.ext e58).ext m61).ext e62).ext m65).ext e74).ext m77).ext e78).extT x79 (by decide))) (by decide))⟩, by omega, (((((((((hbl.ext e58).ext m61).ext e62).ext m65).ext e74).ext m77).ext e78).extT x79 (by decide)).chg q80 (by first | assumption | omega))⟩
      | exact ⟨rfl, ⟨e80, hET.trans (show ExtT SNC _ _ from (by first | exact ExtT.trans (ExtT.trans (ExtT.trans (ExtT.trans (ExtT.trans (ExtT.trans (ExtT.trans (ExtT.trans (Ext.toT e58) (Ext.toT m61)) (Ext.toT e62)) (Ext.toT m65)) (Ext.toT e74)) (Ext.toT m77)) (Ext.toT e78)) (x79.mono (by decide))) ((Chg.toT q80 ((((((((hb4.ext e58).ext m61).ext e62).ext m65).ext e74).ext m77).ext e78).extT x79 (by decide))).mono (by decide)) | exact ExtT.chgNew (ExtT.trans (ExtT.trans (ExtT.trans (ExtT.trans (ExtT.trans (ExtT.trans (ExtT.trans (Ext.toT e58) (Ext.toT m61)) (Ext.toT e62)) (Ext.toT m65)) (Ext.toT e74)) (Ext.toT m77)) (Ext.toT e78)) (x79.mono (by decide))) q80 (by omega))), ⟨(((((((((hb1.ext e58).ext m61).ext e62).ext m65).ext e74).ext m77).ext e78).extT x79 (by decide)).chg q80 (by first | assumption | omega)), (((((((((hb2.ext e58).ext m61).ext e62).ext m65).ext e74).ext m77).ext e78).extT x79 (by decide)).chg q80 (by first | assumption | omega)), by rw [if_pos (any_hit (clash_T hx hy (by assumption)))]; exact (((((((((hb3.ext e58).ext m61).ext e62).ext m65).ext e74).ext m77).ext e78).extT x79 (by decide)).chg q80 (by first | assumption | omega))⟩, _, b80, by rw [fm_skip ((cmp1_B hx hy).trans (chq_eq (by assumption)))]; exact (o79.extT (Chg.toT q80 ((((((((hb4.ext e58).ext m61).ext e62).ext m65).ext e74).ext m77).ext e78).extT x79 (by decide))) (by decide))⟩, by omega, (((((((((hbl.ext e58).ext m61).ext e62).ext m65).ext e74).ext m77).ext e78).extT x79 (by decide)).chg q80 (by first | assumption | omega))⟩
   · --
    refine WP_skip ?_
    refine ret0 Try.results80 ?_
    first
      | exact ⟨rfl, ⟨e76, hET.trans (show ExtT SNC _ _ from (ExtT.trans (ExtT.trans (ExtT.trans (ExtT.trans (ExtT.trans (Ext.toT e58) (Ext.toT m61)) (Ext.toT e62)) (Ext.toT m65)) (Ext.toT e74)) (Ext.toT m77))), ⟨((((((hb1.ext e58).ext m61).ext e62).ext m65).ext e74).ext m77), ((((((hb2.ext e58).ext m61).ext e62).ext m65).ext e74).ext m77), by rw [any_skip (clash_F hx hy (by assumption))]; exact ((((((hb3.ext e58).ext m61).ext e62).ext m65).ext e74).ext m77)⟩, _, ((((((hb4.ext e58).ext m61).ext e62).ext m65).ext e74).ext m77), by rw [fm_snoc ((cmp1_B hx hy).trans (chq_ne (by assumption)))]; exact ((((((hO.ext e58).ext m61).ext e62).ext m65).ext e74).ext m77)⟩, by omega, ((((((hbl.ext e58).ext m61).ext e62).ext m65).ext e74).ext m77)⟩
      | exact ⟨rfl, ⟨e76, hET.trans (show ExtT SNC _ _ from (ExtT.trans (ExtT.trans (ExtT.trans (ExtT.trans (ExtT.trans (Ext.toT e58) (Ext.toT m61)) (Ext.toT e62)) (Ext.toT m65)) (Ext.toT e74)) (Ext.toT m77))), ⟨((((((hb1.ext e58).ext m61).ext e62).ext m65).ext e74).ext m77), ((((((hb2.ext e58).ext m61).ext e62).ext m65).ext e74).ext m77), by rw [any_skip (clash_F hx hy (by assumption))]; exact ((((((hb3.ext e58).ext m61).ext e62).ext m65).ext e74).ext m77)⟩, _, ((((((hb4.ext e58).ext m61).ext e62).ext m65).ext e74).ext m77), by rw [fm_skip ((cmp1_B hx hy).trans (chq_eq (by assumption)))]; exact ((((((hO.ext e58).ext m61).ext e62).ext m65).ext e74).ext m77)⟩, by omega, ((((((hbl.ext e58).ext m61).ext e62).ext m65).ext e74).ext m77)⟩
      | exact ⟨rfl, ⟨e76, hET.trans (show ExtT SNC _ _ from (ExtT.trans (ExtT.trans (ExtT.trans (ExtT.trans (ExtT.trans (Ext.toT e58) (Ext.toT m61)) (Ext.toT e62)) (Ext.toT m65)) (Ext.toT e74)) (Ext.toT m77))), ⟨((((((hb1.ext e58).ext m61).ext e62).ext m65).ext e74).ext m77), ((((((hb2.ext e58).ext m61).ext e62).ext m65).ext e74).ext m77), by rw [if_pos (any_hit (clash_T hx hy (by assumption)))]; exact ((((((hb3.ext e58).ext m61).ext e62).ext m65).ext e74).ext m77)⟩, _, ((((((hb4.ext e58).ext m61).ext e62).ext m65).ext e74).ext m77), by rw [fm_snoc ((cmp1_B hx hy).trans (chq_ne (by assumption)))]; exact ((((((hO.ext e58).ext m61).ext e62).ext m65).ext e74).ext m77)⟩, by omega, ((((((hbl.ext e58).ext m61).ext e62).ext m65).ext e74).ext m77)⟩
      | exact ⟨rfl, ⟨e76, hET.trans (show ExtT SNC _ _ from (ExtT.trans (ExtT.trans (ExtT.trans (ExtT.trans (ExtT.trans (Ext.toT e58) (Ext.toT m61)) (Ext.toT e62)) (Ext.toT m65)) (Ext.toT e74)) (Ext.toT m77))), ⟨((((((hb1.ext e58).ext m61).ext e62).ext m65).ext e74).ext m77), ((((((hb2.ext e58).ext m61).ext e62).ext m65).ext e74).ext m77), by rw [if_pos (any_hit (clash_T hx hy (by assumption)))]; exact ((((((hb3.ext e58).ext m61).ext e62).ext m65).ext e74).ext m77)⟩, _, ((((((hb4.ext e58).ext m61).ext e62).ext m65).ext e74).ext m77), by rw [fm_skip ((cmp1_B hx hy).trans (chq_eq (by assumption)))]; exact ((((((hO.ext e58).ext m61).ext e62).ext m65).ext e74).ext m77)⟩, by omega, ((((((hbl.ext e58).ext m61).ext e62).ext m65).ext e74).ext m77)⟩

end Go.Proofs.Ytoccimigjjndpaa
