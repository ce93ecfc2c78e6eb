/- The law FnExactRunCascade as plain functions on data returns true for all arguments. No conditions. -/
import Derived.Test.YtjmpdejigkjaoaaGreatRcaLaw
set_option linter.unusedVariables false
set_option linter.unusedSimpArgs false
set_option linter.unusedSectionVars false
set_option linter.unnecessarySimpa false
namespace Go.Proofs.YtjmpdejigkjaoaaGreat.Vd
open Go.IntWalk

set_option maxHeartbeats 4000000 in
theorem vProve_eq {p q g key H : Int} {Hs : List Int} {ins : List (Int × Int)} {pm rs a b c w v s k l co : List Int} {gg f : Int} (h : Gr p q g) (hM : MixIn p q key H Hs ins pm rs) (hco : Cut ins.length co a b c w v s k l gg f)
    (la : a.length = ins.length) (lb : b.length = ins.length) (lc : c.length = ins.length) (lw : w.length = ins.length) (lv : v.length = ins.length) (ls : s.length = ins.length) (lk : k.length = ins.length) (ll : l.length = ins.length)
    (ia : inF q a) (ib : inF q b) (ic : inF q c) (iw : inF q w) (iv : inF q v) (is_ : inF q s) (ik : inF q k) (il : inF q l) (ig : 0 ≤ gg ∧ gg < q) (if_ : 0 ≤ f ∧ f < q) :
    M_S_vProve ((p, q, g), key, H, ins, pm, rs, co) = some (ppf p q g key H ins pm rs a b c w v s k l gg f) := by
  obtain ⟨hp1, hp2, hq1, hq2, hqm, hqb, hg0⟩ := QB_of h
  have hg := isEl_in (isEl_g h)
  obtain ⟨n1, n2, ki, hHi, hHs, hHl, hii, hp, hrl, hri⟩ := hM
  obtain ⟨n, hn⟩ : ∃ n, ins.length = n := ⟨_, rfl⟩
  have hN := NB_of n1 n2
  have hkey := isEl_in ki
  have hHr := isEl_in hHi
  have hci := mixO_ci (rs := rs) h ki hii hp
  have holen : (mixO p q g key ins pm rs).length = ins.length := by rw [mixO_len, hp.1]
  obtain ⟨hc1, hc2⟩ := comp_in hci
  have hmix := (mix_both (rs := rs) h ki hii hp hrl hN.n24).1
  have hplI := places_in (q := q) (g := g) (b := H) hp2 (pm := pm) (rs := a)
  have hplL : (places p q g H pm a).length = ins.length := by rw [places_len (by rw [la, hp.1]), hp.1]
  have hpl := hp.1
  have hls := mixL_short (key := key) rfl holen hplL n2 (Nat.le_trans n2 (by decide))
  have okP := okD_mixL h ki hii hci (inB_okD h hplI)
  have hi12 : ins.length ≤ 12 := n2
  rw [hn] at la lb lc lw lv ls lk ll n1 n2 hp hrl holen hplL hpl hco hN
  have n24 := hN.n24
  have n1000 := hN.n1000
  have m62 := hN.n62
  have hvPl := vPlaces_eq (pm := pm) (rs := a) h hHr (le_of_eq' hpl n24) (la.trans hpl.symm) (permB_mem hp)
  have hmLi := mListed_eq (key := key) (ins := ins) (outs := mixO p q g key ins pm rs) (more := places p q g H pm a) (le_of_eq' hn hN.n1m) (le_of_eq' holen hN.n1m) (le_of_eq' hplL hN.n1m)
  have ho1 : ((mixO p q g key ins pm rs).map (·.1)).length = n := by rw [List.length_map, holen]
  have ho2 : ((mixO p q g key ins pm rs).map (·.2)).length = n := by rw [List.length_map, holen]
  have hsid := sides1 (l := mixO p q g key ins pm rs) (le_of_eq' holen hN.n1m)
  have hch0 := hChallenge_eq (s := lMx) h (by decide) okP (Nat.lt_of_le_of_lt hls (by decide))
  have hgp1 := gProd_eq (l := (mixO p q g key ins pm rs).map (·.1)) (es := k) h (lk.trans ho1.symm) hc1 (lt_of_eq' ho1 hN.n60)
  have hgp2 := gProd_eq (l := (mixO p q g key ins pm rs).map (·.2)) (es := k) h (lk.trans ho2.symm) hc2 (lt_of_eq' ho2 hN.n60)
  have hnf := neg_f hqm if_
  have hdI : ∀ e : List Int, inF q e → e.length = n → M_S_nDot (rs, e, q) = some (dotQ q rs e) := fun e he hl => (dot_both ⟨hq2, hqm⟩ hri he (hl.trans hrl.symm) (le_of_eq' hrl n1000)).1
  have hn1 := hN.w1
  have hn1' := hN.l1
  have hpwr : ∀ x e, 0 ≤ pw p q x e ∧ pw p q x e ≤ p := fun x e => in_le (pw_range hp1)
  have hgpr : ∀ x e, 0 ≤ gpf p q x e ∧ gpf p q x e ≤ p := fun x e => in_le (gpf_range hp2 x e)
  have hvC : ∀ m r, M_S_vC ((p, q, g), H, m, r) = some (cm p q g H m r) := fun m r => vC_eq h hHr
  have hvp : ∀ x0, 0 ≤ x0 ∧ x0 ≤ q - 1 → M_S_vPowers ((p, q, g), pm, x0) = some (rgs (ppE q x0 pm) n) := fun x0 hx => vPowers_eq h hp n24 hx
  have hvPo : ∀ pw_ : List Int, pw_.length = n → inB p pw_ → M_S_vPoints ((p, q, g), key, ins, mixO p q g key ins pm rs, places p q g H pm a, pw_) = some (chal p q g lMy (mixL key ins (mixO p q g key ins pm rs) (places p q g H pm a) ++ pw_), chal p q g lMzz (mixL key ins (mixO p q g key ins pm rs) (places p q g H pm a) ++ pw_)) := fun pw_ h1 h2 =>
    vPoints_eq (P := (places p q g H pm a, pw_, [], [], [], [])) h (show okD (mixL key ins (mixO p q g key ins pm rs) (places p q g H pm a) ++ pw_) = true from by rw [okD_append, okP, inB_okD h h2]; rfl) hi12 (le_of_eq' holen n24) (le_of_eq' hplL n24) (le_of_eq' h1 n24)
  have hvE : ∀ pw_ ch cs : List Int, pw_.length = n → inB p pw_ → ch.length = n → inB p ch → cs.length = 3 * n + 3 → inB p cs → M_S_vEnd ((p, q, g), key, ins, mixO p q g key ins pm rs, places p q g H pm a, pw_, ch, cs, [], []) = some (chal p q g lMe ((mixL key ins (mixO p q g key ins pm rs) (places p q g H pm a) ++ pw_) ++ (ch ++ cs))) := fun pw_ ch cs h1 h2 h3 h4 h5 h6 =>
    vEnd_eq (P := (places p q g H pm a, pw_, ch, cs, [], [])) h (show okD (mixL key ins (mixO p q g key ins pm rs) (places p q g H pm a) ++ pw_) = true from by rw [okD_append, okP, inB_okD h h2]; rfl) (inB_okD h h4) (inB_okD h h6) hi12 (le_of_eq' holen n24) (le_of_eq' hplL n24) (le_of_eq' h1 n24) (le_of_eq' h3 n24) (le_of_eq' h5 hN.n80)
  obtain ⟨clen, g1, g2, t1, t2, t3, t4, t5, t6, t7, t8⟩ := hco
  obtain ⟨s1, s2, s3, s4, s5, s6, s7, s8⟩ := cut_sl clen
  have w2 : IntKind.wrap .i64 ((2 : Int) * (n : Int)) = ((2 * n : Nat) : Int) := wm_ok 2 n (by decide) n24
  have w3 : IntKind.wrap .i64 ((3 : Int) * (n : Int)) = ((3 * n : Nat) : Int) := wm_ok 3 n (by decide) n24
  have w4 : IntKind.wrap .i64 ((4 : Int) * (n : Int)) = ((4 * n : Nat) : Int) := wm_ok 4 n (by decide) n24
  have w5 : IntKind.wrap .i64 ((5 : Int) * (n : Int)) = ((5 * n : Nat) : Int) := wm_ok 5 n (by decide) n24
  have w6 : IntKind.wrap .i64 ((6 : Int) * (n : Int)) = ((6 * n : Nat) : Int) := wm_ok 6 n (by decide) n24
  have w7 : IntKind.wrap .i64 ((7 : Int) * (n : Int)) = ((7 * n : Nat) : Int) := wm_ok 7 n (by decide) n24
  have w8 : IntKind.wrap .i64 ((8 : Int) * (n : Int)) = ((8 * n : Nat) : Int) := wm_ok 8 n (by decide) n24
  have w61 := hN.w61
  have w71 := hN.w71
  have w81 := hN.w81
  unfold M_S_vProve ppf
  dsimp only
  rw [hn]
  refine bind_to (show M_S_mMix ((p, q, g), key, ins, pm, rs) = _ from hmix) ?_
  refine bind_to s1 ?_
  refine bind_to (congrArg some w2) ?_
  refine bind_to s2 ?_
  refine bind_to (congrArg some w2) ?_
  refine bind_to (congrArg some w3) ?_
  refine bind_to s3 ?_
  refine bind_to (congrArg some w3) ?_
  refine bind_to (congrArg some w4) ?_
  refine bind_to s4 ?_
  refine bind_to (congrArg some w4) ?_
  refine bind_to (congrArg some w5) ?_
  refine bind_to s5 ?_
  refine bind_to (congrArg some w5) ?_
  refine bind_to (congrArg some w6) ?_
  refine bind_to s6 ?_
  refine bind_to (congrArg some w6) ?_
  refine bind_to g1 ?_
  refine bind_to (congrArg some w6) ?_
  refine bind_to (congrArg some w61) ?_
  refine bind_to (congrArg some w7) ?_
  refine bind_to (congrArg some w71) ?_
  refine bind_to s7 ?_
  refine bind_to (congrArg some w7) ?_
  refine bind_to (congrArg some w71) ?_
  refine bind_to (congrArg some w8) ?_
  refine bind_to (congrArg some w81) ?_
  refine bind_to s8 ?_
  refine bind_to (congrArg some w8) ?_
  refine bind_to (congrArg some w81) ?_
  refine bind_to g2 ?_
  dsimp only
  rw [List.drop_zero, t1, t2, t3, t4, t5, t6, t7, t8]
  clear s1 s2 s3 s4 s5 s6 s7 s8 w2 w3 w4 w5 w6 w7 w8 w61 w71 w81 t1 t2 t3 t4 t5 t6 t7 t8 g1 g2 clen
  refine bind_to (show M_S_vPlaces ((p, q, g), H, pm, a) = _ from hvPl) ?_
  refine bind_to hmLi ?_
  refine bind_to (show M_S_hChallenge ((p, q, g), bytesOf [109, 105, 120, 32, 120], mixL key ins (mixO p q g key ins pm rs) (places p q g H pm a)) = _ from hch0) ?_
  have hx0 := chal_range h lMx (mixL key ins (mixO p q g key ins pm rs) (places p q g H pm a))
  clear hch0 hvPl hmLi
  generalize chal p q g lMx (mixL key ins (mixO p q g key ins pm rs) (places p q g H pm a)) = x0 at hx0 ⊢
  refine bind_to (hvp x0 hx0) ?_
  have heL := rgs_len (ppE q x0 pm) n
  have heI : inF q (rgs (ppE q x0 pm) n) := rgs_inF fun i _ => ppE_in hq2 i
  generalize rgs (ppE q x0 pm) n = e at heL heI ⊢
  refine grow_loopR (fun i => cm p q g H (e.getD i 0) (b.getD i 0)) [] (fun i l => ((i : Int), places p q g H pm a, l, [], [], [], [])) _ (n := n) m62 (fun again i l hi hl => ?_) (fun again => ?_)
  · refine yes_to (by dsimp only; rw [heL]; exact lt_yes hi) ?_
    dsimp only
    rw [at_get heL hi, bindO_some', at_get lb hi, bindO_some', hvC, bindO_some', snoc_lt hl rfl hi hN.b0, bindO_some', bindO_some', succ_ok hi n24, bindO_some']
  refine no_to (by dsimp only; rw [heL]; exact lt_no n) ?_
  rw [List.nil_append]
  have hpwL := rgs_len (fun i => cm p q g H (e.getD i 0) (b.getD i 0)) n
  have hpwI : inB p (rgs (fun i => cm p q g H (e.getD i 0) (b.getD i 0)) n) := inB_map fun i _ => cm_in hp2
  generalize rgs (fun i => cm p q g H (e.getD i 0) (b.getD i 0)) n = pw_ at hpwL hpwI ⊢
  refine bind_to (hvPo pw_ hpwL hpwI) ?_
  have hy := chal_range h lMy (mixL key ins (mixO p q g key ins pm rs) (places p q g H pm a) ++ pw_)
  have hz := chal_range h lMzz (mixL key ins (mixO p q g key ins pm rs) (places p q g H pm a) ++ pw_)
  generalize chal p q g lMy (mixL key ins (mixO p q g key ins pm rs) (places p q g H pm a) ++ pw_) = y at hy ⊢
  generalize chal p q g lMzz (mixL key ins (mixO p q g key ins pm rs) (places p q g H pm a) ++ pw_) = z at hz ⊢
  have hyl := lt_of_le' hy
  refine loopO_to (fun i => (rgs (ppU q y z pm e) i, rgs (ppD q c (ppU q y z pm e)) i, ppP q (ppU q y z pm e) i, (0 :: c).getD i 0, (i : Int), places p q g H pm a, pw_, rgs (fun i => cm p q g H (ppP q (ppU q y z pm e) (i + 1)) (c.getD i 0)) i, [], [], [])) n _ m62 (fun again => ?_) (fun again i hi ih => ?_)
  rotate_left
  · have hei := inF_at heI heL hi
    have hci := inF_at ic lc hi
    have hli := consF_in hq2 ic lc hi
    have hU : 0 ≤ ppU q y z pm e i ∧ ppU q y z pm e i < q := emod_in hq2 _
    have hP := ppP_in hq2 (ppU q y z pm e) i
    have hmod := emod_in hq2 (pm.getD i 0 + 1)
    have p1 := prod_small hqm hyl hmod
    have p2 := prod_small hqm hP hU
    have p3 := prod_small hqm hli hU
    obtain ⟨k1, k2, -⟩ := perm_ok hp n24 hi
    have i1000 : i ≤ 1000 := Nat.le_trans (Nat.le_of_lt hi) n1000
    refine yes_to (by dsimp only; rw [hpl]; exact lt_yes hi) ?_
    dsimp only
    rw [getI_nat, permB_at hp hi, bindO_some', k1, bindO_some', hg0, bindO_some', bindO_some', tmod_nn k2, mul_ok hqm hyl hmod, bindO_some', at_get heL hi, bindO_some', add_ok' hqm hei p1.1 p1.2, bindO_some', three_ok hqm hei hz p1.1 p1.2, bindO_some', nMod_eq hq1 hqb, ppU_cg, bindO_some', snoc_ok (rgs_len _ i) i1000, bindO_some', bindO_some', mul_ok hqm hP hU, bindO_some', bindO_some', bindO_some', tmod_nn p2.1, at_get lc hi, bindO_some', hvC, bindO_some', snoc_ok (rgs_len _ i) i1000, bindO_some', bindO_some', bindO_some', mul_ok hqm hli hU, bindO_some', sub_ok hqm hci p3.1 p3.2, bindO_some', nMod_eq hq1 hqb, bindO_some', snoc_ok (rgs_len _ i) i1000, bindO_some', bindO_some', bindO_some', succ_ok hi n24, bindO_some']
    rw [rgs_succ, rgs_succ, rgs_succ, List.getD_cons_succ] at ih
    exact ih
  have hUI : ∀ i, 0 ≤ ppU q y z pm e i ∧ ppU q y z pm e i < q := fun i => emod_in hq2 _
  have ug : ∀ i, i < n → getI (rgs (ppU q y z pm e) n) (i : Int) = some (ppU q y z pm e i) := fun i hi => (getI_nat _ i).trans (rgs_get hi)
  generalize ppU q y z pm e = U at hUI ug ⊢
  have dI : ∀ i, 0 ≤ ppD q c U i ∧ ppD q c U i < q := fun i => emod_in hq2 _
  have dg : ∀ i, i < n → getI (rgs (ppD q c U) n) (i : Int) = some (ppD q c U i) := fun i hi => (getI_nat _ i).trans (rgs_get hi)
  have chL := rgs_len (fun i => cm p q g H (ppP q U (i + 1)) (c.getD i 0)) n
  have chI : inB p (rgs (fun i => cm p q g H (ppP q U (i + 1)) (c.getD i 0)) n) := inB_map fun i _ => cm_in hp2
  refine no_to (by dsimp only; rw [hpl]; exact lt_no n) ?_
  refine bind_to hsid ?_
  generalize rgs (fun i => cm p q g H (ppP q U (i + 1)) (c.getD i 0)) n = ch at chL chI ⊢
  refine grow_loopR (fun i => cm p q g H (w.getD i 0) (v.getD i 0)) [] (fun i l => ((i : Int), places p q g H pm a, pw_, ch, l, [], [])) _ (n := n) m62 (fun again i l hi hl => ?_) (fun again => ?_)
  · refine yes_to (by dsimp only; rw [lw]; exact lt_yes hi) ?_
    dsimp only
    rw [at_get lw hi, bindO_some', at_get lv hi, bindO_some', hvC, bindO_some', snoc_lt hl rfl hi hN.b0, bindO_some', bindO_some', succ_ok hi n24, bindO_some']
  refine no_to (by dsimp only; rw [lw]; exact lt_no n) ?_
  rw [List.nil_append]
  have x1 := rgs_len (fun i => cm p q g H (w.getD i 0) (v.getD i 0)) n
  refine grow_loopR (fun i => prodM p 1 [pw p q ((g :: ch).getD i 0) (w.getD i 0), pw p q H (s.getD i 0)]) (rgs (fun i => cm p q g H (w.getD i 0) (v.getD i 0)) n) (fun i l => ((g :: ch).getD i 0, (i : Int), places p q g H pm a, pw_, ch, l, [], [])) _ (n := n) m62 (fun again i l hi hl => ?_) (fun again => ?_)
  · have hb2 := cons_in hg chI chL hi
    refine yes_to (by dsimp only; rw [lw]; exact lt_yes hi) ?_
    dsimp only
    rw [at_get lw hi, bindO_some', gExp_pw h hb2.1 hb2.2, bindO_some', at_get ls hi, bindO_some', gExp_pw h hHr.1 hHr.2, bindO_some', mul2 h (hpwr _ _) (hpwr _ _), bindO_some', snoc_lt hl x1 hi hN.b1, bindO_some', bindO_some', at_get chL hi, bindO_some', succ_ok hi n24, bindO_some', List.getD_cons_succ]
  refine no_to (by dsimp only; rw [lw]; exact lt_no n) ?_
  have x2 := len_two x1 (rgs_len (fun i => prodM p 1 [pw p q ((g :: ch).getD i 0) (w.getD i 0), pw p q H (s.getD i 0)]) n)
  refine bind_to (gExp_pw h hHr.1 hHr.2) ?_
  refine bind_to (snoc_ok x2 hN.b1) ?_
  refine bind_to rfl ?_
  have x3 := len_two x2 (show [pw p q H gg].length = 1 from rfl)
  refine grow_loopR (fun i => cm p q g H (k.getD i 0) (l.getD i 0)) ((rgs (fun i => cm p q g H (w.getD i 0) (v.getD i 0)) n ++ rgs (fun i => prodM p 1 [pw p q ((g :: ch).getD i 0) (w.getD i 0), pw p q H (s.getD i 0)]) n) ++ [pw p q H gg]) (fun i l => ((i : Int), places p q g H pm a, pw_, ch, l, [], [])) _ (n := n) m62 (fun again i l2 hi hl => ?_) (fun again => ?_)
  · refine yes_to (by dsimp only; rw [lk]; exact lt_yes hi) ?_
    dsimp only
    rw [at_get lk hi, bindO_some', at_get ll hi, bindO_some', hvC, bindO_some', snoc_lt hl x3 hi hN.b3, bindO_some', bindO_some', succ_ok hi n24, bindO_some']
  have x4 := len_two x3 (rgs_len (fun i => cm p q g H (k.getD i 0) (l.getD i 0)) n)
  refine no_to (by dsimp only; rw [lk]; exact lt_no n) ?_
  refine bind_to (congrArg some hnf) ?_
  refine bind_to (gExp_pw h hg.1 hg.2) ?_
  refine bind_to hgp1 ?_
  refine bind_to (mul2 h (hpwr _ _) (hgpr _ _)) ?_
  refine bind_to (congrArg some hnf) ?_
  refine bind_to (gExp_pw h hkey.1 hkey.2) ?_
  refine bind_to hgp2 ?_
  refine bind_to (mul2 h (hpwr _ _) (hgpr _ _)) ?_
  refine bind_to (app_ok x4 (k := 2) rfl hN.b3 (by decide)) ?_
  refine bind_to rfl ?_
  obtain ⟨hcI, hcL⟩ := ppC_ok (q := q) (g := g) (key := key) (H := H) hp2 (out := mixO p q g key ins pm rs) (ch := ch) (w := w) (v := v) (s := s) (k := k) (l := l) (gg := gg) (f := f) (n := n)
  unfold ppC at hcI hcL ⊢
  generalize (((rgs (fun i => cm p q g H (w.getD i 0) (v.getD i 0)) n ++ rgs (fun i => prodM p 1 [pw p q ((g :: ch).getD i 0) (w.getD i 0), pw p q H (s.getD i 0)]) n) ++ [pw p q H gg]) ++ rgs (fun i => cm p q g H (k.getD i 0) (l.getD i 0)) n) ++
    [prodM p 1 [pw p q g (-f), gpf p q ((mixO p q g key ins pm rs).map (·.1)) k], prodM p 1 [pw p q key (-f), gpf p q ((mixO p q g key ins pm rs).map (·.2)) k]] = cs at hcI hcL ⊢
  refine bind_to (hvE pw_ ch cs hpwL hpwI chL chI hcL hcI) ?_
  have ht := chal_range h lMe ((mixL key ins (mixO p q g key ins pm rs) (places p q g H pm a) ++ pw_) ++ (ch ++ cs))
  generalize chal p q g lMe ((mixL key ins (mixO p q g key ins pm rs) (places p q g H pm a) ++ pw_) ++ (ch ++ cs)) = t at ht ⊢
  clear hvE hvPo hgp1 hgp2 x1 x2 x3 x4 hcI hcL
  unfold ppR
  refine grow_loopR (fun i => (w.getD i 0 + t * U i) % q) [] (fun i l => (l, (i : Int))) _ (n := n) m62 (fun again i l2 hi hl => ?_) (fun again => ?_)
  · have q1 := inF_at iw lw hi
    obtain ⟨m5, m5', m5''⟩ := mprod hqm ht (hUI i)
    refine yes_to (by dsimp only; rw [lw]; exact lt_yes hi) ?_
    dsimp only
    rw [at_get lw hi, bindO_some', ug i hi, bindO_some', m5, bindO_some', add_ok hqm q1 m5' m5'', bindO_some', hg0, bindO_some', bindO_some', tmod_nn (add_nn q1 m5'), snoc_lt hl rfl hi hN.b0, bindO_some', bindO_some', succ_ok hi n24, bindO_some']
  refine no_to (by dsimp only; rw [lw]; exact lt_no n) ?_
  rw [List.nil_append]
  have x1 := rgs_len (fun i => (w.getD i 0 + t * U i) % q) n
  refine grow_loopR (fun i => (v.getD i 0 + t * ((y * a.getD i 0 + b.getD i 0) % q)) % q) (rgs (fun i => (w.getD i 0 + t * U i) % q) n) (fun i l => (l, (i : Int))) _ (n := n) m62 (fun again i l2 hi hl => ?_) (fun again => ?_)
  · have q1 := inF_at iv lv hi
    have q2 := inF_at ia la hi
    have q3 := inF_at ib lb hi
    obtain ⟨m4, m4', m4''⟩ := mprod hqm hy q2
    obtain ⟨m5, m5', m5''⟩ := mprod hqm ht (emod_in hq2 (y * a.getD i 0 + b.getD i 0))
    refine yes_to (by dsimp only; rw [lw]; exact lt_yes hi) ?_
    dsimp only
    rw [at_get lv hi, bindO_some', at_get la hi, bindO_some', m4, bindO_some', at_get lb hi, bindO_some', add_ok' hqm q3 m4' m4'', bindO_some', hg0, bindO_some', bindO_some', tmod_nn (add_nn' q3 m4'), m5, bindO_some', add_ok hqm q1 m5' m5'', bindO_some', bindO_some', bindO_some', tmod_nn (add_nn q1 m5'), snoc_lt hl x1 hi hN.b1, bindO_some', bindO_some', succ_ok hi n24, bindO_some']
  refine no_to (by dsimp only; rw [lw]; exact lt_no n) ?_
  have x2 := len_two x1 (rgs_len (fun i => (v.getD i 0 + t * ((y * a.getD i 0 + b.getD i 0) % q)) % q) n)
  refine grow_loopR (fun i => (s.getD i 0 + t * ppD q c U i) % q) (rgs (fun i => (w.getD i 0 + t * U i) % q) n ++ rgs (fun i => (v.getD i 0 + t * ((y * a.getD i 0 + b.getD i 0) % q)) % q) n) (fun i l => (l, (i : Int))) _ (n := n) m62 (fun again i l2 hi hl => ?_) (fun again => ?_)
  · have q1 := inF_at is_ ls hi
    obtain ⟨m5, m5', m5''⟩ := mprod hqm ht (dI i)
    refine yes_to (by dsimp only; rw [lw]; exact lt_yes hi) ?_
    dsimp only
    rw [at_get ls hi, bindO_some', dg i hi, bindO_some', m5, bindO_some', add_ok hqm q1 m5' m5'', bindO_some', hg0, bindO_some', bindO_some', tmod_nn (add_nn q1 m5'), snoc_lt hl x2 hi hN.b2, bindO_some', bindO_some', succ_ok hi n24, bindO_some']
  have q1 := inF_at ic lc hn1'
  obtain ⟨m6, m6', m6''⟩ := mprod hqm ht q1
  have x3 := len_two x2 (rgs_len (fun i => (s.getD i 0 + t * ppD q c U i) % q) n)
  refine no_to (by dsimp only; rw [lw]; exact lt_no n) ?_
  refine bind_to (congrArg some hn1) ?_
  refine bind_to (at_get lc hn1') ?_
  refine bind_to (congrArg some m6) ?_
  refine bind_to (congrArg some (add_ok hqm ig m6' m6'')) ?_
  refine bind_to hg0 ?_
  refine bind_to (congrArg some (tmod_nn (add_nn ig m6'))) ?_
  refine bind_to (snoc_ok x3 hN.b2) ?_
  refine bind_to rfl ?_
  have x4 := len_two x3 (show [(gg + t * c.getD (n - 1) 0) % q].length = 1 from rfl)
  refine grow_loopR (fun i => (k.getD i 0 + t * e.getD i 0) % q) (((rgs (fun i => (w.getD i 0 + t * U i) % q) n ++ rgs (fun i => (v.getD i 0 + t * ((y * a.getD i 0 + b.getD i 0) % q)) % q) n) ++ rgs (fun i => (s.getD i 0 + t * ppD q c U i) % q) n) ++ [(gg + t * c.getD (n - 1) 0) % q]) (fun i l => (l, (i : Int))) _ (n := n) m62 (fun again i l2 hi hl => ?_) (fun again => ?_)
  · have q1 := inF_at ik lk hi
    have q2 := inF_at heI heL hi
    obtain ⟨m5, m5', m5''⟩ := mprod hqm ht q2
    refine yes_to (by dsimp only; rw [lk]; exact lt_yes hi) ?_
    dsimp only
    rw [at_get lk hi, bindO_some', at_get heL hi, bindO_some', m5, bindO_some', add_ok hqm q1 m5' m5'', bindO_some', hg0, bindO_some', bindO_some', tmod_nn (add_nn q1 m5'), snoc_lt hl x4 hi hN.b4, bindO_some', bindO_some', succ_ok hi n24, bindO_some']
  refine no_to (by dsimp only; rw [lk]; exact lt_no n) ?_
  have x5 := len_two x4 (rgs_len (fun i => (k.getD i 0 + t * e.getD i 0) % q) n)
  refine grow_loopR (fun i => (l.getD i 0 + t * b.getD i 0) % q) ((((rgs (fun i => (w.getD i 0 + t * U i) % q) n ++ rgs (fun i => (v.getD i 0 + t * ((y * a.getD i 0 + b.getD i 0) % q)) % q) n) ++ rgs (fun i => (s.getD i 0 + t * ppD q c U i) % q) n) ++ [(gg + t * c.getD (n - 1) 0) % q]) ++ rgs (fun i => (k.getD i 0 + t * e.getD i 0) % q) n) (fun i l => (l, (i : Int))) _ (n := n) m62 (fun again i l2 hi hl => ?_) (fun again => ?_)
  · have q1 := inF_at il ll hi
    have q2 := inF_at ib lb hi
    obtain ⟨m5, m5', m5''⟩ := mprod hqm ht q2
    refine yes_to (by dsimp only; rw [lk]; exact lt_yes hi) ?_
    dsimp only
    rw [at_get ll hi, bindO_some', at_get lb hi, bindO_some', m5, bindO_some', add_ok hqm q1 m5' m5'', bindO_some', hg0, bindO_some', bindO_some', tmod_nn (add_nn q1 m5'), snoc_lt hl x5 hi hN.b5, bindO_some', bindO_some', succ_ok hi n24, bindO_some']
  have x6 := len_two x5 (rgs_len (fun i => (l.getD i 0 + t * b.getD i 0) % q) n)
  obtain ⟨m7, m7', m7''⟩ := mprod hqm ht (dotQ_in hq2 rs e)
  refine no_to (by dsimp only; rw [lk]; exact lt_no n) ?_
  refine bind_to (hdI e heI heL) ?_
  refine bind_to (congrArg some m7) ?_
  refine bind_to (congrArg some (add_ok hqm if_ m7' m7'')) ?_
  refine bind_to hg0 ?_
  refine bind_to (congrArg some (tmod_nn (add_nn if_ m7'))) ?_
  refine bind_to (snoc_ok x6 hN.b5) ?_
  refine bind_to rfl ?_
  rfl
theorem ppD_zero {q : Int} {c : List Int} {U : Nat → Int} (h : 0 ≤ c.getD 0 0 ∧ c.getD 0 0 < q) : ppD q c U 0 = c.getD 0 0 := by
  unfold ppD
  rw [show (0 :: c).getD 0 0 = 0 from rfl, Int.zero_mul, Int.sub_zero]
  exact Int.emod_eq_of_lt h.1 h.2
theorem ppD_succ {q : Int} {c : List Int} {U : Nat → Int} {i : Nat} : ppD q c U (i + 1) = (c.getD (i + 1) 0 - c.getD i 0 * U (i + 1) % q) % q := by
  unfold ppD
  rw [List.getD_cons_succ]
  have h1 : Cg q (-(c.getD i 0 * U (i + 1))) (-(c.getD i 0 * U (i + 1) % q)) := by
    obtain ⟨u, hu⟩ := Cg_mod (q := q) (c.getD i 0 * U (i + 1))
    exact ⟨u, by omega⟩
  have := Cg_eq (Cg_add (Cg_refl (c.getD (i + 1) 0)) h1)
  rwa [← Int.sub_eq_add_neg, ← Int.sub_eq_add_neg] at this
theorem i64_pred {j : Nat} (h : j < 2 ^ 62) : IntKind.wrap .i64 (((j + 1 : Nat) : Int) - 1) = (j : Int) := by
  rw [i64_in _ (by omega)]
  omega
theorem pow_ok {q x0 m : Int} (hqm : q ≤ 2000000000) (hq2 : 2 ≤ q) (hx : 0 ≤ x0 ∧ x0 ≤ q - 1) (hm : 0 ≤ m ∧ m ≤ 25) : M_I_power (x0, m, q) = some (x0 ^ m.toNat % q) := by
  rw [power_eq (by omega), nPower_eq hx.1 (by omega) (by omega) (by omega) (by omega) (by omega)]
theorem ymul_ok {q y m : Int} (hqm : q ≤ 2000000000) (hy : 0 ≤ y ∧ y < q) (h0 : 0 ≤ m) (h1 : m ≤ 25) : IntKind.wrap .i64 (y * m) = y * m ∧ 0 ≤ y * m ∧ y * m ≤ 4000000000000000000 := by
  have h2 : y * m ≤ 2000000000 * 25 := Int.mul_le_mul (by omega) h1 h0 (by omega)
  have h3 : 0 ≤ y * m := Int.mul_nonneg hy.1 h0
  exact ⟨i64_in _ (by omega), h3, by omega⟩
theorem succ_pos (i : Nat) : decide (((i + 1 : Nat) : Int) > 0) = true := decide_eq_true (by omega)
theorem end_short {l ch cs : List Int} (h1 : l.length ≤ 99 + 24) (h2 : ch.length ≤ 24) (h3 : cs.length ≤ 80) : 7 + (l ++ (ch ++ cs)).length ≤ 396 := by
  rw [List.length_append, List.length_append]
  omega
theorem cat_short {l ch cs : List Int} (h1 : l.length ≤ 99 + 24) (h2 : ch.length ≤ 24) (h3 : cs.length ≤ 80) : l.length + ch.length + cs.length ≤ 1073741824 := by omega
theorem cat7 {a b c d e : List Int} {x y : Int} {n : Nat} (ha : a.length = n) (hb : b.length = n) (hc : c.length = n) (hd : d.length = n) (he : e.length = n) (hn : n ≤ 1000) : M_slices_Concat_sint_int [a, b, c, [x], d, e, [y]] = some ((((((a ++ b) ++ c) ++ [x]) ++ d) ++ e) ++ [y]) := by
  rw [concat_eq (by simp) (by simp only [lens, List.map_cons, List.map_nil, List.sum_cons, List.sum_nil, ha, hb, hc, hd, he, List.length_cons, List.length_nil]; omega)]
  simp only [List.flatten_cons, List.flatten_nil, List.append_nil, List.append_assoc]
set_option maxHeartbeats 4000000 in
theorem provePoly_eq {p q g key H : Int} {Hs : List Int} {ins : List (Int × Int)} {pm rs a b c w v s k l : List Int} {gg f : Int} (h : Gr p q g) (hM : MixIn p q key H Hs ins pm rs)
    (la : a.length = ins.length) (lb : b.length = ins.length) (lc : c.length = ins.length) (lw : w.length = ins.length) (lv : v.length = ins.length) (ls : s.length = ins.length) (lk : k.length = ins.length) (ll : l.length = ins.length)
    (ia : inF q a) (ib : inF q b) (ic : inF q c) (iw : inF q w) (iv : inF q v) (is_ : inF q s) (ik : inF q k) (il : inF q l) (ig : 0 ≤ gg ∧ gg < q) (if_ : 0 ≤ f ∧ f < q) :
    M_I_Group_provePoly ((p, q, g), (H, []), key, ins, pm, rs, a ++ (b ++ (c ++ (w ++ (v ++ (s ++ (gg :: (k ++ (l ++ [f]))))))))) = some (ppf p q g key H ins pm rs a b c w v s k l gg f, true) := by
  obtain ⟨hp1, hp2, hq1, hq2, hqm, hqb, hg0⟩ := QB_of h
  have hg := isEl_in (isEl_g h)
  obtain ⟨n1, n2, ki, hHi, hHs, hHl, hii, hp, hrl, hri⟩ := hM
  obtain ⟨n, hn⟩ : ∃ n, ins.length = n := ⟨_, rfl⟩
  have hN := NB_of n1 n2
  have hkey := isEl_in ki
  have hHr := isEl_in hHi
  have hci := mixO_ci (rs := rs) h ki hii hp
  have holen : (mixO p q g key ins pm rs).length = ins.length := by rw [mixO_len, hp.1]
  obtain ⟨hc1, hc2⟩ := comp_in hci
  have hmix := (mix_both (rs := rs) h ki hii hp hrl hN.n24).2
  have hplI := places_in (q := q) (g := g) (b := H) hp2 (pm := pm) (rs := a)
  have hplL : (places p q g H pm a).length = ins.length := by rw [places_len (by rw [la, hp.1]), hp.1]
  have hpl := hp.1
  have hls := mixL_short (key := key) rfl holen hplL n2 (Nat.le_trans n2 (by decide))
  have okP := okD_mixL h ki hii hci (inB_okD h hplI)
  have n1' : 1 ≤ n := hn ▸ n1
  have tk1 := take_app (v := b ++ (c ++ (w ++ (v ++ (s ++ (gg :: (k ++ (l ++ [f])))))))) la
  have tk2 := take_app (v := c ++ (w ++ (v ++ (s ++ (gg :: (k ++ (l ++ [f]))))))) lb
  have tk3 := take_app (v := w ++ (v ++ (s ++ (gg :: (k ++ (l ++ [f])))))) lc
  have tk4 := take_app (v := v ++ (s ++ (gg :: (k ++ (l ++ [f]))))) lw
  have tk5 := take_app (v := s ++ (gg :: (k ++ (l ++ [f])))) lv
  have tk6 := take_app (v := gg :: (k ++ (l ++ [f]))) ls
  have tk7 := take_app (v := l ++ [f]) lk
  have tk8 := take_app (v := [f]) ll
  rw [hn] at la lb lc lw lv ls lk ll n1 n2 hp hrl holen hplL hpl hN
  have n24 := hN.n24
  have n1000 := hN.n1000
  have m62 := hN.n62
  have hvPl := placeCommits_eq (pm := pm) (rs := a) h hHr (le_of_eq' hpl n24) (la.trans hpl.symm) (permB_mem hp)
  have hmLi := mixList_eq (key := key) (ins := ins) (outs := mixO p q g key ins pm rs) (more := places p q g H pm a) (le_of_eq' hn hN.n1m) (le_of_eq' holen hN.n1m) (le_of_eq' hplL hN.n1m)
  have hmL2 : ∀ pw_ : List Int, pw_.length = n → M_I_mixList (key, ins, mixO p q g key ins pm rs, places p q g H pm a ++ pw_) = some (mixL key ins (mixO p q g key ins pm rs) (places p q g H pm a) ++ pw_) := fun pw_ h1 =>
    (mixList_eq (le_of_eq' hn hN.n1m) (le_of_eq' holen hN.n1m) (le_of_eq' (len_two hplL h1) (Nat.le_trans hN.b1 (by decide)))).trans (congrArg some mixL_app)
  have ho1 : ((mixO p q g key ins pm rs).map (·.1)).length = n := by rw [List.length_map, holen]
  have ho2 : ((mixO p q g key ins pm rs).map (·.2)).length = n := by rw [List.length_map, holen]
  have hsid := sides2 (l := mixO p q g key ins pm rs) (le_of_eq' holen hN.n1m)
  have hch0 := challenge_eq (s := lMx) h (by decide) okP (show 5 + _ ≤ 396 from Nat.le_trans (Nat.add_le_add_left hls 5) (by decide))
  have hgp1 := powers_eq (l := (mixO p q g key ins pm rs).map (·.1)) (es := k) h (lk.trans ho1.symm) hc1 (lt_of_eq' ho1 hN.n60)
  have hgp2 := powers_eq (l := (mixO p q g key ins pm rs).map (·.2)) (es := k) h (lk.trans ho2.symm) hc2 (lt_of_eq' ho2 hN.n60)
  have hnf := neg_f hqm if_
  have hdI : ∀ e : List Int, inF q e → e.length = n → M_I_dot (rs, e, q) = some (dotQ q rs e) := fun e he hl => (dot_both ⟨hq2, hqm⟩ hri he (hl.trans hrl.symm) (le_of_eq' hrl n1000)).2
  have hn1 := hN.w1
  have hn1' := hN.l1
  have hpwr : ∀ x e, 0 ≤ pw p q x e ∧ pw p q x e ≤ p := fun x e => in_le (pw_range hp1)
  have hgpr : ∀ x e, 0 ≤ gpf p q x e ∧ gpf p q x e ≤ p := fun x e => in_le (gpf_range hp2 x e)
  have hvC : ∀ m r, M_I_Group_commit ((p, q, g), (H, []), m, r) = some (cm p q g H m r) := fun m r => commit_eq h hHr
  have hpow : ∀ x0, 0 ≤ x0 ∧ x0 ≤ q - 1 → ∀ i, i < n → M_I_power (x0, pm.getD i 0 + 1, q) = some (ppE q x0 pm i) := fun x0 hx i hi => pow_ok hqm hq2 hx (perm_ok hp n24 hi).2
  have hexp : ∀ x, M_I_Group_exp ((p, q, g), x) = some (x % q) := fun x => exp_eq h
  have hLok : ∀ pw_ : List Int, inB p pw_ → okD (mixL key ins (mixO p q g key ins pm rs) (places p q g H pm a) ++ pw_) = true := fun pw_ h2 => by rw [okD_append, okP, inB_okD h h2]; rfl
  have hLl : ∀ pw_ : List Int, pw_.length = n → (mixL key ins (mixO p q g key ins pm rs) (places p q g H pm a) ++ pw_).length ≤ 99 + 24 := fun pw_ h1 => by rw [List.length_append]; exact Nat.add_le_add hls (le_of_eq' h1 n24)
  have hvPo : ∀ pw_ : List Int, pw_.length = n → inB p pw_ → M_I_Group_points ((p, q, g), mixL key ins (mixO p q g key ins pm rs) (places p q g H pm a) ++ pw_) = some (chal p q g lMy (mixL key ins (mixO p q g key ins pm rs) (places p q g H pm a) ++ pw_), chal p q g lMzz (mixL key ins (mixO p q g key ins pm rs) (places p q g H pm a) ++ pw_), true) := fun pw_ h1 h2 =>
    points_eq h (hLok pw_ h2) (Nat.le_trans (hLl pw_ h1) (by decide))
  have hvE : ∀ pw_ ch cs : List Int, pw_.length = n → inB p pw_ → ch.length = n → inB p ch → cs.length = 3 * n + 3 → inB p cs → M_I_Group_challenge ((p, q, g), bytesOf [109, 105, 120, 32, 101, 110, 100], (mixL key ins (mixO p q g key ins pm rs) (places p q g H pm a) ++ pw_) ++ (ch ++ cs)) = some (chal p q g lMe ((mixL key ins (mixO p q g key ins pm rs) (places p q g H pm a) ++ pw_) ++ (ch ++ cs)), true) := fun pw_ ch cs h1 h2 h3 h4 h5 h6 =>
    challenge_eq (s := lMe) h (by decide) (by rw [okD_append, okD_append (a := ch), hLok pw_ h2, inB_okD h h4, inB_okD h h6]; rfl) (show 7 + _ ≤ 396 from end_short (hLl pw_ h1) (le_of_eq' h3 n24) (le_of_eq' h5 hN.n80))
  have hcat : ∀ pw_ ch cs : List Int, pw_.length = n → ch.length = n → cs.length = 3 * n + 3 → M_slices_Concat_sint_int [mixL key ins (mixO p q g key ins pm rs) (places p q g H pm a) ++ pw_, ch, cs] = some ((mixL key ins (mixO p q g key ins pm rs) (places p q g H pm a) ++ pw_) ++ (ch ++ cs)) := fun pw_ ch cs h1 h3 h5 =>
    concat3_eq (cat_short (hLl pw_ h1) (le_of_eq' h3 n24) (le_of_eq' h5 hN.n80))
  unfold M_I_Group_provePoly ppf
  dsimp only
  refine bind_to tk1 ?_
  refine bind_to tk2 ?_
  refine bind_to tk3 ?_
  refine bind_to tk4 ?_
  refine bind_to tk5 ?_
  refine bind_to tk6 ?_
  refine bind_to one_cons ?_
  refine bind_to tk7 ?_
  refine bind_to tk8 ?_
  refine bind_to one_cons ?_
  clear tk1 tk2 tk3 tk4 tk5 tk6 tk7 tk8
  refine bind_to (show M_I_Group_mix ((p, q, g), key, ins, pm, rs) = _ from hmix) ?_
  refine bind_to (show M_I_Group_placeCommits ((p, q, g), (H, []), pm, a) = _ from hvPl) ?_
  refine bind_to hmLi ?_
  refine bind_to (show M_I_Group_challenge ((p, q, g), bytesOf [109, 105, 120, 32, 120], mixL key ins (mixO p q g key ins pm rs) (places p q g H pm a)) = _ from hch0) ?_
  dsimp only
  rw [hn]
  have hx0 := chal_range h lMx (mixL key ins (mixO p q g key ins pm rs) (places p q g H pm a))
  clear hch0 hvPl hmLi
  generalize chal p q g lMx (mixL key ins (mixO p q g key ins pm rs) (places p q g H pm a)) = x0 at hx0 ⊢
  refine loopO_to (fun i => (rgs (ppE q x0 pm) i, (i : Int), places p q g H pm a, rgs (fun i => cm p q g H (ppE q x0 pm i) (b.getD i 0)) i, [], [], [], [])) n _ m62 (fun again => ?_) (fun again i hi ih => ?_)
  rotate_left
  · have el := rgs_len (ppE q x0 pm) i
    have i1000 : i ≤ 1000 := Nat.le_trans (Nat.le_of_lt hi) n1000
    obtain ⟨k1, -, -⟩ := perm_ok hp n24 hi
    refine yes_to (by dsimp only; rw [hpl]; exact lt_yes hi) ?_
    dsimp only
    rw [getI_nat, permB_at hp hi, bindO_some', k1, bindO_some', hpow x0 hx0 i hi, bindO_some', snoc_ok el i1000, bindO_some', bindO_some', getI_mid el, bindO_some', at_get lb hi, bindO_some', hvC, bindO_some', snoc_ok (rgs_len _ i) i1000, bindO_some', bindO_some', succ_ok hi n24, bindO_some']
    rw [rgs_succ, rgs_succ] at ih
    exact ih
  refine no_to (by dsimp only; rw [hpl]; exact lt_no n) ?_
  dsimp only
  have heL := rgs_len (ppE q x0 pm) n
  have heI : inF q (rgs (ppE q x0 pm) n) := rgs_inF fun i _ => ppE_in hq2 i
  have hpwe : rgs (fun i => cm p q g H (ppE q x0 pm i) (b.getD i 0)) n = rgs (fun i => cm p q g H ((rgs (ppE q x0 pm) n).getD i 0) (b.getD i 0)) n := List.map_congr_left fun i hi => by rw [rgs_getD (List.mem_range.1 hi)]
  rw [hpwe]
  clear hpwe hpow
  generalize rgs (ppE q x0 pm) n = e at heL heI ⊢
  have hpwL := rgs_len (fun i => cm p q g H (e.getD i 0) (b.getD i 0)) n
  have hpwI : inB p (rgs (fun i => cm p q g H (e.getD i 0) (b.getD i 0)) n) := inB_map fun i _ => cm_in hp2
  generalize rgs (fun i => cm p q g H (e.getD i 0) (b.getD i 0)) n = pw_ at hpwL hpwI ⊢
  refine bind_to (clone_eq (le_of_eq' hplL hN.n1m)) ?_
  refine bind_to (app_ok hplL hpwL n1000 n1000) ?_
  refine bind_to rfl ?_
  refine bind_to (hmL2 pw_ hpwL) ?_
  refine bind_to (hvPo pw_ hpwL hpwI) ?_
  dsimp only
  have hy := chal_range h lMy (mixL key ins (mixO p q g key ins pm rs) (places p q g H pm a) ++ pw_)
  have hz := chal_range h lMzz (mixL key ins (mixO p q g key ins pm rs) (places p q g H pm a) ++ pw_)
  generalize chal p q g lMy (mixL key ins (mixO p q g key ins pm rs) (places p q g H pm a) ++ pw_) = y at hy ⊢
  generalize chal p q g lMzz (mixL key ins (mixO p q g key ins pm rs) (places p q g H pm a) ++ pw_) = z at hz ⊢
  have hyl := lt_of_le' hy
  refine loopO_to (fun i => (rgs (ppU q y z pm e) i, ppP q (ppU q y z pm e) i, rgs (ppD q c (ppU q y z pm e)) i, (i : Int), places p q g H pm a, pw_, rgs (fun i => cm p q g H (ppP q (ppU q y z pm e) (i + 1)) (c.getD i 0)) i, [], [], [])) n _ m62 (fun again => ?_) (fun again i hi ih => ?_)
  rotate_left
  · have hei := inF_at heI heL hi
    have hci := inF_at ic lc hi
    have hU : 0 ≤ ppU q y z pm e i ∧ ppU q y z pm e i < q := emod_in hq2 _
    have hP := ppP_in hq2 (ppU q y z pm e) i
    have p2 := prod_small hqm hP hU
    obtain ⟨k1, k2, k3⟩ := perm_ok hp n24 hi
    obtain ⟨p0, p1, p1'⟩ := ymul_ok hqm hyl k2 k3
    have i1000 : i ≤ 1000 := Nat.le_trans (Nat.le_of_lt hi) n1000
    have ul := rgs_len (ppU q y z pm e) i
    refine yes_to (by dsimp only; rw [hpl]; exact lt_yes hi) ?_
    dsimp only
    rw [getI_nat, permB_at hp hi, bindO_some', k1, bindO_some', p0, bindO_some', at_get heL hi, bindO_some', add_ok' hqm hei p1 p1', bindO_some', three_ok hqm hei hz p1 p1', bindO_some', hexp, show (y * (pm.getD i 0 + 1) + e.getD i 0 - z) % q = ppU q y z pm e i from rfl, bindO_some', snoc_ok ul i1000, bindO_some', bindO_some', getI_mid ul, bindO_some', mul_ok hqm hP hU, bindO_some', hexp, bindO_some', at_get lc hi, bindO_some', hvC, bindO_some', snoc_ok (rgs_len _ i) i1000, bindO_some', bindO_some', bindO_some']
    rw [rgs_succ, rgs_succ, rgs_succ] at ih
    rcases i with _ | i
    · refine no_to rfl ?_
      rw [snoc_ok (rgs_len _ 0) i1000, bindO_some', bindO_some', succ_ok hi n24, bindO_some']
      rw [ppD_zero hci] at ih
      exact ih
    · have hi2 : i < n := Nat.lt_of_succ_lt hi
      have hcj := inF_at ic lc hi2
      have p4 := emod_in hq2 (c.getD i 0 * ppU q y z pm e (i + 1))
      refine yes_to (succ_pos i) ?_
      rw [bindO_some', i64_pred (Nat.lt_trans hi2 m62), bindO_some', at_get lc hi2, bindO_some', bindO_some', mul_ok hqm hcj hU, bindO_some', hexp, bindO_some', sub_ok hqm hci p4.1 (Int.le_trans (Int.le_of_lt p4.2) (Int.le_trans hqm (by decide))), bindO_some', hexp, bindO_some', snoc_ok (rgs_len _ (i + 1)) i1000, bindO_some', bindO_some', succ_ok hi n24, bindO_some']
      rw [ppD_succ] at ih
      exact ih
  have hUI : ∀ i, 0 ≤ ppU q y z pm e i ∧ ppU q y z pm e i < q := fun i => emod_in hq2 _
  have ug : ∀ i, i < n → getI (rgs (ppU q y z pm e) n) (i : Int) = some (ppU q y z pm e i) := fun i hi => (getI_nat _ i).trans (rgs_get hi)
  refine no_to (by dsimp only; rw [hpl]; exact lt_no n) ?_
  dsimp only
  generalize ppU q y z pm e = U at hUI ug ⊢
  have dI : ∀ i, 0 ≤ ppD q c U i ∧ ppD q c U i < q := fun i => emod_in hq2 _
  have dg : ∀ i, i < n → getI (rgs (ppD q c U) n) (i : Int) = some (ppD q c U i) := fun i hi => (getI_nat _ i).trans (rgs_get hi)
  have chL := rgs_len (fun i => cm p q g H (ppP q U (i + 1)) (c.getD i 0)) n
  have chI : inB p (rgs (fun i => cm p q g H (ppP q U (i + 1)) (c.getD i 0)) n) := inB_map fun i _ => cm_in hp2
  generalize rgs (fun i => cm p q g H (ppP q U (i + 1)) (c.getD i 0)) n = ch at chL chI ⊢
  refine bind_to (app_ok (l := [g]) (m := 1) rfl chL (by decide) n1000) ?_
  refine bind_to (v := g :: ch) rfl ?_
  have gcL : (g :: ch).length = n + 1 := congrArg (· + 1) chL
  refine grow_loopR (fun i => cm p q g H (w.getD i 0) (v.getD i 0)) [] (fun i l => (l, (i : Int))) _ (n := n) m62 (fun again i l hi hl => ?_) (fun again => ?_)
  · refine yes_to (by dsimp only; exact lt_yes hi) ?_
    dsimp only
    rw [at_get lw hi, bindO_some', at_get lv hi, bindO_some', hvC, bindO_some', snoc_lt hl rfl hi hN.b0, bindO_some', bindO_some', succ_ok hi n24, bindO_some']
  refine no_to (by dsimp only; exact lt_no n) ?_
  rw [List.nil_append]
  have x1 := rgs_len (fun i => cm p q g H (w.getD i 0) (v.getD i 0)) n
  refine grow_loopR (fun i => prodM p 1 [pw p q ((g :: ch).getD i 0) (w.getD i 0), pw p q H (s.getD i 0)]) (rgs (fun i => cm p q g H (w.getD i 0) (v.getD i 0)) n) (fun i l => (l, (i : Int))) _ (n := n) m62 (fun again i l hi hl => ?_) (fun again => ?_)
  · have hb2 := cons_in hg chI chL hi
    refine yes_to (by dsimp only; exact lt_yes hi) ?_
    dsimp only
    rw [at_get gcL (Nat.lt_succ_of_lt hi), bindO_some', at_get lw hi, bindO_some', pow_pw h hb2.1 hb2.2, bindO_some', at_get ls hi, bindO_some', pow_pw h hHr.1 hHr.2, bindO_some', mul2' h (hpwr _ _) (hpwr _ _), bindO_some', snoc_lt hl x1 hi hN.b1, bindO_some', bindO_some', succ_ok hi n24, bindO_some']
  refine no_to (by dsimp only; exact lt_no n) ?_
  have x2 := len_two x1 (rgs_len (fun i => prodM p 1 [pw p q ((g :: ch).getD i 0) (w.getD i 0), pw p q H (s.getD i 0)]) n)
  refine bind_to (pow_pw h hHr.1 hHr.2) ?_
  refine bind_to (snoc_ok x2 hN.b1) ?_
  refine bind_to rfl ?_
  have x3 := len_two x2 (show [pw p q H gg].length = 1 from rfl)
  refine grow_loopR (fun i => cm p q g H (k.getD i 0) (l.getD i 0)) ((rgs (fun i => cm p q g H (w.getD i 0) (v.getD i 0)) n ++ rgs (fun i => prodM p 1 [pw p q ((g :: ch).getD i 0) (w.getD i 0), pw p q H (s.getD i 0)]) n) ++ [pw p q H gg]) (fun i l => (l, (i : Int))) _ (n := n) m62 (fun again i l2 hi hl => ?_) (fun again => ?_)
  · refine yes_to (by dsimp only; exact lt_yes hi) ?_
    dsimp only
    rw [at_get lk hi, bindO_some', at_get ll hi, bindO_some', hvC, bindO_some', snoc_lt hl x3 hi hN.b3, bindO_some', bindO_some', succ_ok hi n24, bindO_some']
  have x4 := len_two x3 (rgs_len (fun i => cm p q g H (k.getD i 0) (l.getD i 0)) n)
  refine no_to (by dsimp only; exact lt_no n) ?_
  refine bind_to hsid ?_
  refine bind_to (congrArg some hnf) ?_
  refine bind_to (pow_pw h hg.1 hg.2) ?_
  refine bind_to hgp1 ?_
  refine bind_to (mul2' h (hpwr _ _) (hgpr _ _)) ?_
  refine bind_to (congrArg some hnf) ?_
  refine bind_to (pow_pw h hkey.1 hkey.2) ?_
  refine bind_to hgp2 ?_
  refine bind_to (mul2' h (hpwr _ _) (hgpr _ _)) ?_
  refine bind_to (app_ok x4 (k := 2) rfl hN.b3 (by decide)) ?_
  refine bind_to rfl ?_
  obtain ⟨hcI, hcL⟩ := ppC_ok (q := q) (g := g) (key := key) (H := H) hp2 (out := mixO p q g key ins pm rs) (ch := ch) (w := w) (v := v) (s := s) (k := k) (l := l) (gg := gg) (f := f) (n := n)
  dsimp only
  unfold ppC at hcI hcL ⊢
  generalize (((rgs (fun i => cm p q g H (w.getD i 0) (v.getD i 0)) n ++ rgs (fun i => prodM p 1 [pw p q ((g :: ch).getD i 0) (w.getD i 0), pw p q H (s.getD i 0)]) n) ++ [pw p q H gg]) ++ rgs (fun i => cm p q g H (k.getD i 0) (l.getD i 0)) n) ++
    [prodM p 1 [pw p q g (-f), gpf p q ((mixO p q g key ins pm rs).map (·.1)) k], prodM p 1 [pw p q key (-f), gpf p q ((mixO p q g key ins pm rs).map (·.2)) k]] = cs at hcI hcL ⊢
  refine bind_to (hcat pw_ ch cs hpwL chL hcL) ?_
  refine bind_to (hvE pw_ ch cs hpwL hpwI chL chI hcL hcI) ?_
  refine no_to rfl ?_
  refine no_to rfl ?_
  refine no_to rfl ?_
  dsimp only
  have ht := chal_range h lMe ((mixL key ins (mixO p q g key ins pm rs) (places p q g H pm a) ++ pw_) ++ (ch ++ cs))
  generalize chal p q g lMe ((mixL key ins (mixO p q g key ins pm rs) (places p q g H pm a) ++ pw_) ++ (ch ++ cs)) = t at ht ⊢
  clear hvE hvPo hgp1 hgp2 x1 x2 x3 x4 hcI hcL hcat hLl hLok hmL2
  refine loopO_to (fun i => ((i : Int), rgs (fun i => (w.getD i 0 + t * U i) % q) i, rgs (fun i => (v.getD i 0 + t * ((y * a.getD i 0 + b.getD i 0) % q)) % q) i, rgs (fun i => (s.getD i 0 + t * ppD q c U i) % q) i, rgs (fun i => (k.getD i 0 + t * e.getD i 0) % q) i, rgs (fun i => (l.getD i 0 + t * b.getD i 0) % q) i)) n _ m62 (fun again => ?_) (fun again i hi ih => ?_)
  rotate_left
  · have x1 := rgs_len (fun i => (w.getD i 0 + t * U i) % q) i
    have x2 := rgs_len (fun i => (v.getD i 0 + t * ((y * a.getD i 0 + b.getD i 0) % q)) % q) i
    have x3 := rgs_len (fun i => (s.getD i 0 + t * ppD q c U i) % q) i
    have x4 := rgs_len (fun i => (k.getD i 0 + t * e.getD i 0) % q) i
    have x5 := rgs_len (fun i => (l.getD i 0 + t * b.getD i 0) % q) i
    have i1000 : i ≤ 1000 := Nat.le_trans (Nat.le_of_lt hi) n1000
    have q1 := inF_at iw lw hi
    have q2 := inF_at iv lv hi
    have q3 := inF_at is_ ls hi
    have q4 := inF_at ik lk hi
    have q5 := inF_at il ll hi
    have qa := inF_at ia la hi
    have qb := inF_at ib lb hi
    have qe := inF_at heI heL hi
    obtain ⟨m1, m1', m1''⟩ := mprod hqm ht (hUI i)
    obtain ⟨m2, m2', m2''⟩ := mprod hqm hy qa
    obtain ⟨m3, m3', m3''⟩ := mprod hqm ht (emod_in hq2 (y * a.getD i 0 + b.getD i 0))
    obtain ⟨m4, m4', m4''⟩ := mprod hqm ht (dI i)
    obtain ⟨m5, m5', m5''⟩ := mprod hqm ht qe
    obtain ⟨m6, m6', m6''⟩ := mprod hqm ht qb
    refine yes_to (by dsimp only; exact lt_yes hi) ?_
    dsimp only
    rw [at_get lw hi, bindO_some', ug i hi, bindO_some', m1, bindO_some', add_ok hqm q1 m1' m1'', bindO_some', hexp, bindO_some', snoc_ok x1 i1000, bindO_some', bindO_some']
    rw [at_get lv hi, bindO_some', at_get la hi, bindO_some', m2, bindO_some', at_get lb hi, bindO_some', add_ok' hqm qb m2' m2'', bindO_some', hexp, bindO_some', m3, bindO_some', add_ok hqm q2 m3' m3'', bindO_some', hexp, bindO_some', snoc_ok x2 i1000, bindO_some', bindO_some']
    rw [at_get ls hi, bindO_some', dg i hi, bindO_some', m4, bindO_some', add_ok hqm q3 m4' m4'', bindO_some', hexp, bindO_some', snoc_ok x3 i1000, bindO_some', bindO_some']
    rw [at_get lk hi, bindO_some', at_get heL hi, bindO_some', m5, bindO_some', add_ok hqm q4 m5' m5'', bindO_some', hexp, bindO_some', snoc_ok x4 i1000, bindO_some', bindO_some']
    rw [at_get ll hi, bindO_some', bindO_some', m6, bindO_some', add_ok hqm q5 m6' m6'', bindO_some', hexp, bindO_some', snoc_ok x5 i1000, bindO_some', bindO_some', succ_ok hi n24, bindO_some']
    rw [rgs_succ, rgs_succ, rgs_succ, rgs_succ, rgs_succ] at ih
    exact ih
  have q1 := inF_at ic lc hn1'
  obtain ⟨m6, m6', m6''⟩ := mprod hqm ht q1
  obtain ⟨m7, m7', m7''⟩ := mprod hqm ht (dotQ_in hq2 rs e)
  refine no_to (by dsimp only; exact lt_no n) ?_
  refine bind_to (congrArg some hn1) ?_
  refine bind_to (at_get lc hn1') ?_
  refine bind_to (congrArg some m6) ?_
  refine bind_to (congrArg some (add_ok hqm ig m6' m6'')) ?_
  refine bind_to (hexp _) ?_
  refine bind_to (hdI e heI heL) ?_
  refine bind_to (congrArg some m7) ?_
  refine bind_to (congrArg some (add_ok hqm if_ m7' m7'')) ?_
  refine bind_to (hexp _) ?_
  dsimp only
  refine bind_to (cat7 (rgs_len _ n) (rgs_len _ n) (rgs_len _ n) (rgs_len _ n) (rgs_len _ n) n1000) ?_
  unfold ppR
  rfl
def permA (pm : List Int) : Bool := (pm.all fun n => decide (0 ≤ n ∧ n ≤ (pm.length : Int) - 1)) && nodupB_ pm
where nodupB_ (pm : List Int) : Bool := decide pm.Nodup
def exB (q : Int) (l : List Int) : Bool := l.all fun e => decide (0 ≤ e ∧ e ≤ q - 1)
theorem nodup_dec (l : List Int) : nodupB l = decide l.Nodup := by
  cases h : nodupB l
  · have : ¬ l.Nodup := fun hn => by rw [show nodupB l = true from pdec_iff.2 hn] at h; cases h
    rw [decide_eq_false this]
  · rw [decide_eq_true (pdec_iff.1 h)]
theorem permA_eq (pm : List Int) : ((pm.all fun n => decide (0 ≤ n ∧ n ≤ (pm.length : Int) - 1)) && nodupB pm) = permA pm := by
  rw [nodup_dec]
  rfl
theorem exB_inF {q : Int} {l : List Int} (h : exB q l = true) : inF q l := fun a ha => by
  have := of_decide_eq_true (List.all_eq_true.1 h a ha)
  omega
theorem permA_B {pm : List Int} {n : Nat} (h : permA pm = true) (hl : pm.length = n) : permB n pm := by
  refine ⟨hl, fun i hi => ?_⟩
  simp only [permA, Bool.and_eq_true] at h
  have := of_decide_eq_true (List.all_eq_true.1 h.1 _ (List.mem_of_getElem? (getD_at (d := (0 : Int)) (l := pm) (i := i) (by omega))))
  rw [hl] at this
  omega
theorem le24I (n : Nat) : decide (((n : Nat) : Int) ≤ 24) = decide (n ≤ 24) := decide_eq_decide.2 (by omega)
theorem isPerm_all {pm : List Int} : M_I_IsPermutation pm = some (decide (pm.length ≤ 24) && permA pm) := by
  by_cases h : pm.length ≤ 24
  · rw [isPermN_eq h, permA_eq, decide_eq_true h, Bool.true_and]
  · unfold M_I_IsPermutation
    rw [le24I, decide_eq_false h, cond_false, Bool.false_and]
theorem split_at {l : List Int} {n m : Nat} (h : l.length = n + m) : ∃ u v, l = u ++ v ∧ u.length = n ∧ v.length = m := ⟨l.take n, l.drop n, (List.take_append_drop n l).symm, by rw [List.length_take]; omega, by rw [List.length_drop]; omega⟩
theorem split_one {l : List Int} {m : Nat} (h : l.length = 1 + m) : ∃ a v, l = a :: v ∧ v.length = m := by
  cases l with
  | nil => simp at h; omega
  | cons a v => exact ⟨a, v, rfl, by simp only [List.length_cons] at h; omega⟩
theorem inF_app {q : Int} {u v : List Int} (h : inF q (u ++ v)) : inF q u ∧ inF q v := ⟨fun a ha => h a (List.mem_append_left _ ha), fun a ha => h a (List.mem_append_right _ ha)⟩
theorem inF_cons {q a : Int} {v : List Int} (h : inF q (a :: v)) : (0 ≤ a ∧ a < q) ∧ inF q v := ⟨h a List.mem_cons_self, fun b hb => h b (List.mem_cons_of_mem _ hb)⟩
theorem proveM {p q g key H : Int} {Hs : List Int} {ins : List (Int × Int)} {pm rs co : List Int} (h : Gr p q g) (hM : MixIn p q key H Hs ins pm rs) (hl : co.length = 4 * ins.length + 4) (hc : inF q co) :
    ∃ v : Mp, M_S_mProve ((p, q, g), key, (H, Hs), ins, pm, rs, co) = some v ∧ M_I_Group_proveMatrix ((p, q, g), (H, Hs), key, ins, pm, rs, co) = some (v, true) ∧ Mp.small v 1000 := by
  have n2 := hM.n2
  obtain ⟨s, r, rfl, ls, lr⟩ := split_at (n := ins.length) (m := 3 * ins.length + 4) (l := co) (by omega)
  obtain ⟨t, r, rfl, lt, lr⟩ := split_at (n := ins.length) (m := 2 * ins.length + 4) (l := r) (by omega)
  obtain ⟨a, r, rfl, lr⟩ := split_one (m := 2 * ins.length + 3) (l := r) (by omega)
  obtain ⟨b, r, rfl, lr⟩ := split_one (m := 2 * ins.length + 2) (l := r) (by omega)
  obtain ⟨d, r, rfl, lr⟩ := split_one (m := 2 * ins.length + 1) (l := r) (by omega)
  obtain ⟨f, r, rfl, lr⟩ := split_one (m := 2 * ins.length) (l := r) (by omega)
  obtain ⟨w, x, rfl, lw, lx⟩ := split_at (n := ins.length) (m := ins.length) (l := r) (by omega)
  obtain ⟨i1, hc⟩ := inF_app hc
  obtain ⟨i2, hc⟩ := inF_app hc
  obtain ⟨i3, hc⟩ := inF_cons hc
  obtain ⟨i4, hc⟩ := inF_cons hc
  obtain ⟨i5, hc⟩ := inF_cons hc
  obtain ⟨i6, hc⟩ := inF_cons hc
  obtain ⟨i7, i8⟩ := inF_app hc
  refine ⟨_, mProve_eq h hM ls lt lw lx i1 i2 i7 i8 i3 i4 i5 i6, proveMatrix_eq h hM ls lt lw lx i1 i2 i7 i8 i3 i4 i5 i6, ?_⟩
  have c1 : (mPf p q g key H Hs ins pm rs s t w x a b d f).1.length = ins.length := by
    show (colN p q g Hs pm s).length = _
    rw [colN_len, hM.pm.1]
  have c2 : (mPf p q g key H Hs ins pm rs s t w x a b d f).2.1.length = ins.length := by
    have h1 := chN_inv (q := q) (g := g) (es := atL (mpE p q g key Hs ins pm rs s) pm) (ts := t) (QB_of h).p2 (isEl_in hM.hi) (atL (mpE p q g key Hs ins pm rs s) pm).length
    have h2 : (mPf p q g key H Hs ins pm rs s t w x a b d f).2.1.length = (atL (mpE p q g key Hs ins pm rs s) pm).length := h1.1
    rw [h2, atL_len, hM.pm.1]
  have c3 : (mPf p q g key H Hs ins pm rs s t w x a b d f).2.2.1.length = 5 + ins.length := mpC_len
  have c4 : (mPf p q g key H Hs ins pm rs s t w x a b d f).2.2.2.1.length = 1 := rfl
  have c5 : (mPf p q g key H Hs ins pm rs s t w x a b d f).2.2.2.2.length = 4 + ins.length + ins.length := by
    show (mpR _ _ _ _ _ _ _ _ _ _ _ _ _ _ _).length = _
    unfold mpR
    simp only [List.length_append, List.length_map, List.length_range, List.length_cons, List.length_nil]
  exact ⟨by omega, by omega, by omega, by omega, by omega⟩
theorem proveP {p q g key H : Int} {Hs : List Int} {ins : List (Int × Int)} {pm rs co : List Int} (h : Gr p q g) (hM : MixIn p q key H Hs ins pm rs) (hl : co.length = 8 * ins.length + 2) (hc : inF q co) :
    ∃ v : Pp, M_S_vProve ((p, q, g), key, H, ins, pm, rs, co) = some v ∧ M_I_Group_provePoly ((p, q, g), (H, []), key, ins, pm, rs, co) = some (v, true) ∧ Pp.small v 1000 := by
  have n2 := hM.n2
  obtain ⟨a, r, rfl, la, lr⟩ := split_at (n := ins.length) (m := 7 * ins.length + 2) (l := co) (by omega)
  obtain ⟨b, r, rfl, lb, lr⟩ := split_at (n := ins.length) (m := 6 * ins.length + 2) (l := r) (by omega)
  obtain ⟨c, r, rfl, lc, lr⟩ := split_at (n := ins.length) (m := 5 * ins.length + 2) (l := r) (by omega)
  obtain ⟨w, r, rfl, lw, lr⟩ := split_at (n := ins.length) (m := 4 * ins.length + 2) (l := r) (by omega)
  obtain ⟨v, r, rfl, lv, lr⟩ := split_at (n := ins.length) (m := 3 * ins.length + 2) (l := r) (by omega)
  obtain ⟨s, r, rfl, ls, lr⟩ := split_at (n := ins.length) (m := 2 * ins.length + 2) (l := r) (by omega)
  obtain ⟨gg, r, rfl, lr⟩ := split_one (m := 2 * ins.length + 1) (l := r) (by omega)
  obtain ⟨k, r, rfl, lk, lr⟩ := split_at (n := ins.length) (m := ins.length + 1) (l := r) (by omega)
  obtain ⟨l, r, rfl, ll, lr⟩ := split_at (n := ins.length) (m := 1) (l := r) (by omega)
  obtain ⟨f, r, rfl, lr0⟩ := split_one (m := 0) (l := r) (by omega)
  have hr : r = [] := List.length_eq_zero_iff.1 lr0
  subst hr
  obtain ⟨i1, hc⟩ := inF_app hc
  obtain ⟨i2, hc⟩ := inF_app hc
  obtain ⟨i3, hc⟩ := inF_app hc
  obtain ⟨i4, hc⟩ := inF_app hc
  obtain ⟨i5, hc⟩ := inF_app hc
  obtain ⟨i6, hc⟩ := inF_app hc
  obtain ⟨i7, hc⟩ := inF_cons hc
  obtain ⟨i8, hc⟩ := inF_app hc
  obtain ⟨i9, hc⟩ := inF_app hc
  obtain ⟨i10, -⟩ := inF_cons hc
  refine ⟨_, vProve_eq h hM (cut_of la lb lc lw lv ls lk ll) la lb lc lw lv ls lk ll i1 i2 i3 i4 i5 i6 i8 i9 i7 i10, provePoly_eq h hM la lb lc lw lv ls lk ll i1 i2 i3 i4 i5 i6 i8 i9 i7 i10, ?_⟩
  have c1 : (ppf p q g key H ins pm rs a b c w v s k l gg f).1.length = ins.length := by
    show (places p q g H pm a).length = _
    rw [places_len (by rw [la, hM.pm.1]), hM.pm.1]
  have c2 : (ppf p q g key H ins pm rs a b c w v s k l gg f).2.1.length = ins.length := rgs_len _ _
  have c3 : (ppf p q g key H ins pm rs a b c w v s k l gg f).2.2.1.length = ins.length := rgs_len _ _
  have c4 : (ppf p q g key H ins pm rs a b c w v s k l gg f).2.2.2.1.length = 3 * ins.length + 3 := (ppC_ok (QB_of h).p2).2
  have c5 : (ppf p q g key H ins pm rs a b c w v s k l gg f).2.2.2.2.1.length = 1 := rfl
  have c6 : (ppf p q g key H ins pm rs a b c w v s k l gg f).2.2.2.2.2.length = ins.length + ins.length + ins.length + 1 + ins.length + ins.length + 1 := by
    show (ppR _ _ _ _ _ _ _ _ _ _ _ _ _ _ _ _ _).length = _
    unfold ppR
    simp only [List.length_append, rgs_len, List.length_cons, List.length_nil]
  exact ⟨by omega, by omega, by omega, by omega, by omega, by omega⟩
abbrev emptyM : Mp := ([], [], [], [], [])
abbrev emptyP : Pp := ([], [], [], [], [], [])
abbrev emptyS : Stg := (0, [], emptyM, emptyP)
theorem rdB_spec {p q g key : Int} {ins : List (Int × Int)} (h : rdB p q g key ins = true) : mixB p q g key ins = true ∧ (basesN p q g ins.length).2 = true := by
  simp only [rdB, Bool.and_eq_true] at h
  exact h
theorem mixIn_of {p q g key : Int} {ins : List (Int × Int)} {pm rs : List Int} (h : rdB p q g key ins = true) (hp : permA pm = true) (hl : pm.length = ins.length) (hr : exB q rs = true) (hrl : rs.length = ins.length) :
    Gr p q g ∧ MixIn p q key (basesN p q g ins.length).1.1 (basesN p q g ins.length).1.2 ins pm rs := by
  obtain ⟨h1, h2⟩ := rdB_spec h
  obtain ⟨hok, hk, hn, hc⟩ := mixB_spec h1
  have hG := okG_spec hok
  obtain ⟨b1, b2, b3, b4⟩ := bases_ok hG h2
  exact ⟨hG, hn.1, hn.2, hk, b1, b2, b3, hc, permA_B hp hl, hrl, exB_inF hr⟩
theorem eqN (a b : Nat) : (((a : Nat) : Int) == ((b : Nat) : Int)) = decide (a = b) := by
  by_cases h : a = b
  · rw [h, decide_eq_true rfl, beq_self_eq_true]
  · rw [decide_eq_false h]
    have : ¬ (a : Int) = (b : Int) := by omega
    simpa using this
theorem neN (a b : Nat) : (((a : Nat) : Int) != ((b : Nat) : Int)) = !decide (a = b) := by rw [bne, eqN]
theorem w44 {n k c : Nat} (hn : n ≤ 12) (hk : k ≤ 9) (hc : c ≤ 4) : IntKind.wrap .i64 (((k : Nat) : Int) * (n : Int)) = ((k * n : Nat) : Int) ∧ IntKind.wrap .i64 (((k * n : Nat) : Int) + (c : Int)) = ((k * n + c : Nat) : Int) := by
  have h1 := wm_ok k n (by omega) (by omega)
  have h2 : k * n ≤ 9 * 12 := Nat.mul_le_mul hk hn
  exact ⟨h1, by rw [i64_in _ (by omega)]; omega⟩
theorem isMixing_eq {p q g : Int} {pm rs : List Int} {n : Nat} (h : Gr p q g) (hr : rs.length < 2 ^ 62) : M_I_Group_isMixing ((p, q, g), pm, rs, (n : Int)) = some ((decide (pm.length ≤ 24) && permA pm) && (decide (pm.length = n) && (decide (rs.length = n) && exB q rs))) := by
  unfold M_I_Group_isMixing
  dsimp only
  rw [isPerm_all, bindO_some', eqN, eqN, areExps_eq h hr, bindO_some']
  unfold exB
  cases decide (pm.length ≤ 24) && permA pm <;> cases decide (pm.length = n) <;> cases decide (rs.length = n) <;> rfl
theorem ProveMatrix_both {p q g key : Int} {ins : List (Int × Int)} {pm rs co : List Int} (h : rdB p q g key ins = true) (hp : permA pm = true) (hl : pm.length = ins.length) (hr : exB q rs = true) (hrl : rs.length = ins.length) (hcl : co.length = 4 * ins.length + 4) (hil : ins.length ≤ 1048576) :
    ∃ v : Mp, Mp.small v 1000 ∧ (exB q co = true → M_S_ProveMatrix ((p, q, g), key, ins, pm, rs, co) = some (v, true)) ∧ M_I_ProveMatrix ((p, q, g), key, ins, pm, rs, co) = some (bif exB q co then (v, true) else (emptyM, false)) := by
  obtain ⟨hG, hM⟩ := mixIn_of h hp hl hr hrl
  obtain ⟨h1, h2⟩ := rdB_spec h
  obtain ⟨hok, hk, hn, hc⟩ := mixB_spec h1
  obtain ⟨x1, x2⟩ := w44 (n := ins.length) (k := 4) (c := 4) hn.2 (by omega) (by omega)
  have hI : ∀ R : Mp × Bool, (exB q co = true → M_I_Group_proveMatrix ((p, q, g), ((basesN p q g ins.length).1.1, (basesN p q g ins.length).1.2), key, ins, pm, rs, co) = some R) → M_I_ProveMatrix ((p, q, g), key, ins, pm, rs, co) = some (bif exB q co then R else (emptyM, false)) := fun R hR => by
    unfold M_I_ProveMatrix
    dsimp only
    rw [mixBases_eq hil, h1, cond_true, bindO_some', h2, Bool.not_true, cond_false, isMixing_eq hG (by omega), hp, hr, decide_eq_true (show pm.length ≤ 24 by omega), decide_eq_true hl, decide_eq_true hrl, bindO_some', show IntKind.wrap .i64 ((4 : Int) * (ins.length : Int)) = _ from x1, bindO_some', show IntKind.wrap .i64 (((4 * ins.length : Nat) : Int) + 4) = _ from x2, bindO_some', hcl, neN, decide_eq_true rfl, areExps_eq hG (by omega), bindO_some', show (co.all fun e => decide (0 ≤ e ∧ e ≤ q - 1)) = exB q co from rfl]
    cases he : exB q co
    · rfl
    · rw [show M_I_Group_proveMatrix ((p, q, g), ((basesN p q g ins.length).1.1, (basesN p q g ins.length).1.2), key, ins, pm, rs, co) = _ from hR he]
      rfl
  cases he : exB q co
  · refine ⟨emptyM, ⟨by simp, by simp, by simp, by simp, by simp⟩, fun h => (by cases h), ?_⟩
    have := hI (emptyM, true) (fun h => (by rw [he] at h; cases h))
    rw [he] at this
    exact this
  · obtain ⟨v, v1, v2, v3⟩ := proveM hG hM hcl (exB_inF he)
    refine ⟨v, v3, fun _ => ?_, ?_⟩
    · unfold M_S_ProveMatrix
      dsimp only
      rw [mList_eq, h1, bindO_some', Bool.not_true, cond_false, ← hl, mPerm_eq (by omega), permA_eq, hp, hl, bindO_some', Bool.not_true, cond_false, hrl, neN, decide_eq_true rfl, Bool.not_true, cond_false, gExps_eq hG (by omega), show (rs.all fun e => decide (0 ≤ e ∧ e ≤ q - 1)) = true from hr, bindO_some', Bool.not_true, cond_false, show IntKind.wrap .i64 ((4 : Int) * (ins.length : Int)) = _ from x1, bindO_some', show IntKind.wrap .i64 (((4 * ins.length : Nat) : Int) + 4) = _ from x2, bindO_some', hcl, neN, decide_eq_true rfl, Bool.not_true, cond_false, gExps_eq hG (by omega), show (co.all fun e => decide (0 ≤ e ∧ e ≤ q - 1)) = true from he, bindO_some', Bool.not_true, cond_false, S_BasesOf_eq hG hok (by omega), bindO_some', h2, Bool.not_true, cond_false, show M_S_mProve ((p, q, g), key, ((basesN p q g ins.length).1.1, (basesN p q g ins.length).1.2), ins, pm, rs, co) = _ from v1, bindO_some']
    · have := hI (v, true) (fun _ => v2)
      rw [he] at this
      exact this
theorem ProvePoly_both {p q g key : Int} {ins : List (Int × Int)} {pm rs co : List Int} (h : rdB p q g key ins = true) (hp : permA pm = true) (hl : pm.length = ins.length) (hr : exB q rs = true) (hrl : rs.length = ins.length) (hcl : co.length = 8 * ins.length + 2) (hil : ins.length ≤ 1048576) :
    ∃ v : Pp, Pp.small v 1000 ∧ (exB q co = true → M_S_ProvePoly ((p, q, g), key, ins, pm, rs, co) = some (v, true)) ∧ M_I_ProvePoly ((p, q, g), key, ins, pm, rs, co) = some (bif exB q co then (v, true) else (emptyP, false)) := by
  obtain ⟨hG, hM⟩ := mixIn_of h hp hl hr hrl
  obtain ⟨h1, h2⟩ := rdB_spec h
  obtain ⟨hok, hk, hn, hc⟩ := mixB_spec h1
  obtain ⟨b1, b2, b3, b4⟩ := bases_ok hG h2
  obtain ⟨x1, x2⟩ := w44 (n := ins.length) (k := 8) (c := 2) hn.2 (by omega) (by omega)
  have hvb : M_S_vBase (p, q, g) = some ((basesN p q g ins.length).1.1, true) := by
    unfold M_S_vBase
    dsimp only
    rw [show M_S_BasesOf ((p, q, g), 0) = _ from S_BasesOf_eq (n := 0) hG hok (by omega), bindO_some', b4]
  have hI : ∀ R : Pp × Bool, (exB q co = true → M_I_Group_provePoly ((p, q, g), ((basesN p q g ins.length).1.1, []), key, ins, pm, rs, co) = some R) → M_I_ProvePoly ((p, q, g), key, ins, pm, rs, co) = some (bif exB q co then R else (emptyP, false)) := fun R hR => by
    unfold M_I_ProvePoly
    dsimp only
    rw [polyBases_eq hil, h, cond_true, bindO_some']
    dsimp only
    rw [Bool.not_true, cond_false, isMixing_eq hG (by omega), hp, hr, decide_eq_true (show pm.length ≤ 24 by omega), decide_eq_true hl, decide_eq_true hrl, bindO_some', show IntKind.wrap .i64 ((8 : Int) * (ins.length : Int)) = _ from x1, bindO_some', show IntKind.wrap .i64 (((8 * ins.length : Nat) : Int) + 2) = _ from x2, bindO_some', hcl, neN, decide_eq_true rfl, areExps_eq hG (by omega), bindO_some', show (co.all fun e => decide (0 ≤ e ∧ e ≤ q - 1)) = exB q co from rfl]
    cases he : exB q co
    · rfl
    · rw [show M_I_Group_provePoly ((p, q, g), ((basesN p q g ins.length).1.1, []), key, ins, pm, rs, co) = _ from hR he]
      rfl
  cases he : exB q co
  · refine ⟨emptyP, ⟨by simp, by simp, by simp, by simp, by simp, by simp⟩, fun h => (by cases h), ?_⟩
    have := hI (emptyP, true) (fun h => (by rw [he] at h; cases h))
    rw [he] at this
    exact this
  · obtain ⟨v, v1, v2, v3⟩ := proveP hG hM hcl (exB_inF he)
    refine ⟨v, v3, fun _ => ?_, ?_⟩
    · unfold M_S_ProvePoly
      dsimp only
      rw [mList_eq, h1, bindO_some', Bool.not_true, cond_false, ← hl, mPerm_eq (by omega), permA_eq, hp, hl, bindO_some', Bool.not_true, cond_false, hrl, neN, decide_eq_true rfl, Bool.not_true, cond_false, gExps_eq hG (by omega), show (rs.all fun e => decide (0 ≤ e ∧ e ≤ q - 1)) = true from hr, bindO_some', Bool.not_true, cond_false, show IntKind.wrap .i64 ((8 : Int) * (ins.length : Int)) = _ from x1, bindO_some', show IntKind.wrap .i64 (((8 * ins.length : Nat) : Int) + 2) = _ from x2, bindO_some', hcl, neN, decide_eq_true rfl, Bool.not_true, cond_false, gExps_eq hG (by omega), show (co.all fun e => decide (0 ≤ e ∧ e ≤ q - 1)) = true from he, bindO_some', Bool.not_true, cond_false, hvb, bindO_some', Bool.not_true, cond_false, show M_S_vProve ((p, q, g), key, (basesN p q g ins.length).1.1, ins, pm, rs, co) = _ from v1, bindO_some']
    · have := hI (v, true) (fun _ => v2)
      rw [he] at this
      exact this
theorem coins_ok (arg : Int) (n : Nat) : ∃ k ok, M_S_CoinsForStage (arg, (n : Int)) = some (k, ok) ∧ (ok = true → (1 ≤ n ∧ n ≤ 12) ∧ (arg = 1 ∨ arg = 2)) ∧ ((1 ≤ n ∧ n ≤ 12) → arg = 1 → k = ((5 * n + 4 : Nat) : Int) ∧ ok = true) ∧ ((1 ≤ n ∧ n ≤ 12) → arg = 2 → k = ((9 * n + 2 : Nat) : Int) ∧ ok = true) := by
  unfold M_S_CoinsForStage
  dsimp only
  rw [in_eq, bindO_some']
  by_cases hn : 1 ≤ n ∧ n ≤ 12
  · rw [decide_eq_true (by omega), Bool.not_true, cond_false]
    obtain ⟨x1, x2⟩ := w44 (n := n) (k := 5) (c := 4) hn.2 (by omega) (by omega)
    obtain ⟨y1, y2⟩ := w44 (n := n) (k := 9) (c := 2) hn.2 (by omega) (by omega)
    by_cases h1 : arg = 1
    · subst h1
      refine ⟨_, _, by rw [show ((1 : Int) == 1) = true from rfl, cond_true, show IntKind.wrap .i64 ((5 : Int) * (n : Int)) = _ from x1, bindO_some', show IntKind.wrap .i64 (((5 * n : Nat) : Int) + 4) = _ from x2, bindO_some'], fun _ => ⟨hn, .inl rfl⟩, fun _ _ => ⟨rfl, rfl⟩, fun _ h => by omega⟩
    · have e1 : (arg == 1) = false := by simpa using h1
      by_cases h2 : arg = 2
      · subst h2
        refine ⟨_, _, by rw [e1, cond_false, show ((2 : Int) == 2) = true from rfl, cond_true, show IntKind.wrap .i64 ((9 : Int) * (n : Int)) = _ from y1, bindO_some', show IntKind.wrap .i64 (((9 * n : Nat) : Int) + 2) = _ from y2, bindO_some'], fun _ => ⟨hn, .inr rfl⟩, fun _ h => by omega, fun _ _ => ⟨rfl, rfl⟩⟩
      · have e2 : (arg == 2) = false := by simpa using h2
        exact ⟨0, false, by rw [e1, e2]; rfl, fun h => absurd h (by decide), fun _ h => absurd h h1, fun _ h => absurd h h2⟩
  · rw [decide_eq_false (by omega)]
    exact ⟨0, false, rfl, fun h => absurd h (by decide), fun h => absurd h hn, fun h => absurd h hn⟩
theorem readyB {p q g key : Int} {ins : List (Int × Int)} : ((bif mixB p q g key ins then basesN p q g ins.length else ((0, []), false)) : (Int × List Int) × Bool).2 = rdB p q g key ins := by
  unfold rdB
  generalize basesN p q g ins.length = B
  cases mixB p q g key ins <;> rfl
theorem exB_split {q : Int} {l : List Int} (n : Nat) : exB q l = (exB q (l.take n) && exB q (l.drop n)) := by
  conv => lhs; rw [← List.take_append_drop n l]
  unfold exB
  rw [List.all_append]
theorem okP_permA (pm : List Int) : okP pm = (decide (pm.length ≤ 24) && permA pm) := by
  unfold okP
  rw [← permA_eq]
theorem RunStage_both (p q g key arg : Int) (ins : List (Int × Int)) (pm co : List Int) (hi : ins.length ≤ 1048576) (hp : pm.length ≤ 1048576) (hc : co.length ≤ 1048576) :
    ∃ (v : Stg) (b : Bool), (v.2.1.length ≤ 24 ∧ Mp.small v.2.2.1 1000 ∧ Pp.small v.2.2.2 1000) ∧ M_S_RunStage ((p, q, g), key, ins, arg, pm, co) = some (v, b) ∧ M_I_RunStage ((p, q, g), key, ins, arg, pm, co) = some (v, b) := by
  have hE : (([] : List (Int × Int)).length ≤ 24 ∧ Mp.small emptyM 1000 ∧ Pp.small emptyP 1000) := ⟨by simp, ⟨by simp, by simp, by simp, by simp, by simp⟩, by simp, by simp, by simp, by simp, by simp, by simp⟩
  obtain ⟨k, ok, c1, c2, c3, c4⟩ := coins_ok arg ins.length
  have hS0 : ∀ (R : Stg × Bool), (ok = true → (bindO (M_S_xReady ((p, q, g), key, ins)) fun a1 => cond (not a1) (some (emptyS, false)) (cond (((pm.length : Nat) : Int) != ((ins.length : Nat) : Int)) (some (emptyS, false)) (bindO (M_S_mGood pm) fun a2 => cond (not a2) (some (emptyS, false)) (cond (((co.length : Nat) : Int) != k) (some (emptyS, false)) (bindO (M_S_gExps ((p, q, g), co)) fun a3 => cond (not a3) (some (emptyS, false)) (bindO (M_S_xStage ((p, q, g), key, ins, arg, pm, co)) fun a4 => some (a4, true))))))) = some R) → (ok = false → R = (emptyS, false)) → M_S_RunStage ((p, q, g), key, ins, arg, pm, co) = some R := fun R h1 h2 => by
    unfold M_S_RunStage
    dsimp only
    rw [c1, bindO_some']
    dsimp only
    cases hok : ok
    · rw [h2 hok]
      rfl
    · exact h1 hok
  cases hr : rdB p q g key ins
  · refine ⟨emptyS, false, hE, hS0 _ (fun _ => ?_) (fun _ => rfl), ?_⟩
    · rw [xReady_eq, hr]
      rfl
    · unfold M_I_RunStage
      dsimp only
      rw [mixBases_eq hi, bindO_some', readyB, hr]
      rfl
  obtain ⟨r1, r2⟩ := rdB_spec hr
  obtain ⟨hok, hk, hn, hci⟩ := mixB_spec r1
  have hG := okG_spec hok
  have hready : M_S_xReady ((p, q, g), key, ins) = some true := by rw [xReady_eq, hr]
  have hmb : M_I_mixBases ((p, q, g), key, ins) = some (basesN p q g ins.length) := by rw [mixBases_eq hi, r1, cond_true]
  by_cases ha : arg = 1 ∨ arg = 2
  rotate_left
  · have hf : ok = false := by
      cases h : ok
      · rfl
      · exact absurd (c2 h).2 ha
    refine ⟨emptyS, false, hE, hS0 _ (fun h => by rw [hf] at h; cases h) (fun _ => rfl), ?_⟩
    have e1 : (arg == 1) = false := by simpa using fun h => ha (.inl h)
    have e2 : (arg == 2) = false := by simpa using fun h => ha (.inr h)
    unfold M_I_RunStage M_I_isArgument
    dsimp only
    rw [hmb, bindO_some', r2, e1, e2]
    rfl
  obtain ⟨K, hK, hok1, hcI, hKn, hKc⟩ : ∃ K : Nat, k = (K : Int) ∧ ok = true ∧ M_I_coinsForStage (arg, (ins.length : Int)) = some (K : Int) ∧ ins.length ≤ K ∧ ((arg = 1 ∧ K = 5 * ins.length + 4) ∨ (arg = 2 ∧ K = 9 * ins.length + 2)) := by
    obtain ⟨x1, x2⟩ := w44 (n := ins.length) (k := 5) (c := 4) hn.2 (by omega) (by omega)
    obtain ⟨y1, y2⟩ := w44 (n := ins.length) (k := 9) (c := 2) hn.2 (by omega) (by omega)
    rcases ha with h1 | h1
    · obtain ⟨d1, d2⟩ := c3 hn h1
      refine ⟨5 * ins.length + 4, d1, d2, ?_, by omega, .inl ⟨h1, rfl⟩⟩
      subst h1
      unfold M_I_coinsForStage
      dsimp only
      rw [show ((1 : Int) == 1) = true from rfl, cond_true, show IntKind.wrap .i64 ((5 : Int) * (ins.length : Int)) = _ from x1, bindO_some', show IntKind.wrap .i64 (((5 * ins.length : Nat) : Int) + 4) = _ from x2, bindO_some']
    · obtain ⟨d1, d2⟩ := c4 hn h1
      refine ⟨9 * ins.length + 2, d1, d2, ?_, by omega, .inr ⟨h1, rfl⟩⟩
      subst h1
      unfold M_I_coinsForStage
      dsimp only
      rw [show ((2 : Int) == 1) = false from rfl, cond_false, show IntKind.wrap .i64 ((9 : Int) * (ins.length : Int)) = _ from y1, bindO_some', show IntKind.wrap .i64 (((9 * ins.length : Nat) : Int) + 2) = _ from y2, bindO_some']
  have hisA : M_I_isArgument arg = some true := by
    unfold M_I_isArgument
    rcases ha with h1 | h1 <;> subst h1 <;> rfl
  have hgE : M_S_gExps ((p, q, g), co) = some (exB q co) := gExps_eq hG (by omega)
  have hmG : M_S_mGood pm = some (decide (pm.length ≤ 24) && permA pm) := by rw [mGood_eq (by omega), okP_permA]
  have hI0 : ∀ R : Stg × Bool, (co.length = K → (decide (pm.length = ins.length) && permA pm) = true → exB q (co.take ins.length) = true →
      (bindO (M_I_Group_mix ((p, q, g), key, ins, pm, co.take ins.length)) fun a7 => cond (arg == 1) (bindO (M_I_ProveMatrix ((p, q, g), key, ins, pm, co.take ins.length, co.drop ins.length)) fun a8 => cond (not a8.2) (some (emptyS, false)) (some ((arg, a7, a8.1, emptyP), true))) (bindO (M_I_ProvePoly ((p, q, g), key, ins, pm, co.take ins.length, co.drop ins.length)) fun a9 => cond (not a9.2) (some (emptyS, false)) (some ((arg, a7, emptyM, a9.1), true)))) = some R) →
      (¬ (co.length = K ∧ (decide (pm.length = ins.length) && permA pm) = true ∧ exB q (co.take ins.length) = true) → R = (emptyS, false)) → M_I_RunStage ((p, q, g), key, ins, arg, pm, co) = some R := fun R h1 h2 => by
    unfold M_I_RunStage
    dsimp only
    rw [hmb, bindO_some', r2, hisA, bindO_some', hcI, bindO_some', neN, Bool.not_true, cond_false, cond_false]
    by_cases hL : co.length = K
    · rw [decide_eq_true hL, Bool.not_true, cond_false, sliceNH_nat (by omega), bindO_some', sliceLN_nat (by omega), bindO_some']
      dsimp only
      rw [List.drop_zero, isMixing_eq hG (by rw [List.length_take]; omega), bindO_some', decide_eq_true (show (co.take ins.length).length = ins.length by rw [List.length_take]; omega)]
      by_cases hpl : pm.length = ins.length
      · rw [decide_eq_true hpl, decide_eq_true (show pm.length ≤ 24 by omega)]
        cases hpa : permA pm
        · rw [h2 (fun h => by rw [hpa, Bool.and_false] at h; cases h.2.1)]
          rfl
        · cases he : exB q (co.take ins.length)
          · rw [h2 (fun h => by rw [he] at h; cases h.2.2)]
            rfl
          · refine Eq.trans ?_ (h1 hL (by rw [decide_eq_true hpl, hpa]; rfl) he)
            simp only [bindO_some', Bool.and_self, Bool.not_true, cond_false, List.take_length]
      · rw [decide_eq_false hpl, h2 (fun h => by rw [decide_eq_false hpl] at h; cases h.2.1), Bool.false_and, Bool.and_false]
        rfl
    · rw [decide_eq_false hL, h2 (fun h => hL h.1)]
      rfl
  have hS1 : ∀ R : Stg × Bool, (co.length = K → (decide (pm.length = ins.length) && permA pm) = true → exB q co = true → M_S_xStage ((p, q, g), key, ins, arg, pm, co) = some R.1 ∧ R.2 = true) → (¬ (co.length = K ∧ (decide (pm.length = ins.length) && permA pm) = true ∧ exB q co = true) → R = (emptyS, false)) → M_S_RunStage ((p, q, g), key, ins, arg, pm, co) = some R := fun R h1 h2 => by
    refine hS0 R (fun _ => ?_) (fun h => by rw [hok1] at h; cases h)
    rw [hready, bindO_some', Bool.not_true, cond_false, neN, hmG, bindO_some', hK, neN, hgE, bindO_some']
    by_cases hpl : pm.length = ins.length
    · rw [decide_eq_true hpl, decide_eq_true (show pm.length ≤ 24 by omega), Bool.not_true, cond_false, Bool.true_and]
      cases hpa : permA pm
      · rw [h2 (fun h => by rw [hpa, Bool.and_false] at h; cases h.2.1)]
        rfl
      · by_cases hL : co.length = K
        · simp only [decide_eq_true hL, Bool.not_true, cond_false]
          cases he : exB q co
          · rw [h2 (fun h => by rw [he] at h; cases h.2.2)]
            rfl
          · obtain ⟨e1, e2⟩ := h1 hL (by rw [decide_eq_true hpl, hpa]; rfl) he
            simp only [e1, Bool.not_true, cond_false, bindO_some']
            rw [← e2]
        · rw [decide_eq_false hL, h2 (fun h => hL h.1)]
          rfl
    · rw [decide_eq_false hpl, h2 (fun h => by rw [decide_eq_false hpl] at h; cases h.2.1)]
      rfl
  by_cases hall : co.length = K ∧ (decide (pm.length = ins.length) && permA pm) = true ∧ exB q (co.take ins.length) = true
  rotate_left
  · exact ⟨emptyS, false, hE, hS1 _ (fun h1 h2 h3 => absurd ⟨h1, h2, by rw [exB_split ins.length, Bool.and_eq_true] at h3; exact h3.1⟩ hall) (fun _ => rfl), hI0 _ (fun h1 h2 h3 => absurd ⟨h1, h2, h3⟩ hall) (fun _ => rfl)⟩
  obtain ⟨hL, hPp, hEr⟩ := hall
  have hPp' := hPp
  simp only [Bool.and_eq_true, decide_eq_true_eq] at hPp'
  obtain ⟨hpl, hpa⟩ := hPp'
  have hrl : (co.take ins.length).length = ins.length := by rw [List.length_take]; omega
  have hMx := mixIn_of hr hpa hpl hEr hrl
  obtain ⟨mS, mI⟩ := mix_both (rs := co.take ins.length) hG hk hci (permA_B hpa hpl) hrl (by omega)
  have hsp := exB_split (q := q) (l := co) ins.length
  rw [hEr, Bool.true_and] at hsp
  have hxs : ∀ (arg' : Int), arg' = arg → M_S_xStage ((p, q, g), key, ins, arg', pm, co) = cond (arg' == 1) (bindO (M_S_ProveMatrix ((p, q, g), key, ins, pm, co.take ins.length, co.drop ins.length)) fun a4 => some (arg', mixO p q g key ins pm (co.take ins.length), a4.1, emptyP)) (bindO (M_S_ProvePoly ((p, q, g), key, ins, pm, co.take ins.length, co.drop ins.length)) fun a7 => some (arg', mixO p q g key ins pm (co.take ins.length), emptyM, a7.1)) := fun arg' _ => by
    unfold M_S_xStage
    dsimp only
    rw [sliceNH_nat (by omega), bindO_some', sliceLN_nat (by omega)]
    dsimp only
    rw [List.drop_zero, mS, bindO_some', bindO_some', bindO_some', bindO_some', bindO_some']
    dsimp only
    rw [List.drop_zero, List.take_length]
  have hml : (mixO p q g key ins pm (co.take ins.length)).length ≤ 24 := by rw [mixO_len]; omega
  rcases hKc with ⟨h1, hK1⟩ | ⟨h1, hK1⟩
  · subst h1
    obtain ⟨v, v1, v2, v3⟩ := ProveMatrix_both (co := co.drop ins.length) hr hpa hpl hEr hrl (by rw [List.length_drop]; omega) hi
    cases he : exB q (co.drop ins.length)
    · rw [he] at hsp v3
      refine ⟨emptyS, false, hE, hS1 _ (fun _ _ h3 => by rw [hsp] at h3; cases h3) (fun _ => rfl), hI0 _ (fun _ _ _ => ?_) (fun _ => rfl)⟩
      rw [mI, bindO_some', show ((1 : Int) == 1) = true from rfl, cond_true, v3, bindO_some']
      rfl
    · rw [he] at hsp v3
      refine ⟨(1, mixO p q g key ins pm (co.take ins.length), v, emptyP), true, ⟨hml, v1, hE.2.2⟩, hS1 _ (fun _ _ _ => ⟨?_, rfl⟩) (fun h => absurd ⟨hL, hPp, hsp⟩ h), hI0 _ (fun _ _ _ => ?_) (fun h => absurd ⟨hL, hPp, hEr⟩ h)⟩
      · rw [hxs 1 rfl, show ((1 : Int) == 1) = true from rfl, cond_true, v2 he, bindO_some']
      · rw [mI, bindO_some', show ((1 : Int) == 1) = true from rfl, cond_true, v3, bindO_some']
        rfl
  · subst h1
    obtain ⟨v, v1, v2, v3⟩ := ProvePoly_both (co := co.drop ins.length) hr hpa hpl hEr hrl (by rw [List.length_drop]; omega) hi
    cases he : exB q (co.drop ins.length)
    · rw [he] at hsp v3
      refine ⟨emptyS, false, hE, hS1 _ (fun _ _ h3 => by rw [hsp] at h3; cases h3) (fun _ => rfl), hI0 _ (fun _ _ _ => ?_) (fun _ => rfl)⟩
      rw [mI, bindO_some', show ((2 : Int) == 1) = false from rfl, cond_false, v3, bindO_some']
      rfl
    · rw [he] at hsp v3
      refine ⟨(2, mixO p q g key ins pm (co.take ins.length), emptyM, v), true, ⟨hml, hE.2.1, v1⟩, hS1 _ (fun _ _ _ => ⟨?_, rfl⟩) (fun h => absurd ⟨hL, hPp, hsp⟩ h), hI0 _ (fun _ _ _ => ?_) (fun h => absurd ⟨hL, hPp, hEr⟩ h)⟩
      · rw [hxs 2 rfl, show ((2 : Int) == 1) = false from rfl, cond_false, v2 he, bindO_some']
      · rw [mI, bindO_some', show ((2 : Int) == 1) = false from rfl, cond_false, v3, bindO_some']
        rfl
def kS (s : Stg) (k : Int) : Int := k + 1 + 2 * s.2.1.length + s.2.2.1.1.length + s.2.2.1.2.1.length + s.2.2.1.2.2.1.length + s.2.2.1.2.2.2.1.length + s.2.2.1.2.2.2.2.length + s.2.2.2.1.length + s.2.2.2.2.1.length + s.2.2.2.2.2.1.length + s.2.2.2.2.2.2.1.length + s.2.2.2.2.2.2.2.1.length + s.2.2.2.2.2.2.2.2.length
def mkS (s : Stg) (k : Int) : Stg :=
  (k, marksC s.2.1.length (k + 1), (marks s.2.2.1.1.length (k + 1 + 2 * s.2.1.length), marks s.2.2.1.2.1.length (k + 1 + 2 * s.2.1.length + s.2.2.1.1.length), marks s.2.2.1.2.2.1.length (k + 1 + 2 * s.2.1.length + s.2.2.1.1.length + s.2.2.1.2.1.length), marks s.2.2.1.2.2.2.1.length (k + 1 + 2 * s.2.1.length + s.2.2.1.1.length + s.2.2.1.2.1.length + s.2.2.1.2.2.1.length), marks s.2.2.1.2.2.2.2.length (k + 1 + 2 * s.2.1.length + s.2.2.1.1.length + s.2.2.1.2.1.length + s.2.2.1.2.2.1.length + s.2.2.1.2.2.2.1.length)),
    marks s.2.2.2.1.length (k + 1 + 2 * s.2.1.length + s.2.2.1.1.length + s.2.2.1.2.1.length + s.2.2.1.2.2.1.length + s.2.2.1.2.2.2.1.length + s.2.2.1.2.2.2.2.length),
    marks s.2.2.2.2.1.length (k + 1 + 2 * s.2.1.length + s.2.2.1.1.length + s.2.2.1.2.1.length + s.2.2.1.2.2.1.length + s.2.2.1.2.2.2.1.length + s.2.2.1.2.2.2.2.length + s.2.2.2.1.length),
    marks s.2.2.2.2.2.1.length (k + 1 + 2 * s.2.1.length + s.2.2.1.1.length + s.2.2.1.2.1.length + s.2.2.1.2.2.1.length + s.2.2.1.2.2.2.1.length + s.2.2.1.2.2.2.2.length + s.2.2.2.1.length + s.2.2.2.2.1.length),
    marks s.2.2.2.2.2.2.1.length (k + 1 + 2 * s.2.1.length + s.2.2.1.1.length + s.2.2.1.2.1.length + s.2.2.1.2.2.1.length + s.2.2.1.2.2.2.1.length + s.2.2.1.2.2.2.2.length + s.2.2.2.1.length + s.2.2.2.2.1.length + s.2.2.2.2.2.1.length),
    marks s.2.2.2.2.2.2.2.1.length (k + 1 + 2 * s.2.1.length + s.2.2.1.1.length + s.2.2.1.2.1.length + s.2.2.1.2.2.1.length + s.2.2.1.2.2.2.1.length + s.2.2.1.2.2.2.2.length + s.2.2.2.1.length + s.2.2.2.2.1.length + s.2.2.2.2.2.1.length + s.2.2.2.2.2.2.1.length),
    marks s.2.2.2.2.2.2.2.2.length (k + 1 + 2 * s.2.1.length + s.2.2.1.1.length + s.2.2.1.2.1.length + s.2.2.1.2.2.1.length + s.2.2.1.2.2.2.1.length + s.2.2.1.2.2.2.2.length + s.2.2.2.1.length + s.2.2.2.2.1.length + s.2.2.2.2.2.1.length + s.2.2.2.2.2.2.1.length + s.2.2.2.2.2.2.2.1.length))
def kLS : List Stg → Int → Int
  | [], k => k
  | s :: l, k => kLS l (kS s k)
def mkLS : List Stg → Int → List Stg
  | [], _ => []
  | s :: l, k => mkS s k :: mkLS l (kS s k)
theorem kLS_app (a b : List Stg) (k : Int) : kLS (a ++ b) k = kLS b (kLS a k) := by
  induction a generalizing k with
  | nil => rfl
  | cons s a ih => exact ih _
theorem mkLS_app (a b : List Stg) (k : Int) : mkLS (a ++ b) k = mkLS a k ++ mkLS b (kLS a k) := by
  induction a generalizing k with
  | nil => rfl
  | cons s a ih => exact congrArg (mkS s k :: ·) (ih _)
theorem mkLS_len (a : List Stg) (k : Int) : (mkLS a k).length = a.length := by
  induction a generalizing k with
  | nil => rfl
  | cons s a ih => exact congrArg (· + 1) (ih _)
theorem take_snoc {α : Type} {x : List α} {i : Nat} (hi : i < x.length) : x.take (i + 1) = x.take i ++ [x[i]] := by
  rw [List.take_add_one, List.getElem?_eq_getElem hi]
  rfl
theorem set_modify {α : Type} {l : List α} {i : Nat} {v : α} {f : α → α} : (l.set i v).modify i f = l.set i (f v) := by
  induction l generalizing i with
  | nil => cases i <;> rfl
  | cons a l ih =>
    cases i with
    | zero => rfl
    | succ i => exact congrArg (a :: ·) ih
def Stg.low (s : Stg) : Prop := s.2.1.length ≤ 24 ∧ Mp.small s.2.2.1 1000 ∧ Pp.small s.2.2.2 1000
theorem kS_low {s : Stg} (h : Stg.low s) (k : Int) : k ≤ kS s k ∧ kS s k ≤ k + 12000 := by
  obtain ⟨h0, ⟨a1, a2, a3, a4, a5⟩, b1, b2, b3, b4, b5, b6⟩ := h
  unfold kS
  omega
theorem kLS_low : ∀ (l : List Stg) (k : Int), (∀ r ∈ l, Stg.low r) → k ≤ kLS l k ∧ kLS l k ≤ k + 12000 * l.length
  | [], k, _ => by simp only [kLS, List.length_nil]; omega
  | s :: l, k, h => by
    have h1 := kS_low (h s (List.mem_cons_self ..)) k
    have h2 := kLS_low l (kS s k) fun r hr => h r (List.mem_cons_of_mem _ hr)
    simp only [kLS, List.length_cons]
    omega
set_option maxHeartbeats 2000000 in
theorem markStageS_low {x : List Stg} (hx : x.length ≤ 6) (hw : ∀ r ∈ x, Stg.low r) : M_L_markStageS (x, 1) = some (kLS x 1, mkLS x 1) := by
  unfold M_L_markStageS
  refine loopO_to (fun i => (kLS (x.take i) 1, (i : Int), mkLS (x.take i) 1 ++ x.drop i)) x.length (some (kLS x 1, mkLS x 1)) (by omega) (fun again => ?_) (fun again i hi ih => ?_)
  · have hl : (mkLS x 1).length = x.length := mkLS_len x 1
    dsimp only
    rw [List.take_length, List.drop_length, List.append_nil, hl, lt_no, cond_false]
  · rw [take_snoc hi, kLS_app, mkLS_app] at ih
    have hml := mkLS_len (x.take i) 1
    have htl : (x.take i).length = i := by rw [List.length_take]; omega
    have hk := kLS_low (x.take i) 1 fun r hr => hw r (List.mem_of_mem_take hr)
    rw [htl] at hk hml
    have hd : x.drop i = x[i] :: x.drop (i + 1) := List.drop_eq_getElem_cons hi
    have hlow := hw x[i] (List.getElem_mem hi)
    rw [hd]
    generalize x[i] = a at ih hd hlow ⊢
    generalize x.drop (i + 1) = r at ih hd ⊢
    generalize mkLS (x.take i) 1 = m at ih hml ⊢
    generalize hkk : kLS (x.take i) 1 = k at ih hk ⊢
    have hlen : (m ++ a :: r).length = x.length := by
      have h1 : (x.drop i).length = (a :: r).length := by rw [hd]
      rw [List.length_drop] at h1
      rw [List.length_append, ← h1, hml]
      omega
    have hget : (m ++ a :: r)[i]? = some a := by
      rw [List.getElem?_append_right (by omega), hml, Nat.sub_self]
      rfl
    have hset : ∀ v, (m ++ a :: r).set i v = m ++ v :: r := fun v => by
      rw [List.set_append_right _ _ (by omega), hml, Nat.sub_self]
      rfl
    have hget2 : ∀ v, (m ++ v :: r)[i]? = some v := fun v => by
      rw [List.getElem?_append_right (by omega), hml, Nat.sub_self]
      rfl
    have hmod : ∀ v (f : Stg → Stg), (m ++ v :: r).modify i f = m ++ f v :: r := fun v f => by
      rw [← hset v, set_modify, hset]
    obtain ⟨a0, a1, ⟨m1, m2, m3, m4, m5⟩, q1, q2, q3, q4, q5, q6⟩ := a
    obtain ⟨h0, ⟨g1, g2, g3, g4, g5⟩, b1, b2, b3, b4, b5, b6⟩ := hlow
    dsimp only at h0 g1 g2 g3 g4 g5 b1 b2 b3 b4 b5 b6
    have hi6 : i < 6 := by omega
    clear hd hw
    simp only [hlen, lt_yes hi, cond_true, getI_nat, hget, bindO_some', Int.toNat_natCast, hset, hget2, hmod, i64_in (k + 1) (by omega),
      markCipherS_eq (a := a1) (k := k + 1) (by omega) (by omega) (by omega),
      markIntS_eq (a := m1) (k := k + 1 + 2 * a1.length) (by omega) (by omega) (by omega),
      markIntS_eq (a := m2) (k := k + 1 + 2 * a1.length + m1.length) (by omega) (by omega) (by omega),
      markIntS_eq (a := m3) (k := k + 1 + 2 * a1.length + m1.length + m2.length) (by omega) (by omega) (by omega),
      markIntS_eq (a := m4) (k := k + 1 + 2 * a1.length + m1.length + m2.length + m3.length) (by omega) (by omega) (by omega),
      markIntS_eq (a := m5) (k := k + 1 + 2 * a1.length + m1.length + m2.length + m3.length + m4.length) (by omega) (by omega) (by omega),
      markIntS_eq (a := q1) (k := k + 1 + 2 * a1.length + m1.length + m2.length + m3.length + m4.length + m5.length) (by omega) (by omega) (by omega),
      markIntS_eq (a := q2) (k := k + 1 + 2 * a1.length + m1.length + m2.length + m3.length + m4.length + m5.length + q1.length) (by omega) (by omega) (by omega),
      markIntS_eq (a := q3) (k := k + 1 + 2 * a1.length + m1.length + m2.length + m3.length + m4.length + m5.length + q1.length + q2.length) (by omega) (by omega) (by omega),
      markIntS_eq (a := q4) (k := k + 1 + 2 * a1.length + m1.length + m2.length + m3.length + m4.length + m5.length + q1.length + q2.length + q3.length) (by omega) (by omega) (by omega),
      markIntS_eq (a := q5) (k := k + 1 + 2 * a1.length + m1.length + m2.length + m3.length + m4.length + m5.length + q1.length + q2.length + q3.length + q4.length) (by omega) (by omega) (by omega),
      markIntS_eq (a := q6) (k := k + 1 + 2 * a1.length + m1.length + m2.length + m3.length + m4.length + m5.length + q1.length + q2.length + q3.length + q4.length + q5.length) (by omega) (by omega) (by omega), i64_succ (show i < 2 ^ 62 by omega)]
    rw [List.append_assoc] at ih
    exact ih
theorem mkLS_get (x : List Stg) (i : Nat) (hi : i < x.length) : (mkLS x 1)[i]? = some (mkS x[i] (kLS (x.take i) 1)) := by
  conv => lhs; rw [← List.take_append_drop i x, List.drop_eq_getElem_cons hi, mkLS_app]
  have hl : (mkLS (x.take i) 1).length = i := by rw [mkLS_len, List.length_take]; omega
  rw [List.getElem?_append_right (by omega), hl, Nat.sub_self]
  rfl
set_option maxHeartbeats 2000000 in
theorem heldStageS_low {x : List Stg} (hx : x.length ≤ 6) (hw : ∀ r ∈ x, Stg.low r) : M_L_heldStageS (mkLS x 1, 1) = some (kLS x 1) := by
  unfold M_L_heldStageS
  refine loopO_to (fun i => (kLS (x.take i) 1, (i : Int))) x.length (some (kLS x 1)) (by omega) (fun again => ?_) (fun again i hi ih => ?_)
  · dsimp only
    rw [mkLS_len, lt_no, cond_false, List.take_length]
  · rw [take_snoc hi, kLS_app] at ih
    have hk := kLS_low (x.take i) 1 fun r hr => hw r (List.mem_of_mem_take hr)
    rw [show (x.take i).length = i by rw [List.length_take]; omega] at hk
    have hget := mkLS_get x i hi
    have hlow := hw x[i] (List.getElem_mem hi)
    generalize x[i] = a at ih hget hlow
    generalize kLS (x.take i) 1 = k at ih hk hget ⊢
    obtain ⟨a0, a1, ⟨m1, m2, m3, m4, m5⟩, q1, q2, q3, q4, q5, q6⟩ := a
    obtain ⟨h0, ⟨g1, g2, g3, g4, g5⟩, b1, b2, b3, b4, b5, b6⟩ := hlow
    dsimp only at h0 g1 g2 g3 g4 g5 b1 b2 b3 b4 b5 b6
    have hi6 : i < 6 := by omega
    clear hw
    have dn : ∀ z : Int, 0 ≤ z → decide (z < 0) = false := fun z hz => decide_eq_false (by omega)
    dsimp only
    rw [mkLS_len, lt_yes hi, cond_true, getI_nat, hget]
    refine bind_to rfl ?_
    refine no_to (bne_self_eq_false k) ?_
    refine bind_to (congrArg some (i64_in (k + 1) (by omega))) ?_
    refine bind_to rfl ?_
    refine bind_to (heldCipherS_eq (n := a1.length) (k := k + 1) (by omega) (by omega) (by omega)) ?_
    refine no_to (dn (k + 1 + 2 * a1.length) (by omega)) ?_
    refine bind_to rfl ?_
    refine bind_to (heldIntS_eq (n := m1.length) (k := k + 1 + 2 * a1.length) (by omega) (by omega) (by omega)) ?_
    refine no_to (dn (k + 1 + 2 * a1.length + m1.length) (by omega)) ?_
    refine bind_to rfl ?_
    refine bind_to (heldIntS_eq (n := m2.length) (k := k + 1 + 2 * a1.length + m1.length) (by omega) (by omega) (by omega)) ?_
    refine no_to (dn (k + 1 + 2 * a1.length + m1.length + m2.length) (by omega)) ?_
    refine bind_to rfl ?_
    refine bind_to (heldIntS_eq (n := m3.length) (k := k + 1 + 2 * a1.length + m1.length + m2.length) (by omega) (by omega) (by omega)) ?_
    refine no_to (dn (k + 1 + 2 * a1.length + m1.length + m2.length + m3.length) (by omega)) ?_
    refine bind_to rfl ?_
    refine bind_to (heldIntS_eq (n := m4.length) (k := k + 1 + 2 * a1.length + m1.length + m2.length + m3.length) (by omega) (by omega) (by omega)) ?_
    refine no_to (dn (k + 1 + 2 * a1.length + m1.length + m2.length + m3.length + m4.length) (by omega)) ?_
    refine bind_to rfl ?_
    refine bind_to (heldIntS_eq (n := m5.length) (k := k + 1 + 2 * a1.length + m1.length + m2.length + m3.length + m4.length) (by omega) (by omega) (by omega)) ?_
    refine no_to (dn (k + 1 + 2 * a1.length + m1.length + m2.length + m3.length + m4.length + m5.length) (by omega)) ?_
    refine bind_to rfl ?_
    refine bind_to (heldIntS_eq (n := q1.length) (k := k + 1 + 2 * a1.length + m1.length + m2.length + m3.length + m4.length + m5.length) (by omega) (by omega) (by omega)) ?_
    refine no_to (dn (k + 1 + 2 * a1.length + m1.length + m2.length + m3.length + m4.length + m5.length + q1.length) (by omega)) ?_
    refine bind_to rfl ?_
    refine bind_to (heldIntS_eq (n := q2.length) (k := k + 1 + 2 * a1.length + m1.length + m2.length + m3.length + m4.length + m5.length + q1.length) (by omega) (by omega) (by omega)) ?_
    refine no_to (dn (k + 1 + 2 * a1.length + m1.length + m2.length + m3.length + m4.length + m5.length + q1.length + q2.length) (by omega)) ?_
    refine bind_to rfl ?_
    refine bind_to (heldIntS_eq (n := q3.length) (k := k + 1 + 2 * a1.length + m1.length + m2.length + m3.length + m4.length + m5.length + q1.length + q2.length) (by omega) (by omega) (by omega)) ?_
    refine no_to (dn (k + 1 + 2 * a1.length + m1.length + m2.length + m3.length + m4.length + m5.length + q1.length + q2.length + q3.length) (by omega)) ?_
    refine bind_to rfl ?_
    refine bind_to (heldIntS_eq (n := q4.length) (k := k + 1 + 2 * a1.length + m1.length + m2.length + m3.length + m4.length + m5.length + q1.length + q2.length + q3.length) (by omega) (by omega) (by omega)) ?_
    refine no_to (dn (k + 1 + 2 * a1.length + m1.length + m2.length + m3.length + m4.length + m5.length + q1.length + q2.length + q3.length + q4.length) (by omega)) ?_
    refine bind_to rfl ?_
    refine bind_to (heldIntS_eq (n := q5.length) (k := k + 1 + 2 * a1.length + m1.length + m2.length + m3.length + m4.length + m5.length + q1.length + q2.length + q3.length + q4.length) (by omega) (by omega) (by omega)) ?_
    refine no_to (dn (k + 1 + 2 * a1.length + m1.length + m2.length + m3.length + m4.length + m5.length + q1.length + q2.length + q3.length + q4.length + q5.length) (by omega)) ?_
    refine bind_to rfl ?_
    refine bind_to (heldIntS_eq (n := q6.length) (k := k + 1 + 2 * a1.length + m1.length + m2.length + m3.length + m4.length + m5.length + q1.length + q2.length + q3.length + q4.length + q5.length) (by omega) (by omega) (by omega)) ?_
    refine no_to (dn (k + 1 + 2 * a1.length + m1.length + m2.length + m3.length + m4.length + m5.length + q1.length + q2.length + q3.length + q4.length + q5.length + q6.length) (by omega)) ?_
    refine bind_to (congrArg some (i64_succ (show i < 2 ^ 62 by omega))) ?_
    exact ih
theorem ambO_eq {β : Type} (x : Option β) : ambO x x = x := by
  unfold ambO
  exact if_pos rfl
theorem loopO_two {σ τ β γ δ : Type} {b1 : (σ → Option β) → σ → Option β} {b2 : (τ → Option γ) → τ → Option γ} (e1 : Nat → δ → σ) (e2 : Nat → δ → τ) (N : Nat) (Q : Option β → Option γ → Prop) (Inv : Nat → δ → Prop)
    (hend : ∀ (a1 : σ → Option β) (a2 : τ → Option γ) s, Inv N s → Q (b1 a1 (e1 N s)) (b2 a2 (e2 N s)))
    (hin : ∀ (a1 : σ → Option β) (a2 : τ → Option γ) i s, i < N → Inv i s → (∀ s', Inv (i + 1) s' → Q (a1 (e1 (i + 1) s')) (a2 (e2 (i + 1) s'))) → Q (b1 a1 (e1 i s)) (b2 a2 (e2 i s)))
    (hN : N < 2 ^ 62) (s : δ) (h0 : Inv 0 s) : Q (loopO b1 (e1 0 s)) (loopO b2 (e2 0 s)) := by
  rw [loopO_eq, loopO_eq]
  have H : ∀ (n : Nat) i s, i ≤ N → Inv i s → N - i < n → Q (iter b1 n (e1 i s)) (iter b2 n (e2 i s)) := by
    intro n
    induction n with
    | zero => intro i s _ _ h; exact absurd h (Nat.not_lt_zero _)
    | succ n ih =>
      intro i s hi h0 hn
      rcases Nat.lt_or_ge i N with h | h
      · exact hin _ _ i s h h0 fun s' hs' => ih (i + 1) s' h hs' (by omega)
      · have : i = N := by omega
        subst this
        exact hend _ _ s h0
  exact H many 0 s (Nat.zero_le _) h0 (by unfold many; omega)
theorem guard1 (n : Nat) (h : n ≤ 6) {z : List Stg} (hz : z.length = 1) : guardO (lenOk (n + z.length)) = some () := guardO_of (lenOk_of (by omega))
theorem RunCascade_both (p q g key : Int) (ins : List (Int × Int)) (ags : List Int) (ps cs : List (List Int)) (hi : ins.length ≤ 1048576) (hp : ∀ r ∈ ps, r.length ≤ 1048576) (hc : ∀ r ∈ cs, r.length ≤ 1048576) :
    ∃ (l : List Stg) (b : Bool), (l.length ≤ 6 ∧ ∀ r ∈ l, Stg.low r) ∧ M_S_RunCascade ((p, q, g), key, ins, ags, ps, cs) = some (l, b) ∧ M_I_RunCascade ((p, q, g), key, ins, ags, ps, cs) = some (l, b) := by
  have hE : (([] : List Stg).length ≤ 6 ∧ ∀ r ∈ ([] : List Stg), Stg.low r) := ⟨Nat.zero_le _, fun r hr => by cases hr⟩
  have hmb : M_I_mixBases ((p, q, g), key, ins) = some (bif mixB p q g key ins then basesN p q g ins.length else ((0, []), false)) := mixBases_eq hi
  unfold M_S_RunCascade M_I_RunCascade
  dsimp only
  rw [xReady_eq, bindO_some', hmb, bindO_some', readyB]
  cases hr : rdB p q g key ins
  · exact ⟨[], false, hE, rfl, rfl⟩
  rw [Bool.not_true, cond_false, cond_false, gt6, neN, neN]
  by_cases h6 : ags.length ≤ 6
  rotate_left
  · rw [decide_eq_false h6]
    exact ⟨[], false, hE, rfl, rfl⟩
  rw [decide_eq_true h6, Bool.not_true, cond_false, cond_false]
  by_cases h1 : ps.length = ags.length
  rotate_left
  · rw [decide_eq_false h1]
    exact ⟨[], false, hE, rfl, rfl⟩
  rw [decide_eq_true h1, Bool.not_true, cond_false, cond_false]
  by_cases h2 : cs.length = ags.length
  rotate_left
  · rw [decide_eq_false h2]
    exact ⟨[], false, hE, rfl, rfl⟩
  rw [decide_eq_true h2, Bool.not_true, cond_false, cond_false]
  refine loopO_two (γ := List Stg × Bool) (fun i (s : List (Int × Int) × List Stg) => (s.2, s.1, (i : Int))) (fun i (s : List (Int × Int) × List Stg) => (s.2, s.1, (i : Int))) ags.length (fun x y => ∃ (l : List Stg) (b : Bool), (l.length ≤ 6 ∧ ∀ r ∈ l, Stg.low r) ∧ x = some (l, b) ∧ y = some (l, b))
    (fun i s => s.1.length ≤ 1048576 ∧ s.2.length = i ∧ ∀ r ∈ s.2, Stg.low r) (fun a1 a2 s hs => ?_) (fun a1 a2 i s hi' hs ih => ?_) (by omega) (ins, []) ⟨hi, rfl, fun r hr => by cases hr⟩
  · obtain ⟨s1, s2, s3⟩ := hs
    dsimp only
    rw [lt_no, cond_false, cond_false]
    exact ⟨s.2, true, ⟨by omega, s3⟩, rfl, rfl⟩
  · obtain ⟨s1, s2, s3⟩ := hs
    obtain ⟨u, o⟩ := s
    dsimp only at s1 s2 s3
    have ha := List.getElem?_eq_getElem hi'
    have hb := List.getElem?_eq_getElem (show i < ps.length by omega)
    have hd := List.getElem?_eq_getElem (show i < cs.length by omega)
    have hpm := hp _ (List.getElem_mem (show i < ps.length by omega))
    have hco := hc _ (List.getElem_mem (show i < cs.length by omega))
    generalize ags[i] = arg at ha
    generalize ps[i] = pm at hb hpm
    generalize cs[i] = co at hd hco
    obtain ⟨v, b, hv, hS, hI⟩ := RunStage_both p q g key arg u pm co s1 hpm hco
    have hS' : M_S_RunStage ((p, q, g), key, u, arg, pm, co) = some (v, b) := hS
    have ga := (getI_nat ags i).trans ha
    have gb := (getI_nat ps i).trans hb
    have gd := (getI_nat cs i).trans hd
    dsimp only
    cases b
    · refine ⟨[], false, hE, ?_, ?_⟩
      · exact yes_to (lt_yes hi') (bind_to ga (bind_to gb (bind_to gd (bind_to hS' (yes_to rfl rfl)))))
      · exact yes_to (lt_yes hi') (bind_to ga (bind_to gb (bind_to gd (bind_to hI (yes_to rfl rfl)))))
    · have hg1 := guard1 o.length (by omega) (z := [v]) rfl
      have hn := i64_succ (show i < 2 ^ 62 by omega)
      obtain ⟨l, b, hl, e1, e2⟩ := ih (v.2.1, o ++ [v]) ⟨by have := hv.1; dsimp only; omega, by dsimp only; rw [List.length_append, s2]; rfl, fun r hr => by
        rcases List.mem_append.1 hr with h | h
        · exact s3 r h
        · rw [List.mem_singleton.1 h]; exact hv⟩
      refine ⟨l, b, hl, ?_, ?_⟩
      · refine yes_to (lt_yes hi') (bind_to ga (bind_to gb (bind_to gd (bind_to hS' (no_to rfl ?_)))))
        exact bind_to hg1 (bind_to rfl (bind_to (congrArg some hn) e1))
      · refine yes_to (lt_yes hi') (bind_to ga (bind_to gb (bind_to gd (bind_to hI (no_to rfl ?_)))))
        refine bind_to hg1 (bind_to rfl ?_)
        have e4 : bindO (guardO (lenOk (o.length + [v].length))) (fun _ => bindO (some (o ++ [v])) fun a => bindO (some (IntKind.wrap .i64 ((i : Int) + 1))) fun j => a2 (a, v.2.1, j)) = some (l, b) := bind_to hg1 (bind_to rfl (bind_to (congrArg some hn) e2))
        simp only [ambO_eq]
        exact e4
theorem Stg.low_small {v : Stg} (hv : Stg.low v) : Stg.small v :=
  ⟨by have := hv.1; omega, ⟨by have := hv.2.1.1; omega, by have := hv.2.1.2.1; omega, by have := hv.2.1.2.2.1; omega, by have := hv.2.1.2.2.2.1; omega, by have := hv.2.1.2.2.2.2; omega⟩, by have := hv.2.2.1; omega, by have := hv.2.2.2.1; omega, by have := hv.2.2.2.2.1; omega, by have := hv.2.2.2.2.2.1; omega, by have := hv.2.2.2.2.2.2.1; omega, by have := hv.2.2.2.2.2.2.2; omega⟩
theorem law_FnExactRunCascade (x : (Int × Int × Int) × Int × List (Int × Int) × List Int × List (List Int) × List (List Int)) (h : WFI [.data (.cons (.int .i64) (.cons (.int .i64) (.one (.int .i64)))), .data (.int .i64), .data (.sl (.cons (.int .i64) (.one (.int .i64)))), .data (.sl (.int .i64)), .data (.sl (.sl (.int .i64))), .data (.sl (.sl (.int .i64)))] x) : M_L_FnExactRunCascade x = some true := by
  obtain ⟨⟨p, q, g⟩, key, ins, ags, ps, cs⟩ := x
  have w3 : ins.length ≤ maxLen := h.2.2.1.1
  have hm : maxLen < 2 ^ 63 := by decide
  obtain ⟨u1, u2⟩ := wf_ss (x := ps) h.2.2.2.2.1
  obtain ⟨u3, u4⟩ := wf_ss (x := cs) h.2.2.2.2.2
  unfold M_L_FnExactRunCascade
  dsimp only
  by_cases h1 : ags.length ≤ 1048576
  rotate_left
  · rw [decide_eq_true (show ((ags.length : Nat) : Int) > 1048576 by omega)]
    rfl
  rw [decide_eq_false (show ¬ ((ags.length : Nat) : Int) > 1048576 by omega), cond_false, szCipherS_eq (by omega) (by omega) (by omega), bindO_some']
  by_cases hy : (1048576 : Int) < ins.length
  · rw [if_pos hy]
    rfl
  rw [if_neg hy, decide_eq_false (by omega), cond_false]
  obtain ⟨z1, e1, e2, e3⟩ := szIntSS_eq' (x := ps) (left := 1048576 - (ins.length : Int)) (by omega) (by omega) u1 u2
  refine bind_to e1 ?_
  by_cases hz : z1 < 0
  · exact yes_to (decide_eq_true hz) rfl
  refine no_to (decide_eq_false hz) ?_
  obtain ⟨z2, f1, f2, f3⟩ := szIntSS_eq' (x := cs) (left := z1) (by omega) (by omega) u3 u4
  refine bind_to f1 ?_
  by_cases hz2 : z2 < 0
  · exact yes_to (decide_eq_true hz2) rfl
  refine no_to (decide_eq_false hz2) ?_
  have t1 : ps.length + tot ps ≤ 1048576 := by have := e3 (by omega); omega
  have t2 : cs.length + tot cs ≤ 1048576 := by have := f3 (by omega); omega
  have r1 : ∀ r ∈ ps, r.length ≤ 1048576 := fun r hr => by have := row_le hr; omega
  have r2 : ∀ r ∈ cs, r.length ≤ 1048576 := fun r hr => by have := row_le hr; omega
  obtain ⟨v, b, ⟨hv6, hvl⟩, hS, hI⟩ := RunCascade_both p q g key ins ags ps cs (by omega) r1 r2
  have hE : M_L_eqStageS (v, v) = some true := eqStageS_eq (by omega) fun r hr => Stg.low_small (hvl r hr)
  have hM := markStageS_low hv6 hvl
  have hH := heldStageS_low hv6 hvl
  have hk := kLS_low v 1 hvl
  have m1 := markCipherS_eq (a := ins) (k := 1) (by omega) (by omega) (by omega)
  have m2 := markIntS_eq (a := ags) (k := 1 + 2 * (ins.length : Int)) (by omega) (by omega) (by omega)
  have m3 := markIntSS_eq (x := ps) (k := 1 + 2 * (ins.length : Int) + ags.length) (by omega) (by omega) (by omega) (by omega)
  have m4 := markIntSS_eq (x := cs) (k := 1 + 2 * (ins.length : Int) + ags.length + tot ps) (by omega) (by omega) (by omega) (by omega)
  have c1 : M_L_toCipherS ins = some ins := toCipherS_eq (by omega)
  have c2 : M_L_toIntS ags = some ags := toIntS_eq h1
  have c3 : M_L_toIntSS ps = some ps := toIntSS_eq t1
  have c4 : M_L_toIntSS cs = some cs := toIntSS_eq t2
  refine bind_to (toGroup_eq _) ?_
  refine bind_to c1 ?_
  refine bind_to c2 ?_
  refine bind_to c3 ?_
  refine bind_to c4 ?_
  refine bind_to hS ?_
  refine bind_to c1 ?_
  refine bind_to c2 ?_
  refine bind_to c3 ?_
  refine bind_to c4 ?_
  refine bind_to (toGroup_eq _) ?_
  refine bind_to hI ?_
  refine bind_to hE ?_
  refine no_to rfl ?_
  refine no_to (by cases b <;> rfl) ?_
  refine bind_to c1 ?_
  refine bind_to (eqCipherS_eq (by omega)) ?_
  refine no_to (by simp) ?_
  refine bind_to c2 ?_
  refine bind_to (eqIntS_eq (by omega)) ?_
  refine no_to (by simp) ?_
  refine bind_to c3 ?_
  refine bind_to (eqIntSS_eq (by omega) fun r hr => by have := r1 r hr; omega) ?_
  refine no_to (by simp) ?_
  refine bind_to c4 ?_
  refine bind_to (eqIntSS_eq (by omega) fun r hr => by have := r2 r hr; omega) ?_
  refine no_to (by simp) ?_
  refine bind_to m1 ?_
  refine bind_to m2 ?_
  refine bind_to m3 ?_
  refine bind_to m4 ?_
  refine no_to (decide_eq_false (by dsimp only; omega)) ?_
  refine bind_to hE ?_
  refine no_to rfl ?_
  refine no_to (by cases b <;> rfl) ?_
  refine bind_to hM ?_
  refine bind_to hH ?_
  refine no_to (decide_eq_false (by omega)) ?_
  refine no_to (bne_self_eq_false _) ?_
  refine bind_to (toGroup_eq _) ?_
  refine bind_to c1 ?_
  refine bind_to c2 ?_
  refine bind_to c3 ?_
  refine bind_to c4 ?_
  refine bind_to hI ?_
  refine bind_to hE ?_
  refine no_to rfl ?_
  refine no_to (by cases b <;> rfl) ?_
  refine bind_to hH ?_
  refine no_to (decide_eq_false (by omega)) ?_
  refine no_to (bne_self_eq_false _) ?_
  rfl
end Go.Proofs.YtjmpdejigkjaoaaGreat.Vd
