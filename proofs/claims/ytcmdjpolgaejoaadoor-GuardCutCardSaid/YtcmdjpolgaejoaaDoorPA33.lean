/- The laws GuardBounds, GuardShifts, GuardCut of the program hold, as their cards say: texts put together by a program, 34 of 35. -/
import Derived.Test.YtcmdjpolgaejoaaDoorPA31
import Derived.Deep.DeepAppendWide
namespace Go.Proofs.YtcmdjpolgaejoaaDoor.Gd
open Go.RowKit Go.Proofs.YtcmdjpolgaejoaaDoorW.PrintWords Go.Proofs.YtcmdjpolgaejoaaDoorW.PrintLast Go.Proofs.YtcmdjpolgaejoaaDoorW.PrintMore Go.Proofs.YtcmdjpolgaejoaaDoor.Code Go.Proofs.YtcmdjpolgaejoaaDoor.C
set_option linter.unusedVariables false
set_option linter.unusedSimpArgs false
theorem info54 : (Tryd.prog.info? 54).map (fun i => (i.zero, i.size, i.bytes)) = some (some (.agg #[.int .i64 0, .int .i64 0, .int .i64 0]), 3, 24) := by kernel_rfl
abbrev rawOf (x : SRaw) : List Value := [.int .i64 x.f0, .int .i64 x.f1, .int .i64 x.f2]
theorem raws_append {W : World} {base : Nat} {ty : TypeId} {v : Value} {xs ys : List SRaw} {A : Option Addr} {m c : Nat} (HO : Kd.R kRaw 54 W base (fun _ => True) v xs) (HR : Kd.C kRaw W A m ys)
  (hl : ((xs.length + m) + (xs.length + m) / 4 + 192) * 24 ≤ 281474976710656) (hbase : base ≤ W.heap.size) :
  ∃ v1 w1, (Builtin.append_ #[36, 36] ty #[v, .slice A m c]).run Tryd.prog W = .ok v1 w1 ∧ Kd.R kRaw 54 w1 base (fun _ => True) v1 (xs ++ ys) ∧ W.grownBy w1 v.ownBlock := by
 obtain ⟨i0, hi, hzz⟩ := Option.map_eq_some_iff.1 info54
 simp only [Prod.mk.injEq] at hzz
 obtain ⟨hz0, hz1, hz2⟩ := hzz
 have hm : ys.length = m := HR.1
 obtain ⟨hok, inner, hown, hr⟩ := HO
 rcases A with _ | ad
 ·have h0 : m = 0 := by
   rcases Nat.eq_zero_or_pos m with h0 | h0
   ·exact h0
   ·obtain ⟨ad, h, _⟩ := HR.2.2 h0
    cases h
  subst h0
  obtain rfl : ys = [] := List.eq_nil_of_length_eq_zero hm
  refine ⟨v, W, ?_, by rw [List.append_nil]; exact ⟨hok, inner, hown, hr⟩, World.grownBy.refl W _⟩
  rcases hown.2 with ⟨rfl, hn⟩ | ⟨g, cap, cur, rfl, _, _, hnc, _⟩
  ·simp [Builtin.append_, run_underlying Tryd.underlying36, sizeOf, typeInfo, hi, Builtin.lenOf, Builtin.firstCells]
  ·simp [Builtin.append_, run_underlying Tryd.underlying36, sizeOf, typeInfo, hi, Builtin.lenOf, Builtin.firstCells, hnc, storeCells]
 ·obtain ⟨news, hnr, hnc⟩ := ReadsRow.inner_ HR
  have hn3 : Reps (fun x cs => cs = rawOf x) 3 ys news := hnr.imp_ (fun p c hp => kRaw_open hp)
  have hi3 : Reps (fun x cs => cs = rawOf x) 3 xs inner := hr.imp_ (fun p c hp => kRaw_open (Kd.K_of_M kRaw hp))
  have hone : ∀ u ∈ news, u.oneCell' = true := by
   intro u hu
   obtain ⟨q, hq, rfl⟩ := List.mem_iff_getElem.1 hu
   have hql : q / 3 < ys.length := by
    rw [Nat.div_lt_iff_lt_mul (by decide)]
    rw [← hn3.1]
    exact hq
   have hc := hn3.2 (q / 3) _ (List.getElem?_eq_getElem hql)
   have hmem : news[q] ∈ (news.drop (q / 3 * 3)).take 3 := by
    rw [List.mem_iff_getElem?]
    refine ⟨q % 3, ?_⟩
    rw [List.getElem?_take, if_pos (Nat.mod_lt _ (by decide)), List.getElem?_drop, Nat.mul_comm, Nat.div_add_mod, List.getElem?_eq_getElem hq]
   rw [hc] at hmem
   simp only [rawOf, List.mem_cons, List.not_mem_nil, or_false] at hmem
   rcases hmem with h | h | h <;> rw [h] <;> rfl
  obtain ⟨v1, w1, hrun, h2, hg, _⟩ := run_append_own_wide (P := Tryd.prog) W base 36 ty 54 i0 (.agg #[.int .i64 0, .int .i64 0, .int .i64 0]) 3 24 Tryd.underlying36 hi hz0 hz1 hz2 rfl (by decide) v xs.length inner hown ad m c news (by rw [hn3.1, hm]) hnc hone (by simp only [maxLen]; omega) hl hbase
  refine ⟨v1, w1, hrun, ⟨fun _ _ => trivial, inner ++ news, by rw [List.length_append, hm]; exact h2, Kd.reps_append (hi3.imp_ (fun p c hp => by rw [hp]; exact kRaw_mkM _ _ _ _)) (hn3.imp_ (fun p c hp => by rw [hp]; exact kRaw_mkM _ _ _ _))⟩, hg⟩
theorem raws_step {ops : Array Oper} {rest : List Oper} {o : Oper} {a : Act} {Q : Exit → Act → World → Prop} {w0 W : World} (base : Nat) (hgd : o.guard = none) (s x : Operand) (ho : o.op = .call { callee := .builtin .append, args := #[s, x], argTypes := #[36, 36] })
  (v : Value) (xs ys : List SRaw) (A : Option Addr) (m c : Nat) (hs : a.eval s = v) (hx : a.eval x = .slice A m c) (HO : Kd.R kRaw 54 W base (fun _ => True) v xs) (HR : Kd.C kRaw W A m ys)
  (hl : ((xs.length + m) + (xs.length + m) / 4 + 192) * 24 ≤ 281474976710656) (HB : Below base w0 W) (hbase : base ≤ W.heap.size)
  (h : ∀ v1 w1, Kd.R kRaw 54 w1 base (fun _ => True) v1 (xs ++ ys) → Below base w0 w1 → wpList Tryd.prog ops Q rest (a.put o.dst v1) w1) : wpList Tryd.prog ops Q (o :: rest) a W := by
 obtain ⟨v1, w1, hr1, h1, hg⟩ := raws_append (ty := o.type) (c := c) HO HR hl hbase
 obtain ⟨_, inner, hown, _⟩ := HO
 refine wpList_plain hgd fun K hK => ?_
 unfold Oper.wp execOp
 simp only [ho, resolve, invoke, builtin, Sem.run_bind, Sem.run_pure, Result.andThen_ok, List.map_toArray, List.map_cons, List.map_nil, hs, hx, hr1]
 exact hK _ _ (h v1 w1 h1 (HB.grown hg hbase (Go.Proofs.YtcmdjpolgaejoaaDoorW.PrintWords.own_base hown)))
theorem C_take {α : Type} {d : Kd α} {w : World} {A : Option Addr} {n : Nat} {xs : List α} (h : Kd.C d w A n xs) (k : Nat) (hk : k ≤ n) : Kd.C d w A k (xs.take k) := by
 refine ⟨by rw [List.length_take, h.1]; omega, Nat.le_trans hk h.2.1, fun hp => ?_⟩
 obtain ⟨ad, e, hc⟩ := h.2.2 (by omega)
 refine ⟨ad, e, fun j p hj => hc j p ?_⟩
 rw [List.getElem?_take] at hj
 split at hj
 ·exact hj
 ·cases hj
set_option maxHeartbeats 8000000 in
set_option maxRecDepth 100000 in
theorem cut_calls (A0 : Option Addr) (c0 : Nat) (l : List SRaw) (A1 : Option Addr) (c1 : Nat) (l1 : List Int) (A2 : Option Addr) (c2 : Nat) (l2 : List SRaw) (w : World) (hr0 : Kd.C kRaw w A0 l.length l) (hc0 : l.length ≤ c0) (hr1 : Kd.C (Kd.int .i64) w A1 l1.length l1) (hc1 : l1.length ≤ c1) (hr2 : Kd.C kRaw w A2 l2.length l2) (hc2 : l2.length ≤ c2)
  (hRW : ∀ x ∈ l, RW x) (hRW2 : ∀ x ∈ l2, RW x) (hz : l.length * 24 ≤ 140737488351232) (hz2 : l2.length * 24 ≤ 140737488351232) (hG : Glob w) :
  Calls Tryd.prog 7 #[.slice A0 l.length c0, .slice A1 l1.length c1, .slice A2 l2.length c2] w fun e w' => e = .returned (.bool true) ∧ Below w.heap.size w w' := by
 obtain ⟨ws, hws⟩ : ∃ ws, ws = l.map wdV := ⟨_, rfl⟩
 have HF := Aside0.mk (hws ▸ code_f hRW (by omega))
 have HU := Aside0.mk (hws ▸ code_u hRW)
 have hlen : ws.length = l.length := by rw [hws]; simp
 obtain ⟨⟨s, r, k, e, a⟩, hv⟩ : ∃ v, verifyS ws l1 [few] [1, 2, 3] = v := ⟨_, rfl⟩
 have HV := Aside0.mk hv
 have HA := Aside0.mk (awake_calls w hG)
 have HR0 := Aside0.mk hr0
 have HR1 := Aside0.mk hr1
 have HR2 := Aside0.mk hr2
 have HG := Aside0.mk hG
 have HC1 := Aside0.mk hc1
 have HC0 := Aside0.mk hc0
 clear hr0 hr1 hr2 hG hc0 hc1 hc2
 by_cases he : e = 0
 case neg =>
  have q1 : (e != 0) = true := bne_iff_ne.mpr he
  have q1' : (e == 0) = false := by simpa using he
  clear he hv hws hlen hRW hRW2 hz hz2
  go_enter Tryd.func7, Tryd.ntmps7
  go_wp2_with (first
   | (go_at_call 9; (refine HA.out.mono ?_); rintro e1 w1 ⟨rfl, hb⟩; have HW1 := Aside0.mk (below_alloc (below_alloc (hb) (.cells (([few] : List ByteArray).map Value.string).toArray 9)) (.cells (([1, 2, 3] : List Int).map (Value.int .i64)).toArray 3)); have HN1 := Aside0.mk (Kd.C_below (strs_C w1 [few] (by decide)) (below_alloc (Below.refl _ _) (.cells (([1, 2, 3] : List Int).map (Value.int .i64)).toArray 3))); have hi := ints_C (w1.alloc (.cells (([few] : List ByteArray).map Value.string).toArray 9)) [1, 2, 3] (by decide); have z1 : (w1.alloc (.cells (([few] : List ByteArray).map Value.string).toArray 9)).heap.size = w1.heap.size + 1 := (by simp); rw [z1] at hi; have HI1 := Aside0.mk hi; clear hi z1; clear hb)
   | (go_at_call 14; have FF := HF.out; clear HF; (refine (isthmuslaw18_Code.calls A0 c0 l A1 c1 l1 (some ⟨w1.heap.size, 0, none⟩) 1 [few] (some ⟨w1.heap.size + 1, 0, none⟩) 3 [1, 2, 3] true ws _ (Kd.C_below HR0.out HW1.out) HC0.out FF).mono ?_); rintro e2 w2 ⟨v0, rfl, hR, hb⟩; obtain ⟨Aw, cw, rfl, hlw, hCw⟩ := Kd.R_reads hR; have HB2 := Aside0.mk (below_step HW1.out hb); have HCW := Aside0.mk hCw; have HLW := Aside0.mk hlw; have HN2 := Aside0.mk (Kd.C_below HN1.out hb); have HI2 := Aside0.mk (Kd.C_below HI1.out hb); have bx0 := heap_alloc_new w2 (.cells (codeC Aw cw ws.length A1 c1 l1.length (some ⟨w1.heap.size, 0, none⟩) 1 1 (some ⟨w1.heap.size + 1, 0, none⟩) 3 3) 26); have BXa := Aside0.mk bx0; have y0 := blk_cell bx0 0; have y1 := blk_cell bx0 1; have y2 := blk_cell bx0 2; have y3 := blk_cell bx0 3; have HXa := Aside0.mk (below_alloc (Below.refl w2.heap.size w2) (.cells (codeC Aw cw ws.length A1 c1 l1.length (some ⟨w1.heap.size, 0, none⟩) 1 1 (some ⟨w1.heap.size + 1, 0, none⟩) 3 3) 26)); clear bx0; clear hR hb hCw hlw HN1 HI1 HW1 FF)
   | (go_at_call 12; have VV := HV.out; clear HV; (refine (verify_at Aw cw ws A1 c1 l1 (some ⟨w1.heap.size, 0, none⟩) 1 [few] (some ⟨w1.heap.size + 1, 0, none⟩) 3 [1, 2, 3] s r k e a _ (Kd.C_below HCW.out HXa.out) HLW.out (Kd.C_below HR1.out (below_then HB2.out HB2.out.size HXa.out)) HC1.out (Kd.C_below HN2.out HXa.out) (by decide) (Kd.C_below HI2.out HXa.out) (by decide) HU.out (HG.out.below (below_then HB2.out HB2.out.size HXa.out)) VV).mono ?_); rintro e3 w3 ⟨rfl, hb⟩; have HB3 := Aside0.mk (below_then (below_then HB2.out HB2.out.size HXa.out) (below_then HB2.out HB2.out.size HXa.out).size hb); have HB4 := Aside0.mk (below_alloc HB3.out (.cells (limC s r k) 29)); clear hb VV))
  go_ret
  exact ⟨rfl, HB4.out⟩
 subst he
 have hl32 : l.length ≤ 32768 ∧ 1 ≤ l.length := by
  by_cases hr : rightS ws l1 [few] [1, 2, 3] = true
  ·have := (right_parts hr).1
   omega
  ·unfold verifyS at hv
   rw [if_neg hr] at hv
   simp at hv
 have hcut := cut_law (ws := ws) (cs := l1) (ns := [few]) (ks := [1, 2, 3]) (by rw [hv]) (l2.map wdV)
 have hfirst := first_law (ws := ws) (cs := l1) (ns := [few]) (ks := [1, 2, 3]) (by rw [hv])
 obtain ⟨wb, hwb⟩ : ∃ wb, wb = ws ++ l2.map wdV := ⟨_, rfl⟩
 obtain ⟨la, hla⟩ : ∃ la, la = l ++ l2 := ⟨_, rfl⟩
 have hRWa : ∀ x ∈ la, RW x := fun x hx => by
  rw [hla] at hx
  rcases List.mem_append.1 hx with h | h
  ·exact hRW x h
  ·exact hRW2 x h
 have hwb2 : wb = la.map wdV := by rw [hwb, hla, hws, List.map_append]
 have HF2_ := Aside0.mk (show isthmuslaw18_Code.f la true = some wb by rw [hwb2]; exact code_f hRWa (by rw [hla, List.length_append]; omega))
 have HU2 := Aside0.mk (show U64 wb by rw [hwb2]; exact code_u hRWa)
 rw [← hwb, hv] at hcut
 obtain ⟨⟨s', r', k', f, a'⟩, hv2⟩ : ∃ v, verifyS wb l1 [few] [1, 2, 3] = v := ⟨_, rfl⟩
 rw [hv2] at hcut
 obtain ⟨⟨s1, r1, k1, g, b⟩, hv1⟩ : ∃ v, verifyS (ws.take 1) l1 [few] [1, 2, 3] = v := ⟨_, rfl⟩
 rw [hv1] at hfirst
 obtain ⟨hg, hb0⟩ : g ≠ 0 ∧ b = 0 := hfirst
 subst hb0
 have hcut1 : f = 0 ∨ f = 180 := hcut.1
 have hcut2 : f = 0 → (s', r', k') = (s, r, k) := hcut.2
 have HV2_ := Aside0.mk hv2
 have HV1 := Aside0.mk hv1
 have HLA := Aside0.mk hla
 have HLL := Aside0.mk (And.intro hl32 (And.intro hz hz2))
 have hlen1 : (ws.take 1).length = 1 := by rw [List.length_take]; omega
 have HL1 := Aside0.mk hlen1
 have HLN := Aside0.mk (show 1 ≤ ws.length by omega)
 have g1 : (g != 0) = true := bne_iff_ne.mpr hg
 have g2 : (g == 0) = false := by simpa using hg
 have HUT := Aside0.mk (show U64 (ws.take 1) from fun x hx => HU.out x (List.mem_of_mem_take hx))
 clear hcut hv hv1 hv2 hws hwb hwb2 hla hRW hRW2 hRWa hz hz2 hl32 hlen hlen1 hg
 rcases hcut1 with hf | hf
 ·subst hf
  have hcut3 := hcut2 rfl
  simp only [Prod.mk.injEq] at hcut3
  obtain ⟨hc1, hc2, hc3⟩ := hcut3
  obtain rfl := hc1.symm
  obtain rfl := hc2.symm
  obtain rfl := hc3.symm
  clear hcut2
  go_enter Tryd.func7, Tryd.ntmps7
  go_upto_region 12 with (first
   | (go_at_call 9; (refine HA.out.mono ?_); rintro e1 w1 ⟨rfl, hb⟩; have HW1 := Aside0.mk (below_alloc (below_alloc (hb) (.cells (([few] : List ByteArray).map Value.string).toArray 9)) (.cells (([1, 2, 3] : List Int).map (Value.int .i64)).toArray 3)); have HN1 := Aside0.mk (Kd.C_below (strs_C w1 [few] (by decide)) (below_alloc (Below.refl _ _) (.cells (([1, 2, 3] : List Int).map (Value.int .i64)).toArray 3))); have hi := ints_C (w1.alloc (.cells (([few] : List ByteArray).map Value.string).toArray 9)) [1, 2, 3] (by decide); have z1 : (w1.alloc (.cells (([few] : List ByteArray).map Value.string).toArray 9)).heap.size = w1.heap.size + 1 := (by simp); rw [z1] at hi; have HI1 := Aside0.mk hi; clear hi z1; clear hb)
   | (go_at_call 14; have FF := HF.out; clear HF; (refine (isthmuslaw18_Code.calls A0 c0 l A1 c1 l1 (some ⟨w1.heap.size, 0, none⟩) 1 [few] (some ⟨w1.heap.size + 1, 0, none⟩) 3 [1, 2, 3] true ws _ (Kd.C_below HR0.out HW1.out) HC0.out FF).mono ?_); rintro e2 w2 ⟨v0, rfl, hR, hb⟩; obtain ⟨Aw, cw, rfl, hlw, hCw⟩ := Kd.R_reads hR; have HB2 := Aside0.mk (below_step HW1.out hb); have HCW := Aside0.mk hCw; have HLW := Aside0.mk hlw; have HN2 := Aside0.mk (Kd.C_below HN1.out hb); have HI2 := Aside0.mk (Kd.C_below HI1.out hb); have bx0 := heap_alloc_new w2 (.cells (codeC Aw cw ws.length A1 c1 l1.length (some ⟨w1.heap.size, 0, none⟩) 1 1 (some ⟨w1.heap.size + 1, 0, none⟩) 3 3) 26); have BXa := Aside0.mk bx0; have y0 := blk_cell bx0 0; have y1 := blk_cell bx0 1; have y2 := blk_cell bx0 2; have y3 := blk_cell bx0 3; have HXa := Aside0.mk (below_alloc (Below.refl w2.heap.size w2) (.cells (codeC Aw cw ws.length A1 c1 l1.length (some ⟨w1.heap.size, 0, none⟩) 1 1 (some ⟨w1.heap.size + 1, 0, none⟩) 3 3) 26)); clear bx0; clear hR hb hCw hlw HN1 HI1 HW1 FF)
   | (go_at_call 12; have VV := HV.out; clear HV; (refine (verify_at Aw cw ws A1 c1 l1 (some ⟨w1.heap.size, 0, none⟩) 1 [few] (some ⟨w1.heap.size + 1, 0, none⟩) 3 [1, 2, 3] s r k 0 a _ (Kd.C_below HCW.out HXa.out) HLW.out (Kd.C_below HR1.out (below_then HB2.out HB2.out.size HXa.out)) HC1.out (Kd.C_below HN2.out HXa.out) (by decide) (Kd.C_below HI2.out HXa.out) (by decide) HU.out (HG.out.below (below_then HB2.out HB2.out.size HXa.out)) VV).mono ?_); rintro e3 w3 ⟨rfl, hb⟩; have HB3 := Aside0.mk (below_then (below_then HB2.out HB2.out.size HXa.out) (below_then HB2.out HB2.out.size HXa.out).size hb); have HB4 := Aside0.mk (below_alloc HB3.out (.cells (limC s r k) 29)); have BD3 := Aside0.mk (blk_alloc (blk_below BXa.out hb) (.cells (limC s r k) 29)); have L3 := Aside0.mk (heap_alloc_new w3 (.cells (limC s r k) 29)); have HQ3 := Aside0.mk (below_alloc (below_then HXa.out HXa.out.size hb) (.cells (limC s r k) 29)); have HS3 := Aside0.mk (show w2.heap.size ≤ w3.heap.size from Nat.le_trans HXa.out.size hb.size); have ZS := Aside0.mk (show (w3.alloc (.cells (limC s r k) 29)).heap.size = w3.heap.size + 1 by simp); have HP1 := Aside0.mk HC1.out; clear hb VV y0 y1 y2 y3)
   | (at_builtin; have HP := Aside0.mk HP1.out; clear HP1; refine raws_step (w0 := (w3.alloc (.cells (limC s r k) 29))) ((w3.alloc (.cells (limC s r k) 29))).heap.size rfl (.tmp 40) (.tmp 41) rfl (.slice none 0 0) [] l A0 l.length c0 rfl rfl (Kd.R_nil _ _ _ _ _) (Kd.C_below HR0.out HB4.out) (by have := HLL.out; simp only [List.length_nil]; omega) (Below.refl _ _) (Nat.le_refl _) ?_; rintro v1 w4 hR4 hB4; rw [List.nil_append] at hR4; have HR4 := Aside0.mk hR4; have HQ4 := Aside0.mk hB4; clear hR4 hB4)
   | (at_builtin; refine raws_step (w0 := (w3.alloc (.cells (limC s r k) 29))) ((w3.alloc (.cells (limC s r k) 29))).heap.size rfl (.tmp 42) (.tmp 43) rfl v1 l l2 A2 l2.length c2 rfl rfl HR4.out (Kd.C_below HR2.out (below_then HB4.out HB4.out.size HQ4.out)) (by have := HLL.out; omega) HQ4.out HQ4.out.size ?_; rintro v2 w5 hR5 hB5; rw [← HLA.out] at hR5; obtain ⟨Ab, cb, rfl, hlv, hCv⟩ := Kd.R_reads hR5; have HLV := Aside0.mk hlv; have HCV := Aside0.mk hCv; have HQ5 := Aside0.mk hB5; have HB5 := Aside0.mk (below_then HB4.out HB4.out.size hB5); have HW5 := Aside0.mk (below_alloc (below_alloc (below_then HB4.out HB4.out.size hB5) (.cells (([few] : List ByteArray).map Value.string).toArray 9)) (.cells (([1, 2, 3] : List Int).map (Value.int .i64)).toArray 3)); have HN5 := Aside0.mk (Kd.C_below (strs_C w5 [few] (by decide)) (below_alloc (Below.refl _ _) (.cells (([1, 2, 3] : List Int).map (Value.int .i64)).toArray 3))); have hi := ints_C (w5.alloc (.cells (([few] : List ByteArray).map Value.string).toArray 9)) [1, 2, 3] (by decide); have z1 : (w5.alloc (.cells (([few] : List ByteArray).map Value.string).toArray 9)).heap.size = w5.heap.size + 1 := (by simp); rw [z1] at hi; have HI5 := Aside0.mk hi; clear hi z1; have HJ5 := Aside0.mk (below_alloc (below_alloc (Below.refl w5.heap.size w5) (.cells (([few] : List ByteArray).map Value.string).toArray 9)) (.cells (([1, 2, 3] : List Int).map (Value.int .i64)).toArray 3)); have HF2 := Aside0.mk HF2_.out; clear hR5 hB5 hlv hCv HP)
   | (go_at_call 14; (refine (isthmuslaw18_Code.calls Ab cb la A1 c1 l1 (some ⟨w5.heap.size, 0, none⟩) 1 [few] (some ⟨w5.heap.size + 1, 0, none⟩) 3 [1, 2, 3] true wb _ (Kd.C_below HCV.out HJ5.out) HLV.out HF2.out).mono ?_); rintro e6 w6 ⟨v6, rfl, hR, hb⟩; obtain ⟨Ax, cx, rfl, hlw, hCw⟩ := Kd.R_reads hR; have HB6 := Aside0.mk (below_step HW5.out hb); have HCX := Aside0.mk hCw; have HLX := Aside0.mk hlw; have HN6 := Aside0.mk (Kd.C_below HN5.out hb); have HI6 := Aside0.mk (Kd.C_below HI5.out hb); have HQ6 := Aside0.mk (below_then (below_alloc (below_alloc HQ5.out (.cells (([few] : List ByteArray).map Value.string).toArray 9)) (.cells (([1, 2, 3] : List Int).map (Value.int .i64)).toArray 3)) (below_alloc (below_alloc HQ5.out (.cells (([few] : List ByteArray).map Value.string).toArray 9)) (.cells (([1, 2, 3] : List Int).map (Value.int .i64)).toArray 3)).size hb); have bx0 := heap_alloc_new w6 (.cells (codeC Ax cx wb.length A1 c1 l1.length (some ⟨w5.heap.size, 0, none⟩) 1 1 (some ⟨w5.heap.size + 1, 0, none⟩) 3 3) 26); have BXb := Aside0.mk bx0; have y0 := blk_cell bx0 0; have y1 := blk_cell bx0 1; have y2 := blk_cell bx0 2; have y3 := blk_cell bx0 3; have HXb := Aside0.mk (below_alloc (Below.refl w6.heap.size w6) (.cells (codeC Ax cx wb.length A1 c1 l1.length (some ⟨w5.heap.size, 0, none⟩) 1 1 (some ⟨w5.heap.size + 1, 0, none⟩) 3 3) 26)); clear bx0; have HV2 := Aside0.mk HV2_.out; clear hR hb hCw hlw)
   | (go_at_call 12; (refine (verify_at Ax cx wb A1 c1 l1 (some ⟨w5.heap.size, 0, none⟩) 1 [few] (some ⟨w5.heap.size + 1, 0, none⟩) 3 [1, 2, 3] s r k 0 a' _ (Kd.C_below HCX.out HXb.out) HLX.out (Kd.C_below HR1.out (below_then HB6.out HB6.out.size HXb.out)) HC1.out (Kd.C_below HN6.out HXb.out) (by decide) (Kd.C_below HI6.out HXb.out) (by decide) HU2.out (HG.out.below (below_then HB6.out HB6.out.size HXb.out)) HV2.out).mono ?_); rintro e7 w7 ⟨rfl, hb⟩; have HB7 := Aside0.mk (below_alloc (below_then (below_then HB6.out HB6.out.size HXb.out) (below_then HB6.out HB6.out.size HXb.out).size hb) (.cells (limC s r k) 29)); have HQ7 := Aside0.mk (below_alloc (below_then (below_then HQ6.out HQ6.out.size HXb.out) (below_then HQ6.out HQ6.out.size HXb.out).size hb) (.cells (limC s r k) 29)); have b3 := HQ7.out.block w3.heap.size (by rw [ZS.out]; omega); have b2 := HQ7.out.block w2.heap.size (by have := HS3.out; rw [ZS.out]; omega); have LL := b3.trans L3.out; have L7 := heap_alloc_new w7 (.cells (limC s r k) 29); have CC := Aside0.mk (b2.trans BD3.out); have p0 := blk_cell LL 0; have p1 := blk_cell LL 1; have p2 := blk_cell LL 2; have r0 := blk_cell L7 0; have r1 := blk_cell L7 1; have r2 := blk_cell L7 2; have c0_ := blk_cell CC.out 0; have c2_ := blk_cell CC.out 2; have c3_ := blk_cell CC.out 3; clear hb b3 b2 LL L7 y0 y1 y2 y3))
  obtain ⟨ad, rfl, -⟩ := HCW.out.2.2 HLN.out
  clear p0 p1 p2 r0 r1 r2
  have hcap : (1 : Int) ≤ (cw : Int) := by have := HLW.out; have := HLN.out; omega
  refine start_ (n := 11) (S := fun w' => w'.cell? ⟨w2.heap.size, 0, none⟩ = some (.slice (some ad) ws.length cw) ∧ w'.cell? ⟨w2.heap.size, 2, none⟩ = some (.slice (some ⟨w1.heap.size, 0, none⟩) 1 1) ∧ w'.cell? ⟨w2.heap.size, 3, none⟩ = some (.slice (some ⟨w1.heap.size + 1, 0, none⟩) 3 3)) (ds := [10]) #[false, false, false, false, false, false, false, false, false, false, false] (by kernel_rfl) rfl rfl ⟨c0_, c2_, c3_⟩ (fun hHeld => ?_)
  have HB9 := Aside0.mk HB7.out.drew
  have HQ9 := Aside0.mk HQ7.out.drew
  generalize World.drew _ = w9 at HB9 HQ9 hHeld ⊢
  refine pure_ (i := 0) (N := some 71) (v := ?_) (a' := ?_) #[true, false, false, false, false, false, false, false, false, false, false] rfl rfl (by kernel_rfl) (fun _ _ _ h => h) (Or.inl ⟨by rfl, ?_⟩) ?_ ?_
  rotate_left
  ·intro w'
   go_simp
   with_reducible rfl
  rotate_left
  ·simp only [Act.put, List.setIfInBounds_toArray, List.set_cons_zero, List.set_cons_succ, i64_w, i32_w]
   rfl
  refine pure_ (i := 3) (N := some 74) (v := ?_) (a' := ?_) #[true, false, false, true, false, false, false, false, false, false, false] rfl rfl (by kernel_rfl) (fun _ _ _ h => h) (Or.inl ⟨by rfl, ?_⟩) ?_ ?_
  rotate_left
  ·intro w'
   go_simp
   with_reducible rfl
  rotate_left
  ·simp only [Act.put, List.setIfInBounds_toArray, List.set_cons_zero, List.set_cons_succ, i64_w, i32_w]
   rfl
  refine pure_ (i := 4) (N := some 75) (v := ?_) (a' := ?_) #[true, false, false, true, true, false, false, false, false, false, false] rfl rfl (by kernel_rfl) (fun _ _ _ h => h) (Or.inl ⟨by rfl, ?_⟩) ?_ ?_
  rotate_left
  ·intro w'
   go_simp
   with_reducible rfl
  rotate_left
  ·simp only [Act.put, List.setIfInBounds_toArray, List.set_cons_zero, List.set_cons_succ, i64_w, i32_w]
   rfl
  refine pure_ (i := 6) (N := some 77) (v := ?_) (a' := ?_) #[true, false, false, true, true, false, true, false, false, false, false] rfl rfl (by kernel_rfl) (fun _ _ _ h => h) (Or.inl ⟨by rfl, ?_⟩) ?_ ?_
  rotate_left
  ·intro w'
   go_simp
   with_reducible rfl
  rotate_left
  ·simp only [Act.put, List.setIfInBounds_toArray, List.set_cons_zero, List.set_cons_succ, i64_w, i32_w]
   rfl
  refine take_ (i := 1) (N := some 72) (v := ?_) (a' := ?_) #[true, true, false, true, true, false, true, false, false, false, false] rfl rfl (by kernel_rfl) (fun _ _ _ h => h) (Or.inl ⟨by rfl, ?_⟩) hHeld ?_ ?_
  rotate_left
  ·rintro w' ⟨s0, s1, s2⟩
   go_simp
   with_reducible rfl
  rotate_left
  ·simp only [Act.put, List.setIfInBounds_toArray, List.set_cons_zero, List.set_cons_succ, i64_w, i32_w]
   rfl
  refine pure_ (i := 2) (N := some 73) (v := ?_) (a' := ?_) #[true, true, true, true, true, false, true, false, false, false, false] rfl rfl (by kernel_rfl) (fun _ _ _ h => h) (Or.inl ⟨by rfl, ?_⟩) ?_ ?_
  rotate_left
  ·intro w'
   go_simp
   with_reducible rfl
  rotate_left
  ·simp only [Act.put, List.setIfInBounds_toArray, List.set_cons_zero, List.set_cons_succ, i64_w, i32_w]
   rfl
  refine take_ (i := 5) (N := some 76) (v := ?_) (a' := ?_) #[true, true, true, true, true, true, true, false, false, false, false] rfl rfl (by kernel_rfl) (fun _ _ _ h => h) (Or.inl ⟨by rfl, ?_⟩) hHeld ?_ ?_
  rotate_left
  ·rintro w' ⟨s0, s1, s2⟩
   go_simp
   with_reducible rfl
  rotate_left
  ·simp only [Act.put, List.setIfInBounds_toArray, List.set_cons_zero, List.set_cons_succ, i64_w, i32_w]
   rfl
  refine take_ (i := 7) (N := some 78) (v := ?_) (a' := ?_) #[true, true, true, true, true, true, true, true, false, false, false] rfl rfl (by kernel_rfl) (fun _ _ _ h => h) (Or.inl ⟨by rfl, ?_⟩) hHeld ?_ ?_
  rotate_left
  ·rintro w' ⟨s0, s1, s2⟩
   go_simp
   with_reducible rfl
  rotate_left
  ·simp only [Act.put, List.setIfInBounds_toArray, List.set_cons_zero, List.set_cons_succ, i64_w, i32_w]
   rfl
  refine pure_ (i := 8) (N := some 79) (v := ?_) (a' := ?_) #[true, true, true, true, true, true, true, true, true, false, false] rfl rfl (by kernel_rfl) (fun _ _ _ h => h) (Or.inl ⟨by rfl, ?_⟩) ?_ ?_
  rotate_left
  ·intro w'
   go_simp
   with_reducible rfl
  rotate_left
  ·simp only [Act.put, List.setIfInBounds_toArray, List.set_cons_zero, List.set_cons_succ, i64_w, i32_w]
   rfl
  refine one_ (i := 9) (N := some 17) #[true, true, true, true, true, true, true, true, true, true, false] rfl rfl (by kernel_rfl) (by decide) (fun K hK => ?_)
  refine value_ (w1 := (w9.alloc (.cells #[.slice none 0 0, .slice none 0 0, .slice none 0 0, .slice none 0 0] 26))) (v := .pointer (some ⟨w9.heap.size, 0, none⟩)) (by rfl) rfl (by go_simp) ?_
  have hg := heap_alloc_new w9 (.cells #[.slice none 0 0, .slice none 0 0, .slice none 0 0, .slice none 0 0] 26)
  have gg0 : (w9.alloc (.cells #[.slice none 0 0, .slice none 0 0, .slice none 0 0, .slice none 0 0] 26)).cell? ⟨w9.heap.size, 0, none⟩ = some (.slice none 0 0) := blk_cell hg 0
  have gg1 : (w9.alloc (.cells #[.slice none 0 0, .slice none 0 0, .slice none 0 0, .slice none 0 0] 26)).cell? ⟨w9.heap.size, 1, none⟩ = some (.slice none 0 0) := blk_cell hg 1
  have gg2 : (w9.alloc (.cells #[.slice none 0 0, .slice none 0 0, .slice none 0 0, .slice none 0 0] 26)).cell? ⟨w9.heap.size, 2, none⟩ = some (.slice none 0 0) := blk_cell hg 2
  have gg3 : (w9.alloc (.cells #[.slice none 0 0, .slice none 0 0, .slice none 0 0, .slice none 0 0] 26)).cell? ⟨w9.heap.size, 3, none⟩ = some (.slice none 0 0) := blk_cell hg 3
  have ee0 := blk_frozen hg 0
  have ee1 := blk_frozen hg 1
  have ee2 := blk_frozen hg 2
  have ee3 := blk_frozen hg 3
  have hK9 : Below w9.heap.size w9 (w9.alloc (.cells #[.slice none 0 0, .slice none 0 0, .slice none 0 0, .slice none 0 0] 26)) := below_alloc (Below.refl _ _) _
  refine hK.out _ _ ⟨(pw_cell_below hK9 hHeld.1), (pw_cell_below hK9 hHeld.2.1), (pw_cell_below hK9 hHeld.2.2)⟩ (fun hHeld => ?_)
  clear hK K
  refine norm_ (a' := ?_) ?_ ?_
  rotate_left
  ·show Act.put _ (some 17) _ = _
   simp only [Act.put, List.setIfInBounds_toArray, List.set_cons_zero, List.set_cons_succ, i64_w, i32_w]
   rfl
  refine last_ (i := 10) (N := none) #[true, true, true, true, true, true, true, true, true, true, true] rfl rfl (by kernel_rfl) (by decide) (fun K hK => ?_)
  refine skip_ (w1 := (((((w9.alloc (.cells #[.slice none 0 0, .slice none 0 0, .slice none 0 0, .slice none 0 0] 26)).setCell ⟨w9.heap.size, 0, none⟩ (.slice (some ad) 1 cw)).setCell ⟨w9.heap.size, 1, none⟩ (.slice A1 l1.length c1)).setCell ⟨w9.heap.size, 2, none⟩ (.slice (some ⟨w1.heap.size, 0, none⟩) 1 1)).setCell ⟨w9.heap.size, 3, none⟩ (.slice (some ⟨w1.heap.size + 1, 0, none⟩) 3 3))) (by rfl) rfl (by go_simp) ?_
  refine hK.out _ _ ?_
  clear hK K
  refine done_ (by kernel_rfl) ?_
  have hg4 := blk_put (blk_put (blk_put (blk_put hg 0 (.slice (some ad) 1 cw) rfl) 1 (.slice A1 l1.length c1) rfl) 2 (.slice (some ⟨w1.heap.size, 0, none⟩) 1 1) rfl) 3 (.slice (some ⟨w1.heap.size + 1, 0, none⟩) 3 3) rfl
  have HBW := Aside0.mk (show Below w.heap.size w (((((w9.alloc (.cells #[.slice none 0 0, .slice none 0 0, .slice none 0 0, .slice none 0 0] 26)).setCell ⟨w9.heap.size, 0, none⟩ (.slice (some ad) 1 cw)).setCell ⟨w9.heap.size, 1, none⟩ (.slice A1 l1.length c1)).setCell ⟨w9.heap.size, 2, none⟩ (.slice (some ⟨w1.heap.size, 0, none⟩) 1 1)).setCell ⟨w9.heap.size, 3, none⟩ (.slice (some ⟨w1.heap.size + 1, 0, none⟩) 3 3)) from (((((below_alloc HB9.out (.cells #[.slice none 0 0, .slice none 0 0, .slice none 0 0, .slice none 0 0] 26)).setCell (p := ⟨w9.heap.size, 0, none⟩) HB9.out.size _).setCell (p := ⟨w9.heap.size, 1, none⟩) HB9.out.size _).setCell (p := ⟨w9.heap.size, 2, none⟩) HB9.out.size _).setCell (p := ⟨w9.heap.size, 3, none⟩) HB9.out.size _))
  have HQW := Aside0.mk (show Below (w3.alloc (.cells (limC s r k) 29)).heap.size (w3.alloc (.cells (limC s r k) 29)) (((((w9.alloc (.cells #[.slice none 0 0, .slice none 0 0, .slice none 0 0, .slice none 0 0] 26)).setCell ⟨w9.heap.size, 0, none⟩ (.slice (some ad) 1 cw)).setCell ⟨w9.heap.size, 1, none⟩ (.slice A1 l1.length c1)).setCell ⟨w9.heap.size, 2, none⟩ (.slice (some ⟨w1.heap.size, 0, none⟩) 1 1)).setCell ⟨w9.heap.size, 3, none⟩ (.slice (some ⟨w1.heap.size + 1, 0, none⟩) 3 3)) from (((((below_alloc HQ9.out (.cells #[.slice none 0 0, .slice none 0 0, .slice none 0 0, .slice none 0 0] 26)).setCell (p := ⟨w9.heap.size, 0, none⟩) HQ9.out.size _).setCell (p := ⟨w9.heap.size, 1, none⟩) HQ9.out.size _).setCell (p := ⟨w9.heap.size, 2, none⟩) HQ9.out.size _).setCell (p := ⟨w9.heap.size, 3, none⟩) HQ9.out.size _))
  generalize (((((w9.alloc (.cells #[.slice none 0 0, .slice none 0 0, .slice none 0 0, .slice none 0 0] 26)).setCell ⟨w9.heap.size, 0, none⟩ (.slice (some ad) 1 cw)).setCell ⟨w9.heap.size, 1, none⟩ (.slice A1 l1.length c1)).setCell ⟨w9.heap.size, 2, none⟩ (.slice (some ⟨w1.heap.size, 0, none⟩) 1 1)).setCell ⟨w9.heap.size, 3, none⟩ (.slice (some ⟨w1.heap.size + 1, 0, none⟩) 3 3)) = w10 at hg4 HBW HQW ⊢
  have HBD := Aside0.mk (below_then HQ3.out HQ3.out.size HQW.out)
  have HT1 := Aside0.mk (C_take HCW.out 1 HLN.out)
  have u0 := blk_cell hg4 0
  have u1 := blk_cell hg4 1
  have u2 := blk_cell hg4 2
  have u3 := blk_cell hg4 3
  clear hHeld hg gg0 gg1 gg2 gg3 ee0 ee1 ee2 ee3 hK9 hg4
  go_wp2_with (go_at_call 12; have hq := verify_at (some ad) cw (ws.take 1) A1 c1 l1 (some ⟨w1.heap.size, 0, none⟩) 1 [few] (some ⟨w1.heap.size + 1, 0, none⟩) 3 [1, 2, 3] s1 r1 k1 g 0 _ (by rw [HL1.out]; exact Kd.C_below HT1.out HBD.out) (by rw [HL1.out]; have := HLW.out; have := HLN.out; omega) (Kd.C_below HR1.out HBW.out) HC1.out (Kd.C_below HN2.out HBD.out) (by decide) (Kd.C_below HI2.out HBD.out) (by decide) HUT.out (HG.out.below HBW.out) HV1.out; rw [HL1.out] at hq; (refine hq.mono ?_); rintro e8 w8 ⟨rfl, hb⟩; have HB8 := Aside0.mk (below_alloc (below_then HBW.out HBW.out.size hb) (.cells (limC s1 r1 k1) 29)); clear hb hq)
  go_ret
  exact ⟨rfl, HB8.out⟩
 ·subst hf
  clear hcut2
  go_enter Tryd.func7, Tryd.ntmps7
  go_upto_region 12 with (first
   | (go_at_call 9; (refine HA.out.mono ?_); rintro e1 w1 ⟨rfl, hb⟩; have HW1 := Aside0.mk (below_alloc (below_alloc (hb) (.cells (([few] : List ByteArray).map Value.string).toArray 9)) (.cells (([1, 2, 3] : List Int).map (Value.int .i64)).toArray 3)); have HN1 := Aside0.mk (Kd.C_below (strs_C w1 [few] (by decide)) (below_alloc (Below.refl _ _) (.cells (([1, 2, 3] : List Int).map (Value.int .i64)).toArray 3))); have hi := ints_C (w1.alloc (.cells (([few] : List ByteArray).map Value.string).toArray 9)) [1, 2, 3] (by decide); have z1 : (w1.alloc (.cells (([few] : List ByteArray).map Value.string).toArray 9)).heap.size = w1.heap.size + 1 := (by simp); rw [z1] at hi; have HI1 := Aside0.mk hi; clear hi z1; clear hb)
   | (go_at_call 14; have FF := HF.out; clear HF; (refine (isthmuslaw18_Code.calls A0 c0 l A1 c1 l1 (some ⟨w1.heap.size, 0, none⟩) 1 [few] (some ⟨w1.heap.size + 1, 0, none⟩) 3 [1, 2, 3] true ws _ (Kd.C_below HR0.out HW1.out) HC0.out FF).mono ?_); rintro e2 w2 ⟨v0, rfl, hR, hb⟩; obtain ⟨Aw, cw, rfl, hlw, hCw⟩ := Kd.R_reads hR; have HB2 := Aside0.mk (below_step HW1.out hb); have HCW := Aside0.mk hCw; have HLW := Aside0.mk hlw; have HN2 := Aside0.mk (Kd.C_below HN1.out hb); have HI2 := Aside0.mk (Kd.C_below HI1.out hb); have bx0 := heap_alloc_new w2 (.cells (codeC Aw cw ws.length A1 c1 l1.length (some ⟨w1.heap.size, 0, none⟩) 1 1 (some ⟨w1.heap.size + 1, 0, none⟩) 3 3) 26); have BXa := Aside0.mk bx0; have y0 := blk_cell bx0 0; have y1 := blk_cell bx0 1; have y2 := blk_cell bx0 2; have y3 := blk_cell bx0 3; have HXa := Aside0.mk (below_alloc (Below.refl w2.heap.size w2) (.cells (codeC Aw cw ws.length A1 c1 l1.length (some ⟨w1.heap.size, 0, none⟩) 1 1 (some ⟨w1.heap.size + 1, 0, none⟩) 3 3) 26)); clear bx0; clear hR hb hCw hlw HN1 HI1 HW1 FF)
   | (go_at_call 12; have VV := HV.out; clear HV; (refine (verify_at Aw cw ws A1 c1 l1 (some ⟨w1.heap.size, 0, none⟩) 1 [few] (some ⟨w1.heap.size + 1, 0, none⟩) 3 [1, 2, 3] s r k 0 a _ (Kd.C_below HCW.out HXa.out) HLW.out (Kd.C_below HR1.out (below_then HB2.out HB2.out.size HXa.out)) HC1.out (Kd.C_below HN2.out HXa.out) (by decide) (Kd.C_below HI2.out HXa.out) (by decide) HU.out (HG.out.below (below_then HB2.out HB2.out.size HXa.out)) VV).mono ?_); rintro e3 w3 ⟨rfl, hb⟩; have HB3 := Aside0.mk (below_then (below_then HB2.out HB2.out.size HXa.out) (below_then HB2.out HB2.out.size HXa.out).size hb); have HB4 := Aside0.mk (below_alloc HB3.out (.cells (limC s r k) 29)); have BD3 := Aside0.mk (blk_alloc (blk_below BXa.out hb) (.cells (limC s r k) 29)); have L3 := Aside0.mk (heap_alloc_new w3 (.cells (limC s r k) 29)); have HQ3 := Aside0.mk (below_alloc (below_then HXa.out HXa.out.size hb) (.cells (limC s r k) 29)); have HS3 := Aside0.mk (show w2.heap.size ≤ w3.heap.size from Nat.le_trans HXa.out.size hb.size); have ZS := Aside0.mk (show (w3.alloc (.cells (limC s r k) 29)).heap.size = w3.heap.size + 1 by simp); have HP1 := Aside0.mk HC1.out; clear hb VV y0 y1 y2 y3)
   | (at_builtin; have HP := Aside0.mk HP1.out; clear HP1; refine raws_step (w0 := (w3.alloc (.cells (limC s r k) 29))) ((w3.alloc (.cells (limC s r k) 29))).heap.size rfl (.tmp 40) (.tmp 41) rfl (.slice none 0 0) [] l A0 l.length c0 rfl rfl (Kd.R_nil _ _ _ _ _) (Kd.C_below HR0.out HB4.out) (by have := HLL.out; simp only [List.length_nil]; omega) (Below.refl _ _) (Nat.le_refl _) ?_; rintro v1 w4 hR4 hB4; rw [List.nil_append] at hR4; have HR4 := Aside0.mk hR4; have HQ4 := Aside0.mk hB4; clear hR4 hB4)
   | (at_builtin; refine raws_step (w0 := (w3.alloc (.cells (limC s r k) 29))) ((w3.alloc (.cells (limC s r k) 29))).heap.size rfl (.tmp 42) (.tmp 43) rfl v1 l l2 A2 l2.length c2 rfl rfl HR4.out (Kd.C_below HR2.out (below_then HB4.out HB4.out.size HQ4.out)) (by have := HLL.out; omega) HQ4.out HQ4.out.size ?_; rintro v2 w5 hR5 hB5; rw [← HLA.out] at hR5; obtain ⟨Ab, cb, rfl, hlv, hCv⟩ := Kd.R_reads hR5; have HLV := Aside0.mk hlv; have HCV := Aside0.mk hCv; have HQ5 := Aside0.mk hB5; have HB5 := Aside0.mk (below_then HB4.out HB4.out.size hB5); have HW5 := Aside0.mk (below_alloc (below_alloc (below_then HB4.out HB4.out.size hB5) (.cells (([few] : List ByteArray).map Value.string).toArray 9)) (.cells (([1, 2, 3] : List Int).map (Value.int .i64)).toArray 3)); have HN5 := Aside0.mk (Kd.C_below (strs_C w5 [few] (by decide)) (below_alloc (Below.refl _ _) (.cells (([1, 2, 3] : List Int).map (Value.int .i64)).toArray 3))); have hi := ints_C (w5.alloc (.cells (([few] : List ByteArray).map Value.string).toArray 9)) [1, 2, 3] (by decide); have z1 : (w5.alloc (.cells (([few] : List ByteArray).map Value.string).toArray 9)).heap.size = w5.heap.size + 1 := (by simp); rw [z1] at hi; have HI5 := Aside0.mk hi; clear hi z1; have HJ5 := Aside0.mk (below_alloc (below_alloc (Below.refl w5.heap.size w5) (.cells (([few] : List ByteArray).map Value.string).toArray 9)) (.cells (([1, 2, 3] : List Int).map (Value.int .i64)).toArray 3)); have HF2 := Aside0.mk HF2_.out; clear hR5 hB5 hlv hCv HP)
   | (go_at_call 14; (refine (isthmuslaw18_Code.calls Ab cb la A1 c1 l1 (some ⟨w5.heap.size, 0, none⟩) 1 [few] (some ⟨w5.heap.size + 1, 0, none⟩) 3 [1, 2, 3] true wb _ (Kd.C_below HCV.out HJ5.out) HLV.out HF2.out).mono ?_); rintro e6 w6 ⟨v6, rfl, hR, hb⟩; obtain ⟨Ax, cx, rfl, hlw, hCw⟩ := Kd.R_reads hR; have HB6 := Aside0.mk (below_step HW5.out hb); have HCX := Aside0.mk hCw; have HLX := Aside0.mk hlw; have HN6 := Aside0.mk (Kd.C_below HN5.out hb); have HI6 := Aside0.mk (Kd.C_below HI5.out hb); have HQ6 := Aside0.mk (below_then (below_alloc (below_alloc HQ5.out (.cells (([few] : List ByteArray).map Value.string).toArray 9)) (.cells (([1, 2, 3] : List Int).map (Value.int .i64)).toArray 3)) (below_alloc (below_alloc HQ5.out (.cells (([few] : List ByteArray).map Value.string).toArray 9)) (.cells (([1, 2, 3] : List Int).map (Value.int .i64)).toArray 3)).size hb); have bx0 := heap_alloc_new w6 (.cells (codeC Ax cx wb.length A1 c1 l1.length (some ⟨w5.heap.size, 0, none⟩) 1 1 (some ⟨w5.heap.size + 1, 0, none⟩) 3 3) 26); have BXb := Aside0.mk bx0; have y0 := blk_cell bx0 0; have y1 := blk_cell bx0 1; have y2 := blk_cell bx0 2; have y3 := blk_cell bx0 3; have HXb := Aside0.mk (below_alloc (Below.refl w6.heap.size w6) (.cells (codeC Ax cx wb.length A1 c1 l1.length (some ⟨w5.heap.size, 0, none⟩) 1 1 (some ⟨w5.heap.size + 1, 0, none⟩) 3 3) 26)); clear bx0; have HV2 := Aside0.mk HV2_.out; clear hR hb hCw hlw)
   | (go_at_call 12; (refine (verify_at Ax cx wb A1 c1 l1 (some ⟨w5.heap.size, 0, none⟩) 1 [few] (some ⟨w5.heap.size + 1, 0, none⟩) 3 [1, 2, 3] s' r' k' 180 a' _ (Kd.C_below HCX.out HXb.out) HLX.out (Kd.C_below HR1.out (below_then HB6.out HB6.out.size HXb.out)) HC1.out (Kd.C_below HN6.out HXb.out) (by decide) (Kd.C_below HI6.out HXb.out) (by decide) HU2.out (HG.out.below (below_then HB6.out HB6.out.size HXb.out)) HV2.out).mono ?_); rintro e7 w7 ⟨rfl, hb⟩; have HB7 := Aside0.mk (below_alloc (below_then (below_then HB6.out HB6.out.size HXb.out) (below_then HB6.out HB6.out.size HXb.out).size hb) (.cells (limC s' r' k') 29)); have HQ7 := Aside0.mk (below_alloc (below_then (below_then HQ6.out HQ6.out.size HXb.out) (below_then HQ6.out HQ6.out.size HXb.out).size hb) (.cells (limC s' r' k') 29)); have b3 := HQ7.out.block w3.heap.size (by rw [ZS.out]; omega); have b2 := HQ7.out.block w2.heap.size (by have := HS3.out; rw [ZS.out]; omega); have LL := b3.trans L3.out; have L7 := heap_alloc_new w7 (.cells (limC s' r' k') 29); have CC := Aside0.mk (b2.trans BD3.out); have p0 := blk_cell LL 0; have p1 := blk_cell LL 1; have p2 := blk_cell LL 2; have r0 := blk_cell L7 0; have r1 := blk_cell L7 1; have r2 := blk_cell L7 2; have c0_ := blk_cell CC.out 0; have c2_ := blk_cell CC.out 2; have c3_ := blk_cell CC.out 3; clear hb b3 b2 LL L7 y0 y1 y2 y3))
  obtain ⟨ad, rfl, -⟩ := HCW.out.2.2 HLN.out
  clear p0 p1 p2 r0 r1 r2
  have hcap : (1 : Int) ≤ (cw : Int) := by have := HLW.out; have := HLN.out; omega
  refine start_ (n := 11) (S := fun w' => w'.cell? ⟨w2.heap.size, 0, none⟩ = some (.slice (some ad) ws.length cw) ∧ w'.cell? ⟨w2.heap.size, 2, none⟩ = some (.slice (some ⟨w1.heap.size, 0, none⟩) 1 1) ∧ w'.cell? ⟨w2.heap.size, 3, none⟩ = some (.slice (some ⟨w1.heap.size + 1, 0, none⟩) 3 3)) (ds := [10]) #[false, false, false, false, false, false, false, false, false, false, false] (by kernel_rfl) rfl rfl ⟨c0_, c2_, c3_⟩ (fun hHeld => ?_)
  have HB9 := Aside0.mk HB7.out.drew
  have HQ9 := Aside0.mk HQ7.out.drew
  generalize World.drew _ = w9 at HB9 HQ9 hHeld ⊢
  refine pure_ (i := 0) (N := some 71) (v := ?_) (a' := ?_) #[true, false, false, false, false, false, false, false, false, false, false] rfl rfl (by kernel_rfl) (fun _ _ _ h => h) (Or.inl ⟨by rfl, ?_⟩) ?_ ?_
  rotate_left
  ·intro w'
   go_simp
   with_reducible rfl
  rotate_left
  ·simp only [Act.put, List.setIfInBounds_toArray, List.set_cons_zero, List.set_cons_succ, i64_w, i32_w]
   rfl
  refine pure_ (i := 3) (N := some 74) (v := ?_) (a' := ?_) #[true, false, false, true, false, false, false, false, false, false, false] rfl rfl (by kernel_rfl) (fun _ _ _ h => h) (Or.inl ⟨by rfl, ?_⟩) ?_ ?_
  rotate_left
  ·intro w'
   go_simp
   with_reducible rfl
  rotate_left
  ·simp only [Act.put, List.setIfInBounds_toArray, List.set_cons_zero, List.set_cons_succ, i64_w, i32_w]
   rfl
  refine pure_ (i := 4) (N := some 75) (v := ?_) (a' := ?_) #[true, false, false, true, true, false, false, false, false, false, false] rfl rfl (by kernel_rfl) (fun _ _ _ h => h) (Or.inl ⟨by rfl, ?_⟩) ?_ ?_
  rotate_left
  ·intro w'
   go_simp
   with_reducible rfl
  rotate_left
  ·simp only [Act.put, List.setIfInBounds_toArray, List.set_cons_zero, List.set_cons_succ, i64_w, i32_w]
   rfl
  refine pure_ (i := 6) (N := some 77) (v := ?_) (a' := ?_) #[true, false, false, true, true, false, true, false, false, false, false] rfl rfl (by kernel_rfl) (fun _ _ _ h => h) (Or.inl ⟨by rfl, ?_⟩) ?_ ?_
  rotate_left
  ·intro w'
   go_simp
   with_reducible rfl
  rotate_left
  ·simp only [Act.put, List.setIfInBounds_toArray, List.set_cons_zero, List.set_cons_succ, i64_w, i32_w]
   rfl
  refine take_ (i := 1) (N := some 72) (v := ?_) (a' := ?_) #[true, true, false, true, true, false, true, false, false, false, false] rfl rfl (by kernel_rfl) (fun _ _ _ h => h) (Or.inl ⟨by rfl, ?_⟩) hHeld ?_ ?_
  rotate_left
  ·rintro w' ⟨s0, s1, s2⟩
   go_simp
   with_reducible rfl
  rotate_left
  ·simp only [Act.put, List.setIfInBounds_toArray, List.set_cons_zero, List.set_cons_succ, i64_w, i32_w]
   rfl
  refine pure_ (i := 2) (N := some 73) (v := ?_) (a' := ?_) #[true, true, true, true, true, false, true, false, false, false, false] rfl rfl (by kernel_rfl) (fun _ _ _ h => h) (Or.inl ⟨by rfl, ?_⟩) ?_ ?_
  rotate_left
  ·intro w'
   go_simp
   with_reducible rfl
  rotate_left
  ·simp only [Act.put, List.setIfInBounds_toArray, List.set_cons_zero, List.set_cons_succ, i64_w, i32_w]
   rfl
  refine take_ (i := 5) (N := some 76) (v := ?_) (a' := ?_) #[true, true, true, true, true, true, true, false, false, false, false] rfl rfl (by kernel_rfl) (fun _ _ _ h => h) (Or.inl ⟨by rfl, ?_⟩) hHeld ?_ ?_
  rotate_left
  ·rintro w' ⟨s0, s1, s2⟩
   go_simp
   with_reducible rfl
  rotate_left
  ·simp only [Act.put, List.setIfInBounds_toArray, List.set_cons_zero, List.set_cons_succ, i64_w, i32_w]
   rfl
  refine take_ (i := 7) (N := some 78) (v := ?_) (a' := ?_) #[true, true, true, true, true, true, true, true, false, false, false] rfl rfl (by kernel_rfl) (fun _ _ _ h => h) (Or.inl ⟨by rfl, ?_⟩) hHeld ?_ ?_
  rotate_left
  ·rintro w' ⟨s0, s1, s2⟩
   go_simp
   with_reducible rfl
  rotate_left
  ·simp only [Act.put, List.setIfInBounds_toArray, List.set_cons_zero, List.set_cons_succ, i64_w, i32_w]
   rfl
  refine pure_ (i := 8) (N := some 79) (v := ?_) (a' := ?_) #[true, true, true, true, true, true, true, true, true, false, false] rfl rfl (by kernel_rfl) (fun _ _ _ h => h) (Or.inl ⟨by rfl, ?_⟩) ?_ ?_
  rotate_left
  ·intro w'
   go_simp
   with_reducible rfl
  rotate_left
  ·simp only [Act.put, List.setIfInBounds_toArray, List.set_cons_zero, List.set_cons_succ, i64_w, i32_w]
   rfl
  refine one_ (i := 9) (N := some 17) #[true, true, true, true, true, true, true, true, true, true, false] rfl rfl (by kernel_rfl) (by decide) (fun K hK => ?_)
  refine value_ (w1 := (w9.alloc (.cells #[.slice none 0 0, .slice none 0 0, .slice none 0 0, .slice none 0 0] 26))) (v := .pointer (some ⟨w9.heap.size, 0, none⟩)) (by rfl) rfl (by go_simp) ?_
  have hg := heap_alloc_new w9 (.cells #[.slice none 0 0, .slice none 0 0, .slice none 0 0, .slice none 0 0] 26)
  have gg0 : (w9.alloc (.cells #[.slice none 0 0, .slice none 0 0, .slice none 0 0, .slice none 0 0] 26)).cell? ⟨w9.heap.size, 0, none⟩ = some (.slice none 0 0) := blk_cell hg 0
  have gg1 : (w9.alloc (.cells #[.slice none 0 0, .slice none 0 0, .slice none 0 0, .slice none 0 0] 26)).cell? ⟨w9.heap.size, 1, none⟩ = some (.slice none 0 0) := blk_cell hg 1
  have gg2 : (w9.alloc (.cells #[.slice none 0 0, .slice none 0 0, .slice none 0 0, .slice none 0 0] 26)).cell? ⟨w9.heap.size, 2, none⟩ = some (.slice none 0 0) := blk_cell hg 2
  have gg3 : (w9.alloc (.cells #[.slice none 0 0, .slice none 0 0, .slice none 0 0, .slice none 0 0] 26)).cell? ⟨w9.heap.size, 3, none⟩ = some (.slice none 0 0) := blk_cell hg 3
  have ee0 := blk_frozen hg 0
  have ee1 := blk_frozen hg 1
  have ee2 := blk_frozen hg 2
  have ee3 := blk_frozen hg 3
  have hK9 : Below w9.heap.size w9 (w9.alloc (.cells #[.slice none 0 0, .slice none 0 0, .slice none 0 0, .slice none 0 0] 26)) := below_alloc (Below.refl _ _) _
  refine hK.out _ _ ⟨(pw_cell_below hK9 hHeld.1), (pw_cell_below hK9 hHeld.2.1), (pw_cell_below hK9 hHeld.2.2)⟩ (fun hHeld => ?_)
  clear hK K
  refine norm_ (a' := ?_) ?_ ?_
  rotate_left
  ·show Act.put _ (some 17) _ = _
   simp only [Act.put, List.setIfInBounds_toArray, List.set_cons_zero, List.set_cons_succ, i64_w, i32_w]
   rfl
  refine last_ (i := 10) (N := none) #[true, true, true, true, true, true, true, true, true, true, true] rfl rfl (by kernel_rfl) (by decide) (fun K hK => ?_)
  refine skip_ (w1 := (((((w9.alloc (.cells #[.slice none 0 0, .slice none 0 0, .slice none 0 0, .slice none 0 0] 26)).setCell ⟨w9.heap.size, 0, none⟩ (.slice (some ad) 1 cw)).setCell ⟨w9.heap.size, 1, none⟩ (.slice A1 l1.length c1)).setCell ⟨w9.heap.size, 2, none⟩ (.slice (some ⟨w1.heap.size, 0, none⟩) 1 1)).setCell ⟨w9.heap.size, 3, none⟩ (.slice (some ⟨w1.heap.size + 1, 0, none⟩) 3 3))) (by rfl) rfl (by go_simp) ?_
  refine hK.out _ _ ?_
  clear hK K
  refine done_ (by kernel_rfl) ?_
  have hg4 := blk_put (blk_put (blk_put (blk_put hg 0 (.slice (some ad) 1 cw) rfl) 1 (.slice A1 l1.length c1) rfl) 2 (.slice (some ⟨w1.heap.size, 0, none⟩) 1 1) rfl) 3 (.slice (some ⟨w1.heap.size + 1, 0, none⟩) 3 3) rfl
  have HBW := Aside0.mk (show Below w.heap.size w (((((w9.alloc (.cells #[.slice none 0 0, .slice none 0 0, .slice none 0 0, .slice none 0 0] 26)).setCell ⟨w9.heap.size, 0, none⟩ (.slice (some ad) 1 cw)).setCell ⟨w9.heap.size, 1, none⟩ (.slice A1 l1.length c1)).setCell ⟨w9.heap.size, 2, none⟩ (.slice (some ⟨w1.heap.size, 0, none⟩) 1 1)).setCell ⟨w9.heap.size, 3, none⟩ (.slice (some ⟨w1.heap.size + 1, 0, none⟩) 3 3)) from (((((below_alloc HB9.out (.cells #[.slice none 0 0, .slice none 0 0, .slice none 0 0, .slice none 0 0] 26)).setCell (p := ⟨w9.heap.size, 0, none⟩) HB9.out.size _).setCell (p := ⟨w9.heap.size, 1, none⟩) HB9.out.size _).setCell (p := ⟨w9.heap.size, 2, none⟩) HB9.out.size _).setCell (p := ⟨w9.heap.size, 3, none⟩) HB9.out.size _))
  have HQW := Aside0.mk (show Below (w3.alloc (.cells (limC s r k) 29)).heap.size (w3.alloc (.cells (limC s r k) 29)) (((((w9.alloc (.cells #[.slice none 0 0, .slice none 0 0, .slice none 0 0, .slice none 0 0] 26)).setCell ⟨w9.heap.size, 0, none⟩ (.slice (some ad) 1 cw)).setCell ⟨w9.heap.size, 1, none⟩ (.slice A1 l1.length c1)).setCell ⟨w9.heap.size, 2, none⟩ (.slice (some ⟨w1.heap.size, 0, none⟩) 1 1)).setCell ⟨w9.heap.size, 3, none⟩ (.slice (some ⟨w1.heap.size + 1, 0, none⟩) 3 3)) from (((((below_alloc HQ9.out (.cells #[.slice none 0 0, .slice none 0 0, .slice none 0 0, .slice none 0 0] 26)).setCell (p := ⟨w9.heap.size, 0, none⟩) HQ9.out.size _).setCell (p := ⟨w9.heap.size, 1, none⟩) HQ9.out.size _).setCell (p := ⟨w9.heap.size, 2, none⟩) HQ9.out.size _).setCell (p := ⟨w9.heap.size, 3, none⟩) HQ9.out.size _))
  generalize (((((w9.alloc (.cells #[.slice none 0 0, .slice none 0 0, .slice none 0 0, .slice none 0 0] 26)).setCell ⟨w9.heap.size, 0, none⟩ (.slice (some ad) 1 cw)).setCell ⟨w9.heap.size, 1, none⟩ (.slice A1 l1.length c1)).setCell ⟨w9.heap.size, 2, none⟩ (.slice (some ⟨w1.heap.size, 0, none⟩) 1 1)).setCell ⟨w9.heap.size, 3, none⟩ (.slice (some ⟨w1.heap.size + 1, 0, none⟩) 3 3)) = w10 at hg4 HBW HQW ⊢
  have HBD := Aside0.mk (below_then HQ3.out HQ3.out.size HQW.out)
  have HT1 := Aside0.mk (C_take HCW.out 1 HLN.out)
  have u0 := blk_cell hg4 0
  have u1 := blk_cell hg4 1
  have u2 := blk_cell hg4 2
  have u3 := blk_cell hg4 3
  clear hHeld hg gg0 gg1 gg2 gg3 ee0 ee1 ee2 ee3 hK9 hg4
  go_wp2_with (go_at_call 12; have hq := verify_at (some ad) cw (ws.take 1) A1 c1 l1 (some ⟨w1.heap.size, 0, none⟩) 1 [few] (some ⟨w1.heap.size + 1, 0, none⟩) 3 [1, 2, 3] s1 r1 k1 g 0 _ (by rw [HL1.out]; exact Kd.C_below HT1.out HBD.out) (by rw [HL1.out]; have := HLW.out; have := HLN.out; omega) (Kd.C_below HR1.out HBW.out) HC1.out (Kd.C_below HN2.out HBD.out) (by decide) (Kd.C_below HI2.out HBD.out) (by decide) HUT.out (HG.out.below HBW.out) HV1.out; rw [HL1.out] at hq; (refine hq.mono ?_); rintro e8 w8 ⟨rfl, hb⟩; have HB8 := Aside0.mk (below_alloc (below_then HBW.out HBW.out.size hb) (.cells (limC s1 r1 k1) 29)); clear hb hq)
  go_ret
  exact ⟨rfl, HB8.out⟩
end Go.Proofs.YtcmdjpolgaejoaaDoor.Gd
