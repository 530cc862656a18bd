/- The law on Scan of layer 11, walked by hand: with what Scan gives, it returns true; what it writes over is its own. -/
import Derived.Test.YtijcoddbkefmlaaLx8
import Derived.Test.YtijcoddbkefmlaaLx9
import Derived.Test.YtijcoddbkefmlaaLx15
import Derived.ArgAppend
namespace Go.Proofs.Ytijcoddbkefmlaa.L
open Go.RowKit Go.Proofs.YtijcoddbkefmlaaW.PrintWords Go.Proofs.YtijcoddbkefmlaaW.PrintLast Go.Proofs.YtijcoddbkefmlaaW.PrintMore

theorem own_facts {W : World} {base n m c : Nat} {e : TypeId} {size : Nat} {A : Option Addr} {xs : List Value} (h : W.ownsRow base e size (.slice A m c) n xs) (hm : n = m) : xs.length = n * size ∧ (A = none → n = 0 ∧ n = 0) ∧ ∀ b, A = some b → ∀ j u, xs[j]? = some u → W.cell? (b.add j) = some u := by
  subst hm
  refine ⟨h.1, fun hA => ?_, fun b hb j u hu => ?_⟩
  · subst hA
    rcases h.2 with ⟨_, h0⟩ | ⟨g, cap, cur, hv, _⟩
    · exact ⟨h0, h0⟩
    · cases hv
  · subst hb
    rcases h.2 with ⟨hv, _⟩ | ⟨g, cap, cur, hv, _⟩
    · cases hv
    · injection hv with hv _ _
      injection hv with hv
      subst hv
      exact h.cells (g := g) (by simp [Value.ownBlock]) _ u hu
theorem blk_new (w : World) (o : Obj) : (w.alloc o).heap[w.heap.size]? = some o := by
  show (w.heap.push o)[w.heap.size]? = some o
  rw [Array.getElem?_push, if_pos rfl]
set_option maxHeartbeats 8000000 in
set_option maxRecDepth 100000 in
theorem isthmuslaw11_LexScans.calls (k : Nat) (a0 : ByteArray) (r1 : List S29) (r2 r3 : Int) (w : World) (h1 : isthmuslaw11_awake.f k = some true) (h2 : lex_Scan.f k a0 = some (r1, r2, r3)) (h3 : isthmusref11_Scan.f k a0 = some (r1, r2, r3)) (h4 : isthmuslaw11_Same.f k r1 r1 = some true) (hl : r1.length ≤ 3000) :
    Calls Try.prog 3 #[.string a0] w fun e w' => e = .returned (.bool true) ∧ Below w.heap.size w w' := by
  have A1 := Aside0.mk h1
  have A2 := Aside0.mk h2
  have A3 := Aside0.mk h3
  have A4 := Aside0.mk h4
  clear h1 h2 h3 h4
  go_enter Try.func3, Try.ntmps3
  go_wp2_with (first
    | (go_at_call 9; (with_reducible refine (isthmuslaw11_awake.calls k true _ A1.out).mono ?_); rintro e w1 ⟨rfl, hb1⟩)
    | (go_at_call 10; (with_reducible refine (isthmusref11_Scan.calls k a0 r1 r2 r3 _ A3.out).mono ?_); rintro e w2 ⟨v4, rfl, ho, hb2⟩))
  have HO4 := Aside0.mk (Kd.R_lower ho hb1.size)
  have HB := Aside0.mk (below_then hb1 hb1.size hb2)
  clear ho hb1 hb2
  go_loopw [7] (fun v7 w' => ∃ x7 : Nat, v7 = .int .i64 x7 ∧ x7 ≤ 2 ∧ Aside0 (Kd.R k29 29 w' w.heap.size (fun _ => True) v4 r1) ∧ Aside0 (Below w.heap.size w w')) (fun v7 _ => 2 - (intOf v7).toNat)
  case atStart => exact ⟨0, rfl, by omega, HO4, HB⟩
  case round =>
    clear HO4 HB
    obtain ⟨x7, rfl, hx7, HO4, HB⟩ := hrel
    obtain ⟨Aw, cw, ew⟩ := Kd.R_slice HO4.out
    subst ew
    by_cases hlt : x7 < 2
    · go_wp2_with (first
        | (go_at_call 11; (with_reducible refine (lex_Scan.callsC k a0 r1 r2 r3 _ A2.out).mono ?_); rintro e w3 ⟨v8, rfl, ⟨Ar, cr, rfl, hr8⟩, hb3⟩; have HR8 := Aside0.mk hr8; have HB3 := Aside0.mk hb3; have HS1 := Aside0.mk (Kd.R_reads' hr8).2.2; have HS2 := Aside0.mk (Nat.le_refl r1.length); have HS3 := Aside0.mk (Kd.R_reads' (Kd.R_below HO4.out hb3)).2.2; have HS4 := Aside0.mk (Kd.R_reads' (Kd.R_below HO4.out hb3)).2.1; clear hr8 hb3)
        | (go_at_call 12; (with_reducible refine (isthmuslaw11_Same.calls k _ _ r1 _ _ r1 true _ HS1.out HS2.out HS3.out HS4.out A4.out).mono ?_); rintro e w4 ⟨rfl, ⟨nd, rfl⟩⟩))
      have HRr := Aside0.mk (Kd.R_drewN HR8.out nd)
      have HOw := Aside0.mk (Kd.R_drewN (Kd.R_mono (Kd.R_step (Kd.R_bound HO4.out) (fun i _ hi => HB3.out.block i hi)) (ok' := fun i => i < wr.heap.size) (fun i hi => hi.2.2.1)) nd)
      have HBw := Aside0.mk (pw_below_drewN (below_then HB.out HB.out.size HB3.out) nd)
      have HN := Aside0.mk HB.out.size
      generalize w3.drewN nd = w4 at *
      clear HR8 HO4 HB HB3 HS1 HS2 HS3 HS4
      obtain ⟨N, hN⟩ : ∃ N, N = wr.heap.size := ⟨_, rfl⟩
      rw [← hN] at HRr HOw HN
      clear hN
      go_loopw [12] (fun v12 w' => ∃ (j : Nat) (ys : List S29), v12 = .int .i64 j ∧ j ≤ r1.length ∧ Aside0 (ys.length = r1.length) ∧ Aside0 (Kd.R k29 29 w' N (fun i => N ≤ i) (.slice Ar r1.length cr) ys) ∧ Aside0 (Kd.R k29 29 w' w.heap.size (fun i => i < N) (.slice Aw r1.length cw) r1) ∧ Aside0 (Below w.heap.size w w')) (fun v12 _ => r1.length - (intOf v12).toNat)
      case atStart => exact ⟨0, r1, rfl, Nat.zero_le _, ⟨rfl⟩, HRr, HOw, HBw⟩
      case round =>
        clear HRr HOw HBw
        obtain ⟨j, ys, rfl, hj, HY, HRr, HOw, HBw⟩ := hrel
        by_cases hjl : j < r1.length
        · obtain ⟨g, c0, eA, hg0, hg1, hblk⟩ := Kd.R_form HRr.out (by rw [HY.out]; omega)
          injection eA with eA e1 e2
          subst eA
          clear hblk e1 e2
          obtain ⟨cs, hcl, hM, hcc, hfz⟩ := Kd.R_elem HRr.out z29 (j : Int) (Int.natCast_nonneg j) (by omega)
          obtain rfl := k29_openM hM
          have hseg := Kd.R_seg (seg := [.int .i64 (-1), .int .i64 (-1), .string (⟨#[111, 118, 101, 114]⟩ : ByteArray), .int .i64 (-1)]) (j := 0) (okp := fun _ => False) HRr.out (j : Int) (Int.natCast_nonneg j) (by omega) hcl hcc (by decide) (x' := ⟨-1, -1, (⟨#[111, 118, 101, 114]⟩ : ByteArray), -1⟩) (k29_mkM _ _ _ ⟨-1, -1, (⟨#[111, 118, 101, 114]⟩ : ByteArray), -1⟩) (fun _ h => h.elim)
          have HSG := Aside0.mk hseg
          have x0 : wr.cell? ⟨g, j * 4, none⟩ = _ := hcc 0 _ rfl
          have x1 : wr.cell? ⟨g, j * 4 + 1, none⟩ = _ := hcc 1 _ rfl
          have x2 : wr.cell? ⟨g, j * 4 + 2, none⟩ = _ := hcc 2 _ rfl
          have x3 : wr.cell? ⟨g, j * 4 + 3, none⟩ = _ := hcc 3 _ rfl
          have f0 : wr.frozen? ⟨g, j * 4, none⟩ = false := hfz 0
          have f1 : wr.frozen? ⟨g, j * 4 + 1, none⟩ = false := hfz 1
          have f2 : wr.frozen? ⟨g, j * 4 + 2, none⟩ = false := hfz 2
          have f3 : wr.frozen? ⟨g, j * 4 + 3, none⟩ = false := hfz 3
          clear hcc hfz hM hcl hseg
          go_wp2
          go_roundw
          case rel =>
            refine ⟨j + 1, ys.set j ⟨-1, -1, (⟨#[111, 118, 101, 114]⟩ : ByteArray), -1⟩, (by first | rfl | simp), by omega, ⟨by rw [List.length_set]; exact HY.out⟩, ⟨HSG.out.1⟩, ⟨Kd.R_grown HOw.out HSG.out.2 (fun i hi he => by injection he with he; omega)⟩, ⟨?_⟩⟩
            exact below_set (below_set (below_set (below_set HBw.out (Nat.le_trans HN.out hg0)) (Nat.le_trans HN.out hg0)) (Nat.le_trans HN.out hg0)) (Nat.le_trans HN.out hg0)
          case measure => simp [intOf]; omega
        · obtain ⟨inner, hown⟩ := Kd.R_own (Kd.R_alloc HRr.out (.cells #[.int .i64 (-2), .int .i64 0, .string (⟨#[]⟩ : ByteArray), .int .i64 0] 29))
          have hfa := own_facts hown HY.out
          rw [HY.out] at hfa
          have HFA := Aside0.mk hfa
          clear hown hfa
          obtain ⟨i0, hi0, hz0, hsz0, hbz0⟩ := info_parts info29
          have HI := Aside0.mk hi0
          have HIz := Aside0.mk hz0
          have HIs := Aside0.mk hsz0
          have HIb := Aside0.mk hbz0
          clear hi0 hz0 hsz0 hbz0
          go_wp2_with (first
            | (at_builtin; go_loud (refine wpList_append_grows _ ?g (.tmp 59) (.tmp 61) 23 ?op 29 i0 ?z 4 40 ?u ?i ?z0 ?s ?b ?zs ?pos Ar r1.length r1.length inner ?hs ?hn ?hlo ?holds ⟨wr.heap.size, 0, none⟩ 1 1 [.int .i64 (-2), .int .i64 0, .string (⟨#[]⟩ : ByteArray), .int .i64 0] ?hx ?hl ?hc ?h1 ?hf ?b1 ?b2 ?hK; (case g => rfl); (case op => rfl); (case u => exact Try.underlying23); (case i => exact HI.out); (case z0 => exact HIz.out); (case s => exact HIs.out); (case b => exact HIb.out); (case zs => rfl); (case pos => decide); (case hn => exact HFA.out.2.1); (case hlo => exact HFA.out.1); (case holds => exact HFA.out.2.2); (case hl => rfl); (case hs => rfl); (case hx => rfl); (case hc => exact World.news_of_block (blk_new _ _)); (case h1 => intro u hu; simp only [List.mem_cons, List.not_mem_nil, or_false] at hu; rcases hu with rfl | rfl | rfl | rfl <;> rfl); (case hf => exact Nat.lt_succ_self _); (case b1 => unfold maxLen; omega); (case b2 => omega); intro v' w' hown hgr; obtain ⟨gn, cn, ev, _, _⟩ := hown.form (Nat.succ_pos _); subst ev; have HG := Aside0.mk hgr; clear hown hgr)))
          refine ⟨⟨x7 + 1, rfl, by omega, ⟨Kd.R_mono (Kd.R_grown (Kd.R_alloc HOw.out _) HG.out (fun i _ he => by cases he)) (fun _ _ => trivial)⟩, ⟨Below.grown (below_alloc HBw.out _) HG.out (by have := HBw.out.size; simp; omega) (fun i he => by cases he)⟩⟩, by simp [intOf]; omega⟩
    · go_wp2
      go_ret
      exact ⟨rfl, HB.out⟩
/-- What is to be shown of texts alone. -/
def isthmuslaw11_LexScans.Pure : Prop := ∀ (a0 : ByteArray), a0.size ≤ 140737488351232 → ∃ (k : Nat) (r1 : List S29) (r2 r3 : Int), isthmuslaw11_awake.f k = some true ∧ lex_Scan.f k a0 = some (r1, r2, r3) ∧ isthmusref11_Scan.f k a0 = some (r1, r2, r3) ∧ isthmuslaw11_Same.f k r1 r1 = some true ∧ r1.length ≤ 3000
theorem isthmuslaw11_LexScans.walk (P : isthmuslaw11_LexScans.Pure) (a0 : ByteArray) (w : World) (w0 : a0.size ≤ 140737488351232) :
    Calls Try.prog 3 #[.string a0] w fun e w' => e = .returned (.bool true) ∧ Below w.heap.size w w' := by
  obtain ⟨k, r1, r2, r3, h1, h2, h3, h4, hl⟩ := P a0 w0
  exact isthmuslaw11_LexScans.calls k a0 r1 r2 r3 w h1 h2 h3 h4 hl
end Go.Proofs.Ytijcoddbkefmlaa.L
