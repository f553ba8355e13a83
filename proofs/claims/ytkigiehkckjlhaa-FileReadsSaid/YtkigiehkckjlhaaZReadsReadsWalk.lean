/- FileReads answers true, whatever steps it is given: walked by hand over the printed contracts; condition: the steps lie in the world at hand. -/
import Derived.Test.YtkigiehkckjlhaaZReadsReadsAfter
import Derived.Test.YtkigiehkckjlhaaZReadsReadsRead
namespace Go.Proofs.Ytkigiehkckjlhaa.ReadsWalk
set_option linter.unusedVariables false
set_option linter.unusedSimpArgs false
open Go.RowKit Go.Proofs.Ytkigiehkckjlhaa.PReads Go.Proofs.YtkigiehkckjlhaaW.PrintWords
open Go.Proofs.YtkigiehkckjlhaaW.PrintLast Go.Proofs.Ytkigiehkckjlhaa.ReadsLib
open Go Go.Proofs.Ytkigiehkckjlhaa.Plain Go.Proofs.YtkigiehkckjlhaaW.PrintMore
variable {n : Nat} {P : Int → List Int}
theorem awk_true : potsherdlaw20_awake.f 200 = some true := by kernel_rfl
structure S67 where
 f0 : Int
 f1 : Int
 f2 : (List Int)
def z67 : S67 := ⟨(0 : Int), (0 : Int), ([] : List Int)⟩
def k67 : Kd S67 := Kd.iso (Kd.pair (Kd.int .i64) (Kd.pair (Kd.int .i64) (Kd.slice 5 (Kd.int .u8)))) (fun x : S67 => (x.f0, x.f1, x.f2))
theorem k67_open {w : World} {x : S67} {cs : List Value} (h : k67.K w x cs) : ∃ A5 c5, cs = [.int .i64 x.f0, .int .i64 x.f1, .slice A5 x.f2.length c5] ∧ x.f2.length ≤ c5 ∧ (Kd.int .u8).C w A5 x.f2.length x.f2 := by
 obtain ⟨_, _, rfl, rfl, ⟨_, _, rfl, rfl, ⟨A5, c5, rfl, l5, g5⟩⟩⟩ := h; exact ⟨A5, c5, rfl, l5, g5⟩
def rd_T67 (xs : List S67) (i : Int) : S67 := xs.getD i.toNat z67
theorem at_T67 {w : World} {A : Option Addr} {n : Nat} {xs : List S67} (h : Kd.C k67 w A n xs) (i : Int) (h0 : 0 ≤ i) (h1 : i < n) : ∃ ad A5 c5, A = some ad ∧ w.cell? (ad.add (i.toNat * 3)) = some (.int .i64 (rd_T67 xs i).f0) ∧ w.cell? ⟨(ad.add (i.toNat * 3)).block, (ad.add (i.toNat * 3)).off + 1, none⟩ = some (.int .i64 (rd_T67 xs i).f1) ∧ w.cell? ⟨(ad.add (i.toNat * 3)).block, (ad.add (i.toNat * 3)).off + 2, none⟩ = some (.slice A5 (rd_T67 xs i).f2.length c5) ∧ (rd_T67 xs i).f2.length ≤ c5 ∧ (Kd.int .u8).C w A5 (rd_T67 xs i).f2.length (rd_T67 xs i).f2 := by
 obtain ⟨ad, c, e, _, hK, hc0⟩ := Kd.C_get h z67 i h0 h1; have hc : ∀ j u, c[j]? = some u → w.cell? (ad.add (i.toNat * 3 + j)) = some u := hc0; obtain ⟨A5, c5, rfl, l5, g5⟩ := k67_open hK; exact ⟨ad, A5, c5, e, hc 0 _ rfl, by rw [← add_field _ _ 1 (by omega)]; exact hc 1 _ rfl, by rw [← add_field _ _ 2 (by omega)]; exact hc 2 _ rfl, l5, g5⟩
theorem nxt_step (td : List S60) (j : Nat) (h : j < td.length) : nxt P n (td.take (j + 1)) = fun p => if p = ((n + j + 1 : Nat) : Int) then mkT P td[j] else nxt P n (td.take j) p := by
  funext p
  unfold nxt
  rw [List.length_take, List.length_take, Nat.min_eq_left (by omega), Nat.min_eq_left (by omega)]
  by_cases c : p = ((n + j + 1 : Nat) : Int)
  · rw [if_pos c, if_pos (by omega)]
    congr 1
    rw [show (p - n - 1).toNat = j from by omega, qG, List.getElem?_take, if_pos (by omega), List.getElem?_eq_getElem h]; rfl
  · rw [if_neg c]
    by_cases d : (n : Int) < p ∧ p ≤ (n : Int) + (j : Int)
    · rw [if_pos (by omega), if_pos d]
      congr 1
      rw [qG, qG, List.getElem?_take, List.getElem?_take, if_pos (by omega), if_pos (by omega)]
    · rw [if_neg (by omega), if_neg d]
def mg {α : Type} (V : Int → α) (N : Int → List Int) (VN : Int → α) (k : Nat) (p : Int) : α := if 1 ≤ p ∧ p ≤ (k : Int) ∧ 0 < (N p).length then VN p else V p
theorem mg_zero {α : Type} (V : Int → α) (N : Int → List Int) (VN : Int → α) : mg V N VN 0 = V := by funext p; unfold mg; rw [if_neg (by omega)]
theorem mg_skip {α : Type} (V : Int → α) (N : Int → List Int) (VN : Int → α) (k : Nat) (h : (N ((k + 1 : Nat) : Int)).length = 0) : mg V N VN (k + 1) = mg V N VN k := by
  funext p
  unfold mg
  by_cases c : p = ((k + 1 : Nat) : Int)
  · subst c; rw [if_neg (by omega), if_neg (by omega)]
  · by_cases d : 1 ≤ p ∧ p ≤ (k : Int) ∧ 0 < (N p).length
    · rw [if_pos d, if_pos ⟨d.1, by omega, d.2.2⟩]
    · rw [if_neg d, if_neg (fun x => d ⟨x.1, by omega, x.2.2⟩)]
theorem mg_put {α : Type} (V : Int → α) (N : Int → List Int) (VN : Int → α) (k : Nat) (h : 0 < (N ((k + 1 : Nat) : Int)).length) : mg V N VN (k + 1) = fun p => if p = ((k + 1 : Nat) : Int) then VN p else mg V N VN k p := by
  funext p
  unfold mg
  by_cases c : p = ((k + 1 : Nat) : Int)
  · subst c; rw [if_pos ⟨by omega, by omega, h⟩, if_pos rfl]
  · rw [if_neg c]
    by_cases d : 1 ≤ p ∧ p ≤ (k : Int) ∧ 0 < (N p).length
    · rw [if_pos d, if_pos ⟨d.1, by omega, d.2.2⟩]
    · rw [if_neg d, if_neg (fun x => d ⟨x.1, by omega, x.2.2⟩)]
theorem mkT_len (t : S60) : (mkT P t).length = 16 := mkAt_len _ _ _ _ _
theorem mg_merged (td : List S60) : mg P (nxt P n td) (nxt P n td) (n + td.length) = merged P n td := by
  funext p
  unfold mg merged
  by_cases c : (n : Int) < p ∧ p ≤ (n : Int) + td.length
  · have e : nxt P n td p = mkT P (td.getD (p - n - 1).toNat z60) := by unfold nxt; rw [if_pos c]
    rw [e, mkT_len, if_pos ⟨by omega, by omega, by omega⟩, if_pos c]
  · have e : nxt P n td p = [] := by unfold nxt; rw [if_neg c]
    rw [e, if_neg (by simp), if_neg c]
theorem rows_own {α : Type} {d : Kd α} {e base : Nat} {ok : Nat → Prop} {w : World} {v : Value} {xs : List α} {b n : Nat} {V : Int → Value} (hM : RowsOf w b n V) (hR : Kd.R d e w base ok v xs) : some b ≠ v.ownBlock := by
  intro h; obtain ⟨cells, hc⟩ := Kd.R_typed hR b h.symm; exact hM.ne hc rfl
theorem R_maps {α : Type} {d : Kd α} {e base b : Nat} {ok : Nat → Prop} {w w' : World} {v : Value} {xs : List α} (hr : Kd.R d e w base ok v xs) (hM : ∃ es c, w.heap[b]? = some (.map es c)) (hg : w.grownBy w' (some b)) : Kd.R d e w' base ok v xs := by
  obtain ⟨es, c, hm⟩ := hM
  refine Kd.R_mono (Kd.R_step (Kd.R_bound hr) (fun k hk hlt => hg.block k hlt ?_)) (fun _ hk => hk.1)
  obtain ⟨_, _, _, q, _, cells, hc⟩ := hk
  intro e; injection e with e; subst e; rw [hm] at hc; cases hc
theorem S_apart {α : Type} {d : Kd α} {e base g : Nat} {w : World} {ok : Nat → Prop} {v : Value} {xs : List α} (h : Kd.S d e w base ok v xs) (hg : g < base) : Kd.V d e w 0 (fun k => k ≠ g) v xs :=
  Kd.S_V (Kd.S_mono (Kd.S_bound h) (fun k hk => by have := hk.2.1; omega))
set_option maxHeartbeats 8000000 in
set_option maxRecDepth 100000 in
theorem reads_walk (data : Int) (A : Option Addr) (c : Nat) (l : List S67) (w : World) (hr : Kd.C k67 w A l.length l) (hc : l.length ≤ c) (hl : ∀ x ∈ l, (Lit.int .i64 x.f1).wf = true) :
    Calls Try.prog 11 #[.int .i64 data, .slice A l.length c] w fun e w' => e = .returned (.bool true) ∧ Below w.heap.size w w' := by
  have hu50 := Try.underlying50; have hu24 := Try.underlying24; have hu5 := Try.underlying5; have hu28 := Try.underlying28; have hu22 := Try.underlying22; have hu60 := Try.underlying60; have hu67 := Try.underlying67; have hu51 := Try.underlying51; have hu64 := Try.underlying64; have hu25 := Try.underlying25
  have HR := kA hr; have HC := kA hc; have HW := kA hl; clear hr hc hl
  have HB := kA (Below.refl w.heap.size w)
  by_cases c1 : (l.length : Int) > 60
  · have c1b : decide (60 < (l.length : Int)) = true := qT c1
    clear c1
    go_enter Try.func11, Try.ntmps11
    go_wp2_with (go_at_call 33; refine (potsherdlaw20_awake.calls 200 true _ awk_true).mono ?_; rintro e w' ⟨rfl, hb⟩; replace HB := kH HB hb; clear hb)
    go_ret
    exact ⟨rfl, HB.out⟩
  · have c1b : decide (60 < (l.length : Int)) = false := qF c1
    have HL := kA (show l.length ≤ 60 by omega)
    clear c1
    have hmk : ∀ W : World, (Instr.makeMap 65 none).run Try.prog W = .ok (.map (some W.heap.size)) (W.alloc (.map #[] 0)) := fun W => run_makeMap 65 W
    go_enter Try.func11, Try.ntmps11
    go_upto_region 4 with (fail)
    obtain ⟨D0, n1, n2, hn⟩ := umod data 60 (by decide) (by decide)
    rw [hn]; clear hn
    obtain ⟨D, hD, hDe⟩ : ∃ D : Int, wrap64 (1 + D0) = D ∧ D = 1 + D0 := ⟨_, rfl, w64 (by omega) (by omega)⟩
    rw [hD]; clear hD
    have HD := kA (show 1 ≤ D ∧ D ≤ 60 from by omega); clear hDe n1 n2
    go_upto_region 5 with (first | ((with_reducible refine gate_callee (f := 39) rfl ?_); refine goesK (some 33) Try.func39 #[] ?_; (with_reducible refine (potsherdlaw20_one.calls 200 T0 _ one_is).mono ?_); rintro e w2 ⟨v0, rfl, ho, hb⟩; refine ⟨_, rfl, ?_⟩; obtain ⟨Av, cv, ev⟩ := Kd.N_slice ho; subst ev; have HT0 := kA (Kd.N_V (base' := 0) ho); replace HB := kH HB hb; clear ho hb) | ((with_reducible refine gate_dst (N := 5) rfl ?_); (try (refine gate_guard (by rfl) ?_; dsimp only)); refine bxE 24 (cs := #[.slice none 0 0]) ?_; intro bt hg w3 hbox hb; have BT := kA hbox; have GT := kG HB hg; have HT1 := kA (Kd.V_below (Kd.V_elderB (mV HT0) bt (Nat.le_of_eq hg.symm)) hb); replace HB := kH HB hb; clear HT0 hb hbox hg; obtain ⟨hct0, hft0⟩ := cY0 BT))
    have n0_ := kA (show (w3.setCell ⟨bt, 0, none⟩ (.slice Av T0.length cv)).heap[bt]? = some (.cells #[.slice Av T0.length cv] 24 (0, 0)) from pP BT)
    have n1_ := kA (show Kd.V k28 28 (w3.setCell ⟨bt, 0, none⟩ (.slice Av T0.length cv)) 0 (fun k => w.heap.size ≤ k ∧ k ≠ bt) (.slice Av T0.length cv) T0 from Kd.V_far HT1.out (fun _ hk => hk.2) _)
    have n2_ := kA (show Below w.heap.size w (w3.setCell ⟨bt, 0, none⟩ (.slice Av T0.length cv)) from mH HB)
    clear hct0 hft0 BT HT1 HB
    generalize w3.setCell ⟨bt, 0, none⟩ (.slice Av T0.length cv) = w4 at n0_ n1_ n2_ ⊢
    have BT := n0_; have HT := n1_; have HB := n2_; clear n0_ n1_ n2_
    go_upto_region 8 with (fail)
    clear hmk
    have n0_ := kA (rows_made w4)
    have n1_ := kA (below_alloc HB.out (.map #[] 0))
    have n2_ := kA (blk_alloc BT.out (.map #[] 0))
    have n3_ := kA (Kd.V_alloc (Kd.V_elderB HT.out w4.heap.size (Nat.le_refl _)) (.map #[] 0))
    have GP := kA (below_size HB.out)
    have NTP := kA (Nat.ne_of_lt (blk_lt BT.out))
    clear HB BT HT
    generalize w4.heap.size = bp at n0_ n3_ GP NTP ⊢
    generalize w4.alloc (.map #[] 0) = w5 at n0_ n1_ n2_ n3_ ⊢
    have HM := n0_; have HB := n1_; have BT := n2_; have HT := n3_; clear n0_ n1_ n2_ n3_
    go_wp2
    go_loopg [6, 8, 37] l.length (fun gk v6 v8 v37 w' => ∃ (i n B : Nat) (s : Int) (q : List Int) (P : Int → List Int) (wt : List Int) (V : Int → Value) (vt : Value), v37 = .int .i64 i ∧ v8 = .int .i64 n ∧ i ≤ l.length ∧ l.length - i ≤ gk ∧ n ≤ 5 * i ∧ B ≤ 1000 * i ∧ Stands D s q P n wt ∧ Aside0 (w'.heap[bt]? = some (.cells #[vt] 24 (0, 0))) ∧ Aside0 (Kd.V k28 28 w' 0 (fun k => k ≠ bt ∧ k ≠ bp) vt (tr s q)) ∧ Aside0 (Kd.R (Kd.int .u8) 5 w' w.heap.size (fun _ => True) v6 wt) ∧ Aside0 (RowsOf w' bp B V) ∧ Aside0 (∀ p : Int, (Lit.int .i64 p).wf = true → Kd.R (Kd.int .u8) 5 w' w.heap.size (fun _ => True) (V p) (P p)) ∧ Aside0 (Below w.heap.size w w'))
    case atStart => exact ⟨0, 0, 0, 0, [0, 0, 0, 0, 0], _, _, _, _, rfl, rfl, Nat.zero_le _, by omega, Nat.le_refl _, Nat.le_refl _, good_start HD.out.1, BT, ⟨Kd.V_mono HT.out (fun k hk => ⟨hk.1.2, hk.2⟩)⟩, ⟨Kd.R_nil _ _ _ _ _⟩, HM, ⟨fun p _ => Kd.R_nil _ _ _ _ _⟩, HB⟩
    case round => as_aux_lemma =>
      clear HB BT HT HM
      obtain ⟨i, n, B, s, q, P, wt, V, vt, rfl, rfl, hi, hig, hn, hBn, hgood, BT, HT, HWT, HM, HP, HB⟩ := hrel
      by_cases hlt : i < l.length
      case neg => as_aux_lemma =>
        have : i = l.length := by omega
        subst this
        have d1 : decide ((l.length : Int) < (l.length : Int)) = false := qF (by omega)
        have d2 : decide (l.length < l.length) = false := qF (by omega)
        clear hlt hi hig hn hBn hgood
        go_wp2_with (go_at_call 33; refine (potsherdlaw20_awake.calls 200 true _ awk_true).mono ?_; rintro e w' ⟨rfl, hb⟩; replace HB := kH HB hb; clear hb)
        go_ret
        exact ⟨rfl, HB.out⟩
      case pos => as_aux_lemma =>
        have hm : rd_T67 l (i : Int) ∈ l := by
          unfold rd_T67; rw [Int.toNat_natCast, qG, List.getElem?_eq_getElem hlt]; exact List.getElem_mem hlt
        have hw := HW.out _ hm
        have d1 : decide ((i : Int) < (l.length : Int)) = true := qT (by omega)
        have d2 : decide (i < l.length) = true := qT hlt
        have p1 : 0 ≤ (i : Int) := by omega
        have q1 : (i : Int) < (l.length : Int) := by omega
        obtain ⟨adl, Ad, cd, el, hx0, hx1, hx2, hcd, hCd⟩ := at_T67 HR.out i p1 q1
        cases el
        simp only [Int.toNat_natCast] at hx0 hx1 hx2
        replace hx0 := xC HB hx0; replace hx1 := xC HB hx1; replace hx2 := xC HB hx2
        replace p1 := eq_true p1; replace q1 := eq_true q1
        generalize rd_T67 l (i : Int) = st at hw hx0 hx1 hx2 hcd hCd
        obtain ⟨do_, at_, d⟩ := st
        dsimp only at hw hx0 hx1 hx2 hcd hCd
        have HLT := kA hlt; have HIG := kA hig; have HN := kA hn; have HBN := kA hBn; have HG := kA hgood; have HAW := kA hw; have HCD := kA hcd
        have HDD := kA (Kd.C_below hCd HB.out); have HDW := kA hCd
        clear hlt hi hig hn hBn hgood hw hm hcd hCd
        have HB0 := HB; have HB := kA (Below.refl wr.heap.size wr)
        go_upto_region 11 with ((with_reducible refine gate_dst (N := 10) rfl ?_); (try (refine gate_guard (by rfl) ?_; dsimp only)); refine bxE 67 (cs := #[.int .i64 0, .int .i64 0, .slice none 0 0]) ?_; intro gs hg w1 hbox hb; have BS := kA hbox; have GS := kG HB hg; replace HB := kH HB hb; clear hb hbox hg; obtain ⟨hcs0, hfs0⟩ := cY0 BS; obtain ⟨hcs1, hfs1⟩ := cY1 BS; obtain ⟨hcs2, hfs2⟩ := cY2 BS)
        have n0_ := kA (show (((w1.setCell ⟨gs, 0, none⟩ (.int .i64 do_)).setCell ⟨gs, 1, none⟩ (.int .i64 at_)).setCell ⟨gs, 2, none⟩ (.slice Ad d.length cd)).heap[gs]? = some (.cells #[.int .i64 do_, .int .i64 at_, .slice Ad d.length cd] 67 (0, 0)) from pP BS)
        have n1_ := kA (show Below wr.heap.size wr (((w1.setCell ⟨gs, 0, none⟩ (.int .i64 do_)).setCell ⟨gs, 1, none⟩ (.int .i64 at_)).setCell ⟨gs, 2, none⟩ (.slice Ad d.length cd)) from mH HB)
        clear hcs0 hcs1 hcs2 hfs0 hfs1 hfs2 hx0 hx1 hx2 p1 q1 BS HB
        generalize (((w1.setCell ⟨gs, 0, none⟩ (.int .i64 do_)).setCell ⟨gs, 1, none⟩ (.int .i64 at_)).setCell ⟨gs, 2, none⟩ (.slice Ad d.length cd)) = w2 at n0_ n1_ ⊢
        have BS := n0_; have HB := n1_; clear n0_ n1_
        obtain ⟨hcs0, hfs0⟩ := cY0 BS; obtain ⟨hcs1, hfs1⟩ := cY1 BS; obtain ⟨hcs2, hfs2⟩ := cY2 BS
        by_cases c2 : (d.length : Int) > 200
        case pos =>
          have d3 : decide (200 < (d.length : Int)) = true := qT c2
          clear c2
          go_wp2_with (go_at_call 33; refine (potsherdlaw20_awake.calls 200 true _ awk_true).mono ?_; rintro e w' ⟨rfl, hb⟩; replace HB := kH HB hb; clear hb)
          go_ret
          exact ⟨rfl, below_step HB0.out HB.out⟩
        case neg => as_aux_lemma =>
          have d3 : decide (200 < (d.length : Int)) = false := qF c2
          have HDL := kA (show d.length ≤ 200 from by omega)
          obtain ⟨u, td, e, ⟨k, hop⟩, hbad, hok⟩ := step_ok HD.out HG.out (by have := HN.out; have := HL.out; have := HLT.out; omega) do_ at_ HAW.out d (by omega)
          have HOP := kA hop; have HBAD := kA hbad; have HOK := kA hok; clear hop hbad hok c2
          obtain ⟨T, hTe⟩ : ∃ T, T = tr s q := ⟨_, rfl⟩
          rw [← hTe] at HT HOP
          have HTE := kA hTe; clear hTe
          obtain ⟨At, ct, evt⟩ := Kd.V_slice HT.out; subst evt
          have HCT := kA (Kd.V_reads' HT.out).2
          go_upto_if 48 with ((with_reducible refine gate_dst (N := 11) rfl ?_); (try (refine gate_guard (by rfl) ?_; dsimp only)); refine bxE 24 (cs := #[.slice none 0 0]) ?_; intro gu hg w3 hbox hb; have BU := kA hbox; have GU := kG HB hg; have NSU := kL BS hg; replace BS := kB BS hb; replace HB := kH HB hb; clear hb hbox hg; obtain ⟨hcs0, hfs0⟩ := cY0 BS; obtain ⟨hcs1, hfs1⟩ := cY1 BS; obtain ⟨hcs2, hfs2⟩ := cY2 BS)
          have hct0 := xC HB (cZ0 BT)
          go_cut [12, 13] (fun v12 v13 wc => ∃ (Au : Option Addr) (cu : Nat) (At2 : Option Addr) (ct2 : Nat), v12 = .slice At2 td.length ct2 ∧ v13 = .int .i64 e ∧ Aside0 (wc.heap[gu]? = some (.cells #[.slice Au u.length cu] 24 (0, 0))) ∧ Aside0 (Kd.V k28 28 wc 0 (fun _ => True) (.slice Au u.length cu) u) ∧ Aside0 (Kd.V k60 60 wc 0 (fun _ => True) (.slice At2 td.length ct2) td) ∧ Aside0 (wc.heap[gs]? = some (.cells #[.int .i64 do_, .int .i64 at_, .slice Ad d.length cd] 67 (0, 0))) ∧ Aside0 (Below wr.heap.size wr wc))
          case first => as_aux_lemma =>
            by_cases c3 : do_ = 0
            case pos => as_aux_lemma =>
              have d4 : (do_ == 0) = true := beq_iff_eq.mpr c3
              have HX := kA (show file_Truncate.f k T 1 at_ = some (u, td, e) from by have h := HOP.out; rw [if_pos c3] at h; exact h)
              clear c3
              go_wp2_with ((with_reducible refine gate_callee (f := 40) rfl ?_); (try (refine gate_guard (by rfl) ?_; dsimp only)); refine goesK (some 53) Try.func40 #[.agg #[.slice At T.length ct], .int .i64 1, .int .i64 at_] ?_; (with_reducible refine (file_Truncate.calls k _ _ T 1 at_ u td e _ ?side1 ?side2 HX.out).mono ?_); (case side1 => exact Kd.C_below HCT.out.2 (mH HB)); (case side2 => exact HCT.out.1); rintro e_ w4 ⟨v0, v1, rfl, ho0, ho1, hb⟩; refine ⟨_, rfl, ?_⟩; have n1_ := kA (S_apart ho0 (blk_lt BU.out)); have n2_ := kA (S_apart ho1 (blk_lt BU.out)); obtain ⟨Au, cu, eu⟩ := Kd.S_slice ho0; subst eu; obtain ⟨At2, ct2, et2⟩ := Kd.S_slice ho1; subst et2; replace BU := kB BU hb; replace BS := kB BS hb; replace HB := kH HB hb; clear ho0 ho1 hb; obtain ⟨hcu0, hfu0⟩ := cY0 BU)
              go_meet
              case rel => exact ⟨Au, cu, At2, ct2, rfl, rfl, ⟨pP BU⟩, ⟨Kd.V_mono (Kd.V_far n1_.out (fun _ hk => hk) _) (fun _ _ => trivial)⟩, ⟨Kd.V_mono (Kd.V_far n2_.out (fun _ hk => hk) _) (fun _ _ => trivial)⟩, ⟨blk_far BS.out NSU.out _⟩, ⟨mH HB⟩⟩
            case neg => as_aux_lemma =>
              have d4 : (do_ == 0) = false := beq_eq_false_iff_ne.mpr c3
              have HX := kA (show file_Write.f k T D 1 at_ d = some (u, td, e) from by have h := HOP.out; rw [if_neg c3] at h; exact h)
              clear c3
              go_wp2_with ((with_reducible refine gate_callee (f := 34) rfl ?_); (try (refine gate_guard (by rfl) ?_; dsimp only)); refine goesK (some 64) Try.func34 #[.agg #[.slice At T.length ct], .int .i64 D, .int .i64 1, .int .i64 at_, .slice Ad d.length cd] ?_; (with_reducible refine (file_Write.calls k _ _ T D 1 at_ (fun k_ => k_ < wr.heap.size) Ad cd d u td e _ ?side1 ?side2 ?side3 HX.out).mono ?_); (case side1 => exact Kd.C_below HCT.out.2 (mH HB)); (case side2 => exact HCT.out.1); (case side3 => exact Kd.V_below (Kd.V_mk HCD.out (Kd.C_F (Kd.heap_int _) HDD.out)) (mH HB)); rintro e_ w4 ⟨v0, v1, rfl, ho0, ho1, hb⟩; refine ⟨_, rfl, ?_⟩; have n1_ := kA (S_apart ho0 (blk_lt BU.out)); have n2_ := kA (S_apart ho1 (blk_lt BU.out)); obtain ⟨Au, cu, eu⟩ := Kd.S_slice ho0; subst eu; obtain ⟨At2, ct2, et2⟩ := Kd.S_slice ho1; subst et2; replace BU := kB BU hb; replace BS := kB BS hb; replace HB := kH HB hb; clear ho0 ho1 hb; obtain ⟨hcu0, hfu0⟩ := cY0 BU)
              go_meet
              case rel => exact ⟨Au, cu, At2, ct2, rfl, rfl, ⟨pP BU⟩, ⟨Kd.V_mono (Kd.V_far n1_.out (fun _ hk => hk) _) (fun _ _ => trivial)⟩, ⟨Kd.V_mono (Kd.V_far n2_.out (fun _ hk => hk) _) (fun _ _ => trivial)⟩, ⟨blk_far BS.out NSU.out _⟩, ⟨mH HB⟩⟩
          case rest => as_aux_lemma =>
            clear hcs0 hcs1 hcs2 hfs0 hfs1 hfs2 hct0 BS BU HB
            rename World => wa
            obtain ⟨Au, cu, At2, ct2, rfl, rfl, BU, HU, HTD, BS, HB⟩ := hcut
            by_cases c3 : e = 0
            case neg => as_aux_lemma =>
              obtain ⟨hu0, ht0⟩ := HBAD.out c3
              subst hu0; subst ht0
              have d4 : (e != 0) = true := bne_iff_ne.mpr c3
              obtain ⟨hcu0, hfu0⟩ := cY0 BU
              clear c3
              go_wp2
              go_roundg (l.length - (i + 1))
              case measure => have := HLT.out; have := HIG.out; omega
              case rel => exact ⟨i + 1, n, B, s, q, P, wt, V, _, by rw [mt_succ i (by have := HLT.out; have := HL.out; omega)], rfl, HLT.out, Nat.le_refl _, by have := HN.out; omega, by have := HBN.out; omega, HG.out, ⟨blk_below BT.out HB.out⟩, ⟨by rw [← HTE.out]; exact Kd.V_below HT.out HB.out⟩, ⟨Kd.R_below HWT.out HB.out⟩, ⟨HM.out.below HB.out⟩, ⟨fun p hp => Kd.R_below (HP.out p hp) HB.out⟩, ⟨below_step HB0.out HB.out⟩⟩
            case pos => as_aux_lemma =>
              have d4 : (e != 0) = false := bne_eq_false_iff_eq.mpr c3
              obtain ⟨o1, o2, o3, ⟨kl, o4⟩, o5, s', q', ⟨kd, o6⟩, ⟨km, o7⟩, ⟨ku, ru, o8, o9⟩, o10⟩ := HOK.out c3
              have HLI := kA o4; have HTL := kA o3; have HOLD := kA o5; have HDN := kA o6; have HMT := kA o7; have HUS := kA o8; have HUD := kA o9; have HG2 := kA o10
              have HO1 := kA o1; have HO2 := kA o2
              clear o3 o4 o5 o6 o7 o8 o9 o10 c3
              have HX := kA (Below.refl wa.heap.size wa)
              obtain ⟨hcs0, hfs0⟩ := cY0 BS; obtain ⟨hcs1, hfs1⟩ := cY1 BS; obtain ⟨hcs2, hfs2⟩ := cY2 BS
              go_upto_region 22 with (fail)
              go_cut [14] (fun v14 w_ => ∃ em : Bool, v14 = .bool em ∧ Aside0 (em = (do_ != 0 && ((d.length : Int) == 0))) ∧ Aside0 (Below wa.heap.size wa w_))
              case first => as_aux_lemma =>
                by_cases c4 : do_ = 0
                · have e1 : (do_ != 0) = false := bne_eq_false_iff_eq.mpr c4
                  clear c4
                  go_wp2
                  go_meet
                  case rel => exact ⟨_, rfl, ⟨by rw [e1]; rfl⟩, HX⟩
                · have e1 : (do_ != 0) = true := bne_iff_ne.mpr c4
                  clear c4
                  go_wp2
                  go_meet
                  case rel => exact ⟨_, rfl, ⟨by rw [e1]; rfl⟩, HX⟩
              case rest => as_aux_lemma =>
              clear hcs0 hcs1 hcs2 hfs0 hfs1 hfs2 HX
              obtain ⟨em, rfl, HEM, HX⟩ := hcut
              rename World => wx
              have BSx := kA (blk_below BS.out HX.out)
              obtain ⟨hcs0, hfs0⟩ := cY0 BSx; obtain ⟨hcs1, hfs1⟩ := cY1 BSx; obtain ⟨hcs2, hfs2⟩ := cY2 BSx
              go_upto_region 23 with (fail)
              go_cut [118] (fun v118 w_ => v118 = .bool false ∧ Aside0 (Below wa.heap.size wa w_))
              case first => as_aux_lemma =>
                by_cases c4 : do_ = 0
                · have e1 : (do_ != 0) = false := bne_eq_false_iff_eq.mpr c4
                  have e2 : decide (at_ < 0) = false := qF (by have := (o1 (Or.inl c4)); omega)
                  have e3 : decide (80 < at_) = false := qF (by have := (o1 (Or.inl c4)); omega)
                  have h_ := HEM.out; rw [e1, Bool.false_and] at h_; subst h_
                  clear o1 o2 c4
                  go_wp2_with ((with_reducible refine gate_callee (f := 35) rfl ?_); (try (refine gate_guard (by rfl) ?_; dsimp only)); refine goesK (some 116) Try.func35 #[.slice At2 td.length ct2] ?_; (with_reducible refine (potsherdlaw20_light.calls kl _ _ td true _ ?side1 ?side2 HLI.out).mono ?_); (case side1 => exact (Kd.V_reads' (Kd.V_below HTD.out HX.out)).2.2); (case side2 => exact (Kd.V_reads' HTD.out).2.1); rintro e_ w6 ⟨rfl, hb⟩; refine ⟨_, rfl, ?_⟩; replace HX := kA (below_step HX.out hb); clear hb)
                  go_meet
                  case rel => exact ⟨rfl, HX⟩
                · have e1 : (do_ != 0) = true := bne_iff_ne.mpr c4
                  by_cases c5 : d.length = 0
                  · have e4 : ((d.length : Int) == 0) = true := beq_iff_eq.mpr (by omega)
                    have h_ := HEM.out; rw [e1, e4, Bool.true_and] at h_; subst h_
                    clear o1 o2 c4 c5
                    go_wp2_with ((with_reducible refine gate_callee (f := 35) rfl ?_); (try (refine gate_guard (by rfl) ?_; dsimp only)); refine goesK (some 116) Try.func35 #[.slice At2 td.length ct2] ?_; (with_reducible refine (potsherdlaw20_light.calls kl _ _ td true _ ?side1 ?side2 HLI.out).mono ?_); (case side1 => exact (Kd.V_reads' (Kd.V_below HTD.out HX.out)).2.2); (case side2 => exact (Kd.V_reads' HTD.out).2.1); rintro e_ w6 ⟨rfl, hb⟩; refine ⟨_, rfl, ?_⟩; replace HX := kA (below_step HX.out hb); clear hb)
                    go_meet
                    case rel => exact ⟨rfl, HX⟩
                  · have e4 : ((d.length : Int) == 0) = false := beq_eq_false_iff_ne.mpr (by omega)
                    have e2 : decide (at_ < 0) = false := qF (by have := (o1 (Or.inr c5)); omega)
                    have e3 : decide (80 < at_) = false := qF (by have := (o1 (Or.inr c5)); omega)
                    have e5 : wrap64 (at_ + (d.length : Int)) = at_ + (d.length : Int) := w64 (by have := (o1 (Or.inr c5)); omega) (by have := (o1 (Or.inr c5)); have := o2 c4 c5; omega)
                    have e6 : decide (80 < at_ + (d.length : Int)) = false := qF (by have := o2 c4 c5; omega)
                    have h_ := HEM.out; rw [e1, e4, Bool.true_and] at h_; subst h_
                    clear o1 o2 c4 c5
                    go_wp2_with ((with_reducible refine gate_callee (f := 35) rfl ?_); (try (refine gate_guard (by rfl) ?_; dsimp only)); refine goesK (some 116) Try.func35 #[.slice At2 td.length ct2] ?_; (with_reducible refine (potsherdlaw20_light.calls kl _ _ td true _ ?side1 ?side2 HLI.out).mono ?_); (case side1 => exact (Kd.V_reads' (Kd.V_below HTD.out HX.out)).2.2); (case side2 => exact (Kd.V_reads' HTD.out).2.1); rintro e_ w6 ⟨rfl, hb⟩; refine ⟨_, rfl, ?_⟩; replace HX := kA (below_step HX.out hb); clear hb)
                    go_meet
                    case rel => exact ⟨rfl, HX⟩
              case rest => as_aux_lemma =>
                rename World => wd
                obtain ⟨rfl, hcut⟩ := hcut
                have n1_ := kA (blk_below BS.out hcut.out)
                have n2_ := kA (blk_below BU.out hcut.out)
                have n3_ := kA (Kd.V_below HU.out hcut.out)
                have n4_ := kA (Kd.V_below HTD.out hcut.out)
                have n5_ := kA (below_step HB.out hcut.out)
                clear hcs0 hcs1 hcs2 hfs0 hfs1 hfs2 BS BSx BU HU HTD HB HX hcut o1 o2
                have BS := n1_; have BU := n2_; have HU := n3_; have HTD := n4_; have HB := n5_; clear n1_ n2_ n3_ n4_ n5_
                have hmk : ∀ W : World, (Instr.makeMap 65 none).run Try.prog W = .ok (.map (some W.heap.size)) (W.alloc (.map #[] 0)) := fun W => run_makeMap 65 W
                go_upto_region 27 with (fail)
                clear hmk
                have n0_ := kA (rows_made wd)
                have n1_ := kA (below_alloc (Below.refl wd.heap.size wd) (.map #[] 0))
                have GN := kA (Nat.le_refl wd.heap.size)
                generalize hbn : wd.heap.size = bn at n0_ GN ⊢
                rw [← hbn] at GN
                generalize wd.alloc (.map #[] 0) = w7 at n0_ n1_ ⊢
                have HMN := n0_; have HBM := n1_; clear n0_ n1_
                have GN := kA (show wd.heap.size ≤ bn from Nat.le_of_eq hbn); clear hbn
                have HCTD := kA (Kd.V_reads' HTD.out).2
                have HMD := kA (HM.out.below HB.out)
                have HPD := kA (show ∀ p : Int, (Lit.int .i64 p).wf = true → Kd.R (Kd.int .u8) 5 wd w.heap.size (fun _ => True) (V p) (P p) from fun p hp => Kd.R_below (HP.out p hp) HB.out)
                go_wp2
                go_loopg [8, 15, 122] td.length (fun gk v8 v15 v122 w' => ∃ (j m : Nat) (VN : Int → Value), v122 = .int .i64 j ∧ v8 = .int .i64 m ∧ m = n + j ∧ j ≤ td.length ∧ td.length - j ≤ gk ∧ Aside0 (Kd.R (Kd.int .i64) 3 w' wd.heap.size (fun _ => True) v15 (newT n j)) ∧ Aside0 (RowsOf w' bn j VN) ∧ Aside0 (∀ p : Int, (Lit.int .i64 p).wf = true → Kd.R (Kd.int .u8) 5 w' wd.heap.size (fun _ => True) (VN p) (nxt P n (td.take j) p)) ∧ Aside0 (Below wd.heap.size wd w'))
                case atStart => exact ⟨0, n, _, rfl, rfl, rfl, Nat.zero_le _, by omega, ⟨Kd.R_nil _ _ _ _ _⟩, HMN, ⟨fun p _ => by rw [show nxt P n (td.take 0) p = [] from by unfold nxt; rw [if_neg (by simp only [List.take_zero, List.length_nil]; omega)]]; exact Kd.R_nil _ _ _ _ _⟩, HBM⟩
                case round => as_aux_lemma =>
                  clear HBM HMN
                  obtain ⟨j, m, VN, rfl, rfl, hm, hj, hjg, HO, HMN, HPN, HBM⟩ := hrel
                  rename World => wl
                  by_cases hlt : j < td.length
                  case pos => as_aux_lemma =>
                    have d5 : decide ((j : Int) < (td.length : Int)) = true := qT (by omega)
                    have d6 : decide (j < td.length) = true := qT hlt
                    have p1 : 0 ≤ (j : Int) := by omega
                    have q1 : (j : Int) < (td.length : Int) := by omega
                    obtain ⟨ad2, A5, c5, e2, hx0, hx1, hx2, hx3, hx4, hx5, hc5, hC5⟩ := at_T60 HCTD.out.2 j p1 q1
                    cases e2
                    have HST := kA (nxt_step (P := P) (n := n) td j hlt)
                    have etd : rW td (j : Int) = td[j] := by unfold rW; rw [Int.toNat_natCast, qG, List.getElem?_eq_getElem hlt]; rfl
                    have hold := HOLD.out td[j] (List.getElem_mem hlt)
                    rw [etd] at hx0 hx1 hx2 hx3 hx4 hx5 hc5 hC5
                    clear etd
                    simp only [Int.toNat_natCast] at hx0 hx1 hx2 hx3 hx4 hx5
                    replace hx0 := xC HBM hx0; replace hx1 := xC HBM hx1; replace hx2 := xC HBM hx2; replace hx3 := xC HBM hx3; replace hx4 := xC HBM hx4; replace hx5 := xC HBM hx5
                    replace p1 := eq_true p1; replace q1 := eq_true q1
                    generalize td[j] = tdj at HST hold hx0 hx1 hx2 hx3 hx4 hx5 hc5 hC5
                    obtain ⟨f0, f1, f2, f3, f4, f5⟩ := tdj
                    dsimp only at hold hx0 hx1 hx2 hx3 hx4 hx5 hc5 hC5
                    have HJ := kA hlt; have HJG := kA hjg; have HMJ := kA hm; have HF2 := kA hold; have HC5 := kA hc5; have HR5 := kA hC5
                    clear hlt hjg hm hold hj hc5 hC5
                    go_upto_region 30 with ((with_reducible refine gate_dst (N := 18) rfl ?_); (try (refine gate_guard (by rfl) ?_; dsimp only)); refine bxE 60 (cs := #[.int .i64 0, .int .i64 0, .int .i64 0, .int .i64 0, .int .i64 0, .slice none 0 0]) ?_; intro gd hg w8 hbox hb; have BD := kA hbox; have GD := kG HBM hg; replace HO := kR HO hb; replace HMN := kA (HMN.out.below hb); replace HPN := kA (show ∀ p : Int, (Lit.int .i64 p).wf = true → Kd.R (Kd.int .u8) 5 w8 wd.heap.size (fun _ => True) (VN p) (nxt P n (td.take j) p) from fun p hp => Kd.R_below (HPN.out p hp) hb); replace HBM := kH HBM hb; clear hb hbox hg; obtain ⟨hcd0, hfd0⟩ := cY0 BD; obtain ⟨hcd1, hfd1⟩ := cY1 BD; obtain ⟨hcd2, hfd2⟩ := cY2 BD; obtain ⟨hcd3, hfd3⟩ := cY3 BD; obtain ⟨hcd4, hfd4⟩ := cY4 BD; obtain ⟨hcd5, hfd5⟩ := cY5 BD)
                    have NB := HMN.out.ne BD.out
                    have n0_ := kA (show ((((((w8.setCell ⟨gd, 0, none⟩ (.int .i64 f0)).setCell ⟨gd, 1, none⟩ (.int .i64 f1)).setCell ⟨gd, 2, none⟩ (.int .i64 f2)).setCell ⟨gd, 3, none⟩ (.int .i64 f3)).setCell ⟨gd, 4, none⟩ (.int .i64 f4)).setCell ⟨gd, 5, none⟩ (.slice A5 f5.length c5)).heap[gd]? = some (.cells #[.int .i64 f0, .int .i64 f1, .int .i64 f2, .int .i64 f3, .int .i64 f4, .slice A5 f5.length c5] 60 (0, 0)) from pP BD)
                    have n1_ := kA (show Below wd.heap.size wd ((((((w8.setCell ⟨gd, 0, none⟩ (.int .i64 f0)).setCell ⟨gd, 1, none⟩ (.int .i64 f1)).setCell ⟨gd, 2, none⟩ (.int .i64 f2)).setCell ⟨gd, 3, none⟩ (.int .i64 f3)).setCell ⟨gd, 4, none⟩ (.int .i64 f4)).setCell ⟨gd, 5, none⟩ (.slice A5 f5.length c5)) from mH HBM)
                    have n2_ := kA (show Kd.R (Kd.int .i64) 3 ((((((w8.setCell ⟨gd, 0, none⟩ (.int .i64 f0)).setCell ⟨gd, 1, none⟩ (.int .i64 f1)).setCell ⟨gd, 2, none⟩ (.int .i64 f2)).setCell ⟨gd, 3, none⟩ (.int .i64 f3)).setCell ⟨gd, 4, none⟩ (.int .i64 f4)).setCell ⟨gd, 5, none⟩ (.slice A5 f5.length c5)) wd.heap.size (fun _ => True) u15 (newT n j) from fR ⟨Kd.R_types HO.out BD.out (by decide)⟩)
                    have n3_ := kA (show RowsOf ((((((w8.setCell ⟨gd, 0, none⟩ (.int .i64 f0)).setCell ⟨gd, 1, none⟩ (.int .i64 f1)).setCell ⟨gd, 2, none⟩ (.int .i64 f2)).setCell ⟨gd, 3, none⟩ (.int .i64 f3)).setCell ⟨gd, 4, none⟩ (.int .i64 f4)).setCell ⟨gd, 5, none⟩ (.slice A5 f5.length c5)) bn j VN from (((((HMN.out.far NB _).far NB _).far NB _).far NB _).far NB _).far NB _)
                    have n4_ := kA (show ∀ p : Int, (Lit.int .i64 p).wf = true → Kd.R (Kd.int .u8) 5 ((((((w8.setCell ⟨gd, 0, none⟩ (.int .i64 f0)).setCell ⟨gd, 1, none⟩ (.int .i64 f1)).setCell ⟨gd, 2, none⟩ (.int .i64 f2)).setCell ⟨gd, 3, none⟩ (.int .i64 f3)).setCell ⟨gd, 4, none⟩ (.int .i64 f4)).setCell ⟨gd, 5, none⟩ (.slice A5 f5.length c5)) wd.heap.size (fun _ => True) (VN p) (nxt P n (td.take j) p) from fun p hp => fR ⟨Kd.R_types (HPN.out p hp) BD.out (by decide)⟩)
                    clear hcd0 hcd1 hcd2 hcd3 hcd4 hcd5 hfd0 hfd1 hfd2 hfd3 hfd4 hfd5 hx0 hx1 hx2 hx3 hx4 hx5 p1 q1 BD HBM HO HMN HPN NB
                    generalize ((((((w8.setCell ⟨gd, 0, none⟩ (.int .i64 f0)).setCell ⟨gd, 1, none⟩ (.int .i64 f1)).setCell ⟨gd, 2, none⟩ (.int .i64 f2)).setCell ⟨gd, 3, none⟩ (.int .i64 f3)).setCell ⟨gd, 4, none⟩ (.int .i64 f4)).setCell ⟨gd, 5, none⟩ (.slice A5 f5.length c5)) = w9 at n0_ n1_ n2_ n3_ n4_ ⊢
                    have BD := n0_; have HBM := n1_; have HO := n2_; have HMN := n3_; have HPN := n4_; clear n0_ n1_ n2_ n3_ n4_
                    go_upto_region 31 with (fail)
                    rw [mt_succ m (by have := HMJ.out; have := HJ.out; have := HTL.out; have := HN.out; have := HL.out; have := HLT.out; omega)]
                    go_upto_region 32 with ((with_reducible refine gate_builtin (b := .append) (xs := #[.tmp 128, .tmp 130]) rfl ?_); at_builtin; refine Kd.R_append (Kd.int .i64) (w0 := wd) wd.heap.size rfl (.tmp 128) (.tmp 130) 25 3 (.int .i64 0) 8 rfl Try.underlying25 info3 rfl (by decide) (by omega) u15 (newT n j) ((m + 1 : Nat) : Int) [.int .i64 ((m + 1 : Nat) : Int)] (fun _ => True) (fun _ => False) rfl rfl ?aP (fun _ hk => hk.elim) ?aF ?aO ?aB ?aS ?aL ?_; (case aP => exact rfl); (case aB => exact (mH HBM)); (case aF => exact (fun _ _ => trivial)); (case aO => exact (mR HO)); (case aS => exact (below_size (mH HBM))); (case aL => rw [newT_len]; have := HJ.out; have := HTL.out; omega); intro v15 w10 ho hb hg hat; have BD2 := kA (blk_grown (g := gd) (o := (.cells #[.int .i64 f0, .int .i64 f1, .int .i64 f2, .int .i64 f3, .int .i64 f4, .slice A5 f5.length c5] 60 (0, 0))) (mB BD) hg (Kd.R_ne HO.out BD.out (by decide))); have HMN2 := kA (HMN.out.grown hg (rows_own HMN.out HO.out)); have HPN2 := kA (show ∀ p : Int, (Lit.int .i64 p).wf = true → Kd.R (Kd.int .u8) 5 w10 wd.heap.size (fun _ => True) (VN p) (nxt P n (td.take j) p) from fun p hp => Kd.R_over' (HPN.out p hp) (Kd.R_typed HO.out) (by decide) hg); replace HBM := kA hb; have HO2 := kA (show Kd.R (Kd.int .i64) 3 w10 wd.heap.size (fun _ => True) v15 (newT n (j + 1)) from by rw [newT_succ, show (n : Int) + 1 + (j : Int) = ((m + 1 : Nat) : Int) from by have := HMJ.out; push_cast; omega]; exact ho); clear HO BD HMN HPN; clear ho hb hg hat)
                    obtain ⟨Ao, co, eo⟩ := Kd.R_slice (HPD.out f2 HF2.out)
                    have HCO := kA (Kd.R_reads' (eo ▸ HPD.out f2 HF2.out)).2
                    have HVO := kA eo; clear eo
                    have hwk := HF2.out
                    obtain ⟨hcd0, hfd0⟩ := cY0 BD2; obtain ⟨hcd1, hfd1⟩ := cY1 BD2; obtain ⟨hcd2, hfd2⟩ := cY2 BD2; obtain ⟨hcd3, hfd3⟩ := cY3 BD2; obtain ⟨hcd4, hfd4⟩ := cY4 BD2; obtain ⟨hcd5, hfd5⟩ := cY5 BD2
                    have HKW := kA (show (Lit.int .i64 ((m + 1 : Nat) : Int)).wf = true from by have := HMJ.out; have := HJ.out; have := HTL.out; have := HN.out; have := HL.out; have := HLT.out; simp [Lit.wf, IntKind.min, IntKind.max, IntKind.signed, IntKind.bits]; omega)
                    go_wp2_with (first | (at_lookup; (try (refine gate_guard (by rfl) ?_; dsimp only)); refine wp_row rfl _ _ rfl (HMD.out.below HBM.out) rfl f2 HF2.out rfl ?_; rw [HVO.out]) | ((with_reducible refine gate_callee (f := 37) rfl ?_); refine goesK (some 139) Try.func37 #[.slice Ao (P f2).length co, .agg #[.int .i64 f0, .int .i64 f1, .int .i64 f2, .int .i64 f3, .int .i64 f4, .slice A5 f5.length c5]] ?_; (with_reducible refine (file_Make.calls Ao co (P f2) f0 f1 f2 f3 f4 A5 c5 f5 (mkT P ⟨f0, f1, f2, f3, f4, f5⟩) _ ?side1 ?side2 ?side3 ?side4 rfl).mono ?_); (case side1 => exact Kd.C_below HCO.out.2 HBM.out); (case side2 => exact HCO.out.1); (case side3 => exact Kd.C_below HR5.out HBM.out); (case side4 => exact HC5.out); rintro e_ w11 ⟨vm, rfl, ho, hb⟩; refine ⟨_, rfl, ?_⟩; have HVM := kA (Kd.R_lower ho (below_size HBM.out)); have HO3 := kA (Kd.R_below HO2.out hb); have HMN3 := kA (HMN2.out.below hb); have HPN3 := kA (show ∀ p : Int, (Lit.int .i64 p).wf = true → Kd.R (Kd.int .u8) 5 w11 wd.heap.size (fun _ => True) (VN p) (nxt P n (td.take j) p) from fun p hp => Kd.R_below (HPN2.out p hp) hb); replace HBM := kH HBM hb; clear ho hb HO2 HMN2 HPN2) | (at_mapUpdate; refine wp_rowput rfl _ _ _ rfl HMN3.out (by have := HJ.out; have := HTL.out; unfold maxLen; omega) rfl ((m + 1 : Nat) : Int) HKW.out vm rfl rfl ?_; intro w12 hm hg; have HMN4 := kA hm; have HO4 := kA (R_maps HO3.out HMN3.out.obj hg); have HPN4 := kA (show ∀ p : Int, (Lit.int .i64 p).wf = true → Kd.R (Kd.int .u8) 5 w12 wd.heap.size (fun _ => True) (if p = ((m + 1 : Nat) : Int) then vm else VN p) (nxt P n (td.take (j + 1)) p) from fun p hp => by rw [HST.out, HMJ.out]; dsimp only; exact (if cc : p = ((n + j + 1 : Nat) : Int) then (by rw [if_pos cc, if_pos cc]; exact R_maps HVM.out HMN3.out.obj hg) else (by rw [if_neg cc, if_neg cc]; exact R_maps (HPN3.out p hp) HMN3.out.obj hg))); have HBM4 := kA (below_map HBM.out hg GN.out (below_size HBM.out)); clear hm hg HO3 HMN3 HPN3 HBM))
                    go_roundg (td.length - (j + 1))
                    case measure => have := HJ.out; have := HJG.out; omega
                    case rel => exact ⟨j + 1, m + 1, _, by rw [mt_succ j (by have := HJ.out; have := HTL.out; omega)], rfl, by have := HMJ.out; omega, HJ.out, Nat.le_refl _, HO4, HMN4, HPN4, HBM4⟩
                  case neg =>
                  have : j = td.length := by omega
                  subst this
                  have d5 : decide ((td.length : Int) < (td.length : Int)) = false := qF (by omega)
                  have d6 : decide (td.length < td.length) = false := qF (by omega)
                  have HMJ := kA hm
                  clear hlt hj hjg hm
                  have n1_ := kA (show ∀ p : Int, (Lit.int .i64 p).wf = true → Kd.R (Kd.int .u8) 5 wl wd.heap.size (fun _ => True) (VN p) (nxt P n td p) from fun p hp => by have h := HPN.out p hp; rw [List.take_length] at h; exact h)
                  clear HPN
                  have HPN := n1_; clear n1_
                  obtain ⟨As, cs, es⟩ := Kd.R_slice HO.out; subst es
                  have HCS := kA (Kd.R_reads' HO.out).2; clear HO
                  have n1_ := kA (blk_below BU.out HBM.out)
                  have HCU := kA (Kd.V_reads' (Kd.V_below HU.out HBM.out)).2
                  have HCT2 := kA (show td.length ≤ ct2 ∧ Kd.C k60 wl At2 td.length td from ⟨HCTD.out.1, Kd.C_below HCTD.out.2 HBM.out⟩)
                  have HBT := kA (show bt < wl.heap.size from Nat.lt_of_lt_of_le (blk_lt BT.out) (Nat.le_trans (below_size HB.out) (below_size HBM.out)))
                  have HBP := kA (show bp < wl.heap.size from Nat.lt_of_lt_of_le HM.out.lt (Nat.le_trans (below_size HB.out) (below_size HBM.out)))
                  have HMS := kA (show RowsOf wl bp B V from HMD.out.below HBM.out)
                  have BS2 := kA (blk_below BS.out HBM.out)
                  obtain ⟨T2, hT2⟩ : ∃ T2, T2 = tr s' q' := ⟨_, rfl⟩
                  rw [← hT2] at HDN HMT HUS
                  have HT2 := kA hT2; have HT12 := kA (show T2.length = 12 from by rw [hT2]; rfl); clear hT2
                  obtain ⟨hcu0, hfu0⟩ := cY0 n1_
                  have HX := kA (Below.refl wl.heap.size wl)
                  go_upto_region 35 with (first | ((with_reducible refine gate_callee (f := 36) rfl ?_); refine goesK (some 145) Try.func36 #[.agg #[.slice Au u.length cu], .slice At2 td.length ct2, .slice As (newT n td.length).length cs] ?_; (with_reducible refine (file_Done.calls kd Au cu u At2 ct2 td As cs (newT n td.length) T2 0 _ ?side1 ?side2 ?side3 ?side4 ?side5 ?side6 HDN.out).mono ?_); (case side1 => exact HCU.out.2); (case side2 => exact HCU.out.1); (case side3 => exact HCT2.out.2); (case side4 => exact HCT2.out.1); (case side5 => exact HCS.out.2); (case side6 => exact HCS.out.1); rintro e_ w13 ⟨vv, rfl, ho, hb⟩; refine ⟨_, rfl, ?_⟩; obtain ⟨Av2, cv2, ev2⟩ := Kd.S_slice ho; subst ev2; have HV2 := kA (show Kd.V k28 28 w13 0 (fun k => k ≠ bt ∧ k ≠ bp) (.slice Av2 T2.length cv2) T2 from Kd.S_V (Kd.S_mono (Kd.S_bound ho) (fun k hk => by have := hk.2.1; have := HBT.out; have := HBP.out; omega))); replace HX := kH HX hb; clear ho hb) | ((with_reducible refine gate_dst (N := 19) rfl ?_); (try (refine gate_guard (by rfl) ?_; dsimp only)); refine bxE 24 (cs := #[.slice none 0 0]) ?_; intro gv hg w14 hbox hb; have BV := kA hbox; have GV := kG HX hg; have HV3 := kA (Kd.V_below (Kd.V_elderB (mV HV2) gv (Nat.le_of_eq hg.symm)) hb); replace HX := kH HX hb; clear HV2 hb hbox hg; obtain ⟨hcv0, hfv0⟩ := cY0 BV))
                  have n2_ := kA (show (w14.setCell ⟨gv, 0, none⟩ (.slice Av2 T2.length cv2)).heap[gv]? = some (.cells #[.slice Av2 T2.length cv2] 24 (0, 0)) from pP BV)
                  have n3_ := kA (show Kd.V k28 28 (w14.setCell ⟨gv, 0, none⟩ (.slice Av2 T2.length cv2)) 0 (fun k => k ≠ bt ∧ k ≠ bp) (.slice Av2 T2.length cv2) T2 from Kd.V_mono (Kd.V_far HV3.out (fun _ hk => hk.2) _) (fun _ hk => hk.1))
                  have n4_ := kA (show Below wl.heap.size wl (w14.setCell ⟨gv, 0, none⟩ (.slice Av2 T2.length cv2)) from mH HX)
                  clear hcu0 hfu0 hcv0 hfv0 BV HV3 HX n1_
                  generalize (w14.setCell ⟨gv, 0, none⟩ (.slice Av2 T2.length cv2)) = w15 at n2_ n3_ n4_ ⊢
                  have BV := n2_; have HV := n3_; have HX := n4_; clear n2_ n3_ n4_
                  have HCV := kA (Kd.V_reads' HV.out).2
                  have d7 : ((T2.length : Int) != 12) = false := bne_eq_false_iff_eq.mpr (by have := HT12.out; omega)
                  have d8 : decide (D < ru) = false := qF (by have := HUD.out; omega)
                  obtain ⟨hcv0, hfv0⟩ := cY0 BV
                  have HY := kA (Below.refl w15.heap.size w15)
                  go_upto_region 37 with (first | ((with_reducible refine gate_callee (f := 29) rfl ?_); (try (refine gate_guard (by rfl) ?_; dsimp only)); refine goesK (some 158) Try.func29 #[.agg #[.slice Av2 T2.length cv2]] ?_; (with_reducible refine (potsherdref12_MayTree.calls km Av2 cv2 T2 true _ ?side1 ?side2 HMT.out).mono ?_); (case side1 => exact Kd.C_below HCV.out.2 HY.out); (case side2 => exact HCV.out.1); rintro e_ w16 ⟨rfl, hb⟩; refine ⟨_, rfl, ?_⟩; replace HY := kH HY hb; clear hb; have hcv0 := cZ0 (kA (blk_below BV.out HY.out))) | ((with_reducible refine gate_callee (f := 17) rfl ?_); (try (refine gate_guard (by rfl) ?_; dsimp only)); refine goesK (some 163) Try.func17 #[.agg #[.slice Av2 T2.length cv2]] ?_; (with_reducible refine (potsherdref12_Used.calls ku Av2 cv2 T2 ru _ ?side1 ?side2 HUS.out).mono ?_); (case side1 => exact Kd.C_below HCV.out.2 HY.out); (case side2 => exact HCV.out.1); rintro e_ w17 ⟨rfl, hb⟩; refine ⟨_, rfl, ?_⟩; replace HY := kH HY hb; clear hb))
                  have HXY := kA (below_step HX.out HY.out)
                  have HWR := kA (below_step HB.out (below_step HBM.out HXY.out))
                  have n0_ := kA (blk_below BT.out HWR.out)
                  have n1_ := kA (Kd.R_below HWT.out HWR.out)
                  have n2_ := kA (HM.out.below HWR.out)
                  have n3_ := kA (show ∀ p : Int, (Lit.int .i64 p).wf = true → Kd.R (Kd.int .u8) 5 w17 w.heap.size (fun _ => True) (V p) (P p) from fun p hp => Kd.R_below (HP.out p hp) HWR.out)
                  have n4_ := kA (HMN.out.below HXY.out)
                  have n5_ := kA (show ∀ p : Int, (Lit.int .i64 p).wf = true → Kd.R (Kd.int .u8) 5 w17 w.heap.size (fun _ => True) (VN p) (nxt P n td p) from fun p hp => Kd.R_lower (Kd.R_below (HPN.out p hp) HXY.out) (Nat.le_trans (below_size HB0.out) (below_size HB.out)))
                  have n6_ := kA (blk_below BS2.out HXY.out)
                  have n7_ := kA (blk_below BV.out HY.out)
                  have n8_ := kA (Kd.V_below HV.out HY.out)
                  have n9_ := kA (below_step HB0.out HWR.out)
                  have NNP := kA (show bn ≠ bp from by have h1 := GN.out; have h2 := HM.out.lt; have h3 := below_size HB.out; omega)
                  have NVP := kA (show gv ≠ bp from by have h1 := GV.out; have h2 := HBP.out; omega)
                  have NSP := kA (show gs ≠ bp from by have h1 := GS.out; have h2 := HM.out.lt; omega)
                  have NST := kA (show gs ≠ bt from by have h1 := GS.out; have h2 := blk_lt BT.out; omega)
                  clear hcv0 hfv0 BT HWT HM HP HMN HPN BS2 BS BU BV HV HB HBM HX HY HXY HWR HB0 HCV HCU HCS HCT2 HCTD HMD HPD HMS HU HTD HCT HT HR HDD d7 d8 HBT HBP
                  have BT := n0_; have HWT := n1_; have HM := n2_; have HP := n3_; have HMN := n4_; have HPN := n5_; have BS := n6_; have BV := n7_; have HV := n8_; have HB := n9_
                  clear n0_ n1_ n2_ n3_ n4_ n5_ n6_ n7_ n8_ n9_
                  go_wp2
                  go_loopg [21] m (fun gk v21 w' => ∃ kk k1 : Nat, v21 = .int .i64 (k1 : Int) ∧ k1 = kk + 1 ∧ kk ≤ m ∧ m - kk ≤ gk ∧ Aside0 (RowsOf w' bp (B + kk) (mg V (nxt P n td) VN kk)) ∧ Aside0 (w17.grownBy w' (some bp)))
                  case atStart => exact ⟨0, 1, rfl, rfl, Nat.zero_le _, by omega, ⟨by rw [mg_zero]; exact HM.out⟩, ⟨World.grownBy.refl _ _⟩⟩
                  case round => as_aux_lemma =>
                    obtain ⟨kk, k1, rfl, hk1, hkm, hkg, HML, HGR⟩ := hrel
                    rename World => wq
                    by_cases hlt : k1 ≤ m
                    case pos => as_aux_lemma =>
                      have d9 : decide (k1 ≤ m) = true := qT hlt
                      have d10 : decide ((k1 : Int) ≤ (m : Int)) = true := qT (by omega)
                      have HKW := kA (show (Lit.int .i64 (k1 : Int)).wf = true from by have := HMJ.out; have := HTL.out; have := HN.out; have := HL.out; have := HLT.out; simp [Lit.wf, IntKind.min, IntKind.max, IntKind.signed, IntKind.bits]; omega)
                      obtain ⟨Ak, ck, ek⟩ := Kd.R_slice (HPN.out (k1 : Int) HKW.out)
                      have HVK := kA ek; clear ek
                      have HMQ := kA (HMN.out.grown HGR.out (by have := NNP.out; simpa using this))
                      have HK1 := kA hk1; have HKM := kA hlt; have HKG := kA hkg; clear hk1 hlt hkm hkg
                      by_cases hz : 0 < (nxt P n td (k1 : Int)).length
                      case neg => as_aux_lemma =>
                        have d11 : decide (0 < (nxt P n td (k1 : Int)).length) = false := qF hz
                        have d12 : decide (0 < ((nxt P n td (k1 : Int)).length : Int)) = false := qF (by omega)
                        have HS := kA (mg_skip V (nxt P n td) VN kk (by rw [← HK1.out]; omega))
                        clear hz
                        go_wp2_with (at_lookup; (try (refine gate_guard (by rfl) ?_; dsimp only)); refine wp_row rfl _ _ rfl HMQ.out rfl (k1 : Int) HKW.out rfl ?_; rw [HVK.out])
                        go_roundg (m - (kk + 1))
                        case measure => have := HKM.out; have := HK1.out; have := HKG.out; omega
                        case rel => exact ⟨kk + 1, k1 + 1, by rw [mt_succ k1 (by have := HKM.out; have := HMJ.out; have := HTL.out; have := HN.out; have := HL.out; have := HLT.out; omega)], by have := HK1.out; omega, by have := HK1.out; have := HKM.out; omega, Nat.le_refl _, ⟨by rw [HS.out]; exact HML.out.mono (by omega)⟩, HGR⟩
                      case pos => as_aux_lemma =>
                        have d11 : decide (0 < (nxt P n td (k1 : Int)).length) = true := qT hz
                        have d12 : decide (0 < ((nxt P n td (k1 : Int)).length : Int)) = true := qT (by omega)
                        have HS := kA (mg_put V (nxt P n td) VN kk (by rw [← HK1.out]; omega))
                        clear hz
                        go_wp2_with (first | (at_lookup; (try (refine gate_guard (by rfl) ?_; dsimp only)); refine wp_row rfl _ _ rfl HMQ.out rfl (k1 : Int) HKW.out rfl ?_; rw [HVK.out]) | (at_mapUpdate; refine wp_rowput rfl _ _ _ rfl HML.out (by have := HKM.out; have := HK1.out; have := HMJ.out; have := HTL.out; have := HN.out; have := HL.out; have := HLT.out; have := HBN.out; unfold maxLen; omega) rfl (k1 : Int) HKW.out (.slice Ak (nxt P n td (k1 : Int)).length ck) rfl rfl ?_; intro w18 hm hg; have HML2 := kA hm; have HGR2 := kA (World.grownBy.trans HGR.out hg); clear hm hg))
                        go_roundg (m - (kk + 1))
                        case measure => have := HKM.out; have := HK1.out; have := HKG.out; omega
                        case rel => exact ⟨kk + 1, k1 + 1, by rw [mt_succ k1 (by have := HKM.out; have := HMJ.out; have := HTL.out; have := HN.out; have := HL.out; have := HLT.out; omega)], by have := HK1.out; omega, by have := HK1.out; have := HKM.out; omega, Nat.le_refl _, ⟨by
                          have h := HML2.out
                          have e : mg V (nxt P n td) VN (kk + 1) = fun r => if r = (k1 : Int) then .slice Ak (nxt P n td (k1 : Int)).length ck else mg V (nxt P n td) VN kk r := by
                            rw [HS.out]; funext p
                            rw [← HK1.out]
                            by_cases cc : p = (k1 : Int)
                            · rw [if_pos cc, if_pos cc, cc, HVK.out]
                            · rw [if_neg cc, if_neg cc]
                          rw [e]; exact h⟩, HGR2⟩
                    case neg =>
                    have : kk = m := by omega
                    subst this
                    have d9 : decide (k1 ≤ kk) = false := qF hlt
                    have d10 : decide ((k1 : Int) ≤ (kk : Int)) = false := qF (by omega)
                    clear hlt hk1 hkm hkg
                    have n0_ := kA (blk_map BT.out HGR.out NTP.out)
                    have n1_ := kA (R_maps HWT.out HM.out.obj HGR.out)
                    have n3_ := kA (show ∀ p : Int, (Lit.int .i64 p).wf = true → Kd.R (Kd.int .u8) 5 wq w.heap.size (fun _ => True) (mg V (nxt P n td) VN kk p) (merged P n td p) from fun p hp => by
                      rw [← mg_merged, ← HMJ.out]
                      unfold mg
                      by_cases cc : 1 ≤ p ∧ p ≤ (kk : Int) ∧ 0 < (nxt P n td p).length
                      · rw [if_pos cc, if_pos cc]; exact R_maps (HPN.out p hp) HM.out.obj HGR.out
                      · rw [if_neg cc, if_neg cc]; exact R_maps (HP.out p hp) HM.out.obj HGR.out)
                    have n6_ := kA (blk_map BS.out HGR.out NSP.out)
                    have n7_ := kA (blk_map BV.out HGR.out NVP.out)
                    have n8_ := kA (Kd.V_grown HV.out HGR.out (fun k hk => by have := hk.2; simpa using this))
                    have n9_ := kA (below_map HB.out HGR.out GP.out (below_size HB.out))
                    clear BT HWT HP BS BV HV HB HM HMN HPN HGR NVP NSP NNP
                    have BT := n0_; have HWT := n1_; have HP := n3_; have BS := n6_; have BV := n7_; have HV := n8_; have HB := n9_; have HM := HML
                    clear n0_ n1_ n3_ n6_ n7_ n8_ n9_ HML
                    obtain ⟨hcv0, hfv0⟩ := cY0 BV; obtain ⟨hct0, hft0⟩ := cY0 BT
                    go_upto_region 43 with (fail)
                    have n0_ := kA (show (wq.setCell ⟨bt, 0, none⟩ (.slice Av2 T2.length cv2)).heap[bt]? = some (.cells #[.slice Av2 T2.length cv2] 24 (0, 0)) from pP BT)
                    have n1_ := kA (show Kd.R (Kd.int .u8) 5 (wq.setCell ⟨bt, 0, none⟩ (.slice Av2 T2.length cv2)) w.heap.size (fun _ => True) u6 wt from fR ⟨Kd.R_types HWT.out BT.out (by decide)⟩)
                    have n2_ := kA (show RowsOf (wq.setCell ⟨bt, 0, none⟩ (.slice Av2 T2.length cv2)) bp (B + kk) (mg V (nxt P n td) VN kk) from HM.out.far (HM.out.ne BT.out) _)
                    have n3_ := kA (show ∀ p : Int, (Lit.int .i64 p).wf = true → Kd.R (Kd.int .u8) 5 (wq.setCell ⟨bt, 0, none⟩ (.slice Av2 T2.length cv2)) w.heap.size (fun _ => True) (mg V (nxt P n td) VN kk p) (merged P n td p) from fun p hp => fR ⟨Kd.R_types (HP.out p hp) BT.out (by decide)⟩)
                    have n6_ := kA (show (wq.setCell ⟨bt, 0, none⟩ (.slice Av2 T2.length cv2)).heap[gs]? = some (.cells #[.int .i64 do_, .int .i64 at_, .slice Ad d.length cd] 67 (0, 0)) from blk_far BS.out NST.out _)
                    have n8_ := kA (show Kd.V k28 28 (wq.setCell ⟨bt, 0, none⟩ (.slice Av2 T2.length cv2)) 0 (fun k => k ≠ bt ∧ k ≠ bp) (.slice Av2 T2.length cv2) T2 from Kd.V_far HV.out (fun _ hk => hk.1) _)
                    have n9_ := kA (show Below w.heap.size w (wq.setCell ⟨bt, 0, none⟩ (.slice Av2 T2.length cv2)) from below_set HB.out GT.out)
                    clear hcv0 hfv0 hct0 hft0 BT HWT HM HP BS HV HB BV
                    generalize (wq.setCell ⟨bt, 0, none⟩ (.slice Av2 T2.length cv2)) = w19 at n0_ n1_ n2_ n3_ n6_ n8_ n9_ ⊢
                    have BT := n0_; have HWT := n1_; have HM := n2_; have HP := n3_; have BS := n6_; have HV := n8_; have HB := n9_
                    clear n0_ n1_ n2_ n3_ n6_ n8_ n9_
                    obtain ⟨hcs0, hfs0⟩ := cY0 BS; obtain ⟨hcs1, hfs1⟩ := cY1 BS; obtain ⟨hcs2, hfs2⟩ := cY2 BS
                    obtain ⟨Aw, cw, ew⟩ := Kd.R_slice HWT.out; subst ew
                    have HCW := kA (Kd.R_reads' HWT.out).2
                    have HY := kA (Below.refl w19.heap.size w19)
                    go_upto_region 44 with ((with_reducible refine gate_callee (f := 41) rfl ?_); (try (refine gate_guard (by rfl) ?_; dsimp only)); refine goesK (some 185) Try.func41 #[.slice Aw wt.length cw, .agg #[.int .i64 do_, .int .i64 at_, .slice Ad d.length cd]] ?_; (with_reducible refine (after_walk Aw cw wt do_ at_ Ad cd d _ ?side1 ?side2 ?side3 ?side4 ?side5 ?side6 ?side7 ?side8).mono ?_); (case side1 => exact HCW.out.2); (case side2 => exact HCW.out.1); (case side3 => exact Kd.C_below HDW.out HB.out); (case side4 => exact HCD.out); (case side5 => exact good_len HG.out); (case side6 => exact HDL.out); (case side7 => exact HO1.out); (case side8 => exact HO2.out); rintro e_ w20 ⟨va, rfl, ho, hb⟩; refine ⟨_, rfl, ?_⟩; have HWA := kA (Kd.R_lower ho (below_size HB.out)); replace HY := kH HY hb; clear ho hb)
                    have n0_ := kA (blk_below BT.out HY.out)
                    have n2_ := kA (HM.out.below HY.out)
                    have n3_ := kA (show ∀ p : Int, (Lit.int .i64 p).wf = true → Kd.R (Kd.int .u8) 5 w20 w.heap.size (fun _ => True) (mg V (nxt P n td) VN kk p) (merged P n td p) from fun p hp => Kd.R_below (HP.out p hp) HY.out)
                    have n8_ := kA (Kd.V_below HV.out HY.out)
                    have n9_ := kA (below_step HB.out HY.out)
                    clear hcs0 hfs0 hcs1 hfs1 hcs2 hfs2 BT HWT HM HP BS HV HB HY HCW
                    have BT := n0_; have HM := n2_; have HP := n3_; have HV := n8_; have HB := n9_
                    clear n0_ n2_ n3_ n8_ n9_
                    obtain ⟨hct0, hft0⟩ := cY0 BT
                    obtain ⟨kr, Lr, r1, r2, r3, r4⟩ := good_read HG2.out
                    have HR1 := kA r1; have HR2 := kA r2; have HR3 := kA r3; have HR4 := kA r4; clear r1 r2 r3 r4
                    rw [← HT2.out] at HR1
                    have HCV := kA (Kd.V_reads' HV.out).2
                    have HY := kA (Below.refl w20.heap.size w20)
                    go_upto_region 45 with ((with_reducible refine gate_callee (f := 42) rfl ?_); (try (refine gate_guard (by rfl) ?_; dsimp only)); refine goesK (some 189) Try.func42 #[.agg #[.slice Av2 T2.length cv2], .map (some bp)] ?_; (with_reducible refine (read_walk Av2 cv2 T2 bp (B + kk) _ (merged P n td) Lr kr _ ?side1 ?side2 HM.out ?side3 HR1.out ?side4 q' ?side5 ?side6 HR2.out HR3.out ?side7).mono ?_); (case side1 => exact HCV.out.2); (case side2 => exact HCV.out.1); (case side3 => exact fun p hp => Kd.R_reads (HP.out p hp)); (case side4 => rw [HT12.out]; decide); (case side5 => rw [HT2.out]; rfl); (case side6 => exact (good_q HG2.out).1); (case side7 => exact (good_q HG2.out).2); rintro e_ w21 ⟨vr, rfl, ho, hb⟩; refine ⟨_, rfl, ?_⟩; rw [HR4.out] at ho; have HGT := kA ho; replace HY := kH HY hb; clear ho hb)
                    obtain ⟨Ag, cg, eg⟩ := Kd.R_slice HGT.out; subst eg
                    obtain ⟨Ah, ch, eh⟩ := Kd.R_slice HWA.out; subst eh
                    have hv1 := Kd.C_string (P := Try.prog) (dst := 9) (c := cg) Try.underlying50 Try.underlying5 Try.underlying9 (Kd.R_reads' HGT.out).2.2
                    have hv2 := Kd.C_string (P := Try.prog) (dst := 9) (c := ch) Try.underlying50 Try.underlying5 Try.underlying9 (Kd.C_below (Kd.R_reads' HWA.out).2.2 HY.out)
                    have n0_ := kA (blk_below BT.out HY.out)
                    have n1_ := kA (Kd.R_below HWA.out HY.out)
                    have n2_ := kA (HM.out.below HY.out)
                    have n3_ := kA (show ∀ p : Int, (Lit.int .i64 p).wf = true → Kd.R (Kd.int .u8) 5 w21 w.heap.size (fun _ => True) (mg V (nxt P n td) VN kk p) (merged P n td p) from fun p hp => Kd.R_below (HP.out p hp) HY.out)
                    have n8_ := kA (Kd.V_below HV.out HY.out)
                    have n9_ := kA (below_step HB.out HY.out)
                    clear BT HWA HM HP HV HB HY HGT hct0 hft0
                    have BT := n0_; have HWT := n1_; have HM := n2_; have HP := n3_; have HV := n8_; have HB := n9_
                    clear n0_ n1_ n2_ n3_ n8_ n9_
                    go_wp2
                    clear hv1 hv2
                    go_roundg (l.length - (i + 1))
                    case measure => have := HLT.out; have := HIG.out; omega
                    case rel => exact ⟨i + 1, kk, B + kk, s', q', merged P n td, afterB wt do_ at_ d, _, _, by rw [mt_succ i (by have := HLT.out; have := HL.out; omega)], rfl, HLT.out, Nat.le_refl _, by have := HMJ.out; have := HTL.out; have := HN.out; omega, by have := HMJ.out; have := HTL.out; have := HN.out; have := HBN.out; have := HLT.out; have := HL.out; omega, by rw [HMJ.out]; exact HG2.out, BT, ⟨by rw [← HT2.out]; exact HV.out⟩, HWT, HM, HP, HB⟩
end Go.Proofs.Ytkigiehkckjlhaa.ReadsWalk
