/- The example of the chapter. PRINTED by a program of this session's own (gen_p.py). -/
import Derived.Test.YtdckgfhdkehlmaaGreatSameP
namespace Go.Proofs.YtdckgfhdkehlmaaGreat
open Go.RowKit QD
theorem rd_box {α : Type} [VT α] {w : World} {g : Nat} {xs : List α} (h : ∀ (j : Nat) u, (xs.flatMap VT.cells)[j]? = some u → w.cell? ⟨g, j, none⟩ = some u) (hr : ∀ x ∈ xs, VT.rd w x) : Ls.rd w (⟨some ⟨g, 0, none⟩, xs.length, xs.length, xs⟩ : Ls α) :=
  ⟨⟨rfl, Nat.le_refl _, fun _ => ⟨g, 0, rfl, fun j u hj => by rw [Nat.zero_add]; exact h j u hj⟩⟩, hr⟩
def conf0 : PartConf := { (default : PartConf) with words := 1, procs := [default], semas := [{ (default : SemaConf) with most := 1 }] }
def aw1 : Part := newT conf0 0
def aw2 : Part := (modeT conf0 aw1 2 0).1
def awq : Part × Int × Int × Int := callT semaWaitG conf0 aw2 0 17 0 5 0 10
def awr : Part × Int × Int × Int := callT semaWaitG conf0 aw2 0 17 0 0 0 10
def awy : Proc := awq.1.procs.headD default
theorem few_aw : FewC 4096 conf0 ∧ Few 4095 aw1 ∧ Few 4095 aw2 := by unfold FewC Few; decide
theorem aw_vals : (modeT conf0 aw1 2 0).2 = 0 ∧ awq.2.1 = 6 ∧ awr.2.1 = 2 ∧ awq.1.procs.length = 1 ∧ awq.1.procs[0]? = some awy ∧ awy.state = 2 ∧ awy.until_ = 15 ∧ awq.1.begun = 1 ∧ aw2.procs.length = 1 ∧ ∀ s ∈ aw2.semas, s.ranked = false := by decide
theorem few_awc {a1 : Int} (h : a1 = 5 ∨ a1 = 0) : Few 4096 (semaWaitG ⟨conf0, aw2, 0, 10, 0, a1, 0, 0, 0, 0, 0, []⟩).1.p := by rcases h with rfl | rfl <;> (unfold Few; decide)
theorem wk_awc {a1 : Int} (h : a1 = 5 ∨ a1 = 0) : (semaWaitG ⟨conf0, aw2, 0, 10, 0, a1, 0, 0, 0, 0, 0, []⟩).1.wakes.length ≤ 4096 := by rcases h with rfl | rfl <;> decide
theorem en14 (args : Array Value) (w : World) : (callFunc 14 args).run Tryz.prog w = .ok (.enter 14 args) w := enters Tryz.func14 (by kernel_rfl) rfl args w
theorem en16 (args : Array Value) (w : World) : (callFunc 16 args).run Tryz.prog w = .ok (.enter 16 args) w := enters Tryz.func16 (by kernel_rfl) rfl args w
theorem en23 (args : Array Value) (w : World) : (callFunc 23 args).run Tryz.prog w = .ok (.enter 23 args) w := enters Tryz.func23 (by kernel_rfl) rfl args w
theorem en72 (args : Array Value) (w : World) : (callFunc 72 args).run Tryz.prog w = .ok (.enter 72 args) w := enters Tryz.func72 (by kernel_rfl) rfl args w
set_option maxHeartbeats 4000000 in
set_option maxRecDepth 10000 in
theorem awake_any (w0 : World) :
    Calls Tryz.prog 10 #[] w0 fun e w' => e = .returned (.bool true) ∧ Below w0.heap.size w0 w' := by
  refine enter 80 Tryz.func10 rfl rfl rfl rfl fun Q a hQ H => ?_
  have S := St.nil w0
  refine wp_seq_k fun K1 hK1 => ?_
  refine R0 ?_
  refine L H rfl rfl rfl (r_assign H rfl rfl) ?_; clear H a; intro a H
  refine LE ?_
  refine hK1 _ _ ?_; clear hK1
  refine wp_seq_k fun K2 hK2 => ?_
  refine R0 ?_
  refine L H rfl rfl rfl (r_build H rfl rfl (build_st (cs := [.int .i64 0, .int .i64 0, .int .i64 0, .int .i64 0, .bool false].toArray) (ss := [1, 1, 1, 1, 1]) Tryz.zeroValue68 Tryz.underlying68 (by exact ⟨Tryz.sizeOf3, Tryz.sizeOf3, Tryz.sizeOf3, Tryz.sizeOf3, Tryz.sizeOf4, trivial⟩) (by kernel_rfl))) ?_; clear H a; intro a H
  refine M_bslice (cs := [.int .i64 0, .int .i64 0, .int .i64 0, .int .i64 0, .bool false]) H S 113 rfl rfl rfl rfl rfl (bslice_run Tryz.underlying23 Tryz.sizeOf68 Tryz.zeroValue68 rfl rfl (by kernel_rfl)) ?_; clear H S a; intro a g113 wb113 hg113 hgl113 hlo113 hdr113 H S
  refine L H rfl rfl rfl (r_build H rfl rfl (build_st (cs := [.int .i64 0, .int .i64 1, .bool false].toArray) (ss := [1, 1, 1]) Tryz.zeroValue70 Tryz.underlying70 (by exact ⟨Tryz.sizeOf3, Tryz.sizeOf3, Tryz.sizeOf4, trivial⟩) (by kernel_rfl))) ?_; clear H a; intro a H
  refine M_bslice (cs := [.int .i64 0, .int .i64 1, .bool false]) H S 115 rfl rfl rfl rfl rfl (bslice_run Tryz.underlying25 Tryz.sizeOf70 Tryz.zeroValue70 rfl rfl (by kernel_rfl)) ?_; clear H S a; intro a g115 wb115 hg115 hgl115 hlo115 hdr115 H S
  refine L H rfl rfl rfl (r_build H rfl rfl (build_st (cs := [.int .i64 1, .slice none 0 0, Ls.v (⟨some ⟨g113, 0, none⟩, 1, 1, [(⟨0, 0, 0, 0, false⟩ : ProcConf)]⟩ : Ls ProcConf), .int .i64 0, .slice none 0 0, Ls.v (⟨some ⟨g115, 0, none⟩, 1, 1, [(⟨0, 1, false⟩ : SemaConf)]⟩ : Ls SemaConf), .int .i64 0, .slice none 0 0, .slice none 0 0, .int .i64 0, .slice none 0 0].toArray) (ss := [1, 1, 1, 1, 1, 1, 1, 1, 1, 1, 1]) Tryz.zeroValue28 Tryz.underlying28 (by exact ⟨Tryz.sizeOf3, Tryz.sizeOf22, Tryz.sizeOf23, Tryz.sizeOf3, Tryz.sizeOf24, Tryz.sizeOf25, Tryz.sizeOf3, Tryz.sizeOf26, Tryz.sizeOf26, Tryz.sizeOf3, Tryz.sizeOf26, trivial⟩) (by kernel_rfl))) ?_; clear H a; intro a H
  refine M_alloc H S 101 rfl rfl rfl rfl Tryz.zeroValue28 rfl ?_; clear H S a; intro a g101 wb101 hg101 hgl101 hlo101 hdr101 H S
  refine M_storeS H S 101 rfl rfl rfl rfl rfl rfl Tryz.sizeOf28 rfl rfl rfl ?_; clear S; intro w1 hbs_w1 hdr_w1 S
  refine LE ?_
  refine hK2 _ _ ?_; clear hK2
  refine wp_seq_k fun K3 hK3 => ?_
  refine R0 ?_
  refine L H rfl rfl rfl (r_loadB H S 101 rfl rfl Tryz.isAgg28 Tryz.sizeOf28 rfl rfl rfl) ?_; clear H a; intro a H
  refine LC H rfl rfl rfl (r_call H rfl rfl en14) ((new_any (⟨1, Ls.nil, (⟨some ⟨g113, 0, none⟩, 1, 1, [(⟨0, 0, 0, 0, false⟩ : ProcConf)]⟩ : Ls ProcConf), 0, Ls.nil, (⟨some ⟨g115, 0, none⟩, 1, 1, [(⟨0, 1, false⟩ : SemaConf)]⟩ : Ls SemaConf), 0, Ls.nil, Ls.nil, 0, Ls.nil⟩ : PartConfV) 0 w1 ⟨(rd_nil _), (rd_box (α := ProcConf) (g := g113) (xs := [(⟨0, 0, 0, 0, false⟩ : ProcConf)]) (fun j u hj => S.cell 113 rfl rfl hj) (fun _ _ => True.intro)), (rd_nil _), (rd_box (α := SemaConf) (g := g115) (xs := [(⟨0, 1, false⟩ : SemaConf)]) (fun j u hj => S.cell 115 rfl rfl hj) (fun _ _ => True.intro)), (rd_nil _), (rd_nil _), (rd_nil _)⟩ (show FewC 4096 conf0 from few_aw.1)).mono ?_)
  rintro e w2 ⟨r2, rfl, hb2, ho2, hd2⟩
  refine ⟨_, rfl, ?_⟩; clear H a; intro a H
  replace S := S.gives 11800 hb2 ho2
  have k1 : r2.d = aw1 := hd2
  refine M_alloc H S 102 rfl rfl rfl rfl Tryz.zeroValue39 rfl ?_; clear H S a; intro a g102 wb102 hg102 hgl102 hlo102 hdr102 H S
  refine M_storeS H S 102 rfl rfl rfl rfl rfl rfl Tryz.sizeOf39 rfl rfl rfl ?_; clear S; intro w3 hbs_w3 hdr_w3 S
  refine LE ?_
  refine hK3 _ _ ?_; clear hK3
  refine wp_seq_k fun K4 hK4 => ?_
  refine R0 ?_
  refine L H rfl rfl rfl (r_loadB H S 101 rfl rfl Tryz.isAgg28 Tryz.sizeOf28 rfl rfl rfl) ?_; clear H a; intro a H
  refine L H rfl rfl rfl (r_loadB H S 102 rfl rfl Tryz.isAgg39 Tryz.sizeOf39 rfl rfl rfl) ?_; clear H a; intro a H
  refine LC H rfl rfl rfl (r_call H rfl rfl en23) ((mode_any (⟨1, Ls.nil, (⟨some ⟨g113, 0, none⟩, 1, 1, [(⟨0, 0, 0, 0, false⟩ : ProcConf)]⟩ : Ls ProcConf), 0, Ls.nil, (⟨some ⟨g115, 0, none⟩, 1, 1, [(⟨0, 1, false⟩ : SemaConf)]⟩ : Ls SemaConf), 0, Ls.nil, Ls.nil, 0, Ls.nil⟩ : PartConfV) r2 2 0 w3 ⟨(rd_nil _), (rd_box (α := ProcConf) (g := g113) (xs := [(⟨0, 0, 0, 0, false⟩ : ProcConf)]) (fun j u hj => S.cell 113 rfl rfl hj) (fun _ _ => True.intro)), (rd_nil _), (rd_box (α := SemaConf) (g := g115) (xs := [(⟨0, 1, false⟩ : SemaConf)]) (fun j u hj => S.cell 115 rfl rfl hj) (fun _ _ => True.intro)), (rd_nil _), (rd_nil _), (rd_nil _)⟩ ⟨(rd_of_items _ (S.holds 11800 _ rfl) (fun _ _ => trivial)), (rd_of_items _ (S.holds 11801 _ rfl) (fun _ _ => trivial)), (rd_of_items _ (S.holds 11802 _ rfl) (S.holds 11803 _ rfl)), (rd_of_items _ (S.holds 11804 _ rfl) (S.holds 11805 _ rfl)), (rd_of_items _ (S.holds 11806 _ rfl) (S.holds 11807 _ rfl)), (rd_of_items _ (S.holds 11808 _ rfl) (S.holds 11809 _ rfl)), (rd_of_items _ (S.holds 11810 _ rfl) (fun _ _ => trivial)), (rd_of_items _ (S.holds 11811 _ rfl) (S.holds 11812 _ rfl)), (rd_of_items _ (S.holds 11813 _ rfl) (fun _ _ => trivial)), (rd_of_items _ (S.holds 11814 _ rfl) (fun _ _ => trivial))⟩ (show FewC 4096 conf0 from few_aw.1) (by rw [k1]; exact few_mono few_aw.2.1 (by decide))).mono ?_)
  rintro e w4 ⟨r4, r4b, rfl, hb4, ho4, hd4⟩
  refine ⟨_, rfl, ?_⟩; clear H a; intro a H
  replace S := S.gives 12200 hb4 ho4
  rw [k1] at hd4
  have k2 : r4.d = aw2 := congrArg Prod.fst hd4
  have k2c : r4b = 0 := (congrArg Prod.snd hd4).trans aw_vals.1
  refine L H rfl rfl rfl (r_move H rfl rfl) ?_; clear H a; intro a H
  refine L H rfl rfl rfl (r_extract H rfl rfl rfl) ?_; clear H a; intro a H
  refine L H rfl rfl rfl (r_extract H rfl rfl rfl) ?_; clear H a; intro a H
  refine M_storeS H S 102 rfl rfl rfl rfl rfl rfl Tryz.sizeOf39 rfl rfl rfl ?_; clear S; intro w5 hbs_w5 hdr_w5 S
  refine L H rfl rfl rfl (r_assign H rfl rfl) ?_; clear H a; intro a H
  refine LE ?_
  refine hK4 _ _ ?_; clear hK4
  refine wp_seq_k fun K5 hK5 => ?_
  refine R0 ?_
  refine L H rfl rfl rfl (r_loadB H S 101 rfl rfl Tryz.isAgg28 Tryz.sizeOf28 rfl rfl rfl) ?_; clear H a; intro a H
  refine L H rfl rfl rfl (r_loadB H S 102 rfl rfl Tryz.isAgg39 Tryz.sizeOf39 rfl rfl rfl) ?_; clear H a; intro a H
  refine L H rfl rfl rfl (r_build H rfl rfl (build_arr (cs := #[.int .i64 0, .int .i64 5, .int .i64 0]) Tryz.zeroValue47 Tryz.underlying47 Tryz.sizeOf3 (by kernel_rfl))) ?_; clear H a; intro a H
  refine LC H rfl rfl rfl (r_call H rfl rfl en16) ((call_any _ semaWaitG 72 (⟨1, Ls.nil, (⟨some ⟨g113, 0, none⟩, 1, 1, [(⟨0, 0, 0, 0, false⟩ : ProcConf)]⟩ : Ls ProcConf), 0, Ls.nil, (⟨some ⟨g115, 0, none⟩, 1, 1, [(⟨0, 1, false⟩ : SemaConf)]⟩ : Ls SemaConf), 0, Ls.nil, Ls.nil, 0, Ls.nil⟩ : PartConfV) r4 0 17 0 5 0 10 w5 ⟨(rd_nil _), (rd_box (α := ProcConf) (g := g113) (xs := [(⟨0, 0, 0, 0, false⟩ : ProcConf)]) (fun j u hj => S.cell 113 rfl rfl hj) (fun _ _ => True.intro)), (rd_nil _), (rd_box (α := SemaConf) (g := g115) (xs := [(⟨0, 1, false⟩ : SemaConf)]) (fun j u hj => S.cell 115 rfl rfl hj) (fun _ _ => True.intro)), (rd_nil _), (rd_nil _), (rd_nil _)⟩ ⟨(rd_of_items _ (S.holds 12200 _ rfl) (fun _ _ => trivial)), (rd_of_items _ (S.holds 12201 _ rfl) (fun _ _ => trivial)), (rd_of_items _ (S.holds 12202 _ rfl) (S.holds 12203 _ rfl)), (rd_of_items _ (S.holds 12204 _ rfl) (S.holds 12205 _ rfl)), (rd_of_items _ (S.holds 12206 _ rfl) (S.holds 12207 _ rfl)), (rd_of_items _ (S.holds 12208 _ rfl) (S.holds 12209 _ rfl)), (rd_of_items _ (S.holds 12210 _ rfl) (fun _ _ => trivial)), (rd_of_items _ (S.holds 12211 _ rfl) (S.holds 12212 _ rfl)), (rd_of_items _ (S.holds 12213 _ rfl) (fun _ _ => trivial)), (rd_of_items _ (S.holds 12214 _ rfl) (fun _ _ => trivial))⟩ (show FewC 4096 conf0 from few_aw.1) (by rw [k2]; exact few_aw.2.2) (by decide) (by rw [k2]; show (0 : Int) < (aw2.procs.length : Int); rw [aw_vals.2.2.2.2.2.2.2.2.1]; decide) (by decide) (by decide) rfl en72 meth_semaWait0 (by rw [k2]; exact aw_vals.2.2.2.2.2.2.2.2.2) (by rw [k2]; exact few_awc (.inl rfl)) (by rw [k2]; exact wk_awc (.inl rfl))).mono ?_)
  rintro e w6 ⟨r6, r6b, r6c, r6d, rfl, hb6, ho6, hd6⟩
  refine ⟨_, rfl, ?_⟩; clear H a; intro a H
  replace S := S.gives 12900 hb6 ho6
  rw [k2] at hd6
  have kawq : r6.d = awq.1 := congrArg Prod.fst hd6
  have kawqc : r6b = awq.2.1 := congrArg (fun z => z.2.1) hd6
  rw [aw_vals.2.1] at kawqc
  refine L H rfl rfl rfl (r_move H rfl rfl) ?_; clear H a; intro a H
  refine L H rfl rfl rfl (r_extract H rfl rfl rfl) ?_; clear H a; intro a H
  refine L H rfl rfl rfl (r_extract H rfl rfl rfl) ?_; clear H a; intro a H
  refine L H rfl rfl rfl (r_extract H rfl rfl rfl) ?_; clear H a; intro a H
  refine L H rfl rfl rfl (r_extract H rfl rfl rfl) ?_; clear H a; intro a H
  refine M_alloc H S 104 rfl rfl rfl rfl Tryz.zeroValue39 rfl ?_; clear H S a; intro a g104 wb104 hg104 hgl104 hlo104 hdr104 H S
  refine M_storeS H S 104 rfl rfl rfl rfl rfl rfl Tryz.sizeOf39 rfl rfl rfl ?_; clear S; intro w7 hbs_w7 hdr_w7 S
  refine L H rfl rfl rfl (r_assign H rfl rfl) ?_; clear H a; intro a H
  refine L H rfl rfl rfl (r_assign H rfl rfl) ?_; clear H a; intro a H
  refine L H rfl rfl rfl (r_assign H rfl rfl) ?_; clear H a; intro a H
  refine LE ?_
  refine hK5 _ _ ?_; clear hK5
  refine wp_seq_k fun K6 hK6 => ?_
  refine R0 ?_
  refine L H rfl rfl rfl (r_loadB H S 101 rfl rfl Tryz.isAgg28 Tryz.sizeOf28 rfl rfl rfl) ?_; clear H a; intro a H
  refine L H rfl rfl rfl (r_loadB H S 102 rfl rfl Tryz.isAgg39 Tryz.sizeOf39 rfl rfl rfl) ?_; clear H a; intro a H
  refine L H rfl rfl rfl (r_build H rfl rfl (build_arr (cs := #[.int .i64 0, .int .i64 0, .int .i64 0]) Tryz.zeroValue47 Tryz.underlying47 Tryz.sizeOf3 (by kernel_rfl))) ?_; clear H a; intro a H
  refine LC H rfl rfl rfl (r_call H rfl rfl en16) ((call_any _ semaWaitG 72 (⟨1, Ls.nil, (⟨some ⟨g113, 0, none⟩, 1, 1, [(⟨0, 0, 0, 0, false⟩ : ProcConf)]⟩ : Ls ProcConf), 0, Ls.nil, (⟨some ⟨g115, 0, none⟩, 1, 1, [(⟨0, 1, false⟩ : SemaConf)]⟩ : Ls SemaConf), 0, Ls.nil, Ls.nil, 0, Ls.nil⟩ : PartConfV) r4 0 17 0 0 0 10 w7 ⟨(rd_nil _), (rd_box (α := ProcConf) (g := g113) (xs := [(⟨0, 0, 0, 0, false⟩ : ProcConf)]) (fun j u hj => S.cell 113 rfl rfl hj) (fun _ _ => True.intro)), (rd_nil _), (rd_box (α := SemaConf) (g := g115) (xs := [(⟨0, 1, false⟩ : SemaConf)]) (fun j u hj => S.cell 115 rfl rfl hj) (fun _ _ => True.intro)), (rd_nil _), (rd_nil _), (rd_nil _)⟩ ⟨(rd_of_items _ (S.holds 12200 _ rfl) (fun _ _ => trivial)), (rd_of_items _ (S.holds 12201 _ rfl) (fun _ _ => trivial)), (rd_of_items _ (S.holds 12202 _ rfl) (S.holds 12203 _ rfl)), (rd_of_items _ (S.holds 12204 _ rfl) (S.holds 12205 _ rfl)), (rd_of_items _ (S.holds 12206 _ rfl) (S.holds 12207 _ rfl)), (rd_of_items _ (S.holds 12208 _ rfl) (S.holds 12209 _ rfl)), (rd_of_items _ (S.holds 12210 _ rfl) (fun _ _ => trivial)), (rd_of_items _ (S.holds 12211 _ rfl) (S.holds 12212 _ rfl)), (rd_of_items _ (S.holds 12213 _ rfl) (fun _ _ => trivial)), (rd_of_items _ (S.holds 12214 _ rfl) (fun _ _ => trivial))⟩ (show FewC 4096 conf0 from few_aw.1) (by rw [k2]; exact few_aw.2.2) (by decide) (by rw [k2]; show (0 : Int) < (aw2.procs.length : Int); rw [aw_vals.2.2.2.2.2.2.2.2.1]; decide) (by decide) (by decide) rfl en72 meth_semaWait0 (by rw [k2]; exact aw_vals.2.2.2.2.2.2.2.2.2) (by rw [k2]; exact few_awc (.inr rfl)) (by rw [k2]; exact wk_awc (.inr rfl))).mono ?_)
  rintro e w8 ⟨r8, r8b, r8c, r8d, rfl, hb8, ho8, hd8⟩
  refine ⟨_, rfl, ?_⟩; clear H a; intro a H
  replace S := S.gives 13800 hb8 ho8
  rw [k2] at hd8
  have kawr : r8.d = awr.1 := congrArg Prod.fst hd8
  have kawrc : r8b = awr.2.1 := congrArg (fun z => z.2.1) hd8
  rw [aw_vals.2.2.1] at kawrc
  refine L H rfl rfl rfl (r_move H rfl rfl) ?_; clear H a; intro a H
  refine L H rfl rfl rfl (r_extract H rfl rfl rfl) ?_; clear H a; intro a H
  refine L H rfl rfl rfl (r_extract H rfl rfl rfl) ?_; clear H a; intro a H
  refine L H rfl rfl rfl (r_extract H rfl rfl rfl) ?_; clear H a; intro a H
  refine L H rfl rfl rfl (r_extract H rfl rfl rfl) ?_; clear H a; intro a H
  refine M_alloc H S 108 rfl rfl rfl rfl Tryz.zeroValue39 rfl ?_; clear H S a; intro a g108 wb108 hg108 hgl108 hlo108 hdr108 H S
  refine M_storeS H S 108 rfl rfl rfl rfl rfl rfl Tryz.sizeOf39 rfl rfl rfl ?_; clear S; intro w9 hbs_w9 hdr_w9 S
  refine L H rfl rfl rfl (r_assign H rfl rfl) ?_; clear H a; intro a H
  refine L H rfl rfl rfl (r_assign H rfl rfl) ?_; clear H a; intro a H
  refine L H rfl rfl rfl (r_assign H rfl rfl) ?_; clear H a; intro a H
  refine LE ?_
  refine hK6 _ _ ?_; clear hK6
  refine wp_seq_k fun K7 hK7 => ?_
  have hy : r6.procs.xs[0]? = some awy := by rw [show r6.procs.xs = awq.1.procs from congrArg Part.procs kawq]; exact aw_vals.2.2.2.2.1
  have hnq : r6.procs.xs.length = 1 := by rw [show r6.procs.xs = awq.1.procs from congrArg Part.procs kawq]; exact aw_vals.2.2.2.1
  have hnn := rowL_n (S.holds 12901 _ rfl)
  have hbq : r6.begun = 1 := (show r6.begun = awq.1.begun from congrArg Part.begun kawq).trans aw_vals.2.2.2.2.2.2.2.1
  have hy1 := aw_vals.2.2.2.2.2.1
  have hy2 := aw_vals.2.2.2.2.2.2.1
  obtain ⟨gy, oy, hay, haty⟩ := RdL.at (rdL_of_row _ (S.holds 12901 _ rfl)) hy
  refine R0 ?_
  refine L H rfl rfl rfl (r_move H rfl rfl) ?_; clear H a; intro a H
  refine L H rfl rfl rfl (r_eql H rfl rfl rfl) ?_; clear H a; intro a H
  refine is_ (s := 44) (c := true) H rfl (decide_eq_true (by omega)) fun Hn => ?_; replace H := Hn; clear Hn
  refine L H rfl rfl rfl (r_move H rfl rfl) ?_; clear H a; intro a H
  refine LG H rfl rfl ?_
  refine L H rfl rfl rfl (r_move H rfl rfl) ?_; clear H a; intro a H
  refine LG H rfl rfl ?_
  refine L H rfl rfl rfl (r_eql H rfl rfl rfl) ?_; clear H a; intro a H
  refine is_ (s := 47) (c := true) H rfl (decide_eq_true (by omega)) fun Hn => ?_; replace H := Hn; clear Hn
  refine L H rfl rfl rfl (r_pickT H rfl rfl rfl) ?_; clear H a; intro a H
  refine L H rfl rfl rfl (r_move H rfl rfl) ?_; clear H a; intro a H
  refine LG H rfl rfl ?_
  refine L H rfl rfl rfl (r_move H rfl rfl) ?_; clear H a; intro a H
  refine LG H rfl rfl ?_
  refine L H rfl rfl rfl (r_eql H rfl rfl rfl) ?_; clear H a; intro a H
  refine is_ (s := 51) (c := true) H rfl (decide_eq_true (by omega)) fun Hn => ?_; replace H := Hn; clear Hn
  refine L H rfl rfl rfl (r_pickT H rfl rfl rfl) ?_; clear H a; intro a H
  refine L H rfl rfl rfl (r_move H rfl rfl) ?_; clear H a; intro a H
  refine LG H rfl rfl ?_
  refine L H rfl rfl rfl (r_fa H rfl rfl Tryz.underlying39 rfl Tryz.sizeOf29 rfl 4 rfl) ?_; clear H a; intro a H
  refine LG H rfl rfl ?_
  refine L H rfl rfl rfl (r_load1B H S 104 rfl rfl Tryz.isAgg29 rfl rfl rfl) ?_; clear H a; intro a H
  refine LG H rfl rfl ?_
  refine L H rfl rfl rfl (r_len H rfl rfl Tryz.underlying29) ?_; clear H a; intro a H
  refine LG H rfl rfl ?_
  refine L H rfl rfl rfl (r_eql H rfl rfl rfl) ?_; clear H a; intro a H
  refine is_ (s := 57) (c := true) H rfl (decide_eq_true (by omega)) fun Hn => ?_; replace H := Hn; clear Hn
  refine L H rfl rfl rfl (r_pickT H rfl rfl rfl) ?_; clear H a; intro a H
  refine L H rfl rfl rfl (r_move H rfl rfl) ?_; clear H a; intro a H
  refine LG H rfl rfl ?_
  refine L H rfl rfl rfl (r_fa H rfl rfl Tryz.underlying39 rfl Tryz.sizeOf29 rfl 4 rfl) ?_; clear H a; intro a H
  refine LG H rfl rfl ?_
  refine L H rfl rfl rfl (r_load1B H S 104 rfl rfl Tryz.isAgg29 rfl rfl rfl) ?_; clear H a; intro a H
  refine LG H rfl rfl ?_
  refine L H rfl rfl rfl (r_iaA (g := gy) (i := oy) (j := 0) H rfl rfl hay rfl rfl Tryz.underlying29 Tryz.sizeOf52 (by omega)) ?_; clear H a; intro a H
  refine LG H rfl rfl ?_
  refine L H rfl rfl rfl (r_fa H rfl rfl Tryz.underlying52 rfl Tryz.sizeOf3 rfl 0 rfl) ?_; clear H a; intro a H
  refine LG H rfl rfl ?_
  refine L H rfl rfl rfl (r_load1 H rfl rfl Tryz.isAgg3 (haty 0 _ rfl)) ?_; clear H a; intro a H
  refine LG H rfl rfl ?_
  refine L H rfl rfl rfl (r_eql H rfl rfl rfl) ?_; clear H a; intro a H
  refine is_ (s := 65) (c := true) H rfl (decide_eq_true (by omega)) fun Hn => ?_; replace H := Hn; clear Hn
  refine L H rfl rfl rfl (r_pickT H rfl rfl rfl) ?_; clear H a; intro a H
  refine L H rfl rfl rfl (r_move H rfl rfl) ?_; clear H a; intro a H
  refine LG H rfl rfl ?_
  refine L H rfl rfl rfl (r_fa H rfl rfl Tryz.underlying39 rfl Tryz.sizeOf29 rfl 4 rfl) ?_; clear H a; intro a H
  refine LG H rfl rfl ?_
  refine L H rfl rfl rfl (r_load1B H S 104 rfl rfl Tryz.isAgg29 rfl rfl rfl) ?_; clear H a; intro a H
  refine LG H rfl rfl ?_
  refine L H rfl rfl rfl (r_iaA (g := gy) (i := oy) (j := 0) H rfl rfl hay rfl rfl Tryz.underlying29 Tryz.sizeOf52 (by omega)) ?_; clear H a; intro a H
  refine LG H rfl rfl ?_
  refine L H rfl rfl rfl (r_fa H rfl rfl Tryz.underlying52 rfl Tryz.sizeOf3 rfl 9 rfl) ?_; clear H a; intro a H
  refine LG H rfl rfl ?_
  refine L H rfl rfl rfl (r_load1 H rfl rfl Tryz.isAgg3 (haty 9 _ rfl)) ?_; clear H a; intro a H
  refine LG H rfl rfl ?_
  refine L H rfl rfl rfl (r_eql H rfl rfl rfl) ?_; clear H a; intro a H
  refine is_ (s := 73) (c := true) H rfl (decide_eq_true (by omega)) fun Hn => ?_; replace H := Hn; clear Hn
  refine L H rfl rfl rfl (r_pickT H rfl rfl rfl) ?_; clear H a; intro a H
  refine L H rfl rfl rfl (r_move H rfl rfl) ?_; clear H a; intro a H
  refine LG H rfl rfl ?_
  refine L H rfl rfl rfl (r_fa H rfl rfl Tryz.underlying39 rfl Tryz.sizeOf3 rfl 1 rfl) ?_; clear H a; intro a H
  refine LG H rfl rfl ?_
  refine L H rfl rfl rfl (r_load1B H S 104 rfl rfl Tryz.isAgg3 rfl rfl rfl) ?_; clear H a; intro a H
  refine LG H rfl rfl ?_
  refine L H rfl rfl rfl (r_eql H rfl rfl rfl) ?_; clear H a; intro a H
  refine is_ (s := 78) (c := true) H rfl (decide_eq_true (by omega)) fun Hn => ?_; replace H := Hn; clear Hn
  refine L H rfl rfl rfl (r_pickT H rfl rfl rfl) ?_; clear H a; intro a H
  refine L H rfl rfl rfl (r_assign H rfl rfl) ?_; clear H a; intro a H
  refine LE ?_
  refine hK7 _ _ ?_; clear hK7
  refine wp_ret ?_
  refine hQ.ret _ _ ?_
  refine ret1 H rfl rfl ?_
  exact ⟨rfl, S.below⟩

end Go.Proofs.YtdckgfhdkehlmaaGreat
