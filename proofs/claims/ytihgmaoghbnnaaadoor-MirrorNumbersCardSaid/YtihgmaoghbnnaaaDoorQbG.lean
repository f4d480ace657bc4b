/- Several texts in one: MrQ, MrR, MrS, MrT, MrV, MrU, MrY. -/
import Derived.Test.YtihgmaoghbnnaaaDoorProg
import Derived.Test.YtihgmaoghbnnaaaDoorQbF
import Derived.KernelRfl
import Derived.Test.YtihgmaoghbnnaaaDoorQbA
import Derived.Test.YtihgmaoghbnnaaaDoorQbB
import Derived.Test.YtihgmaoghbnnaaaDoorQbD
set_option linter.unusedVariables false
set_option linter.unusedSimpArgs false
namespace Go.Proofs.YtihgmaoghbnnaaaDoor
open Go.RowKit

variable {S S':Nat→Prop}

theorem applyV_sm {a:List It} {l:List Cg} (ha:∀ x∈a,x.data.length≤4294967296) (hl:∀ x∈l,x.data.length≤4294967296):∀ x∈applyV a l,x.data.length≤4294967296:=by
 intro x hx
 unfold applyV at hx
 split at hx
 ·obtain ⟨p,hp,hq⟩:=List.mem_flatMap.1 hx
  obtain ⟨h1,h2,-⟩:=mrg_mem a l p hp
  split at hq
  ·rcases p with ⟨_ | y,_ | z⟩ <;> simp only [astep] at hq
   ·exact absurd hq (by simp)
   ·split at hq
    ·exact absurd hq (by simp)
    ·rw [List.mem_singleton.1 hq];exact hl z (h2 z rfl)
   ·rw [List.mem_singleton.1 hq];exact ha y (h1 y rfl)
   ·split at hq
    ·exact absurd hq (by simp)
    ·rw [List.mem_singleton.1 hq];exact hl z (h2 z rfl)
  ·exact absurd hq (by simp)
 ·exact absurd hx (by simp)
theorem applyV_len (a:List It) (l:List Cg):(applyV a l).length≤65536:=by
 unfold applyV
 split
 ·rename_i h
  unfold applyE at h
  repeat (first | (split at h) | omega)
 ·simp
section
variable {N:Nat} {m:List (Nat × Value)} {a:Act} {f x k:Nat} {b0:Bool} {pub:List UInt8} {many no:Int} {FA:Option Addr} {fn fa:Nat} {FE:Option Addr} {en fe:Nat} {W:World} {R:Ending→World→Prop} {fc:List Value}
theorem ap_pan (hF:SlD [{ target:=.fn (.func 50) #[.pointer (some ⟨f,0,none⟩),.pointer (some ⟨x,0,none⟩),.pointer (some ⟨k,0,none⟩)],args:=#[] }] N m a) (h4:look m 4=some (.pointer (some ⟨x,0,none⟩))) (h5:look m 5=some (.pointer (some ⟨k,0,none⟩)))
  (hf:Blk W f 41 (dg pub [.int .i64 many,.int .i64 no,.slice FA fn fa,.slice FE en fe])) (hx:Blk W x 41 (dg zero32 [.int .i64 0,.int .i64 0,.slice none 0 0,.slice none 0 0])) (hk:Blk W k 4 [.bool b0]) (hp:pub.length=32) (h1:f≠x) (h2:f≠k) (h3:x≠k)
  (hR:∀ W',FarX (fun b=>b≠x∧b≠k∧b<W.heap.size) W W'→R (.returned (.tuple #[ag (dg pub [.int .i64 many,.int .i64 no,.slice FA fn fa,.slice FE en fe]),.bool false])) W'):bodyPostD Tryd.prog Tryd.f33 R (.panic [{ v:=.iface 99 (.agg #[]),recovered:=false }]) a W:=by
 show Leaves Tryd.prog _ a.tmps R a.defers _ W
 rw [hF.2]
 refine leaves_cons (f:=50) (args:=#[.pointer (some ⟨f,0,none⟩),.pointer (some ⟨x,0,none⟩),.pointer (some ⟨k,0,none⟩)]) (by simp) (by simp [go_sem]) ?_
 refine (catch_pan f x k b0 pub many no FA fn fa FE en fe W hf hx hk hp h1 h2 h3).mono ?_
 rintro e u' W' ⟨rfl,rfl,hx',hk',hE⟩
 show Leaves Tryd.prog _ a.tmps R [] .returning W'
 exact ⟨_,results_two rfl (hF.get h4) (hF.get h5) hx' Tryd.underlying41 rfl (sk inf41 (len_dig hp)) hk' Tryd.underlying4 rfl,hR W' hE⟩
theorem ap_ret {D1 D2 D3 v2:Value} (hF:SlD [{ target:=.fn (.func 50) #[D1,D2,D3],args:=#[] }] N m a) (h4:look m 4=some (.pointer (some ⟨x,0,none⟩))) (h5:look m 5=some (.pointer (some ⟨k,0,none⟩)))
  (hx:Blk W x 41 fc) (hk:Blk W k 4 [v2]) (hl:fc.length=36) (hR:R (.returned (.tuple #[.agg fc.toArray,v2])) W):bodyPostD Tryd.prog Tryd.f33 R .ret a W:=by
 show Leaves Tryd.prog _ a.tmps R a.defers _ W
 rw [hF.2]
 refine leaves_cons (f:=50) (args:=#[D1,D2,D3]) (by simp) (by simp [go_sem]) ?_
 refine (catch_idle D1 D2 D3 W).mono ?_
 rintro e u' W' ⟨rfl,rfl,rfl⟩
 show Leaves Tryd.prog _ a.tmps R [] .returning _
 exact ⟨_,results_two rfl (hF.get h4) (hF.get h5) hx Tryd.underlying41 rfl (inf41.trans (congrArg some hl.symm)) hk Tryd.underlying4 rfl,hR⟩
end

set_option maxRecDepth 100000 in
set_option maxHeartbeats 1000000 in
theorem mapply_any (FA:Option Addr) (fa:Nat) (FE:Option Addr) (fe:Nat) (C:Option Addr) (cc:Nat) (O:Option Addr) (oc:Nat) (E:Option Addr) (ec:Nat) (P:Option Addr) (pc:Nat) (f:Fo) (v:Vr) (w:World) (hf:RFo S w (vl FA f.items.length fa) (vl FE f.early.length fe) f) (hv:RVp S w (vl C v.chs.length cc) (vl O v.sg.op.length oc) (vl E v.sg.cl.length ec) (vl P v.sg.path.length pc) v) (hdi:∀ x∈f.items,x.data.length≤4294967296) (hdv:∀ x∈v.chs,x.data.length≤4294967296) (hG:Glob w) :
  Calls Tryd.prog 33 #[(ag (dg f.pub [(vi f.many),(vi f.no),(vl FA f.items.length fa),(vl FE f.early.length fe)])),(ag ((vi v.no)::dg v.state [(vl C v.chs.length cc),(vi v.sg.index),(vl O v.sg.op.length oc),(vl E v.sg.cl.length ec),(vl P v.sg.path.length pc)]))] w (fun en w'=>∃ c' e',en=.returned (.tuple #[ag (fcs (stepF f v).pub (stepF f v).many (stepF f v).no c' e'),.bool (decide (fits f v))])∧RFo (Fr S w) w' c' e' (stepF f v)∧Ext w w'):=by
 have hfc:=RFo.subB (S':=Clip S w) hf (fun _ hb hs=>⟨hs,hb⟩)
 obtain ⟨-,hfc1,hfc2⟩:=RLs.at hfc.items;obtain ⟨-,hfc3,hfc4⟩:=RLs.at hfc.early
 have hvc:=RVp.subB (S':=Clip S w) hv (fun _ hb hs=>⟨hs,hb⟩)
 obtain ⟨-,hvc1,hvc2⟩:=RLs.at hvc.chs;have hvc3:=(Fl.cel hvc.sg.op).2.1;have hvc4:=(Fl.cel hvc.sg.cl).2.1;have hvc5:=(Fl.cel hvc.sg.path).2.1
 refine calls_enterD (l:=[(ag (dg f.pub [(vi f.many),(vi f.no),(vl FA f.items.length fa),(vl FE f.early.length fe)])),(ag ((vi v.no)::dg v.state [(vl C v.chs.length cc),(vi v.sg.index),(vl O v.sg.op.length oc),(vl E v.sg.cl.length ec),(vl P v.sg.path.length pc)]))]) Tryd.func33 rfl rfl rfl (fun aA hF=>?_)
 refine wr fun K1 hK1=>?_
 refine hF.xb rfl fun g2 w3 _ F9 z6 z7 b4 hx5=>?_;clear hF
 refine F9.xb rfl fun g10 w11 _ F17 z14 z15 b12 hx13=>?_;clear F9
 refine F17.xz fz 41 fun g18 w19 _ F25 z22 z23 b20 hx21=>?_;clear F17
 refine F25.xz [(.bool false)] 4 fun g26 w27 _ F33 z30 z31 b28 hx29=>?_;clear F25
 refine wpList_nil (hK1 _ _ ?_);clear hK1
 refine wr fun K34 hK34=>?_
 refine F33.xw (.func (.func 50) #[] #[(vp g2),(vp g18),(vp g26)]) (fun F=>rn_makeFunc (args0 ) (args3 (F.get rfl) (F.get rfl) (F.get rfl)))<|fun _ F36=>?_;clear F33
 refine wpl_op (i:=1) rfl (o_defer F36 rfl rfl rfl (rn_defer (F36.get rfl)) ?_)
 intro a37 F38;clear F36
 refine wpList_nil (hK34 _ _ ?_);clear hK34
 refine wr fun K39 hK39=>?_
 refine wpl_op (i:=0) rfl (oD_val (v:=(.pointer (some ⟨g2,34,none⟩))) F38 rfl rfl rfl rfl (rn_field Tryd.underlying41 rfl (by kernel_rfl) (F38.get rfl) rfl) ?_)
 intro a40 F41;clear F38
 have b42:=(((b4.ext hx13).ext hx21).ext hx29)
 refine wpl_op (i:=1) rfl (oD_val (v:=(vl FA f.items.length fa)) F41 rfl rfl rfl rfl (rn_load (isAgg_no Tryd.underlying22 rfl) (F41.get rfl) ((b42.rule.1 34).trans ((at_app (k:=2) (byteVals_len hfc.pub)).trans rfl))) ?_)
 intro a43 F44;clear F41
 refine wpl_op (i:=2) rfl (oD_val (v:=(.pointer (some ⟨g10,33,none⟩))) F44 rfl rfl rfl rfl (rn_field Tryd.underlying30 rfl (by kernel_rfl) (F44.get rfl) rfl) ?_)
 intro a45 F46;clear F44
 have b47:=((b12.ext hx21).ext hx29)
 refine wpl_op (i:=3) rfl (oD_val (v:=(vl C v.chs.length cc)) F46 rfl rfl rfl rfl (rn_load (isAgg_no Tryd.underlying25 rfl) (F46.get rfl) ((b47.rule.1 33).trans ((at_app (k:=0) (byteVals_len hvc.st)).trans rfl))) ?_)
 intro a48 F49;clear F46
 have d50:=(RLs.ext rIt (RLs.ext rIt (RLs.ext rIt (RLs.ext rIt hfc.items hx5) hx13) hx21) hx29)
 have d51:=(RLs.ext rCg (RLs.ext rCg (RLs.ext rCg (RLs.ext rCg hvc.chs hx5) hx13) hx21) hx29)
 refine wpl_op (i:=4) rfl (oD_call F49 rfl rfl rfl rfl (rn_call (args2 (F49.get rfl) (F49.get rfl)) rfl (by kernel_rfl)) (apply_at (u:=(vl FA f.items.length fa)) (v:=(vl C v.chs.length cc)) f.items v.chs _ d50 d51 hdi hdv) ?_)
 rintro _ w55 ⟨A52,c53,rfl,hL54,hx56⟩
 refine ⟨_,rfl,?_⟩;intro a57 F58;clear F49;have z59:=hx56.size
 have hl60:RLs RIt 2 (Clip (fun z=>w27.heap.size≤z) w55) w55 (vl A52 ((applyV f.items v.chs).length) c53) (applyV f.items v.chs):=RLs.clip rIt hL54
 obtain ⟨-,z61,z62⟩:=RLs.at hL54
 refine wpl_op (i:=5) rfl (oD_val (v:=(vl A52 ((applyV f.items v.chs).length) c53)) F58 rfl rfl rfl rfl (rn_extract (F58.get rfl) rfl) ?_)
 intro a63 F64;clear F58
 refine wpl_op (i:=6) rfl (oD_val (v:=(vi (applyE f.items v.chs))) F64 rfl rfl rfl rfl (rn_extract (F64.get rfl) rfl) ?_)
 intro a65 F66;clear F64
 by_cases hc67:(applyE f.items v.chs:Int)=(0:Int)
 ·skip
  refine wpl_op (i:=7) rfl (oD_call F66 rfl rfl rfl rfl (rn_call (args2 (F66.get rfl) (F66.get rfl)) rfl (by kernel_rfl)) (must_it_ok A52 ((applyV f.items v.chs).length) c53 (e:=(applyE f.items v.chs)) _ (of_decide_eq_true (decide_eq_true hc67))) ?_)
  rintro _ w68 ⟨rfl,hx69⟩
  refine ⟨_,rfl,?_⟩;intro a70 F71;clear F66;have z72:=hx69.size
  refine wpl_op (i:=8) rfl (oD_val (v:=(vl A52 ((applyV f.items v.chs).length) c53)) F71 rfl rfl rfl rfl (rn_assign (F71.get rfl)) ?_)
  intro a73 F74;clear F71
  refine wpList_nil (hK39 _ _ ?_);clear hK39
  have F75:=F74.k [0,1,2,3,4,5,6];clear F74
  refine wp_seq_k fun K76 hK76=>?_
  refine wp_seq_k fun K77 hK77=>?_
  by_cases hc78:(checkE (applyV f.items v.chs):Int)=(0:Int)
  ·skip
   have hx80:∃ W,w68.drew=W∧Ext w68 W:=⟨_,rfl,(Ext.refl _).drew⟩
   obtain ⟨w79,e81,hx80⟩:=hx80
   have z82:=hx80.size
   refine any_start (fun W=>Ext w79 W∧Blk W g10 30 ((vi v.no)::dg v.state [(vl C v.chs.length cc),(vi v.sg.index),(vl O v.sg.op.length oc),(vl E v.sg.cl.length ec),(vl P v.sg.path.length pc)])) (fun i=>false) 8 (.replicate 8 false) rfl rfl rfl ?_
   rw [e81];clear e81
   refine anyD_pure (i:=0) (v:=(vl A52 ((applyV f.items v.chs).length) c53)) F75 (by decide +kernel) (by decide +kernel) rfl rfl rfl rfl (fun _ _ _ _ h=>leaves_put rfl (by decide) (by decide) h) rfl (fun W=>(rn_move (F75.get rfl))) ?_
   intro a83 F84;clear F75
   refine anyD_pure (i:=5) (v:=(.pointer (some ⟨g10,1,none⟩))) F84 (by decide +kernel) (by decide +kernel) rfl rfl rfl rfl (fun _ _ _ _ h=>leaves_put rfl (by decide) (by decide) h) rfl (fun W=>(rn_field Tryd.underlying30 rfl (by kernel_rfl) (F84.get rfl) rfl)) ?_
   intro a85 F86;clear F84
   have b88:=(((b47.ext hx56).ext hx69).ext hx80)
   have hS87:Ext w79 w79∧Blk w79 g10 30 ((vi v.no)::dg v.state [(vl C v.chs.length cc),(vi v.sg.index),(vl O v.sg.op.length oc),(vl E v.sg.cl.length ec),(vl P v.sg.path.length pc)]):=⟨(Ext.refl w79),b88⟩
   refine anyD_val (i:=6) (v:=(.agg (byteVals v.state).toArray)) F86 (by decide +kernel) (by decide +kernel) rfl rfl rfl rfl (fun _ _ _ _ h=>leaves_put rfl (by decide) (by decide) h) rfl hS87 (fun W hW=>(rn_loadN (cs:=byteVals v.state) (F86.get rfl) Tryd.underlying24 rfl (sk inf24 (byteVals_len hvc.st)) (Blk.part (A:=[(vi v.no)]) (M:=byteVals v.state) (B:=[(vl C v.chs.length cc),(vi v.sg.index),(vl O v.sg.op.length oc),(vl E v.sg.cl.length ec),(vl P v.sg.path.length pc)]) hW.2 (by simp) rfl))) ?_
   intro a89 F90;clear F86
   refine ao 1 rfl ?_
   have d91:=(RLs.ext rIt (RLs.ext rIt hl60 hx69) hx80)
   refine oD_call F90 rfl rfl rfl rfl (rn_call (args1 (F90.get rfl)) rfl (by kernel_rfl)) (state_at (v:=(vl A52 ((applyV f.items v.chs).length) c53)) (applyV f.items v.chs) _ d91 (applyV_sm hdi hdv) (by have:=applyV_len f.items v.chs;omega) (hG.ext ((((((((Ext.refl w).trans hx5).trans hx13).trans hx21).trans hx29).trans hx56).trans hx69).trans hx80))) ?_
   rintro _ w92 ⟨rfl,hx93⟩
   refine ⟨_,rfl,?_⟩;intro a94 F95;clear F90;have z96:=hx93.size
   have b97:=(b88.ext hx93)
   refine ⟨fun _ _=>⟨((Ext.refl w79).trans hx93),b97⟩,?_⟩
   refine anyD_pure (i:=2) (v:=(.agg (byteVals (stateD (applyV f.items v.chs))).toArray)) F95 (by decide +kernel) (by decide +kernel) rfl rfl rfl rfl (fun _ _ _ _ h=>leaves_put rfl (by decide) (by decide) h) rfl (fun W=>(rn_extract (F95.get rfl) rfl)) ?_
   intro a98 F99;clear F95
   refine anyD_pure (i:=3) (v:=(vi (checkE (applyV f.items v.chs)))) F99 (by decide +kernel) (by decide +kernel) rfl rfl rfl rfl (fun _ _ _ _ h=>leaves_put rfl (by decide) (by decide) h) rfl (fun W=>(rn_extract (F99.get rfl) rfl)) ?_
   intro a100 F101;clear F99
   refine ao 4 rfl ?_
   refine oD_call F101 rfl rfl rfl rfl (rn_call (args2 (F101.get rfl) (F101.get rfl)) rfl (by kernel_rfl)) (must_d_ok (stateD (applyV f.items v.chs)) (e:=(checkE (applyV f.items v.chs))) _ (of_decide_eq_true (decide_eq_true hc78)) (stateD_len _)) ?_
   rintro _ w102 ⟨rfl,hx103⟩
   refine ⟨_,rfl,?_⟩;intro a104 F105;clear F101;have z106:=hx103.size
   have b107:=(b97.ext hx103)
   refine ⟨fun _ _=>⟨(((Ext.refl w79).trans hx93).trans hx103),b107⟩,?_⟩
   refine anyD_pure (i:=7) (v:=(.bool (!decide (stateD (applyV f.items v.chs)=v.state)))) F105 (by decide +kernel) (by decide +kernel) rfl rfl rfl rfl (fun _ _ _ _ h=>leaves_put rfl (by decide) (by decide) h) rfl (fun W=>(rn_neA Tryd.underlying24 Tryd.underlying5 inf5 (by kernel_rfl) (F105.get rfl) (F105.get rfl) (stateD_len _) hvc.st)) ?_
   intro a108 F109;clear F105
   refine nn (hK77 _ _ ?_);clear hK77
   have F110:=F109.k [0,1,2,3,4,5,6,23];clear F109
   by_cases hc111:stateD (applyV f.items v.chs)=v.state
   ·skip
    refine wp_cond_false (cD_false F110 rfl (not_t (decide_eq_true hc111))) ?_
    refine wp_skip ?_
    refine hK76 _ _ ?_;clear hK76
    refine wr fun K112 hK112=>?_
    have b113:=(((((b42.ext hx56).ext hx69).ext hx80).ext hx93).ext hx103)
    refine wpl_op (i:=0) rfl (oD_val (v:=(ag (dg f.pub [(vi f.many),(vi f.no),(vl FA f.items.length fa),(vl FE f.early.length fe)]))) F110 rfl rfl rfl rfl (rn_loadBlk (F110.get rfl) b113 Tryd.underlying41 rfl (sk inf41 (len_dig hfc.pub))) ?_)
    intro a114 F115;clear F110
    have b116:=((((((b20.ext hx29).ext hx56).ext hx69).ext hx80).ext hx93).ext hx103)
    refine wpl_op (i:=1) rfl (oD_store (cells:=(dg f.pub [(vi f.many),(vi f.no),(vl FA f.items.length fa),(vl FE f.early.length fe)])) F115 rfl rfl rfl rfl (F115.get rfl) (F115.get rfl) b116 (sk inf41 (len_dig hfc.pub)) (show List.length fz=List.length (dg f.pub [(vi f.many),(vi f.no),(vl FA f.items.length fa),(vl FE f.early.length fe)]) from (show List.length fz=36 from (by simp [byteVals_len zero32_len])).trans (Eq.symm (show List.length (dg f.pub [(vi f.many),(vi f.no),(vl FA f.items.length fa),(vl FE f.early.length fe)])=36 from (by simp [byteVals_len hfc.pub])))) (one_app (byteVals_one _) (one_cons rfl (one_cons rfl (one_cons rfl (one_cons rfl one_nil))))) ?_)
    intro w117 b118 hg119;have z120:=hg119.size
    refine wpList_nil (hK112 _ _ ?_);clear hK112
    refine wr fun K121 hK121=>?_
    refine wpl_op (i:=0) rfl (oD_val (v:=(vp g10)) F115 rfl rfl rfl rfl (rn_field Tryd.underlying30 rfl (by kernel_rfl) (F115.get rfl) rfl) ?_)
    intro a122 F123;clear F115
    have b124:=(b107.gn hg119)
    refine wpl_op (i:=1) rfl (oD_val (v:=(vi v.no)) F123 rfl rfl rfl rfl (rn_load (isAgg_no Tryd.underlying3 rfl) (F123.get rfl) ((b124.rule.1 0).trans rfl)) ?_)
    intro a125 F126;clear F123
    refine wpl_op (i:=2) rfl (oD_val (v:=(vl A52 ((applyV f.items v.chs).length) c53)) F126 rfl rfl rfl rfl (rn_move (F126.get rfl)) ?_)
    intro a127 F128;clear F126
    refine wpl_op (i:=3) rfl (oD_val (v:=(.pointer (some ⟨g18,33,none⟩))) F128 rfl rfl rfl rfl (rn_field Tryd.underlying41 rfl (by kernel_rfl) (F128.get rfl) rfl) ?_)
    intro a129 F130;clear F128
    refine wpl_op (i:=4) rfl (oD_store1 (new:=(dg f.pub [(vi f.many),(vi v.no),(vl FA f.items.length fa),(vl FE f.early.length fe)])) F130 rfl rfl rfl rfl (F130.get rfl) (F130.get rfl) b118 inf3 (le_mid (x:=36) (b:=1) (y:=1) (by simp [byteVals_len hfc.pub]) rfl (by decide)) rfl (set_app (k:=1) (byteVals_len hfc.pub)) ?_)
    intro w131 b132 hg133;have z134:=hg133.size
    refine wpl_op (i:=5) rfl (oD_val (v:=(.pointer (some ⟨g18,34,none⟩))) F130 rfl rfl rfl rfl (rn_field Tryd.underlying41 rfl (by kernel_rfl) (F130.get rfl) rfl) ?_)
    intro a135 F136;clear F130
    refine wpl_op (i:=6) rfl (oD_store1 (new:=(dg f.pub [(vi f.many),(vi v.no),(vl A52 ((applyV f.items v.chs).length) c53),(vl FE f.early.length fe)])) F136 rfl rfl rfl rfl (F136.get rfl) (F136.get rfl) b132 inf22 (le_mid (x:=36) (b:=1) (y:=1) (by simp [byteVals_len hfc.pub]) rfl (by decide)) rfl (set_app (k:=2) (byteVals_len hfc.pub)) ?_)
    intro w137 b138 hg139;have z140:=hg139.size
    refine wpList_nil (hK121 _ _ ?_);clear hK121
    have F141:=F136.k [0,1,2,3,4,5,6,23];clear F136
    refine wr fun K142 hK142=>?_
    refine wpl_op (i:=0) rfl (oD_val (v:=(ag (dg f.pub [(vi f.many),(vi v.no),(vl A52 ((applyV f.items v.chs).length) c53),(vl FE f.early.length fe)]))) F141 rfl rfl rfl rfl (rn_loadBlk (F141.get rfl) b138 Tryd.underlying41 rfl (sk inf41 (len_dig hfc.pub))) ?_)
    intro a143 F144;clear F141
    refine wpl_op (i:=1) rfl (oD_store (cells:=(dg f.pub [(vi f.many),(vi v.no),(vl A52 ((applyV f.items v.chs).length) c53),(vl FE f.early.length fe)])) F144 rfl rfl rfl rfl (F144.get rfl) (F144.get rfl) b138 (sk inf41 (len_dig hfc.pub)) (show List.length (dg f.pub [(vi f.many),(vi v.no),(vl A52 ((applyV f.items v.chs).length) c53),(vl FE f.early.length fe)])=List.length (dg f.pub [(vi f.many),(vi v.no),(vl A52 ((applyV f.items v.chs).length) c53),(vl FE f.early.length fe)]) from (show List.length (dg f.pub [(vi f.many),(vi v.no),(vl A52 ((applyV f.items v.chs).length) c53),(vl FE f.early.length fe)])=36 from (by simp [byteVals_len hfc.pub])).trans (Eq.symm (show List.length (dg f.pub [(vi f.many),(vi v.no),(vl A52 ((applyV f.items v.chs).length) c53),(vl FE f.early.length fe)])=36 from (by simp [byteVals_len hfc.pub])))) (one_app (byteVals_one _) (one_cons rfl (one_cons rfl (one_cons rfl (one_cons rfl one_nil))))) ?_)
    intro w145 b146 hg147;have z148:=hg147.size
    have b152:=(((((((((b28.ext hx56).ext hx69).ext hx80).ext hx93).ext hx103).gn hg119).gn hg133).gn hg139).gn hg147)
    refine wpl_op (i:=2) rfl (oD_store1 (new:=[(.bool true)]) F144 rfl rfl rfl rfl (F144.get rfl) rfl b152 inf4 (by simp) rfl rfl ?_)
    intro w149 b150 hg151;have z153:=hg151.size
    refine wpList_nil (hK142 _ _ ?_);clear hK142
    refine wp_ret ?_
    have b154:=(((((b113.gn hg119).gn hg133).gn hg139).gn hg147).gn hg151)
    have b155:=(b146.gn hg151)
    refine ap_ret F144 rfl rfl b155 b150 (by simp [byteVals_len hfc.pub]) ?_
    have hA:applyV f.items v.chs=appL f.items v.chs:=if_pos (of_decide_eq_true (decide_eq_true hc67))
    have hfit:fits f v:=⟨of_decide_eq_true (decide_eq_true hc67),by rw [← hA];exact of_decide_eq_true (decide_eq_true hc78),by rw [← hA];exact of_decide_eq_true (decide_eq_true hc111)⟩
    have hst:stepF f v={ f with no:=v.no,items:=applyV f.items v.chs }:=(if_pos hfit).trans (by rw [hA])
    rw [hst,decide_eq_true hfit]
    have d156:=(RLs.pres rIt hl60 ((((((((((Pres.refl w55).ext hx69).ext hx80).ext hx93).ext hx103).gc hg119).gc hg133).gc hg139).gc hg147).gc hg151))
    have d157:=(RLs.pres rVr hfc.early (((((((((((((((Pres.refl w).ext hx5).ext hx13).ext hx21).ext hx29).ext hx56).ext hx69).ext hx80).ext hx93).ext hx103).gc hg119).gc hg133).gc hg139).gc hg147).gc hg151))
    exact ⟨_,_,rfl,⟨hfc.pub,RLs.sub rIt d156 (fun b hb=>.inr (by first | omega | (simp only [Clip] at hb;omega))),RLs.sub rVr d157 (fun b hb=>.inl hb.1)⟩,(((((((((((((((Ext.refl w).trans hx5).trans hx13).trans hx21).trans hx29).trans hx56).trans hx69).trans hx80).trans hx93).trans hx103).gn hg119).gn hg133).gn hg139).gn hg147).gn hg151)⟩
   refine wp_cond_true (cD_true F110 rfl (not_f (decide_eq_false hc111))) ?_
   refine wp_region_lit ?_
   refine wpl_op (i:=0) rfl (oD_val (v:=(.agg #[])) F110 rfl rfl rfl rfl (rn_build (parts0 ) (by kernel_rfl)) ?_)
   intro a158 F159;clear F110
   refine wpl_op (i:=1) rfl (oD_val (v:=(.iface 99 (.agg #[]))) F159 rfl rfl rfl rfl (rn_mkIface (F159.get rfl) (by kernel_rfl)) ?_)
   intro a160 F161;clear F159
   refine wpl_op (i:=2) rfl (o_panic rfl rfl rfl (F161.get rfl) ?_)
   refine pan_then ?_
   have b162:=(((((b42.ext hx56).ext hx69).ext hx80).ext hx93).ext hx103)
   have b163:=((((((b20.ext hx29).ext hx56).ext hx69).ext hx80).ext hx93).ext hx103)
   have b164:=(((((b28.ext hx56).ext hx69).ext hx80).ext hx93).ext hx103)
   refine ap_pan F161 rfl rfl b162 b163 b164 hfc.pub (by omega) (by omega) (by omega) (fun W' hW=>?_)
   have hX165:Ext w W':=FarX.toExt ((FarX.of_ext ((((((((((Ext.refl w).trans hx5).trans hx13).trans hx21).trans hx29).trans hx56).trans hx69).trans hx80).trans hx93).trans hx103)).trans (hW.sub (S:=fun b=>b<w.heap.size) (fun b hb=>⟨by omega,by omega,by omega⟩))) (fun b hb=>hb)
   have hA:applyV f.items v.chs=appL f.items v.chs:=if_pos (of_decide_eq_true (decide_eq_true hc67))
   have hnf:¬ fits f v:=(fun q=>of_decide_eq_false (decide_eq_false hc111) (by rw [hA];exact q.2.2))
   have hst:stepF f v=f:=if_neg hnf
   rw [hst,decide_eq_false hnf]
   exact ⟨_,_,rfl,RFo.subB (RFo.pres hfc (Pres.of_ext hX165)) (fun b _ hb=>.inl hb.1),hX165⟩
  have hx167:∃ W,w68.drew=W∧Ext w68 W:=⟨_,rfl,(Ext.refl _).drew⟩
  obtain ⟨w166,e168,hx167⟩:=hx167
  have z169:=hx167.size
  refine any_start (fun W=>Ext w166 W∧Blk W g10 30 ((vi v.no)::dg v.state [(vl C v.chs.length cc),(vi v.sg.index),(vl O v.sg.op.length oc),(vl E v.sg.cl.length ec),(vl P v.sg.path.length pc)])) (fun i=>false) 8 (.replicate 8 false) rfl rfl rfl ?_
  rw [e168];clear e168
  refine anyD_pure (i:=0) (v:=(vl A52 ((applyV f.items v.chs).length) c53)) F75 (by decide +kernel) (by decide +kernel) rfl rfl rfl rfl (fun _ _ _ _ h=>leaves_put rfl (by decide) (by decide) h) rfl (fun W=>(rn_move (F75.get rfl))) ?_
  intro a170 F171;clear F75
  refine anyD_pure (i:=5) (v:=(.pointer (some ⟨g10,1,none⟩))) F171 (by decide +kernel) (by decide +kernel) rfl rfl rfl rfl (fun _ _ _ _ h=>leaves_put rfl (by decide) (by decide) h) rfl (fun W=>(rn_field Tryd.underlying30 rfl (by kernel_rfl) (F171.get rfl) rfl)) ?_
  intro a172 F173;clear F171
  have b175:=(((b47.ext hx56).ext hx69).ext hx167)
  have hS174:Ext w166 w166∧Blk w166 g10 30 ((vi v.no)::dg v.state [(vl C v.chs.length cc),(vi v.sg.index),(vl O v.sg.op.length oc),(vl E v.sg.cl.length ec),(vl P v.sg.path.length pc)]):=⟨(Ext.refl w166),b175⟩
  refine anyD_val (i:=6) (v:=(.agg (byteVals v.state).toArray)) F173 (by decide +kernel) (by decide +kernel) rfl rfl rfl rfl (fun _ _ _ _ h=>leaves_put rfl (by decide) (by decide) h) rfl hS174 (fun W hW=>(rn_loadN (cs:=byteVals v.state) (F173.get rfl) Tryd.underlying24 rfl (sk inf24 (byteVals_len hvc.st)) (Blk.part (A:=[(vi v.no)]) (M:=byteVals v.state) (B:=[(vl C v.chs.length cc),(vi v.sg.index),(vl O v.sg.op.length oc),(vl E v.sg.cl.length ec),(vl P v.sg.path.length pc)]) hW.2 (by simp) rfl))) ?_
  intro a176 F177;clear F173
  refine ao 1 rfl ?_
  have d178:=(RLs.ext rIt (RLs.ext rIt hl60 hx69) hx167)
  refine oD_call F177 rfl rfl rfl rfl (rn_call (args1 (F177.get rfl)) rfl (by kernel_rfl)) (state_at (v:=(vl A52 ((applyV f.items v.chs).length) c53)) (applyV f.items v.chs) _ d178 (applyV_sm hdi hdv) (by have:=applyV_len f.items v.chs;omega) (hG.ext ((((((((Ext.refl w).trans hx5).trans hx13).trans hx21).trans hx29).trans hx56).trans hx69).trans hx167))) ?_
  rintro _ w179 ⟨rfl,hx180⟩
  refine ⟨_,rfl,?_⟩;intro a181 F182;clear F177;have z183:=hx180.size
  have b184:=(b175.ext hx180)
  refine ⟨fun _ _=>⟨((Ext.refl w166).trans hx180),b184⟩,?_⟩
  refine anyD_pure (i:=2) (v:=(.agg (byteVals (stateD (applyV f.items v.chs))).toArray)) F182 (by decide +kernel) (by decide +kernel) rfl rfl rfl rfl (fun _ _ _ _ h=>leaves_put rfl (by decide) (by decide) h) rfl (fun W=>(rn_extract (F182.get rfl) rfl)) ?_
  intro a185 F186;clear F182
  refine anyD_pure (i:=3) (v:=(vi (checkE (applyV f.items v.chs)))) F186 (by decide +kernel) (by decide +kernel) rfl rfl rfl rfl (fun _ _ _ _ h=>leaves_put rfl (by decide) (by decide) h) rfl (fun W=>(rn_extract (F186.get rfl) rfl)) ?_
  intro a187 F188;clear F186
  refine ao 4 rfl ?_
  refine oD_callP F188 rfl rfl (rn_call (args2 (F188.get rfl) (F188.get rfl)) rfl (by kernel_rfl)) (must_d_no (stateD (applyV f.items v.chs)) (e:=(checkE (applyV f.items v.chs))) _ (of_decide_eq_false (decide_eq_false hc78)) (stateD_len _)) ?_
  rintro _ w189 ⟨rfl,hx190⟩
  refine ⟨_,rfl,?_⟩;have z191:=hx190.size
  refine pan_then ?_
  refine pan_then ?_
  have b192:=(((((b42.ext hx56).ext hx69).ext hx167).ext hx180).ext hx190)
  have b193:=((((((b20.ext hx29).ext hx56).ext hx69).ext hx167).ext hx180).ext hx190)
  have b194:=(((((b28.ext hx56).ext hx69).ext hx167).ext hx180).ext hx190)
  refine ap_pan F188 rfl rfl b192 b193 b194 hfc.pub (by omega) (by omega) (by omega) (fun W' hW=>?_)
  have hX195:Ext w W':=FarX.toExt ((FarX.of_ext ((((((((((Ext.refl w).trans hx5).trans hx13).trans hx21).trans hx29).trans hx56).trans hx69).trans hx167).trans hx180).trans hx190)).trans (hW.sub (S:=fun b=>b<w.heap.size) (fun b hb=>⟨by omega,by omega,by omega⟩))) (fun b hb=>hb)
  have hA:applyV f.items v.chs=appL f.items v.chs:=if_pos (of_decide_eq_true (decide_eq_true hc67))
  have hnf:¬ fits f v:=(fun q=>of_decide_eq_false (decide_eq_false hc78) (by rw [hA];exact q.2.1))
  have hst:stepF f v=f:=if_neg hnf
  rw [hst,decide_eq_false hnf]
  exact ⟨_,_,rfl,RFo.subB (RFo.pres hfc (Pres.of_ext hX195)) (fun b _ hb=>.inl hb.1),hX195⟩
 refine wpl_op (i:=7) rfl (oD_callP F66 rfl rfl (rn_call (args2 (F66.get rfl) (F66.get rfl)) rfl (by kernel_rfl)) (must_it_no A52 ((applyV f.items v.chs).length) c53 (e:=(applyE f.items v.chs)) _ (of_decide_eq_false (decide_eq_false hc67))) ?_)
 rintro _ w196 ⟨rfl,hx197⟩
 refine ⟨_,rfl,?_⟩;have z198:=hx197.size
 refine pan_then ?_
 have b199:=((b42.ext hx56).ext hx197)
 have b200:=(((b20.ext hx29).ext hx56).ext hx197)
 have b201:=((b28.ext hx56).ext hx197)
 refine ap_pan F66 rfl rfl b199 b200 b201 hfc.pub (by omega) (by omega) (by omega) (fun W' hW=>?_)
 have hX202:Ext w W':=FarX.toExt ((FarX.of_ext (((((((Ext.refl w).trans hx5).trans hx13).trans hx21).trans hx29).trans hx56).trans hx197)).trans (hW.sub (S:=fun b=>b<w.heap.size) (fun b hb=>⟨by omega,by omega,by omega⟩))) (fun b hb=>hb)
 have hnf:¬ fits f v:=(fun q=>of_decide_eq_false (decide_eq_false hc67) q.1)
 have hst:stepF f v=f:=if_neg hnf
 rw [hst,decide_eq_false hnf]
 exact ⟨_,_,rfl,RFo.subB (RFo.pres hfc (Pres.of_ext hX202)) (fun b _ hb=>.inl hb.1),hX202⟩

theorem mapply_at {c e c1 o1 e1 p1:Value} (f:Fo) (v:Vr) (w:World) (hf:RFo S w c e f) (hv:RVp S w c1 o1 e1 p1 v) (hdi:∀ x∈f.items,x.data.length≤4294967296) (hdv:∀ x∈v.chs,x.data.length≤4294967296) (hG:Glob w) :
  Calls Tryd.prog 33 #[ag (fcs f.pub f.many f.no c e),ag (vcs v.no v.state c1 v.sg.index o1 e1 p1)] w (fun en w'=>∃ c' e',en=.returned (.tuple #[ag (fcs (stepF f v).pub (stepF f v).many (stepF f v).no c' e'),.bool (decide (fits f v))])∧RFo (Fr S w) w' c' e' (stepF f v)∧Ext w w'):=by
 obtain ⟨FA,fa,rfl,_⟩:=RLs.form hf.items
 obtain ⟨FE,fe,rfl,_⟩:=RLs.form hf.early
 obtain ⟨C,cc,rfl,_⟩:=RLs.form hv.chs
 obtain ⟨O,oc,rfl,_⟩:=Fl.form hv.sg.op
 obtain ⟨E,ec,rfl,_⟩:=Fl.form hv.sg.cl
 obtain ⟨P,pc,rfl,_⟩:=Fl.form hv.sg.path
 exact mapply_any FA fa FE fe C cc O oc E ec P pc f v w hf hv hdi hdv hG

end Go.Proofs.YtihgmaoghbnnaaaDoor

namespace Go.Proofs.YtihgmaoghbnnaaaDoor
open Go.RowKit

variable {S S':Nat→Prop}

def noAt (l:List Vr) (i:Nat):Int:=(l.getD i default).no
theorem noAt_of {l:List Vr} {i:Nat} {x:Vr} (h:l[i]?=some x):noAt l i=x.no:=by simp [noAt,List.getD_eq_getElem?_getD,h]
def upV (l:List Vr):Prop:=∀ p q,p<q→q<l.length→noAt l p<noAt l q
theorem up_of_asc {n:Int} {l:List Vr} (h:asc n l):upV l:=by
 have key:∀ d p,p+d+1<l.length→noAt l p<noAt l (p+d+1):=by
  intro d
  induction d with
  | zero=>intro p hp;have:=h (p+1) (by omega);simpa [noAt] using this
  | succ d ih=>intro p hp;have h1:=ih p (by omega);have h2:=h (p+(d+1)+1) (by omega);rw [if_neg (by omega),show p+(d+1)+1 - 1=p+d+1 by omega] at h2;exact Int.lt_trans h1 h2
 intro p q hpq hq
 have:=key (q - p - 1) p (by omega)
 rwa [show p+(q - p - 1)+1=q by omega] at this
theorem cmpI_spec (a b:Int):(cmpI a b<0↔a<b)∧(cmpI a b=0↔a=b):=by
 unfold cmpI;split
 ·omega
 ·split <;> omega
theorem bs_lo {l:List Vr} {t:Int} {h:Nat} {x:Vr} (hu:upV l) (hx:l[h]?=some x) (hl:x.no<t):∀ p,p<h+1→noAt l p<t:=fun p hp=>by
 have hh:h<l.length:=(List.getElem?_eq_some_iff.1 hx).1
 have e:=noAt_of hx
 by_cases q:p=h
 ·rw [q,e];exact hl
 ·have:=hu p h (by omega) hh;omega
theorem bs_hi {l:List Vr} {t:Int} {h:Nat} {x:Vr} (hu:upV l) (hx:l[h]?=some x) (hl:¬ x.no<t):∀ p,h≤p→p<l.length→t≤noAt l p:=fun p hp hq=>by
 have e:=noAt_of hx
 by_cases q:p=h
 ·rw [q,e];omega
 ·have:=hu h p (by omega) hq;omega
theorem below_eq:∀ {l:List Vr} {t:Int} {i:Nat},(∀ p,p<i→noAt l p<t)→(∀ p,i≤p→p<l.length→t≤noAt l p)→i≤l.length→below t l=i
 | [],_,i,_,_,h=>by simp at h;subst h;rfl
 | x::l,t,0,_,h2,_=>by
  have h3:=h2 0 (Nat.le_refl _) (by simp)
  have e:noAt (x::l) 0=x.no:=rfl
  rw [e] at h3
  unfold below
  rw [List.takeWhile_cons,if_neg (by simp;omega)];rfl
 | x::l,t,i+1,h1,h2,h=>by
  have h3:=h1 0 (by omega)
  have e:noAt (x::l) 0=x.no:=rfl
  rw [e] at h3
  have ih:=below_eq (l:=l) (t:=t) (i:=i) (fun p hp=>h1 (p+1) (by omega)) (fun p hp hq=>h2 (p+1) (by omega) (by simp;omega)) (by simpa using h)
  unfold below at ih ⊢
  rw [List.takeWhile_cons,if_pos (by simpa using h3),List.length_cons,ih]
theorem met_eq {l:List Vr} {t:Int} {i:Nat} (h1:∀ p,p<i→noAt l p<t) (hu:upV l) (h2:∀ p,i≤p→p<l.length→t≤noAt l p):(∃ w∈l,w.no=t)↔∃ x,l[i]?=some x∧x.no=t:=by
 constructor
 ·rintro ⟨w,hw,e⟩
  obtain ⟨j,hj,rfl⟩:=List.getElem_of_mem hw
  have ej:noAt l j=t:=by rw [noAt_of (List.getElem?_eq_getElem hj)];exact e
  by_cases q:j=i
  ·subst q;exact ⟨_,List.getElem?_eq_getElem hj,e⟩
  ·by_cases q2:j<i
   ·have:=h1 j q2;omega
   ·have h3:=h2 i (Nat.le_refl _) (by omega);have h4:=hu i j (by omega) hj;omega
 ·rintro ⟨x,hx,e⟩
  exact ⟨x,List.mem_of_getElem? hx,e⟩
theorem met_fin {l:List Vr} {t:Int} {i:Nat} {x:Vr} (hm:(∃ w∈l,w.no=t)↔∃ x,l[i]?=some x∧x.no=t) (hx:l[i]?=some x):decide ((cmpI x.no t:Int)=(0:Int))=decide (∃ w∈l,w.no=t) :=
 decide_eq_decide.2 ⟨fun h=>hm.2 ⟨x,hx,(cmpI_spec _ _).2.1 h⟩,fun h=>by
  obtain ⟨y,hy,e⟩:=hm.1 h
  rw [hx] at hy;injection hy with hy;subst hy
  exact (cmpI_spec _ _).2.2 e⟩
theorem met_no {l:List Vr} {t:Int} {i:Nat} (hm:(∃ w∈l,w.no=t)↔∃ x,l[i]?=some x∧x.no=t) (hi:l.length≤i):¬ ∃ w∈l,w.no=t:=fun q=>by
 obtain ⟨x,hx,_⟩:=hm.1 q
 have:=(List.getElem?_eq_some_iff.1 hx).1
 omega

set_option maxRecDepth 100000 in
set_option maxHeartbeats 1000000 in
theorem rcv1_any (no:Int) (st:List UInt8) (c:Value) (i:Int) (o e p:Value) (t:Int) (w:World) (hst:st.length=32) :
  Calls Tryd.prog 30 #[ag (vcs no st c i o e p),.int .i64 t] w (fun e w'=>e=.returned (vi (cmpI no t))∧Ext w w'):=by
 refine calls_enter Tryd.func30 rfl rfl rfl fun _ hF=>?_
 refine wr fun K1 hK1=>?_
 refine hF.xb rfl fun g2 w3 _ F9 z6 z7 b4 hx5=>?_;clear hF
 refine F9.xv (vi 0)<|fun _ F11=>?_;clear F9
 refine wpList_nil (hK1 _ _ ?_);clear hK1
 refine wr fun K12 hK12=>?_
 refine F11.xv (vp g2)<|Xw (vi no) (fun F=>rl F rfl ((b4.rule.1 0).trans rfl))<|Xm rfl<|fun _ F18=>?_;clear F11
 refine F18.xc (cmpi_any no t _) ?_
 rintro _ w19 ⟨rfl,hx20⟩
 refine ⟨_,rfl,?_⟩;intro a21 F22;clear F18;have z23:=hx20.size
 refine F22.xa rfl<|fun _ F25=>?_;clear F22
 refine wpList_nil (hK12 _ _ ?_);clear hK12
 have F26:=F25.k [0,1,2,4];clear F25
 refine wp_ret ?_
 refine ret1 F26 rfl rfl ?_
 exact ⟨rfl,(((Ext.refl w).trans hx5).trans hx20)⟩

set_option maxRecDepth 100000 in
set_option maxHeartbeats 1000000 in
theorem bsearch_any (A:Option Addr) (c:Nat) (l:List Vr) (t:Int) (w:World) (h:RLs RVr 38 S w (vl A l.length c) l) (hu:upV l) (hl:l.length≤4294967296) :
  Calls Tryd.prog 29 #[.slice A l.length c,.int .i64 t,.func (.func 30) #[] #[]] w (fun e w'=>e=.returned (.tuple #[.int .i64 (below t l:Nat),.bool (decide (∃ w∈l,w.no=t))])∧Ext w w'):=by
 have hc:RLs RVr 38 (Clip S w) w (vl A l.length c) l:=RLs.clip rVr h
 obtain ⟨-,hck,hcm⟩:=RLs.at h
 refine calls_enter Tryd.func29 rfl rfl rfl fun _ hF=>?_
 refine wr fun K1 hK1=>?_
 refine hF.xv (vi 0)<|Xv (.bool false)<|fun _ F5=>?_;clear hF
 refine wpList_nil (hK1 _ _ ?_);clear hK1
 refine wr fun K6 hK6=>?_
 refine F5.xm rfl<|Xv (vi (l.length:Nat))<|Xa rfl<|fun _ F12=>?_;clear F5
 refine wpList_nil (hK6 _ _ ?_);clear hK6
 refine wr fun K13 hK13=>?_
 refine F12.xm rfl<|Xv (vi 0)<|Xa rfl<|fun _ F19=>?_;clear F12
 refine wpList_nil (hK13 _ _ ?_);clear hK13
 refine wp_seq_k fun K20 hK20=>?_
 refine wp_block ?_
 refine wp_loop (fun a' W=>∃ (i1:Nat) (j1:Nat),Sl 49 [(0,(vl A l.length c)),(1,(vi t)),(2,(.func (.func 30) #[] #[])),(6,(vi 0)),(7,(.bool false)),(8,(vi (l.length:Nat))),(9,(vi (i1:Nat))),(10,(vi (j1:Nat)))] a'∧(i1≤j1∧j1≤l.length)∧(∀ p,p<i1→noAt l p<t)∧(∀ p,j1≤p→p<l.length→t≤noAt l p)∧Ext w W∧w.heap.size≤W.heap.size) (fun a' _=>(intOf (a'.eval (.tmp 10))).toNat - (intOf (a'.eval (.tmp 9))).toNat) ⟨0,l.length,F19.j,⟨by omega,by omega⟩,(fun p hp=>absurd hp (by omega)),(fun p hp hq=>absurd hq (by omega)),(Ext.refl w),(Nat.le_refl _)⟩ ?_
 clear F19
 rintro a21 w22 ⟨i1,j1,F23,hp25,hp26,hp27,hx24,hf28⟩
 have hL29:=F23
 have z30:=hx24.size
 refine wp_seq_k fun K31 hK31=>?_
 refine wr fun K32 hK32=>?_
 refine F23.xm rfl<|Xm rfl<|Xv (.bool (decide (((i1:Nat):Int)<((j1:Nat):Int))))<|fun _ F38=>?_;clear F23
 refine wpList_nil (hK32 _ _ ?_);clear hK32
 by_cases hc39:((i1:Nat):Int)<((j1:Nat):Int)
 ·skip
  refine F38.ct ?_
  refine wp_skip ?_
  refine hK31 _ _ ?_;clear hK31
  refine wp_block ?_
  refine wr fun K40 hK40=>?_
  refine F38.xm rfl<|Xm rfl<|Xv (vi (i1+j1:Nat))<|Xw (.int .u64 (i1+j1:Nat)) (fun F=>rn_convW Tryd.underlying3 Tryd.underlying95 (F.get rfl) (cvn_64 (i1+j1) (by omega)))<|Xw (.int .u64 ((i1+j1) / 2 ^ 1:Nat)) (fun F=>rn_shrU (a:=i1+j1) (n:=1) (F.get rfl) rfl (by omega))<|Xw (vi ((i1+j1) / 2 ^ 1:Nat)) (fun F=>rn_conv Tryd.underlying95 Tryd.underlying3 (F.get rfl) (IntWalk.i64_in _ (by omega)))<|Xa rfl<|fun _ F54=>?_;clear F38
  refine wpList_nil (hK40 _ _ ?_);clear hK40
  have F55:=F54.k [0,1,2,6,7,8,9,10,17,11];clear F54
  refine wr fun K56 hK56=>?_
  refine F55.xm rfl<|Xm rfl<|Xm rfl<|fun _ F62=>?_;clear F55
  have d63:=(RLs.ext rVr hc hx24)
  obtain ⟨b64,o65,x66,cs67,hA68,hi69,hk70,hc71,hr72⟩:=RLs.get d63 (by omega:((i1+j1) / 2 ^ 1)<l.length)
  obtain ⟨v73,v74,v75,v76,rfl,hv77⟩:=hr72
  obtain ⟨A78,c79,rfl,z80,z81⟩:=RLs.form hv77.chs
  obtain ⟨A82,c83,rfl,z84,z85⟩:=Fl.form hv77.sg.op
  obtain ⟨A86,c87,rfl,z88,z89⟩:=Fl.form hv77.sg.cl
  obtain ⟨A90,c91,rfl,z92,z93⟩:=Fl.form hv77.sg.path
  refine F62.xw (.pointer (some ⟨b64,o65+((i1+j1) / 2 ^ 1)*38,none⟩)) (fun F=>rn_indexE Tryd.underlying36 inf30 ((F.get rfl).trans (by rw [hA68])) (F.get rfl) (by omega:(0:Int)≤((i1+j1) / 2 ^ 1:Nat)) (by omega:(((i1+j1) / 2 ^ 1:Nat):Int)<((l.length:Nat):Int)) (by omega))<|Xw (ag ((vi x66.no)::dg x66.state [(vl A78 x66.chs.length c79),(vi x66.sg.index),(vl A82 x66.sg.op.length c83),(vl A86 x66.sg.cl.length c87),(vl A90 x66.sg.path.length c91)])) (fun F=>rn_loadN (cs:=((vi x66.no)::dg x66.state [(vl A78 x66.chs.length c79),(vi x66.sg.index),(vl A82 x66.sg.op.length c83),(vl A86 x66.sg.cl.length c87),(vl A90 x66.sg.path.length c91)])) (F.get rfl) Tryd.underlying30 rfl (sk inf30 (len_dig1 hv77.st)) hc71)<|Xm rfl<|fun _ F99=>?_;clear F62
  have z100:=cmpI_spec x66.no t
  refine wpl_op (i:=6) rfl (o_call F99 rfl rfl rfl rfl (rn_callv (F99.get rfl) (args0_2 (F99.get rfl) (F99.get rfl)) (by kernel_rfl)) (rcv1_any x66.no x66.state _ x66.sg.index _ _ _ t _ hv77.st) ?_)
  rintro _ w101 ⟨rfl,hx102⟩
  refine ⟨_,rfl,?_⟩;intro a103 F104;clear F99;have z105:=hx102.size
  refine F104.xv (.bool (decide (((cmpI x66.no t):Int)<(0:Int))))<|fun _ F107=>?_;clear F104
  refine wpList_nil (hK56 _ _ ?_);clear hK56
  have F108:=F107.k [0,1,2,6,7,8,9,10,17,11,31];clear F107
  by_cases hc109:((cmpI x66.no t):Int)<(0:Int)
  ·skip
   refine F108.ct ?_
   refine wp_region_lit ?_
   refine F108.xm rfl<|Xw (vi (((i1+j1) / 2 ^ 1)+1:Nat)) (fun F=>rn_addN (a:=(i1+j1) / 2 ^ 1) (b:=1) (F.get rfl) rfl (by omega))<|Xa rfl<|fun _ F115=>?_;clear F108
   refine wpList_nil ?_
   refine ⟨⟨(((i1+j1) / 2 ^ 1)+1),j1,F115.j,⟨by omega,by omega⟩,(bs_lo hu hi69 (by omega)),hp27,(((Ext.refl w).trans hx24).trans hx102),(by omega)⟩,?_⟩
   rw [F115.get (t:=9) rfl,F115.get (t:=10) rfl,hL29.get (t:=9) rfl,hL29.get (t:=10) rfl];simp only [intOf];omega
  refine F108.cf ?_
  refine wp_region_lit ?_
  refine F108.xm rfl<|Xa rfl<|fun _ F119=>?_;clear F108
  refine wpList_nil ?_
  refine ⟨⟨i1,((i1+j1) / 2 ^ 1),F119.j,⟨by omega,by omega⟩,hp26,(bs_hi hu hi69 (by omega)),(((Ext.refl w).trans hx24).trans hx102),(by omega)⟩,?_⟩
  rw [F119.get (t:=9) rfl,F119.get (t:=10) rfl,hL29.get (t:=9) rfl,hL29.get (t:=10) rfl];simp only [intOf];omega
 refine F38.cf ?_
 refine wp_exit ?_
 refine exit_then ?_
 refine exit_then ?_
 refine exit_here ?_
 refine hK20 _ _ ?_;clear hK20
 refine wr fun K120 hK120=>?_
 refine F38.xm rfl<|Xm rfl<|Xm rfl<|Xv (.bool (decide (((i1:Nat):Int)<((l.length:Nat):Int))))<|Xm rfl<|fun _ F130=>?_;clear F38
 by_cases hc131:((i1:Nat):Int)<((l.length:Nat):Int)
 ·skip
  refine F130.xg (.func (.func 30) #[] #[])<|Xg (vl A l.length c)<|Xg (vi (i1:Nat))<|fun _ F137=>?_;clear F130
  have d138:=(RLs.ext rVr hc hx24)
  obtain ⟨b139,o140,x141,cs142,hA143,hi144,hk145,hc146,hr147⟩:=RLs.get d138 (by omega:i1<l.length)
  obtain ⟨v148,v149,v150,v151,rfl,hv152⟩:=hr147
  obtain ⟨A153,c154,rfl,z155,z156⟩:=RLs.form hv152.chs
  obtain ⟨A157,c158,rfl,z159,z160⟩:=Fl.form hv152.sg.op
  obtain ⟨A161,c162,rfl,z163,z164⟩:=Fl.form hv152.sg.cl
  obtain ⟨A165,c166,rfl,z167,z168⟩:=Fl.form hv152.sg.path
  refine F137.xgw (.pointer (some ⟨b139,o140+i1*38,none⟩)) (fun F=>rn_indexE Tryd.underlying36 inf30 ((F.get rfl).trans (by rw [hA143])) (F.get rfl) (by omega:(0:Int)≤(i1:Nat)) (by omega:((i1:Nat):Int)<((l.length:Nat):Int)) (by omega))<|Xgw (ag ((vi x141.no)::dg x141.state [(vl A153 x141.chs.length c154),(vi x141.sg.index),(vl A157 x141.sg.op.length c158),(vl A161 x141.sg.cl.length c162),(vl A165 x141.sg.path.length c166)])) (fun F=>rn_loadN (cs:=((vi x141.no)::dg x141.state [(vl A153 x141.chs.length c154),(vi x141.sg.index),(vl A157 x141.sg.op.length c158),(vl A161 x141.sg.cl.length c162),(vl A165 x141.sg.path.length c166)])) (F.get rfl) Tryd.underlying30 rfl (sk inf30 (len_dig1 hv152.st)) hc146)<|Xg (vi t)<|fun _ F174=>?_;clear F137
  have z175:=cmpI_spec x141.no t
  refine wpl_op (i:=11) rfl (o_call F174 rfl (wanted_guard rfl rfl rfl F174 rfl (decide_eq_true hc131) rfl) rfl rfl (rn_callv (F174.get rfl) (args0_2 (F174.get rfl) (F174.get rfl)) (by kernel_rfl)) (rcv1_any x141.no x141.state _ x141.sg.index _ _ _ t _ hv152.st) ?_)
  rintro _ w176 ⟨rfl,hx177⟩
  refine ⟨_,rfl,?_⟩;intro a178 F179;clear F174;have z180:=hx177.size
  refine F179.xg (.bool (decide (((cmpI x141.no t):Int)=(0:Int))))<|Xv (.bool (decide (((cmpI x141.no t):Int)=(0:Int))))<|Xa rfl<|Xa rfl<|fun _ F188=>?_;clear F179
  refine wpList_nil (hK120 _ _ ?_);clear hK120
  have F189:=F188.k [0,1,2,6,7,8,9,10,17];clear F188
  refine wp_ret ?_
  refine ret2 F189 rfl rfl rfl ?_
  have hij:j1=i1:=by omega
  subst hij
  have hb:=below_eq hp26 hp27 (by omega)
  have hm:=met_eq hp26 hu hp27
  exact ⟨by rw [hb,← met_fin hm hi144],(((Ext.refl w).trans hx24).trans hx177)⟩
 refine F130.xu<|Xu<|Xu<|Xu<|Xu<|Xu<|Xu<|Xu<|Xv (.bool false)<|Xa rfl<|Xa rfl<|fun _ F211=>?_;clear F130
 refine wpList_nil (hK120 _ _ ?_);clear hK120
 have F212:=F211.k [0,1,2,6,7,8,9,10,17];clear F211
 refine wp_ret ?_
 refine ret2 F212 rfl rfl rfl ?_
 have hij:j1=i1:=by omega
 subst hij
 have hb:=below_eq hp26 hp27 (by omega)
 have hm:=met_eq hp26 hu hp27
 exact ⟨by rw [hb,decide_eq_false (met_no hm (by clear hm;omega))],((Ext.refl w).trans hx24)⟩

theorem bsearch_at {v:Value} (l:List Vr) (t:Int) (w:World) (h:RLs RVr 38 S w v l) (hu:upV l) (hl:l.length≤4294967296) :
  Calls Tryd.prog 29 #[v,.int .i64 t,.func (.func 30) #[] #[]] w (fun e w'=>e=.returned (.tuple #[.int .i64 (below t l:Nat),.bool (decide (∃ w∈l,w.no=t))])∧Ext w w'):=by
 obtain ⟨A,c,rfl,_⟩:=h.form
 exact bsearch_any A c l t w h hu hl

end Go.Proofs.YtihgmaoghbnnaaaDoor

namespace Go.Proofs.YtihgmaoghbnnaaaDoor
open Go.RowKit

variable {S S':Nat→Prop}

theorem El36:El Tryd.prog 36 30 (ag (vcs 0 zero32 v0 0 v0 v0 v0)) 38 144:=⟨Tryd.underlying36,by kernel_rfl,rfl,by decide⟩
def RVv (S:Nat→Prop) (w:World) (cs:List Value) (l:List Vr):Prop:=∃ u,cs=[u]∧RLs RVr 38 S w u l
theorem rVv:Rel RVv:=⟨fun ⟨u,h1,h2⟩ hp=>⟨u,h1,h2.pres rVr hp⟩,fun ⟨u,h1,h2⟩ hs=>⟨u,h1,h2.subB rVr hs⟩⟩
/-- three lists in a block -/
theorem vs_three {w:World} {g:Nat} {t:TypeId} {v1 v2 v3:Value} {l1 l2 l3:List Vr} {S:Nat→Prop} (h:Blk w g t [v1,v2,v3]) (h1:RLs RVr 38 S w v1 l1) (h2:RLs RVr 38 S w v2 l2) (h3:RLs RVr 38 S w v3 l3) (hg:S g):RLs RVv 1 S w (vl (some ⟨g,0,none⟩) 3 3) [l1,l2,l3]:=by
 obtain ⟨A1,c1,rfl,_⟩:=h1.form
 obtain ⟨A2,c2,rfl,_⟩:=h2.form
 obtain ⟨A3,c3,rfl,_⟩:=h3.form
 refine ⟨some ⟨g,0,none⟩,3,_,rfl,⟨Nat.le_refl _,by omega⟩,⟨rfl,one_cons rfl (one_cons rfl (one_cons rfl one_nil)),fun _=>⟨g,0,rfl,h.lt,fun j u hu=>by rw [Nat.zero_add,h.rule.1];exact hu⟩⟩,fun i hi=>?_,fun _=>⟨g,0,rfl,hg⟩⟩
 simp only [List.length_cons,List.length_nil] at hi
 rcases (show i=0∨i=1∨i=2 by omega) with rfl | rfl | rfl
 ·exact ⟨_,rfl,h1⟩
 ·exact ⟨_,rfl,h2⟩
 ·exact ⟨_,rfl,h3⟩
/-- a list of versions in a row of the call's own; the versions lead to what was there before -/
def OwnV (S:Nat→Prop) (base:Nat) (w:World) (v:Value) (n:Nat) (xs:List Value) (l:List Vr):Prop :=
 w.ownsRow base 30 38 v n xs∧n=l.length∧(∀ u∈xs,u.oneCell'=true)∧(∀ b,S b→b<base)∧∀ i (h:i<l.length),RVr S w (chunk 38 xs i) l[i]
theorem OwnV.app {S:Nat→Prop} {base:Nat} {w w':World} {v v':Value} {n:Nat} {xs ys:List Value} {l l2:List Vr} (h:OwnV S base w v n xs l) (hr:w'.ownsRow base 30 38 v' (n+l2.length) (xs++ys)) (hg:w.grownBy w' v.ownBlock)
  (h1:∀ u∈ys,u.oneCell'=true) (hx:∀ i (h:i<l2.length),RVr S w (chunk 38 ys i) l2[i]):OwnV S base w' v' (n+l2.length) (xs++ys) (l++l2):=by
 obtain ⟨q1,q2,q3,q5,q4⟩:=h
 have hge:∀ b,S b→some b≠v.ownBlock:=fun b hb e=>by have:=own_ge q1 b e;have:=q5 b hb;omega
 have mv:∀ {cs:List Value} {x:Vr},RVr S w cs x→RVr S w' cs x:=fun hq=>rVr.pres hq ⟨hg.size,fun b hb hl=>hg.block b hl (hge b hb)⟩
 have hxl:xs.length=n*38:=q1.1
 refine ⟨hr,by simp [q2],fun u hu=>?_,q5,fun i hi=>?_⟩
 ·rcases List.mem_append.1 hu with hu | hu
  ·exact q3 u hu
  ·exact h1 u hu
 ·by_cases hi2:i<l.length
  ·rw [List.getElem_append_left hi2,chunk_append_left hxl (by omega)]
   exact mv (q4 i hi2)
  ·simp only [List.length_append] at hi
   have e1:chunk 38 (xs++ys) i=chunk 38 ys (i - l.length):=by rw [chunk_append_right hxl (by omega),q2]
   rw [e1,List.getElem_append_right (by omega)]
   exact mv (hx (i - l.length) (by omega))
theorem OwnV.ext {S:Nat→Prop} {base:Nat} {w w':World} {v:Value} {n:Nat} {xs:List Value} {l:List Vr} (h:OwnV S base w v n xs l) (he:Ext w w'):OwnV S base w' v n xs l:=⟨own_ext h.1 he,h.2.1,h.2.2.1,h.2.2.2.1,fun i hi=>rVr.ext (h.2.2.2.2 i hi) he⟩
theorem OwnV.rls {S:Nat→Prop} {base:Nat} {w:World} {v:Value} {n:Nat} {xs:List Value} {l:List Vr} (h:OwnV S base w v n xs l):RLs RVr 38 (fun b=>S b∨base≤b) w v l:=by
 obtain ⟨h1,h2,h3,_,h4⟩:=h
 exact RSl.own h1 (fun b hb=>.inr hb) h2 h3 fun i hi=>rVr.sub (h4 i hi) fun b hb=>.inl hb
theorem fl_len_take {ll:List (List Vr)} {k:Nat} {x:List Vr} (hx:ll[k]?=some x):(ll.take (k+1)).flatten=(ll.take k).flatten++x:=by
 rw [List.take_add_one,hx,List.flatten_append];simp
theorem fl_len_le {ll:List (List Vr)} {k:Nat} {x:List Vr} (hx:ll[k]?=some x):(ll.take k).flatten.length+x.length≤ll.flatten.length:=by
 have h1:(ll.take (k+1)).flatten.length≤ll.flatten.length:=by
  have h2:=congrArg (fun z=>z.flatten.length) (List.take_append_drop (k+1) ll)
  simp only [List.flatten_append,List.length_append] at h2
  omega
 rw [fl_len_take hx,List.length_append] at h1
 exact h1

set_option maxRecDepth 100000 in
set_option maxHeartbeats 1000000 in
theorem growv_any (n:Nat) (w:World) (hn:n≤4294967296) :
  Calls Tryd.prog 49 #[.slice none 0 0,.int .i64 (n:Nat)] w (fun e w'=>∃ A c,e=.returned (vl A 0 c)∧w'.ownsRow w.heap.size 30 38 (vl A 0 c) 0 []∧Ext w w'):=by
 refine calls_enter Tryd.func49 rfl rfl rfl fun _ hF=>?_
 refine wr fun K1 hK1=>?_
 refine hF.xv v0<|fun _ F3=>?_;clear hF
 refine wpList_nil (hK1 _ _ ?_);clear hK1
 refine wp_seq_k fun K4 hK4=>?_
 refine wr fun K5 hK5=>?_
 refine F3.xm rfl<|Xv (.bool (decide (((n:Nat):Int)<(0:Int))))<|fun _ F9=>?_;clear F3
 refine wpList_nil (hK5 _ _ ?_);clear hK5
 by_cases hc10:((n:Nat):Int)<(0:Int)
 ·skip
  refine F9.ct ?_
  exfalso;omega
 refine F9.cf ?_
 refine wp_skip ?_
 refine hK4 _ _ ?_;clear hK4
 refine wp_seq_k fun K11 hK11=>?_
 refine wr fun K12 hK12=>?_
 refine F9.xm rfl<|Xm rfl<|Xw (vi 0) (fun F=>rn_cap Tryd.underlying36 (F.get rfl))<|Xm rfl<|Xv (vi 0)<|Xv (vi 0)<|Xw (vi (n - 0:Nat)) (fun F=>rn_subN (a:=n) (b:=0) (F.get rfl) (F.get rfl) (by omega) (by omega))<|Xa rfl<|fun _ F28=>?_;clear F9
 refine wpList_nil (hK12 _ _ ?_);clear hK12
 have F29:=F28.k [0,1,4,6];clear F28
 refine wr fun K30 hK30=>?_
 refine F29.xm rfl<|Xv (.bool (decide ((0:Int)<((n - 0:Nat):Int))))<|fun _ F34=>?_;clear F29
 refine wpList_nil (hK30 _ _ ?_);clear hK30
 by_cases hc35:(0:Int)<((n - 0:Nat):Int)
 ·skip
  refine F34.ct ?_
  refine wp_region_lit ?_
  refine F34.xm rfl<|Xm rfl<|Xw (vi 0) (fun F=>rn_cap Tryd.underlying36 (F.get rfl))<|Xw v0 (fun F=>rn_sliceHi Tryd.underlying36 inf30 (F.get rfl) (F.get rfl) (by omega:(0:Int)≤0) (by omega:(0:Int)≤((0:Nat):Int)))<|Xm rfl<|fun _ F45=>?_;clear F34
  refine wpl_op (i:=5) rfl (o_zeros El36 F45 rfl rfl rfl rfl rfl Tryd.underlying3 (F45.get rfl) (F45.get rfl) (by omega) (by omega) (by omega) ?_)
  intro g46 c47 ys48 w49 a55 F56 z50 z51 z52 r53 hx54;clear F45
  have z57:=own_lt r53
  refine F56.xm rfl<|Xv (vi 0)<|Xw (vl (some ⟨g46,0,none⟩) 0 c47) (fun F=>rn_sliceHi Tryd.underlying36 inf30 (F.get rfl) (F.get rfl) (by omega:(0:Int)≤0) (by omega:(0:Int)≤((c47:Nat):Int)))<|Xa rfl<|fun _ F65=>?_;clear F56
  refine wpList_nil (hK11 _ _ ?_);clear hK11
  have F66:=F65.k [0,1,4,6,16];clear F65
  refine wr fun K67 hK67=>?_
  refine F66.xm rfl<|Xa rfl<|fun _ F71=>?_;clear F66
  refine wpList_nil (hK67 _ _ ?_);clear hK67
  refine wp_ret ?_
  refine ret1 F71 rfl rfl ?_
  exact ⟨_,_,rfl,own_zero r53,((Ext.refl w).trans hx54)⟩
 refine F34.cf ?_
 refine wp_skip ?_
 refine hK11 _ _ ?_;clear hK11
 refine wr fun K72 hK72=>?_
 refine F34.xm rfl<|Xa rfl<|fun _ F76=>?_;clear F34
 refine wpList_nil (hK72 _ _ ?_);clear hK72
 refine wp_ret ?_
 refine ret1 F76 rfl rfl ?_
 exact ⟨none,0,rfl,own_nil _ _ _ _,(Ext.refl w)⟩

set_option maxRecDepth 100000 in
set_option maxHeartbeats 1000000 in
theorem concatv_any (A:Option Addr) (c:Nat) (ll:List (List Vr)) (w:World) (h:RLs RVv 1 S w (vl A ll.length c) ll) (hS:∀ b,S b→b<w.heap.size) (hn:ll.flatten.length≤1000000) :
  Calls Tryd.prog 32 #[.slice A ll.length c] w (fun e w'=>∃ A c,e=.returned (vl A ll.flatten.length c)∧RLs RVr 38 (Fr S w) w' (vl A ll.flatten.length c) ll.flatten∧Ext w w'):=by
 obtain ⟨-,hk1,hk2⟩:=RLs.at h
 refine calls_enter Tryd.func32 rfl rfl rfl fun _ hF=>?_
 refine wr fun K1 hK1=>?_
 refine hF.xv v0<|fun _ F3=>?_;clear hF
 refine wpList_nil (hK1 _ _ ?_);clear hK1
 refine wr fun K4 hK4=>?_
 refine F3.xv (vi 0)<|fun _ F6=>?_;clear F3
 refine wpList_nil (hK4 _ _ ?_);clear hK4
 refine wp_seq_k fun K7 hK7=>?_
 refine wr fun K8 hK8=>?_
 refine F6.xm rfl<|Xv (vi (ll.length:Nat))<|Xv (vi 0)<|fun _ F14=>?_;clear F6
 refine wpList_nil (hK8 _ _ ?_);clear hK8
 refine wp_block ?_
 refine wp_loop (fun a' W=>∃ (k:Nat),Sl 36 [(0,(vl A ll.length c)),(2,v0),(3,(vi ((ll.take k).flatten.length:Nat))),(9,(vl A ll.length c)),(10,(vi (ll.length:Nat))),(11,(vi (k:Nat)))] a'∧k≤ll.length∧(ll.take k).flatten.length≤ll.flatten.length∧Ext w W∧w.heap.size≤W.heap.size) (fun a' _=>ll.length - (intOf (a'.eval (.tmp 11))).toNat) ⟨0,((((((F14.nil.cons (q_get F14 (t:=11) rfl (by first | rfl | (congr 1;omega)))).cons (q_get F14 (t:=10) rfl rfl)).cons (q_get F14 (t:=9) rfl rfl)).cons (q_get F14 (t:=3) rfl (by first | rfl | (congr 1;omega)))).cons (q_get F14 (t:=2) rfl rfl)).cons (q_get F14 (t:=0) rfl rfl)),(by omega),(by simp),(Ext.refl w),(Nat.le_refl _)⟩ ?_
 clear F14
 rintro a15 w16 ⟨k,F17,hp19,hp20,hx18,hf21⟩
 have hL22:=F17
 have z23:=hx18.size
 refine wr fun K24 hK24=>?_
 refine F17.xv (.bool (decide (((k:Nat):Int)<((ll.length:Nat):Int))))<|fun _ F26=>?_;clear F17
 refine wpList_nil (hK24 _ _ ?_);clear hK24
 refine wp_seq_k fun K27 hK27=>?_
 by_cases hc28:((k:Nat):Int)<((ll.length:Nat):Int)
 ·skip
  refine F26.ct ?_
  refine wp_skip ?_
  refine hK27 _ _ ?_;clear hK27
  refine wp_seq_k fun K29 hK29=>?_
  refine wp_block ?_
  refine wr fun K30 hK30=>?_
  have d31:=(RLs.ext rVv h hx18)
  obtain ⟨b32,o33,x34,cs35,hA36,hi37,hk38,hc39,hr40⟩:=RLs.get d31 (by omega:k<ll.length)
  obtain ⟨u41,rfl,hd44⟩:=hr40
  obtain ⟨A42,c43,rfl,z45,z46⟩:=RLs.form hd44
  have z47:=fl_len_le hi37
  have hz9:=congrArg List.length (fl_len_take hi37);simp only [List.length_append] at hz9
  simp only [Nat.mul_one] at hc39
  refine F26.xw (.pointer (some ⟨b32,o33+k,none⟩)) (fun F=>rn_index1 Tryd.underlying96 inf36 ((F.get rfl).trans (by rw [hA36])) (F.get rfl) (by omega:(0:Int)≤(k:Nat)) (by omega:((k:Nat):Int)<((ll.length:Nat):Int)))<|Xw (vl A42 x34.length c43) (fun F=>rl F rfl (hc39 0 _ rfl))<|Xa rfl<|fun _ F53=>?_;clear F26
  refine wpList_nil (hK30 _ _ ?_);clear hK30
  refine wr fun K54 hK54=>?_
  refine F53.xm rfl<|Xm rfl<|Xv (vi (x34.length:Nat))<|Xw (vi (((ll.take k).flatten.length)+x34.length:Nat)) (fun F=>rn_addN (a:=(ll.take k).flatten.length) (b:=x34.length) (F.get rfl) (F.get rfl) (by omega))<|Xa rfl<|fun _ F64=>?_;clear F53
  refine wpList_nil (hK54 _ _ ?_);clear hK54
  have F65:=F64.k [0,2,3,9,10,11,12,5];clear F64
  refine wr fun K66 hK66=>?_
  refine F65.xm rfl<|Xv (.bool (decide (((((ll.take k).flatten.length)+x34.length:Nat):Int)<(0:Int))))<|fun _ F70=>?_;clear F65
  refine wpList_nil (hK66 _ _ ?_);clear hK66
  by_cases hc71:((((ll.take k).flatten.length)+x34.length:Nat):Int)<(0:Int)
  ·skip
   refine F70.ct ?_
   exfalso;omega
  refine F70.cf ?_
  refine wp_skip ?_
  refine hK29 _ _ ?_;clear hK29
  refine wp_region_lit ?_
  refine F70.xv (vi (k+1:Nat))<|Xm rfl<|fun _ F75=>?_;clear F70
  refine wpList_nil ?_
  refine ⟨⟨(k+1),((((((F75.nil.cons (q_get F75 (t:=11) rfl (by first | rfl | (congr 1;omega)))).cons (q_get F75 (t:=10) rfl rfl)).cons (q_get F75 (t:=9) rfl rfl)).cons (q_get F75 (t:=3) rfl (by first | rfl | (congr 1;omega)))).cons (q_get F75 (t:=2) rfl rfl)).cons (q_get F75 (t:=0) rfl rfl)),(by omega),(by omega),((Ext.refl w).trans hx18),(by omega)⟩,?_⟩
  rw [F75.get (t:=11) rfl,hL22.get (t:=11) rfl];simp [intOf] <;> omega
 refine F26.cf ?_
 refine wp_exit ?_
 refine exit_then ?_
 refine exit_then ?_
 refine exit_here ?_
 refine hK7 _ _ ?_;clear hK7
 refine wr fun K76 hK76=>?_
 refine F26.xm rfl<|fun _ F78=>?_;clear F26
 refine wpl_op (i:=1) rfl (o_call F78 rfl rfl rfl rfl (rn_call (args2 rfl (F78.get rfl)) rfl (by kernel_rfl)) (growv_any ((ll.take k).flatten.length) _ (by omega)) ?_)
 rintro _ w83 ⟨A79,c80,rfl,r81,hx84⟩
 have z82:=own_form0 r81
 refine ⟨_,rfl,?_⟩;intro a85 F86;clear F78;have z87:=hx84.size
 have hO88:OwnV S w16.heap.size w83 (vl A79 0 c80) 0 [] []:=⟨r81,rfl,one_nil,fun b hb=>by have:=hS b hb;omega,fun i hi=>absurd hi (by simp)⟩
 refine F86.xa rfl<|fun _ F90=>?_;clear F86
 refine wpList_nil (hK76 _ _ ?_);clear hK76
 refine wp_seq_k fun K91 hK91=>?_
 refine wr fun K92 hK92=>?_
 refine F90.xm rfl<|Xv (vi (ll.length:Nat))<|Xv (vi 0)<|fun _ F98=>?_;clear F90
 refine wpList_nil (hK92 _ _ ?_);clear hK92
 refine wp_block ?_
 refine wp_loop (fun a' W=>∃ (k2:Nat) (A6:Option Addr) (c6:Nat) (n6:Nat) (x6:List Value) (l6:List Vr),Sl 36 [(0,(vl A ll.length c)),(2,v0),(3,(vi ((ll.take k).flatten.length:Nat))),(9,(vl A ll.length c)),(10,(vi (ll.length:Nat))),(11,(vi (k:Nat))),(12,(.bool (decide (((k:Nat):Int)<((ll.length:Nat):Int))))),(6,(vl A6 n6 c6)),(25,(vl A ll.length c)),(26,(vi (ll.length:Nat))),(27,(vi (k2:Nat)))] a'∧(k2≤ll.length∧n6=(ll.take k2).flatten.length)∧l6=(ll.take k2).flatten∧Ext w W∧OwnV S w16.heap.size W (vl A6 n6 c6) n6 x6 l6∧w83.heap.size≤W.heap.size) (fun a' _=>ll.length - (intOf (a'.eval (.tmp 27))).toNat) ⟨0,A79,c80,0,[],[],(((((((((((F98.nil.cons (q_get F98 (t:=27) rfl (by first | rfl | (congr 1;omega)))).cons (q_get F98 (t:=26) rfl rfl)).cons (q_get F98 (t:=25) rfl rfl)).cons (q_get F98 (t:=6) rfl (by first | rfl | (congr 1;omega)))).cons (q_get F98 (t:=12) rfl rfl)).cons (q_get F98 (t:=11) rfl rfl)).cons (q_get F98 (t:=10) rfl rfl)).cons (q_get F98 (t:=9) rfl rfl)).cons (q_get F98 (t:=3) rfl rfl)).cons (q_get F98 (t:=2) rfl rfl)).cons (q_get F98 (t:=0) rfl rfl)),⟨by omega,by simp⟩,(by simp),(((Ext.refl w).trans hx18).trans hx84),hO88,(Nat.le_refl _)⟩ ?_
 clear F98
 rintro a99 w100 ⟨k2,A6,c6,n6,x6,l6,F101,hp103,hp104,hx102,hf105,hf106⟩
 have hL107:=F101
 have z108:=hx102.size
 have z109:=own_form0 hf105.1
 refine wr fun K110 hK110=>?_
 refine F101.xv (.bool (decide (((k2:Nat):Int)<((ll.length:Nat):Int))))<|fun _ F112=>?_;clear F101
 refine wpList_nil (hK110 _ _ ?_);clear hK110
 refine wp_seq_k fun K113 hK113=>?_
 by_cases hc114:((k2:Nat):Int)<((ll.length:Nat):Int)
 ·skip
  refine F112.ct ?_
  refine wp_skip ?_
  refine hK113 _ _ ?_;clear hK113
  refine wp_seq_k fun K115 hK115=>?_
  refine wp_block ?_
  refine wr fun K116 hK116=>?_
  have d117:=(RLs.ext rVv h hx102)
  obtain ⟨b118,o119,x120,cs121,hA122,hi123,hk124,hc125,hr126⟩:=RLs.get d117 (by omega:k2<ll.length)
  obtain ⟨u127,rfl,hd130⟩:=hr126
  obtain ⟨A128,c129,rfl,z131,z132⟩:=RLs.form hd130
  have z133:=fl_len_le hi123
  have hz9:=congrArg List.length (fl_len_take hi123);simp only [List.length_append] at hz9
  simp only [Nat.mul_one] at hc125
  refine F112.xw (.pointer (some ⟨b118,o119+k2,none⟩)) (fun F=>rn_index1 Tryd.underlying96 inf36 ((F.get rfl).trans (by rw [hA122])) (F.get rfl) (by omega:(0:Int)≤(k2:Nat)) (by omega:((k2:Nat):Int)<((ll.length:Nat):Int)))<|Xw (vl A128 x120.length c129) (fun F=>rl F rfl (hc125 0 _ rfl))<|Xa rfl<|fun _ F139=>?_;clear F112
  refine wpList_nil (hK116 _ _ ?_);clear hK116
  refine wp_region_lit ?_
  refine F139.xm rfl<|Xm rfl<|fun _ F143=>?_;clear F139
  obtain ⟨z147,z148,ys144,hc145,he146⟩:=RSl.cel hd130
  refine wpl_op (i:=2) rfl (o_appB (zs:=x6++ys144) El36 F143 rfl rfl rfl rfl rfl (F143.get rfl) (F143.get rfl) hf105.1 hc145 (by omega) (by omega) (by omega) rfl ?_)
  intro A149 c150 w151 a158 F159 r152 hg153 z154 z155 hnb156;clear F143;have z160:=hg153.size
  have hO157:=OwnV.app hf105 r152 hg153 hc145.2.1 he146
  refine F159.xa rfl<|fun _ F162=>?_;clear F159
  refine wpList_nil (hK115 _ _ ?_);clear hK115
  have F163:=F162.k [0,2,3,9,10,11,12,6,25,26,27,28,8];clear F162
  refine wp_region_lit ?_
  refine F163.xv (vi (k2+1:Nat))<|Xm rfl<|fun _ F167=>?_;clear F163
  refine wpList_nil ?_
  refine ⟨⟨(k2+1),A149,c150,n6+x120.length,(x6++ys144),(l6++x120),(((((((((((F167.nil.cons (q_get F167 (t:=27) rfl (by first | rfl | (congr 1;omega)))).cons (q_get F167 (t:=26) rfl rfl)).cons (q_get F167 (t:=25) rfl rfl)).cons (q_get F167 (t:=6) rfl (by first | rfl | (congr 1;omega)))).cons (q_get F167 (t:=12) rfl rfl)).cons (q_get F167 (t:=11) rfl rfl)).cons (q_get F167 (t:=10) rfl rfl)).cons (q_get F167 (t:=9) rfl rfl)).cons (q_get F167 (t:=3) rfl rfl)).cons (q_get F167 (t:=2) rfl rfl)).cons (q_get F167 (t:=0) rfl rfl)),⟨by omega,by omega⟩,(by rw [fl_len_take hi123,← hp104]),(ext_row ((Ext.refl w).trans hx102) hg153 hf105.1 (by omega)),hO157,(by omega)⟩,?_⟩
  rw [F167.get (t:=27) rfl,hL107.get (t:=27) rfl];simp [intOf] <;> omega
 refine F112.cf ?_
 refine wp_exit ?_
 refine exit_then ?_
 refine exit_then ?_
 refine exit_here ?_
 refine hK91 _ _ ?_;clear hK91
 refine wr fun K168 hK168=>?_
 refine F112.xm rfl<|Xa rfl<|fun _ F172=>?_;clear F112
 refine wpList_nil (hK168 _ _ ?_);clear hK168
 refine wp_ret ?_
 refine ret1 F172 rfl rfl ?_
 have hk2:k2=ll.length:=by omega
 have hfl:=hp104;rw [hk2,List.take_length] at hfl
 obtain rfl:=hf105.2.1
 subst hfl
 exact ⟨_,_,rfl,RLs.sub rVr (OwnV.rls hf105) (fun b hb=>hb.elim .inl (fun h=>.inr (by omega))),((Ext.refl w).trans hx102)⟩

theorem concatv_at {v:Value} (ll:List (List Vr)) (w:World) (h:RLs RVv 1 S w v ll) (hS:∀ b,S b→b<w.heap.size) (hn:ll.flatten.length≤1000000) :
  Calls Tryd.prog 32 #[v] w (fun e w'=>∃ A c,e=.returned (vl A ll.flatten.length c)∧RLs RVr 38 (Fr S w) w' (vl A ll.flatten.length c) ll.flatten∧Ext w w'):=by
 obtain ⟨A,c,rfl,_⟩:=h.form
 exact concatv_any A c ll w h hS hn

end Go.Proofs.YtihgmaoghbnnaaaDoor

namespace Go.Proofs.YtihgmaoghbnnaaaDoor
open Go.RowKit

variable {S S':Nat→Prop}

theorem check_asc {f:Fo} (h:checkFE f=0):f.many≤4096∧1≤f.many∧0≤f.no∧f.no≤4096∧f.early.length≤64∧checkE f.items=0∧asc (f.no+1) f.early∧firstE (verifyE f.pub f.many) f.early=0:=by
 unfold checkFE at h
 split at h
 ·cases h
 ·split at h
  ·cases h
  ·split at h
   ·rename_i h1;exact absurd h h1
   ·split at h
    ·cases h
    ·split at h
     ·cases h
     ·split at h
      ·cases h
      ·rename_i h1 h2 h3 h4 h5 h6
       exact ⟨by omega,by omega,by omega,by omega,by omega,Decidable.not_not.1 h3,Decidable.not_not.1 h6,h⟩
theorem first_zero {g:Vr→Int}:∀ {l:List Vr},firstE g l=0→∀ x∈l,g x=0
 | [],_,x,hx=>absurd hx (by simp)
 | y::l,h,x,hx=>by
  unfold firstE at h
  split at h
  ·rename_i h1;exact absurd h h1
  ·rename_i h1
   rcases List.mem_cons.1 hx with rfl | hx
   ·exact Decidable.not_not.1 h1
   ·exact first_zero h x hx
theorem verify_zero {pub:List UInt8} {many:Int} {v:Vr} (h:verifyE pub many v=0):1≤v.no∧v.no≤4096∧validC v.chs∧v.sg.index=v.no - 1∧verifyF pub many v.msg v.sg=true:=by
 unfold verifyE at h
 split at h
 ·cases h
 ·split at h
  ·cases h
  ·split at h
   ·cases h
   ·rename_i h1 h2 h3
    refine ⟨by omega,by omega,Decidable.not_not.1 h2,Decidable.not_not.1 (fun q=>h3 (.inl q)),?_⟩
    cases hv:verifyF pub many v.msg v.sg
    ·exact absurd (.inr hv) h3
    ·rfl
theorem early_no {f:Fo} (h:checkFE f=0) {x:Vr} (hx:x∈f.early):1≤x.no∧x.no≤4096:=by
 have:=verify_zero (first_zero (check_asc h).2.2.2.2.2.2.2 x hx)
 exact ⟨this.1,this.2.1⟩
theorem below_le (t:Int) (l:List Vr):below t l≤l.length:=by
 unfold below;exact (List.takeWhile_prefix _).length_le
theorem stepF_early (g:Fo) (x:Vr) (l:List Vr):stepF ⟨g.pub,g.many,g.no,g.items,l⟩ x={ stepF g x with early:=l }:=by
 unfold stepF
 by_cases h:fits g x
 ·have h':fits ⟨g.pub,g.many,g.no,g.items,l⟩ x:=h
  rw [if_pos h,if_pos h']
 ·have h':¬ fits ⟨g.pub,g.many,g.no,g.items,l⟩ x:=h
  rw [if_neg h,if_neg h']
theorem drain_early:∀ (l:List Vr) (g:Fo) (z:List Vr),drain { g with early:=z } l=drain g l
 | [],_,_=>rfl
 | x::l,g,z=>by
  unfold drain
  by_cases h:x.no=g.no+1
  ·rw [if_pos h,if_pos h,stepF_early g x z,drain_early l]
  ·rw [if_neg h,if_neg h]
theorem drain_step {g:Fo} {x:Vr} (hx:g.early[0]?=some x) (h:x.no=g.no+1):drain (stepF ⟨g.pub,g.many,g.no,g.items,g.early.drop 1⟩ x) (g.early.drop 1)=drain g g.early:=by
 cases he:g.early with
 | nil=>rw [he] at hx;simp at hx
 | cons y l =>
  rw [he] at hx;simp at hx;subst hx
  rw [stepF_early,drain_early]
  show drain (stepF g y) l=drain g (y::l)
  rw [drain,if_pos h]
theorem drain_end {g:Fo} (h:∀ x,g.early[0]?=some x→x.no≠g.no+1):drain g g.early=g:=by
 cases he:g.early with
 | nil=>cases g;simp only at he;subst he;rfl
 | cons y l=>rw [drain,if_neg (h y (by rw [he];rfl)),← he]
theorem stepF_facts (g:Fo) (x:Vr):(stepF g x).pub=g.pub∧(stepF g x).many=g.many∧(stepF g x).early=g.early∧((stepF g x).no=g.no∨(stepF g x).no=x.no):=by
 unfold stepF;split
 ·exact ⟨rfl,rfl,rfl,.inr rfl⟩
 ·exact ⟨rfl,rfl,rfl,.inl rfl⟩
theorem stepF_sm {g:Fo} {x:Vr} (ha:∀ y∈g.items,y.data.length≤4294967296) (hl:∀ y∈x.chs,y.data.length≤4294967296):∀ y∈(stepF g x).items,y.data.length≤4294967296:=by
 unfold stepF;split
 ·rename_i h
  intro y hy
  have e:applyV g.items x.chs=appL g.items x.chs:=if_pos h.1
  exact applyV_sm ha hl y (by rw [e];exact hy)
 ·exact ha
def lenCell (W:World) (b o:Nat):Nat:=match W.cell? ⟨b,o,none⟩ with
 | some (Value.slice _ n _)=>n
 | _=>0
theorem lenCell_of {W:World} {b o n c:Nat} {A:Option Addr} (h:W.cell? ⟨b,o,none⟩=some (vl A n c)):lenCell W b o=n:=by unfold lenCell;rw [h]
def Fz (S:Nat→Prop) (w:World) (p q r x:Nat):Prop:=Fr S w x∧x≠p∧x≠q∧x≠r
theorem flat3 {l:List Vr} {v:Vr} {n:Nat}:([l.take n,[v],l.drop n]:List (List Vr)).flatten=l.take n++[v]++l.drop n:=by simp

set_option maxRecDepth 100000 in
set_option maxHeartbeats 1000000 in
theorem receive_any (FA:Option Addr) (fa:Nat) (FE:Option Addr) (fe:Nat) (C:Option Addr) (cc:Nat) (O:Option Addr) (oc:Nat) (E:Option Addr) (ec:Nat) (P:Option Addr) (pc:Nat) (f:Fo) (v:Vr) (w:World) (hf:RFo S w (vl FA f.items.length fa) (vl FE f.early.length fe) f) (hv:RVp S w (vl C v.chs.length cc) (vl O v.sg.op.length oc) (vl E v.sg.cl.length ec) (vl P v.sg.path.length pc) v) (hdi:∀ x∈f.items,x.data.length≤4294967296) (hde:∀ v∈f.early,∀ x∈v.chs,x.data.length≤4294967296) (hdv:∀ x∈v.chs,x.data.length≤4294967296) (hG:Glob w) :
  Calls Tryd.prog 14 #[(ag (dg f.pub [(vi f.many),(vi f.no),(vl FA f.items.length fa),(vl FE f.early.length fe)])),(ag ((vi v.no)::dg v.state [(vl C v.chs.length cc),(vi v.sg.index),(vl O v.sg.op.length oc),(vl E v.sg.cl.length ec),(vl P v.sg.path.length pc)]))] w (fun en w'=>∃ c' e',en=.returned (.tuple #[ag (fcs (recF f v).pub (recF f v).many (recF f v).no c' e'),.int .i64 (recE f v)])∧RFo (Fr S w) w' c' e' (recF f v)∧Ext w w'):=by
 have hfc:=RFo.subB (S':=Clip S w) hf (fun _ hb hs=>⟨hs,hb⟩)
 obtain ⟨-,hfc1,hfc2⟩:=RLs.at hfc.items;obtain ⟨-,hfc3,hfc4⟩:=RLs.at hfc.early
 have hvc:=RVp.subB (S':=Clip S w) hv (fun _ hb hs=>⟨hs,hb⟩)
 obtain ⟨-,hvc1,hvc2⟩:=RLs.at hvc.chs;have hvc3:=(Fl.cel hvc.sg.op).2.1;have hvc4:=(Fl.cel hvc.sg.cl).2.1;have hvc5:=(Fl.cel hvc.sg.path).2.1
 have hsub:∀ x∈f.early,x∈f.early:=fun _ h=>h
 refine calls_enter Tryd.func14 rfl rfl rfl fun _ hF=>?_
 refine wr fun K1 hK1=>?_
 refine hF.xb rfl fun g2 w3 _ F9 z6 z7 b4 hx5=>?_;clear hF
 refine F9.xb rfl fun g10 w11 _ F17 z14 z15 b12 hx13=>?_;clear F9
 refine F17.xz fz 41 fun g18 w19 _ F25 z22 z23 b20 hx21=>?_;clear F17
 refine F25.xv (vi 0)<|fun _ F27=>?_;clear F25
 refine wpList_nil (hK1 _ _ ?_);clear hK1
 refine wp_seq_k fun K28 hK28=>?_
 refine wr fun K29 hK29=>?_
 have b30:=((b4.ext hx13).ext hx21)
 refine F27.xw (ag (dg f.pub [(vi f.many),(vi f.no),(vl FA f.items.length fa),(vl FE f.early.length fe)])) (fun F=>rb F rfl b30 (hk:=len_dig hfc.pub))<|fun _ F32=>?_;clear F27
 have d33:=(RLs.ext rIt (RLs.ext rIt (RLs.ext rIt hfc.items hx5) hx13) hx21)
 have d34:=(RLs.ext rVr (RLs.ext rVr (RLs.ext rVr hfc.early hx5) hx13) hx21)
 refine F32.xc (fcheck_at f _ (⟨hfc.pub,RLs.sub rIt d33 (fun b hb=>⟨.inl hb.1,by have h8:=hb.2;omega,by have h8:=hb.2;omega,by have h8:=hb.2;omega⟩),RLs.sub rVr d34 (fun b hb=>⟨.inl hb.1,by have h8:=hb.2;omega,by have h8:=hb.2;omega,by have h8:=hb.2;omega⟩)⟩:RFo (Fz S w g2 g10 g18) _ _ _ f) hdi hde (hG.ext ((((Ext.refl w).trans hx5).trans hx13).trans hx21))) ?_
 rintro _ w35 ⟨rfl,hx36⟩
 refine ⟨_,rfl,?_⟩;intro a37 F38;clear F32;have z39:=hx36.size
 refine F38.xa rfl<|fun _ F41=>?_;clear F38
 refine wpList_nil (hK29 _ _ ?_);clear hK29
 refine wr fun K42 hK42=>?_
 refine F41.xm rfl<|Xv (.bool (decide (((checkFE f):Int)≠(0:Int))))<|fun _ F46=>?_;clear F41
 refine wpList_nil (hK42 _ _ ?_);clear hK42
 by_cases hc47:((checkFE f):Int)≠(0:Int)
 ·skip
  refine F46.ct ?_
  refine wr fun K48 hK48=>?_
  have b49:=(b20.ext hx36)
  refine F46.xw (ag fz) (fun F=>rb F rfl b49)<|Xm rfl<|fun _ F53=>?_;clear F46
  refine F53.xs rfl b49 (fun w54 b55 hg56=>?_);have z57:=hg56.size
  refine F53.xa rfl<|fun _ F59=>?_;clear F53
  refine wpList_nil (hK48 _ _ ?_);clear hK48
  have F60:=F59.k [0,1,2,3,4,5,6,14];clear F59
  refine wp_ret (ret_then ?_)
  refine retC1 F60 rfl rfl rfl b55 Tryd.underlying41 rfl (sk inf41 (len_dig zero32_len)) ?_
  have hE:recE f v=(checkFE f):=if_pos (of_decide_eq_true (decide_eq_true hc47))
  have F0:recF f v=foNil:=if_pos (by rw [hE];exact of_decide_eq_true (decide_eq_true hc47))
  rw [F0,hE]
  exact ⟨_,_,rfl,foNil_at _,((((((Ext.refl w).trans hx5).trans hx13).trans hx21).trans hx36).gn hg56)⟩
 have hck:checkFE f=0:=Decidable.not_not.1 hc47
 obtain ⟨hq1,hq2,hq3,hq4,hq5,hq6,hq7,hq8⟩:=check_asc hck
 refine F46.cf ?_
 refine wp_skip ?_
 refine hK28 _ _ ?_;clear hK28
 refine wp_seq_k fun K61 hK61=>?_
 refine wr fun K62 hK62=>?_
 refine F46.xv (vp g2)<|fun _ F64=>?_;clear F46
 have b65:=(b30.ext hx36)
 refine F64.xw (.agg (byteVals f.pub).toArray) (fun F=>rn_loadN (cs:=byteVals f.pub) (F.get rfl) Tryd.underlying24 rfl (sk inf24 (byteVals_len hfc.pub)) (Blk.part (A:=[]) (M:=byteVals f.pub) (B:=[(vi f.many),(vi f.no),(vl FA f.items.length fa),(vl FE f.early.length fe)]) b65 (by simp) rfl))<|Xv (.pointer (some ⟨g2,32,none⟩))<|Xw (vi f.many) (fun F=>rl F rfl ((b65.rule.1 32).trans ((at_app (k:=0) (byteVals_len hfc.pub)).trans rfl)))<|fun _ F71=>?_;clear F64
 have b72:=((b12.ext hx21).ext hx36)
 refine F71.xw (ag ((vi v.no)::dg v.state [(vl C v.chs.length cc),(vi v.sg.index),(vl O v.sg.op.length oc),(vl E v.sg.cl.length ec),(vl P v.sg.path.length pc)])) (fun F=>rb F rfl b72 (hk:=len_dig1 hvc.st))<|fun _ F74=>?_;clear F71
 have d75:=(RLs.ext rCg (RLs.ext rCg (RLs.ext rCg (RLs.ext rCg hvc.chs hx5) hx13) hx21) hx36)
 have d76:=((((hvc.sg.op.ext hx5).ext hx13).ext hx21).ext hx36)
 have d77:=((((hvc.sg.cl.ext hx5).ext hx13).ext hx21).ext hx36)
 have d78:=((((hvc.sg.path.ext hx5).ext hx13).ext hx21).ext hx36)
 refine F74.xc (verifyv_at f.pub f.many v _ (⟨hvc.st,RLs.sub (S':=fun _=>True) rCg d75 fun _ _=>trivial,⟨Fl.any d76,Fl.any d77,Fl.any d78,hvc.sg.o32,hvc.sg.c32,hvc.sg.p32⟩⟩:RVp (fun _=>True) _ _ _ _ _ v) hfc.pub hdv (hG.ext (((((Ext.refl w).trans hx5).trans hx13).trans hx21).trans hx36))) ?_
 rintro _ w79 ⟨rfl,hx80⟩
 refine ⟨_,rfl,?_⟩;intro a81 F82;clear F74;have z83:=hx80.size
 refine F82.xa rfl<|fun _ F85=>?_;clear F82
 refine wpList_nil (hK62 _ _ ?_);clear hK62
 have F86:=F85.k [0,1,2,3,4,5,6,14,7];clear F85
 refine wr fun K87 hK87=>?_
 refine F86.xm rfl<|Xv (.bool (decide (((verifyE f.pub f.many v):Int)≠(0:Int))))<|fun _ F91=>?_;clear F86
 refine wpList_nil (hK87 _ _ ?_);clear hK87
 by_cases hc92:((verifyE f.pub f.many v):Int)≠(0:Int)
 ·skip
  refine F91.ct ?_
  refine wr fun K93 hK93=>?_
  have b94:=((b20.ext hx36).ext hx80)
  refine F91.xw (ag fz) (fun F=>rb F rfl b94)<|Xm rfl<|fun _ F98=>?_;clear F91
  refine F98.xs rfl b94 (fun w99 b100 hg101=>?_);have z102:=hg101.size
  refine F98.xa rfl<|fun _ F104=>?_;clear F98
  refine wpList_nil (hK93 _ _ ?_);clear hK93
  refine wp_ret (ret_then ?_)
  refine retC1 F104 rfl rfl rfl b100 Tryd.underlying41 rfl (sk inf41 (len_dig zero32_len)) ?_
  have hE:recE f v=(verifyE f.pub f.many v):=(if_neg (fun q=>absurd q (of_decide_eq_false (decide_eq_false hc47)))).trans (if_pos (of_decide_eq_true (decide_eq_true hc92)))
  have F0:recF f v=foNil:=if_pos (by rw [hE];exact of_decide_eq_true (decide_eq_true hc92))
  rw [F0,hE]
  exact ⟨_,_,rfl,foNil_at _,(((((((Ext.refl w).trans hx5).trans hx13).trans hx21).trans hx36).trans hx80).gn hg101)⟩
 have hvz:verifyE f.pub f.many v=0:=Decidable.not_not.1 hc92
 obtain ⟨hr1,hr2,hr3,hr4,-⟩:=verify_zero hvz
 refine F91.cf ?_
 refine wp_skip ?_
 refine hK61 _ _ ?_;clear hK61
 refine wr fun K105 hK105=>?_
 refine F91.xv (.pointer (some ⟨g2,35,none⟩))<|fun _ F107=>?_;clear F91
 have b108:=(b65.ext hx80)
 refine F107.xw (vl FE f.early.length fe) (fun F=>rl F rfl ((b108.rule.1 35).trans ((at_app (k:=3) (byteVals_len hfc.pub)).trans rfl)))<|Xv (vp g10)<|fun _ F112=>?_;clear F107
 have b113:=(b72.ext hx80)
 refine F112.xw (vi v.no) (fun F=>rl F rfl ((b113.rule.1 0).trans rfl))<|fun _ F115=>?_;clear F112
 have d116:=(RLs.ext rVr (RLs.ext rVr (RLs.ext rVr (RLs.ext rVr (RLs.ext rVr hfc.early hx5) hx13) hx21) hx36) hx80)
 have z117:=below_le v.no f.early
 refine wpl_op (i:=4) rfl (o_call F115 rfl rfl rfl rfl (rn_call (args3 (F115.get rfl) (F115.get rfl) rfl) rfl (by kernel_rfl)) (bsearch_at (v:=(vl FE f.early.length fe)) f.early v.no _ d116 (up_of_asc hq7) (by omega)) ?_)
 rintro _ w118 ⟨rfl,hx119⟩
 refine ⟨_,rfl,?_⟩;intro a120 F121;clear F115;have z122:=hx119.size
 refine F121.xm rfl<|Xv (vi (below v.no f.early:Nat))<|Xv (.bool (decide (∃ w∈f.early,w.no=v.no)))<|Xa rfl<|Xa rfl<|fun _ F132=>?_;clear F121
 refine wpList_nil (hK105 _ _ ?_);clear hK105
 have F133:=F132.k [0,1,2,3,4,5,6,14,7,24,8,9];clear F132
 refine wp_seq_k fun K134 hK134=>?_
 refine wr fun K135 hK135=>?_
 refine F133.xm rfl<|Xm rfl<|fun _ F139=>?_;clear F133
 by_cases hc140:∃ w∈f.early,w.no=v.no
 ·skip
  refine F139.xu<|Xu<|Xu<|Xu<|Xu<|Xv (.bool true)<|fun _ F152=>?_;clear F139
  refine wpList_nil (hK135 _ _ ?_);clear hK135
  have F153:=F152.k [0,1,2,3,4,5,6,14,7,24,8,9,42];clear F152
  refine F153.ct ?_
  refine wr fun K154 hK154=>?_
  have b155:=(((b20.ext hx36).ext hx80).ext hx119)
  refine F153.xw (ag fz) (fun F=>rb F rfl b155)<|fun _ F157=>?_;clear F153
  refine F157.xs rfl b155 (fun w158 b159 hg160=>?_);have z161:=hg160.size
  refine F157.xv (vi 420)<|fun _ F163=>?_;clear F157
  refine wpList_nil (hK154 _ _ ?_);clear hK154
  refine wp_ret (ret_then ?_)
  refine retC1 F163 rfl rfl rfl b159 Tryd.underlying41 rfl (sk inf41 (len_dig zero32_len)) ?_
  have hE:recE f v=420:=(if_neg (fun q=>absurd q (of_decide_eq_false (decide_eq_false hc47)))).trans ((if_neg (fun q=>absurd q (of_decide_eq_false (decide_eq_false hc92)))).trans ( if_pos (.inl (of_decide_eq_true (decide_eq_true hc140)))))
  have F0:recF f v=foNil:=if_pos (by rw [hE];decide)
  rw [F0,hE]
  exact ⟨_,_,rfl,foNil_at _,((((((((Ext.refl w).trans hx5).trans hx13).trans hx21).trans hx36).trans hx80).trans hx119).gn hg160)⟩
 refine F139.xg (vp g10)<|fun _ F165=>?_;clear F139
 have b166:=(b113.ext hx119)
 refine F165.xgw (vi v.no) (fun F=>rl F rfl ((b166.rule.1 0).trans rfl))<|Xg (.pointer (some ⟨g2,33,none⟩))<|fun _ F170=>?_;clear F165
 have b171:=(b108.ext hx119)
 refine F170.xgw (vi f.no) (fun F=>rl F rfl ((b171.rule.1 33).trans ((at_app (k:=1) (byteVals_len hfc.pub)).trans rfl)))<|Xg (.bool (decide ((v.no:Int)≤(f.no:Int))))<|Xv (.bool (decide ((v.no:Int)≤(f.no:Int))))<|fun _ F177=>?_;clear F170
 refine wpList_nil (hK135 _ _ ?_);clear hK135
 have F178:=F177.k [0,1,2,3,4,5,6,14,7,24,8,9,42];clear F177
 by_cases hc179:(v.no:Int)≤(f.no:Int)
 ·skip
  refine F178.ct ?_
  refine wr fun K180 hK180=>?_
  have b181:=(((b20.ext hx36).ext hx80).ext hx119)
  refine F178.xw (ag fz) (fun F=>rb F rfl b181)<|fun _ F183=>?_;clear F178
  refine F183.xs rfl b181 (fun w184 b185 hg186=>?_);have z187:=hg186.size
  refine F183.xv (vi 420)<|fun _ F189=>?_;clear F183
  refine wpList_nil (hK180 _ _ ?_);clear hK180
  refine wp_ret (ret_then ?_)
  refine retC1 F189 rfl rfl rfl b185 Tryd.underlying41 rfl (sk inf41 (len_dig zero32_len)) ?_
  have hE:recE f v=420:=(if_neg (fun q=>absurd q (of_decide_eq_false (decide_eq_false hc47)))).trans ((if_neg (fun q=>absurd q (of_decide_eq_false (decide_eq_false hc92)))).trans ( if_pos (.inr (by omega))))
  have F0:recF f v=foNil:=if_pos (by rw [hE];decide)
  rw [F0,hE]
  exact ⟨_,_,rfl,foNil_at _,((((((((Ext.refl w).trans hx5).trans hx13).trans hx21).trans hx36).trans hx80).trans hx119).gn hg186)⟩
 refine F178.cf ?_
 refine wp_skip ?_
 refine hK134 _ _ ?_;clear hK134
 refine wp_seq_k fun K190 hK190=>?_
 refine wr fun K191 hK191=>?_
 refine F178.xv (vp g10)<|Xw (vi v.no) (fun F=>rl F rfl ((b166.rule.1 0).trans rfl))<|Xv (.pointer (some ⟨g2,33,none⟩))<|Xw (vi f.no) (fun F=>rl F rfl ((b171.rule.1 33).trans ((at_app (k:=1) (byteVals_len hfc.pub)).trans rfl)))<|Xv (vi (f.no+1))<|Xv (.bool (decide ((f.no+1:Int)<(v.no:Int))))<|fun _ F203=>?_;clear F178
 refine wpList_nil (hK191 _ _ ?_);clear hK191
 have F204:=F203.k [0,1,2,3,4,5,6,14,7,24,8,9,42,49];clear F203
 by_cases hc205:(f.no+1:Int)<(v.no:Int)
 ·skip
  refine F204.ct ?_
  refine wp_seq_k fun K206 hK206=>?_
  refine wr fun K207 hK207=>?_
  refine F204.xv (.pointer (some ⟨g2,35,none⟩))<|Xw (vl FE f.early.length fe) (fun F=>rl F rfl ((b171.rule.1 35).trans ((at_app (k:=3) (byteVals_len hfc.pub)).trans rfl)))<|Xv (vi (f.early.length:Nat))<|Xv (.bool (decide (((f.early.length:Nat):Int)=(64:Int))))<|fun _ F215=>?_;clear F204
  refine wpList_nil (hK207 _ _ ?_);clear hK207
  by_cases hc216:((f.early.length:Nat):Int)=(64:Int)
  ·skip
   refine F215.ct ?_
   refine wr fun K217 hK217=>?_
   have b218:=(((b20.ext hx36).ext hx80).ext hx119)
   refine F215.xw (ag fz) (fun F=>rb F rfl b218)<|fun _ F220=>?_;clear F215
   refine F220.xs rfl b218 (fun w221 b222 hg223=>?_);have z224:=hg223.size
   refine F220.xv (vi 2)<|fun _ F226=>?_;clear F220
   refine wpList_nil (hK217 _ _ ?_);clear hK217
   have F227:=F226.k [0,1,2,3,4,5,6,14,7,24,8,9,42,49,53];clear F226
   refine wp_ret (ret_then ?_)
   refine ret_then ?_
   refine retC1 F227 rfl rfl rfl b222 Tryd.underlying41 rfl (sk inf41 (len_dig zero32_len)) ?_
   have hE:recE f v=2:=(if_neg (fun q=>absurd q (of_decide_eq_false (decide_eq_false hc47)))).trans ((if_neg (fun q=>absurd q (of_decide_eq_false (decide_eq_false hc92)))).trans ( (if_neg (fun q=>q.elim (fun h=>of_decide_eq_false (decide_eq_false hc140) h) (fun h=>by omega))).trans ((if_pos (by omega)).trans (if_pos (by omega)))))
   have F0:recF f v=foNil:=if_pos (by rw [hE];decide)
   rw [F0,hE]
   exact ⟨_,_,rfl,foNil_at _,((((((((Ext.refl w).trans hx5).trans hx13).trans hx21).trans hx36).trans hx80).trans hx119).gn hg223)⟩
  refine F215.cf ?_
  refine wp_skip ?_
  refine hK206 _ _ ?_;clear hK206
  refine wp_seq_k fun K228 hK228=>?_
  have hx230:∃ W,w118.drew=W∧Ext w118 W:=⟨_,rfl,(Ext.refl _).drew⟩
  obtain ⟨w229,e231,hx230⟩:=hx230
  have z232:=hx230.size
  refine any_start (fun W=>Ext w229 W∧Blk W g2 41 (dg f.pub [(vi f.many),(vi f.no),(vl FA f.items.length fa),(vl FE f.early.length fe)])∧Blk W g10 30 ((vi v.no)::dg v.state [(vl C v.chs.length cc),(vi v.sg.index),(vl O v.sg.op.length oc),(vl E v.sg.cl.length ec),(vl P v.sg.path.length pc)])) (fun i=>i==13) 14 (.replicate 14 false) rfl rfl rfl ?_
  rw [e231];clear e231
  refine F215.yv 0 (.pointer (some ⟨g2,35,none⟩)) rfl<|fun _ F234=>?_;clear F215
  have b236:=(b171.ext hx230)
  have b237:=(b166.ext hx230)
  have hS235:Ext w229 w229∧Blk w229 g2 41 (dg f.pub [(vi f.many),(vi f.no),(vl FA f.items.length fa),(vl FE f.early.length fe)])∧Blk w229 g10 30 ((vi v.no)::dg v.state [(vl C v.chs.length cc),(vi v.sg.index),(vl O v.sg.op.length oc),(vl E v.sg.cl.length ec),(vl P v.sg.path.length pc)]):=⟨(Ext.refl w229),b236,b237⟩
  refine F234.ys 1 (vl FE f.early.length fe) rfl hS235 (fun F W hW=>rl F rfl ((hW.2.1.rule.1 35).trans ((at_app (k:=3) (byteVals_len hfc.pub)).trans rfl)))<|Ym 2 rfl<|Yw 3 (vl FE (below v.no f.early) fe) rfl (fun F W=>rn_sliceHi Tryd.underlying36 inf30 (F.get rfl) (F.get rfl) (by omega:(0:Int)≤(below v.no f.early:Nat)) (by omega:((below v.no f.early:Nat):Int)≤((fe:Nat):Int)))<|Ys 4 (ag ((vi v.no)::dg v.state [(vl C v.chs.length cc),(vi v.sg.index),(vl O v.sg.op.length oc),(vl E v.sg.cl.length ec),(vl P v.sg.path.length pc)])) rfl hS235 (fun F W hW=>rb F rfl hW.2.2 (hk:=len_dig1 hvc.st))<|Yv 6 (.pointer (some ⟨g2,35,none⟩)) rfl<|Ys 7 (vl FE f.early.length fe) rfl hS235 (fun F W hW=>rl F rfl ((hW.2.1.rule.1 35).trans ((at_app (k:=3) (byteVals_len hfc.pub)).trans rfl)))<|Ym 8 rfl<|Yw 9 (vl (cutA FE fe (below v.no f.early) 38) (f.early.length - (below v.no f.early)) (fe - (below v.no f.early))) rfl (fun F W=>rn_cutLo (l:=(below v.no f.early)) Tryd.underlying36 inf30 (F.get rfl) (F.get rfl) (by omega))<|fun _ F253=>?_;clear F234
  refine ao 5 rfl (F253.on (fun g=>(vl (some ⟨g,0,none⟩) 1 1)) ((vi v.no)::dg v.state [(vl C v.chs.length cc),(vi v.sg.index),(vl O v.sg.op.length oc),(vl E v.sg.cl.length ec),(vl P v.sg.path.length pc)]) 30 rfl (fun F=>rn_buildSlice (parts1 (F.get rfl)) (build_wholeE (vs:=[(ag ((vi v.no)::dg v.state [(vl C v.chs.length cc),(vi v.sg.index),(vl O v.sg.op.length oc),(vl E v.sg.cl.length ec),(vl P v.sg.path.length pc)]))]) El36 rfl rfl (fun z0 hz0=>by rw [List.mem_singleton.1 hz0];exact (show List.length ((vi v.no)::dg v.state [(vl C v.chs.length cc),(vi v.sg.index),(vl O v.sg.op.length oc),(vl E v.sg.cl.length ec),(vl P v.sg.path.length pc)])=38 from (by simp [byteVals_len hvc.st]))) (by decide) (by decide) (by simp [Value.cells]))) fun g254 w255 _ F261 z258 z259 b256 hx257=>?_);clear F253
  have d263:=(RLs.ext rCg (RLs.ext rCg (RLs.ext rCg (RLs.ext rCg (RLs.ext rCg (RLs.ext rCg (RLs.ext rCg (RLs.ext rCg hvc.chs hx5) hx13) hx21) hx36) hx80) hx119) hx230) hx257)
  have d264:=((((((((hvc.sg.op.ext hx5).ext hx13).ext hx21).ext hx36).ext hx80).ext hx119).ext hx230).ext hx257)
  have d265:=((((((((hvc.sg.cl.ext hx5).ext hx13).ext hx21).ext hx36).ext hx80).ext hx119).ext hx230).ext hx257)
  have d266:=((((((((hvc.sg.path.ext hx5).ext hx13).ext hx21).ext hx36).ext hx80).ext hx119).ext hx230).ext hx257)
  have hl262:RLs RVr 38 (Fz S w g2 g10 g18) w255 (vl (some ⟨g254,0,none⟩) 1 1) [v]:=RLs.one b256 (show List.length ((vi v.no)::dg v.state [(vl C v.chs.length cc),(vi v.sg.index),(vl O v.sg.op.length oc),(vl E v.sg.cl.length ec),(vl P v.sg.path.length pc)])=38 from (by simp [byteVals_len hvc.st])) (one_cons rfl (one_app (byteVals_one _) (one_cons rfl (one_cons rfl (one_cons rfl (one_cons rfl (one_cons rfl one_nil))))))) ⟨.inr (by omega),by omega,by omega,by omega⟩ ⟨_,_,_,_,rfl,(⟨hvc.st,RLs.sub rCg d263 (fun b hb=>⟨.inl hb.1,by have h8:=hb.2;omega,by have h8:=hb.2;omega,by have h8:=hb.2;omega⟩),⟨Fl.sub d264 (fun b hb=>⟨.inl hb.1,by have h8:=hb.2;omega,by have h8:=hb.2;omega,by have h8:=hb.2;omega⟩),Fl.sub d265 (fun b hb=>⟨.inl hb.1,by have h8:=hb.2;omega,by have h8:=hb.2;omega,by have h8:=hb.2;omega⟩),Fl.sub d266 (fun b hb=>⟨.inl hb.1,by have h8:=hb.2;omega,by have h8:=hb.2;omega,by have h8:=hb.2;omega⟩),hvc.sg.o32,hvc.sg.c32,hvc.sg.p32⟩⟩:RVp (Fz S w g2 g10 g18) _ _ _ _ _ v)⟩
  have b267:=(b236.ext hx257)
  have b268:=(b237.ext hx257)
  refine ⟨fun _ _=>⟨((Ext.refl w229).trans hx257),b267,b268⟩,?_⟩
  refine ao 10 rfl (F261.on (fun g=>(vl (some ⟨g,0,none⟩) 3 3)) [(vl FE (below v.no f.early) fe),(vl (some ⟨g254,0,none⟩) 1 1),(vl (cutA FE fe (below v.no f.early) 38) (f.early.length - (below v.no f.early)) (fe - (below v.no f.early)))] 36 rfl (fun F=>rn_buildSlice (parts3 (F.get rfl) (F.get rfl) (F.get rfl)) (by kernel_rfl)) fun g269 w270 _ F276 z273 z274 b271 hx272=>?_);clear F261
  have b277:=(b267.ext hx272)
  have b278:=(b268.ext hx272)
  refine ⟨fun _ _=>⟨(((Ext.refl w229).trans hx257).trans hx272),b277,b278⟩,?_⟩
  refine ao 11 rfl ?_
  have d279:=(RLs.ext rVr (RLs.ext rVr (RLs.ext rVr (RLs.ext rVr (RLs.ext rVr (RLs.ext rVr (RLs.ext rVr (RLs.ext rVr (RLs.ext rVr hfc.early hx5) hx13) hx21) hx36) hx80) hx119) hx230) hx257) hx272)
  have d280:=(RLs.ext rVr hl262 hx272)
  have hl281:RLs RVr 38 (Clip (Fz S w g2 g10 g18) w270) w270 (vl FE (below v.no f.early) fe) (f.early.take (below v.no f.early)):=RLs.clip rVr (RLs.sub rVr (RLs.take d279 (by omega:(below v.no f.early)≤f.early.length)) (fun b hb=>⟨.inl hb.1,by have h8:=hb.2;omega,by have h8:=hb.2;omega,by have h8:=hb.2;omega⟩))
  have hl282:RLs RVr 38 (Clip (Fz S w g2 g10 g18) w270) w270 (vl (some ⟨g254,0,none⟩) 1 1) ([v]):=RLs.clip rVr (RLs.sub rVr d280 (fun b hb=>hb))
  have hl283:RLs RVr 38 (Clip (Fz S w g2 g10 g18) w270) w270 (vl (cutA FE fe (below v.no f.early) 38) (f.early.length - (below v.no f.early)) (fe - (below v.no f.early))) (f.early.drop (below v.no f.early)):=RLs.clip rVr (RLs.sub rVr (RLs.cut d279 (by omega:(below v.no f.early)≤f.early.length)) (fun b hb=>⟨.inl hb.1,by have h8:=hb.2;omega,by have h8:=hb.2;omega,by have h8:=hb.2;omega⟩))
  refine o_call F276 rfl rfl rfl rfl (rn_call (args1 (F276.get rfl)) rfl (by kernel_rfl)) (concatv_at ([f.early.take (below v.no f.early),[v],f.early.drop (below v.no f.early)]:List (List Vr)) _ (vs_three b271 hl281 hl282 hl283 ⟨⟨.inr (by omega),by omega,by omega,by omega⟩,b271.lt⟩) (fun b hb=>hb.2) (by simp;omega)) ?_
  rintro _ w287 ⟨A284,c285,rfl,hL286,hx288⟩
  refine ⟨_,rfl,?_⟩;intro a289 F290;clear F276;have z291:=hx288.size
  have hl292:RLs RVr 38 (Fz S w g2 g10 g18) w287 (vl A284 (([f.early.take (below v.no f.early),[v],f.early.drop (below v.no f.early)]:List (List Vr)).flatten.length) c285) ([f.early.take (below v.no f.early),[v],f.early.drop (below v.no f.early)]:List (List Vr)).flatten:=RLs.sub rVr hL286 (fun b hb=>hb.elim (fun h=>h.1) (fun h=>⟨.inr (by omega),by omega,by omega,by omega⟩))
  obtain ⟨-,z293,z294⟩:=RLs.at hl292
  have b295:=(b277.ext hx288)
  have b296:=(b278.ext hx288)
  refine ⟨fun _ _=>⟨((((Ext.refl w229).trans hx257).trans hx272).trans hx288),b295,b296⟩,?_⟩
  refine F290.yv 12 (.pointer (some ⟨g2,35,none⟩)) rfl<|fun _ F298=>?_;clear F290
  refine ao 13 rfl ?_
  refine o_store1 (new:=(dg f.pub [(vi f.many),(vi f.no),(vl FA f.items.length fa),(vl A284 (([f.early.take (below v.no f.early),[v],f.early.drop (below v.no f.early)]:List (List Vr)).flatten.length) c285)])) F298 rfl rfl rfl rfl (F298.get rfl) (F298.get rfl) b295 inf36 (le_mid (x:=36) (b:=1) (y:=1) (by simp [byteVals_len hfc.pub]) rfl (by decide)) rfl (set_app (k:=3) (byteVals_len hfc.pub)) ?_
  intro w299 b300 hg301;have z302:=hg301.size
  refine ⟨fun h=>absurd h (by decide),?_⟩
  refine nn (hK228 _ _ ?_);clear hK228
  have F303:=F298.k [0,1,2,3,4,5,6,14,7,24,8,9,42,49,53];clear F298
  refine wr fun K304 hK304=>?_
  refine F303.xw (ag (dg f.pub [(vi f.many),(vi f.no),(vl FA f.items.length fa),(vl A284 (([f.early.take (below v.no f.early),[v],f.early.drop (below v.no f.early)]:List (List Vr)).flatten.length) c285)])) (fun F=>rb F rfl b300 (hk:=len_dig hfc.pub))<|fun _ F306=>?_;clear F303
  have b307:=((((((((b20.ext hx36).ext hx80).ext hx119).ext hx230).ext hx257).ext hx272).ext hx288).gn hg301)
  refine F306.xs rfl b307 (fun w308 b309 hg310=>?_) (hk:=len_dig hfc.pub);have z311:=hg310.size
  refine F306.xv (vi 0)<|fun _ F313=>?_;clear F306
  refine wpList_nil (hK304 _ _ ?_);clear hK304
  refine wp_ret (ret_then ?_)
  refine retC1 F313 rfl rfl rfl b309 Tryd.underlying41 rfl (sk inf41 (len_dig hfc.pub)) ?_
  have hE:recE f v=0:=(if_neg (fun q=>absurd q (of_decide_eq_false (decide_eq_false hc47)))).trans ((if_neg (fun q=>absurd q (of_decide_eq_false (decide_eq_false hc92)))).trans ( (if_neg (fun q=>q.elim (fun h=>of_decide_eq_false (decide_eq_false hc140) h) (fun h=>by omega))).trans ((if_pos (by omega)).trans (if_neg (by omega)))))
  have F0:recF f v=⟨f.pub,f.many,f.no,f.items,([f.early.take (below v.no f.early),[v],f.early.drop (below v.no f.early)]:List (List Vr)).flatten⟩:=(if_neg (fun q=>q hE)).trans ((if_pos (by omega)).trans (by rw [flat3]))
  rw [F0,hE]
  have d314:=(RLs.pres rIt hfc.items (((((((((((((Pres.refl w).ext hx5).ext hx13).ext hx21).ext hx36).ext hx80).ext hx119).ext hx230).ext hx257).ext hx272).ext hx288).gc hg301).gc hg310))
  have d315:=(RLs.pres rVr hl292 (((Pres.refl w287).gc hg301).gc hg310))
  exact ⟨_,_,rfl,RFo.subB (⟨hfc.pub,RLs.sub rIt d314 (fun b hb=>⟨.inl hb.1,by have h8:=hb.2;omega,by have h8:=hb.2;omega,by have h8:=hb.2;omega⟩),RLs.sub rVr d315 (fun b hb=>hb)⟩:RFo (Fz S w g2 g10 g18) _ _ _ (⟨f.pub,f.many,f.no,f.items,([f.early.take (below v.no f.early),[v],f.early.drop (below v.no f.early)]:List (List Vr)).flatten⟩:Fo)) (fun b _ hb=>hb.1),(((((((((((((Ext.refl w).trans hx5).trans hx13).trans hx21).trans hx36).trans hx80).trans hx119).trans hx230).trans hx257).trans hx272).trans hx288).gn hg301).gn hg310)⟩
 refine F204.cf ?_
 refine wp_skip ?_
 refine hK190 _ _ ?_;clear hK190
 refine wr fun K316 hK316=>?_
 refine F204.xw (ag (dg f.pub [(vi f.many),(vi f.no),(vl FA f.items.length fa),(vl FE f.early.length fe)])) (fun F=>rb F rfl b171 (hk:=len_dig hfc.pub))<|Xw (ag ((vi v.no)::dg v.state [(vl C v.chs.length cc),(vi v.sg.index),(vl O v.sg.op.length oc),(vl E v.sg.cl.length ec),(vl P v.sg.path.length pc)])) (fun F=>rb F rfl b166 (hk:=len_dig1 hvc.st))<|fun _ F320=>?_;clear F204
 have d321:=(RLs.ext rIt (RLs.ext rIt (RLs.ext rIt (RLs.ext rIt (RLs.ext rIt (RLs.ext rIt hfc.items hx5) hx13) hx21) hx36) hx80) hx119)
 have d322:=(RLs.ext rVr (RLs.ext rVr (RLs.ext rVr (RLs.ext rVr (RLs.ext rVr (RLs.ext rVr hfc.early hx5) hx13) hx21) hx36) hx80) hx119)
 have d328:=(RLs.ext rCg (RLs.ext rCg (RLs.ext rCg (RLs.ext rCg (RLs.ext rCg (RLs.ext rCg hvc.chs hx5) hx13) hx21) hx36) hx80) hx119)
 have d329:=((((((hvc.sg.op.ext hx5).ext hx13).ext hx21).ext hx36).ext hx80).ext hx119)
 have d330:=((((((hvc.sg.cl.ext hx5).ext hx13).ext hx21).ext hx36).ext hx80).ext hx119)
 have d331:=((((((hvc.sg.path.ext hx5).ext hx13).ext hx21).ext hx36).ext hx80).ext hx119)
 refine F320.xc (mapply_at (S:=(Fz S w g2 g10 g18)) f v _ (⟨hfc.pub,RLs.sub rIt d321 (fun b hb=>⟨.inl hb.1,by have h8:=hb.2;omega,by have h8:=hb.2;omega,by have h8:=hb.2;omega⟩),RLs.sub rVr d322 (fun b hb=>⟨.inl hb.1,by have h8:=hb.2;omega,by have h8:=hb.2;omega,by have h8:=hb.2;omega⟩)⟩:RFo (Fz S w g2 g10 g18) _ _ _ f) (⟨hvc.st,RLs.sub rCg d328 (fun b hb=>⟨.inl hb.1,by have h8:=hb.2;omega,by have h8:=hb.2;omega,by have h8:=hb.2;omega⟩),⟨Fl.sub d329 (fun b hb=>⟨.inl hb.1,by have h8:=hb.2;omega,by have h8:=hb.2;omega,by have h8:=hb.2;omega⟩),Fl.sub d330 (fun b hb=>⟨.inl hb.1,by have h8:=hb.2;omega,by have h8:=hb.2;omega,by have h8:=hb.2;omega⟩),Fl.sub d331 (fun b hb=>⟨.inl hb.1,by have h8:=hb.2;omega,by have h8:=hb.2;omega,by have h8:=hb.2;omega⟩),hvc.sg.o32,hvc.sg.c32,hvc.sg.p32⟩⟩:RVp (Fz S w g2 g10 g18) _ _ _ _ _ v) hdi hdv (hG.ext (((((((Ext.refl w).trans hx5).trans hx13).trans hx21).trans hx36).trans hx80).trans hx119))) ?_
 obtain ⟨g326,hg327⟩:∃ z,z=stepF f v:=⟨_,rfl⟩
 rw [← hg327]
 rintro _ w332 ⟨c323,e324,rfl,hR325,hx333⟩
 obtain ⟨A334,c335,rfl,z338,z339⟩:=RLs.form hR325.items;obtain ⟨A336,c337,rfl,z340,z341⟩:=RLs.form hR325.early
 have hR342:=RFo.subB (S':=(Fz S w g2 g10 g18)) hR325 (fun b _ hb=>hb.elim (fun h=>h) (fun h=>⟨.inr (by omega),by omega,by omega,by omega⟩))
 refine ⟨_,rfl,?_⟩;intro a343 F344;clear F320;have z345:=hx333.size
 refine F344.xm rfl<|Xv (ag (dg g326.pub [(vi g326.many),(vi g326.no),(vl A334 g326.items.length c335),(vl A336 g326.early.length c337)]))<|Xv (.bool (decide (fits f v)))<|fun _ F351=>?_;clear F344
 have b352:=(b171.ext hx333)
 refine F351.xs rfl b352 (fun w353 b354 hg355=>?_) (hk:=len_dig hR342.pub) (hl:=len_dig hfc.pub);have z356:=hg355.size
 refine F351.xa rfl<|fun _ F358=>?_;clear F351
 refine wpList_nil (hK316 _ _ ?_);clear hK316
 have F359:=F358.k [0,1,2,3,4,5,6,14,7,24,8,9,42,49,10];clear F358
 refine wp_seq_k fun K360 hK360=>?_
 refine wr fun K361 hK361=>?_
 refine F359.xm rfl<|Xw (.bool (!(decide (fits f v)))) (fun F=>rn_not' (F.get rfl) rfl)<|fun _ F365=>?_;clear F359
 refine wpList_nil (hK361 _ _ ?_);clear hK361
 by_cases hc366:fits f v
 ·skip
  refine F365.cf ?_
  refine wp_skip ?_
  refine hK360 _ _ ?_;clear hK360
  refine wp_seq_k fun K367 hK367=>?_
  refine wp_block ?_
  have hsf0:=stepF_facts f v;rw [← hg327] at hsf0;obtain ⟨hp1,hp2,hp3,hp4⟩:=hsf0
  have d368:=(RLs.pres rIt hR342.items ((Pres.refl w332).gc hg355))
  have d369:=(RLs.pres rVr hR342.early ((Pres.refl w332).gc hg355))
  have b370:=((b166.ext hx333).gn hg355)
  have b371:=(((((b20.ext hx36).ext hx80).ext hx119).ext hx333).gn hg355)
  refine wp_loop (fun a' W=>∃ (g:Fo) (GA:Option Addr) (ga:Nat) (GE:Option Addr) (ge:Nat) (u:Vr) (TA:Option Addr) (ta:Nat) (TO:Option Addr) (to:Nat) (TE:Option Addr) (te:Nat) (TP:Option Addr) (tp:Nat),Sl 108 [(0,(ag (dg f.pub [(vi f.many),(vi f.no),(vl FA f.items.length fa),(vl FE f.early.length fe)]))),(1,(ag ((vi v.no)::dg v.state [(vl C v.chs.length cc),(vi v.sg.index),(vl O v.sg.op.length oc),(vl E v.sg.cl.length ec),(vl P v.sg.path.length pc)]))),(2,(vp g2)),(3,(vp g10)),(4,(vp g18)),(5,(vi 0)),(6,(vi (checkFE f))),(14,(.bool (decide (((checkFE f):Int)≠(0:Int))))),(7,(vi (verifyE f.pub f.many v))),(24,(.bool (decide (((verifyE f.pub f.many v):Int)≠(0:Int))))),(8,(vi (below v.no f.early:Nat))),(9,(.bool (decide (∃ w∈f.early,w.no=v.no)))),(42,(.bool (decide ((v.no:Int)≤(f.no:Int))))),(49,(.bool (decide ((f.no+1:Int)<(v.no:Int))))),(10,(.bool (decide (fits f v)))),(76,(.bool (!(decide (fits f v)))))] a'∧drain g g.early=drain (stepF f v) f.early∧(0≤g.no∧g.no≤4096)∧((∀ y∈g.items,y.data.length≤4294967296))∧((∀ x∈g.early,x∈f.early))∧u.state.length=32∧Ext w W∧Blk W g2 41 (dg g.pub [(vi g.many),(vi g.no),(vl GA g.items.length ga),(vl GE g.early.length ge)])∧Blk W g10 30 ((vi u.no)::dg u.state [(vl TA u.chs.length ta),(vi u.sg.index),(vl TO u.sg.op.length to),(vl TE u.sg.cl.length te),(vl TP u.sg.path.length tp)])∧Blk W g18 41 fz∧RLs RIt 2 (Fz S w g2 g10 g18) W (vl A334 g326.items.length c335) g326.items∧RLs RVr 38 (Fz S w g2 g10 g18) W (vl A336 g326.early.length c337) g326.early∧RFo (Fz S w g2 g10 g18) W (vl GA g.items.length ga) (vl GE g.early.length ge) g∧w353.heap.size≤W.heap.size) (fun _ W'=>lenCell W' g2 35) ⟨g326,A334,c335,A336,c337,v,C,cc,O,oc,E,ec,P,pc,F365.j,(by rw [hp3,hg327]),⟨by omega,by omega⟩,(by rw [hg327];exact stepF_sm hdi hdv),(by rw [hp3];exact fun _ h=>h),hvc.st,(((((((((Ext.refl w).trans hx5).trans hx13).trans hx21).trans hx36).trans hx80).trans hx119).trans hx333).gn hg355),b354,b370,b371,d368,d369,(⟨hR342.pub,RLs.sub rIt d368 (fun b hb=>hb),RLs.sub rVr d369 (fun b hb=>hb)⟩:RFo (Fz S w g2 g10 g18) _ _ _ g326),(Nat.le_refl _)⟩ ?_
  clear F365
  rintro a372 w373 ⟨g,GA,ga,GE,ge,u,TA,ta,TO,to,TE,te,TP,tp,F374,hp376,hp377,hp378,hp379,hp380,hx375,b381,b382,b383,hf384,hf385,hf386,hf387⟩
  have hL388:=F374
  have z389:=hx375.size
  have z390:=b381.lt
  have z391:=b382.lt
  have z392:=b383.lt
  obtain ⟨-,z393,z394⟩:=RLs.at hf386.items;obtain ⟨-,z395,z396⟩:=RLs.at hf386.early
  have hul:u.state.length=32:=hp380
  have hgi:=hp378;have hsub:=hp379
  have hge:∀ v∈g.early,∀ x∈v.chs,x.data.length≤4294967296:=fun v h=>hde v (hsub v h)
  refine wp_seq_k fun K397 hK397=>?_
  refine wp_seq_k fun K398 hK398=>?_
  have hx400:∃ W,w373.drew=W∧Ext w373 W:=⟨_,rfl,(Ext.refl _).drew⟩
  obtain ⟨w399,e401,hx400⟩:=hx400
  have z402:=hx400.size
  refine any_start (fun W=>Ext w399 W∧Blk W g2 41 (dg g.pub [(vi g.many),(vi g.no),(vl GA g.items.length ga),(vl GE g.early.length ge)])) (fun i=>false) 15 (.replicate 15 false) rfl rfl rfl ?_
  rw [e401];clear e401
  refine F374.yv 0 (.pointer (some ⟨g2,35,none⟩)) rfl<|fun _ F404=>?_;clear F374
  have b406:=(b381.ext hx400)
  have hS405:Ext w399 w399∧Blk w399 g2 41 (dg g.pub [(vi g.many),(vi g.no),(vl GA g.items.length ga),(vl GE g.early.length ge)]):=⟨(Ext.refl w399),b406⟩
  refine F404.ys 1 (vl GE g.early.length ge) rfl hS405 (fun F W hW=>rl F rfl ((hW.2.rule.1 35).trans ((at_app (k:=3) (byteVals_len hf386.pub)).trans rfl)))<|Yv 2 (vi (g.early.length:Nat)) rfl<|Yv 3 (.bool (decide ((0:Int)<((g.early.length:Nat):Int)))) rfl<|Ym 4 rfl<|fun _ F414=>?_;clear F404
  by_cases hc415:(0:Int)<((g.early.length:Nat):Int)
  ·skip
   refine F414.yg 5 (.pointer (some ⟨g2,35,none⟩)) rfl<|Ysg 6 (vl GE g.early.length ge) rfl hS405 (fun F W hW=>rl F rfl ((hW.2.rule.1 35).trans ((at_app (k:=3) (byteVals_len hf386.pub)).trans rfl)))<|fun _ F419=>?_;clear F414
   have d420:=(RLs.ext rVr hf386.early hx400)
   obtain ⟨b421,o422,x423,cs424,hA425,hi426,hk427,hc428,hr429⟩:=RLs.get d420 (by omega:0<g.early.length)
   obtain ⟨v430,v431,v432,v433,rfl,hv434⟩:=hr429
   obtain ⟨A435,c436,rfl,z437,z438⟩:=RLs.form hv434.chs
   obtain ⟨A439,c440,rfl,z441,z442⟩:=Fl.form hv434.sg.op
   obtain ⟨A443,c444,rfl,z445,z446⟩:=Fl.form hv434.sg.cl
   obtain ⟨A447,c448,rfl,z449,z450⟩:=Fl.form hv434.sg.path
   refine F419.ygw 7 (.pointer (some ⟨b421,o422+0*38,none⟩)) rfl (fun F W=>rn_indexE Tryd.underlying36 inf30 ((F.get rfl).trans (by rw [hA425])) rfl (by omega:(0:Int)≤0) (by omega:(0:Int)<((g.early.length:Nat):Int)) (by omega))<|Yg 8 (.pointer (some ⟨b421,o422+0*38,none⟩)) rfl<|Ysg 9 (vi x423.no) rfl hS405 (fun F W hW=>rl F rfl ((fun j u hu=>Ext.keep ((Ext.refl w399).trans hW.1) (hc428 j u hu)) 0 _ rfl))<|Yg 10 (.pointer (some ⟨g2,33,none⟩)) rfl<|Ysg 11 (vi g.no) rfl hS405 (fun F W hW=>rl F rfl ((hW.2.rule.1 33).trans ((at_app (k:=1) (byteVals_len hf386.pub)).trans rfl)))<|Yg 12 (vi (g.no+1)) rfl<|Yg 13 (.bool (decide ((x423.no:Int)=(g.no+1:Int)))) rfl<|Yv 14 (.bool (decide ((x423.no:Int)=(g.no+1:Int)))) rfl<|fun _ F466=>?_;clear F419
   refine nn (hK398 _ _ ?_);clear hK398
   have F467:=F466.k [0,1,2,3,4,5,6,14,7,24,8,9,42,49,10,76,92];clear F466
   by_cases hc468:(x423.no:Int)=(g.no+1:Int)
   ·skip
    refine F467.ct ?_
    refine wp_skip ?_
    refine hK397 _ _ ?_;clear hK397
    refine wp_block ?_
    refine wp_seq_k fun K469 hK469=>?_
    have hx471:∃ W,w399.drew=W∧Ext w399 W:=⟨_,rfl,(Ext.refl _).drew⟩
    obtain ⟨w470,e472,hx471⟩:=hx471
    have z473:=hx471.size
    refine any_start (fun W=>Ext w470 W∧Blk W g2 41 (dg g.pub [(vi g.many),(vi g.no),(vl GA g.items.length ga),(vl GE g.early.length ge)])∧Blk W g10 30 ((vi u.no)::dg u.state [(vl TA u.chs.length ta),(vi u.sg.index),(vl TO u.sg.op.length to),(vl TE u.sg.cl.length te),(vl TP u.sg.path.length tp)])) (fun i=>i==7||i==9) 10 (.replicate 10 false) rfl rfl rfl ?_
    rw [e472];clear e472
    refine F467.yv 0 (.pointer (some ⟨g2,35,none⟩)) rfl<|fun _ F475=>?_;clear F467
    have b477:=(b406.ext hx471)
    have b478:=((b382.ext hx400).ext hx471)
    have hS476:Ext w470 w470∧Blk w470 g2 41 (dg g.pub [(vi g.many),(vi g.no),(vl GA g.items.length ga),(vl GE g.early.length ge)])∧Blk w470 g10 30 ((vi u.no)::dg u.state [(vl TA u.chs.length ta),(vi u.sg.index),(vl TO u.sg.op.length to),(vl TE u.sg.cl.length te),(vl TP u.sg.path.length tp)]):=⟨(Ext.refl w470),b477,b478⟩
    refine F475.ys 1 (vl GE g.early.length ge) rfl hS476 (fun F W hW=>rl F rfl ((hW.2.1.rule.1 35).trans ((at_app (k:=3) (byteVals_len hf386.pub)).trans rfl)))<|fun _ F480=>?_;clear F475
    have d481:=(RLs.ext rVr (RLs.ext rVr hf386.early hx400) hx471)
    obtain ⟨b482,o483,x484,cs485,hA486,hi487,hk488,hc489,hr490⟩:=RLs.get d481 (by omega:0<g.early.length)
    obtain rfl:x423=x484:=Option.some.inj (hi426.symm.trans hi487)
    obtain ⟨v491,v492,v493,v494,rfl,hv495⟩:=hr490
    obtain ⟨A496,c497,rfl,z498,z499⟩:=RLs.form hv495.chs
    obtain ⟨A500,c501,rfl,z502,z503⟩:=Fl.form hv495.sg.op
    obtain ⟨A504,c505,rfl,z506,z507⟩:=Fl.form hv495.sg.cl
    obtain ⟨A508,c509,rfl,z510,z511⟩:=Fl.form hv495.sg.path
    refine F480.yw 2 (.pointer (some ⟨b482,o483+0*38,none⟩)) rfl (fun F W=>rn_indexE Tryd.underlying36 inf30 ((F.get rfl).trans (by rw [hA486])) rfl (by omega:(0:Int)≤0) (by omega:(0:Int)<((g.early.length:Nat):Int)) (by omega))<|Ys 3 (ag ((vi x423.no)::dg x423.state [(vl A496 x423.chs.length c497),(vi x423.sg.index),(vl A500 x423.sg.op.length c501),(vl A504 x423.sg.cl.length c505),(vl A508 x423.sg.path.length c509)])) rfl hS476 (fun F W hW=>rn_loadN (cs:=((vi x423.no)::dg x423.state [(vl A496 x423.chs.length c497),(vi x423.sg.index),(vl A500 x423.sg.op.length c501),(vl A504 x423.sg.cl.length c505),(vl A508 x423.sg.path.length c509)])) (F.get rfl) Tryd.underlying30 rfl (sk inf30 (len_dig1 hv495.st)) (fun j u hu=>Ext.keep ((Ext.refl w470).trans hW.1) (hc489 j u hu)))<|Yv 4 (.pointer (some ⟨g2,35,none⟩)) rfl<|fun _ F517=>?_;clear F480
    refine any_two (i:=5) (k:=7) (by decide +kernel) rfl rfl ?_ ?_
    ·skip
     refine F517.ow (vl GE g.early.length ge) rfl (fun F=>rl F rfl ((b477.rule.1 35).trans ((at_app (k:=3) (byteVals_len hf386.pub)).trans rfl))) fun _ F519=>ap ?_;clear F517
     refine F519.yv 6 (vl (cutA GE ge 1 38) (g.early.length - 1) (ge - 1)) rfl<|fun _ F521=>?_;clear F519
     refine ao 7 rfl (F521.os rfl b478 (fun w522 b523 hg524=>an ?_) (hk:=len_dig1 hv495.st) (hl:=len_dig1 hul));have z525:=hg524.size
     refine F521.yv 8 (.pointer (some ⟨g2,35,none⟩)) rfl<|fun _ F527=>?_;clear F521
     refine ao 9 rfl ?_
     have b528:=(b477.gn hg524)
     refine o_store1 (new:=(dg g.pub [(vi g.many),(vi g.no),(vl GA g.items.length ga),(vl (cutA GE ge 1 38) (g.early.length - 1) (ge - 1))])) F527 rfl rfl rfl rfl (F527.get rfl) (F527.get rfl) b528 inf36 (le_mid (x:=36) (b:=1) (y:=1) (by simp [byteVals_len hf386.pub]) rfl (by decide)) rfl (set_app (k:=3) (byteVals_len hf386.pub)) ?_
     intro w529 b530 hg531;have z532:=hg531.size
     refine ⟨fun h=>absurd h (by decide),?_⟩
     refine nn (hK469 _ _ ?_);clear hK469
     have F533:=F527.k [0,1,2,3,4,5,6,14,7,24,8,9,42,49,10,76,92];clear F527
     refine wp_region_lit ?_
     refine F533.xw (ag (dg g.pub [(vi g.many),(vi g.no),(vl GA g.items.length ga),(vl (cutA GE ge 1 38) (g.early.length - 1) (ge - 1))])) (fun F=>rb F rfl b530 (hk:=len_dig hf386.pub))<|fun _ F535=>?_;clear F533
     have b536:=(b523.gn hg531)
     refine F535.xw (ag ((vi x423.no)::dg x423.state [(vl A496 x423.chs.length c497),(vi x423.sg.index),(vl A500 x423.sg.op.length c501),(vl A504 x423.sg.cl.length c505),(vl A508 x423.sg.path.length c509)])) (fun F=>rb F rfl b536 (hk:=len_dig1 hv495.st))<|fun _ F538=>?_;clear F535
     have d539:=(RLs.pres rIt hf386.items (((((Pres.refl w373).ext hx400).ext hx471).gc hg524).gc hg531))
     have d540:=(RLs.pres rVr hf386.early (((((Pres.refl w373).ext hx400).ext hx471).gc hg524).gc hg531))
     have d546:=(RLs.pres rCg hv495.chs (((Pres.refl w470).gc hg524).gc hg531))
     have d547:=(hv495.sg.op.pres (((Pres.refl w470).gc hg524).gc hg531))
     have d548:=(hv495.sg.cl.pres (((Pres.refl w470).gc hg524).gc hg531))
     have d549:=(hv495.sg.path.pres (((Pres.refl w470).gc hg524).gc hg531))
     refine wpl_op (i:=2) rfl (o_call F538 rfl rfl rfl rfl (rn_call (args2 (F538.get rfl) (F538.get rfl)) rfl (by kernel_rfl)) (mapply_at (S:=(Fz S w g2 g10 g18)) (⟨g.pub,g.many,g.no,g.items,g.early.drop 1⟩:Fo) x423 _ (⟨hf386.pub,RLs.sub rIt d539 (fun b hb=>hb),RLs.sub rVr (RLs.cut d540 (by omega:1≤g.early.length)) (fun b hb=>hb)⟩:RFo (Fz S w g2 g10 g18) _ _ _ (⟨g.pub,g.many,g.no,g.items,g.early.drop 1⟩:Fo)) (⟨hv495.st,RLs.sub rCg d546 (fun b hb=>hb),⟨Fl.sub d547 (fun b hb=>hb),Fl.sub d548 (fun b hb=>hb),Fl.sub d549 (fun b hb=>hb),hv495.sg.o32,hv495.sg.c32,hv495.sg.p32⟩⟩:RVp (Fz S w g2 g10 g18) _ _ _ _ _ x423) hgi (hde x423 (hsub x423 (List.mem_of_getElem? hi426))) (hG.ext ((((((Ext.refl w).trans hx375).trans hx400).trans hx471).gn hg524).gn hg531))) ?_)
     obtain ⟨g544,hg545⟩:∃ z,z=stepF (⟨g.pub,g.many,g.no,g.items,g.early.drop 1⟩:Fo) x423:=⟨_,rfl⟩
     rw [← hg545]
     rintro _ w550 ⟨c541,e542,rfl,hR543,hx551⟩
     obtain ⟨A552,c553,rfl,z556,z557⟩:=RLs.form hR543.items;obtain ⟨A554,c555,rfl,z558,z559⟩:=RLs.form hR543.early
     have hR560:=RFo.subB (S':=(Fz S w g2 g10 g18)) hR543 (fun b _ hb=>hb.elim (fun h=>h) (fun h=>⟨.inr (by omega),by omega,by omega,by omega⟩))
     refine ⟨_,rfl,?_⟩;intro a561 F562;clear F538;have z563:=hx551.size
     refine F562.xm rfl<|Xv (ag (dg g544.pub [(vi g544.many),(vi g544.no),(vl A552 g544.items.length c553),(vl A554 g544.early.length c555)]))<|Xv (.bool (decide (fits (⟨g.pub,g.many,g.no,g.items,g.early.drop 1⟩:Fo) x423)))<|fun _ F569=>?_;clear F562
     have b570:=(b530.ext hx551)
     refine F569.xs rfl b570 (fun w571 b572 hg573=>?_) (hk:=len_dig hR560.pub) (hl:=len_dig hf386.pub);have z574:=hg573.size
     refine wpList_nil ?_
     have hsf:=stepF_facts (⟨g.pub,g.many,g.no,g.items,g.early.drop 1⟩:Fo) x423
     rw [← hg545] at hsf;simp only at hsf
     obtain ⟨hs1,hs2,hs3,hs4⟩:=hsf
     have hxe:=early_no hck (hsub x423 (List.mem_of_getElem? hi426))
     have hc9:x423.no=g.no+1:=by omega
     have d575:=(RLs.pres rIt hf384 (((((((Pres.refl w373).ext hx400).ext hx471).gc hg524).gc hg531).ext hx551).gc hg573))
     have d576:=(RLs.pres rVr hf385 (((((((Pres.refl w373).ext hx400).ext hx471).gc hg524).gc hg531).ext hx551).gc hg573))
     have d577:=(RLs.pres rIt hR560.items ((Pres.refl w550).gc hg573))
     have d578:=(RLs.pres rVr hR560.early ((Pres.refl w550).gc hg573))
     have b579:=((b536.ext hx551).gn hg573)
     have b580:=((((((b383.ext hx400).ext hx471).gn hg524).gn hg531).ext hx551).gn hg573)
     refine ⟨⟨g544,A552,c553,A554,c555,x423,A496,c497,A500,c501,A504,c505,A508,c509,F569.j,(by rw [show g544.early=g.early.drop 1 from hs3,hg545];exact (drain_step hi426 hc9).trans hp376),⟨by omega,by omega⟩,(by rw [hg545];exact stepF_sm hgi (hde x423 (hsub x423 (List.mem_of_getElem? hi426)))),(by rw [hs3];exact fun x h=>hsub x (List.mem_of_mem_drop h)),hv495.st,((((((((Ext.refl w).trans hx375).trans hx400).trans hx471).gn hg524).gn hg531).trans hx551).gn hg573),b572,b579,b580,d575,d576,(⟨hR560.pub,RLs.sub rIt d577 (fun b hb=>hb),RLs.sub rVr d578 (fun b hb=>hb)⟩:RFo (Fz S w g2 g10 g18) _ _ _ g544),(by omega)⟩,?_⟩
     rw [lenCell_of ((b572.rule.1 35).trans ((at_app (k:=3) (byteVals_len hR560.pub)).trans rfl)),lenCell_of ((b381.rule.1 35).trans ((at_app (k:=3) (byteVals_len hf386.pub)).trans rfl))];have h5:=congrArg List.length hs3;simp only [List.length_drop] at h5;omega
    refine F517.os rfl b478 (fun w581 b582 hg583=>an ?_) (hk:=len_dig1 hv495.st) (hl:=len_dig1 hul);have z584:=hg583.size
    have b585:=(b477.gn hg583)
    refine ao 5 rfl (F517.ow (vl GE g.early.length ge) rfl (fun F=>rl F rfl ((b585.rule.1 35).trans ((at_app (k:=3) (byteVals_len hf386.pub)).trans rfl))) fun _ F587=>ap ?_);clear F517
    refine F587.yv 6 (vl (cutA GE ge 1 38) (g.early.length - 1) (ge - 1)) rfl<|Yv 8 (.pointer (some ⟨g2,35,none⟩)) rfl<|fun _ F591=>?_;clear F587
    refine ao 9 rfl ?_
    refine o_store1 (new:=(dg g.pub [(vi g.many),(vi g.no),(vl GA g.items.length ga),(vl (cutA GE ge 1 38) (g.early.length - 1) (ge - 1))])) F591 rfl rfl rfl rfl (F591.get rfl) (F591.get rfl) b585 inf36 (le_mid (x:=36) (b:=1) (y:=1) (by simp [byteVals_len hf386.pub]) rfl (by decide)) rfl (set_app (k:=3) (byteVals_len hf386.pub)) ?_
    intro w592 b593 hg594;have z595:=hg594.size
    refine ⟨fun h=>absurd h (by decide),?_⟩
    refine nn (hK469 _ _ ?_);clear hK469
    have F596:=F591.k [0,1,2,3,4,5,6,14,7,24,8,9,42,49,10,76,92];clear F591
    refine wp_region_lit ?_
    refine F596.xw (ag (dg g.pub [(vi g.many),(vi g.no),(vl GA g.items.length ga),(vl (cutA GE ge 1 38) (g.early.length - 1) (ge - 1))])) (fun F=>rb F rfl b593 (hk:=len_dig hf386.pub))<|fun _ F598=>?_;clear F596
    have b599:=(b582.gn hg594)
    refine F598.xw (ag ((vi x423.no)::dg x423.state [(vl A496 x423.chs.length c497),(vi x423.sg.index),(vl A500 x423.sg.op.length c501),(vl A504 x423.sg.cl.length c505),(vl A508 x423.sg.path.length c509)])) (fun F=>rb F rfl b599 (hk:=len_dig1 hv495.st))<|fun _ F601=>?_;clear F598
    have d602:=(RLs.pres rIt hf386.items (((((Pres.refl w373).ext hx400).ext hx471).gc hg583).gc hg594))
    have d603:=(RLs.pres rVr hf386.early (((((Pres.refl w373).ext hx400).ext hx471).gc hg583).gc hg594))
    have d609:=(RLs.pres rCg hv495.chs (((Pres.refl w470).gc hg583).gc hg594))
    have d610:=(hv495.sg.op.pres (((Pres.refl w470).gc hg583).gc hg594))
    have d611:=(hv495.sg.cl.pres (((Pres.refl w470).gc hg583).gc hg594))
    have d612:=(hv495.sg.path.pres (((Pres.refl w470).gc hg583).gc hg594))
    refine wpl_op (i:=2) rfl (o_call F601 rfl rfl rfl rfl (rn_call (args2 (F601.get rfl) (F601.get rfl)) rfl (by kernel_rfl)) (mapply_at (S:=(Fz S w g2 g10 g18)) (⟨g.pub,g.many,g.no,g.items,g.early.drop 1⟩:Fo) x423 _ (⟨hf386.pub,RLs.sub rIt d602 (fun b hb=>hb),RLs.sub rVr (RLs.cut d603 (by omega:1≤g.early.length)) (fun b hb=>hb)⟩:RFo (Fz S w g2 g10 g18) _ _ _ (⟨g.pub,g.many,g.no,g.items,g.early.drop 1⟩:Fo)) (⟨hv495.st,RLs.sub rCg d609 (fun b hb=>hb),⟨Fl.sub d610 (fun b hb=>hb),Fl.sub d611 (fun b hb=>hb),Fl.sub d612 (fun b hb=>hb),hv495.sg.o32,hv495.sg.c32,hv495.sg.p32⟩⟩:RVp (Fz S w g2 g10 g18) _ _ _ _ _ x423) hgi (hde x423 (hsub x423 (List.mem_of_getElem? hi426))) (hG.ext ((((((Ext.refl w).trans hx375).trans hx400).trans hx471).gn hg583).gn hg594))) ?_)
    obtain ⟨g607,hg608⟩:∃ z,z=stepF (⟨g.pub,g.many,g.no,g.items,g.early.drop 1⟩:Fo) x423:=⟨_,rfl⟩
    rw [← hg608]
    rintro _ w613 ⟨c604,e605,rfl,hR606,hx614⟩
    obtain ⟨A615,c616,rfl,z619,z620⟩:=RLs.form hR606.items;obtain ⟨A617,c618,rfl,z621,z622⟩:=RLs.form hR606.early
    have hR623:=RFo.subB (S':=(Fz S w g2 g10 g18)) hR606 (fun b _ hb=>hb.elim (fun h=>h) (fun h=>⟨.inr (by omega),by omega,by omega,by omega⟩))
    refine ⟨_,rfl,?_⟩;intro a624 F625;clear F601;have z626:=hx614.size
    refine F625.xm rfl<|Xv (ag (dg g607.pub [(vi g607.many),(vi g607.no),(vl A615 g607.items.length c616),(vl A617 g607.early.length c618)]))<|Xv (.bool (decide (fits (⟨g.pub,g.many,g.no,g.items,g.early.drop 1⟩:Fo) x423)))<|fun _ F632=>?_;clear F625
    have b633:=(b593.ext hx614)
    refine F632.xs rfl b633 (fun w634 b635 hg636=>?_) (hk:=len_dig hR623.pub) (hl:=len_dig hf386.pub);have z637:=hg636.size
    refine wpList_nil ?_
    have hsf:=stepF_facts (⟨g.pub,g.many,g.no,g.items,g.early.drop 1⟩:Fo) x423
    rw [← hg608] at hsf;simp only at hsf
    obtain ⟨hs1,hs2,hs3,hs4⟩:=hsf
    have hxe:=early_no hck (hsub x423 (List.mem_of_getElem? hi426))
    have hc9:x423.no=g.no+1:=by omega
    have d638:=(RLs.pres rIt hf384 (((((((Pres.refl w373).ext hx400).ext hx471).gc hg583).gc hg594).ext hx614).gc hg636))
    have d639:=(RLs.pres rVr hf385 (((((((Pres.refl w373).ext hx400).ext hx471).gc hg583).gc hg594).ext hx614).gc hg636))
    have d640:=(RLs.pres rIt hR623.items ((Pres.refl w613).gc hg636))
    have d641:=(RLs.pres rVr hR623.early ((Pres.refl w613).gc hg636))
    have b642:=((b599.ext hx614).gn hg636)
    have b643:=((((((b383.ext hx400).ext hx471).gn hg583).gn hg594).ext hx614).gn hg636)
    refine ⟨⟨g607,A615,c616,A617,c618,x423,A496,c497,A500,c501,A504,c505,A508,c509,F632.j,(by rw [show g607.early=g.early.drop 1 from hs3,hg608];exact (drain_step hi426 hc9).trans hp376),⟨by omega,by omega⟩,(by rw [hg608];exact stepF_sm hgi (hde x423 (hsub x423 (List.mem_of_getElem? hi426)))),(by rw [hs3];exact fun x h=>hsub x (List.mem_of_mem_drop h)),hv495.st,((((((((Ext.refl w).trans hx375).trans hx400).trans hx471).gn hg583).gn hg594).trans hx614).gn hg636),b635,b642,b643,d638,d639,(⟨hR623.pub,RLs.sub rIt d640 (fun b hb=>hb),RLs.sub rVr d641 (fun b hb=>hb)⟩:RFo (Fz S w g2 g10 g18) _ _ _ g607),(by omega)⟩,?_⟩
    rw [lenCell_of ((b635.rule.1 35).trans ((at_app (k:=3) (byteVals_len hR623.pub)).trans rfl)),lenCell_of ((b381.rule.1 35).trans ((at_app (k:=3) (byteVals_len hf386.pub)).trans rfl))];have h5:=congrArg List.length hs3;simp only [List.length_drop] at h5;omega
   refine F467.cf ?_
   refine wp_exit ?_
   refine exit_then ?_
   refine exit_then ?_
   refine exit_here ?_
   refine hK367 _ _ ?_;clear hK367
   refine wr fun K644 hK644=>?_
   refine F467.xw (ag (dg g.pub [(vi g.many),(vi g.no),(vl GA g.items.length ga),(vl GE g.early.length ge)])) (fun F=>rb F rfl b406 (hk:=len_dig hf386.pub))<|fun _ F646=>?_;clear F467
   have b647:=(b383.ext hx400)
   refine F646.xs rfl b647 (fun w648 b649 hg650=>?_) (hk:=len_dig hf386.pub);have z651:=hg650.size
   refine F646.xv (vi 0)<|fun _ F653=>?_;clear F646
   refine wpList_nil (hK644 _ _ ?_);clear hK644
   refine wp_ret ?_
   refine retC1 F653 rfl rfl rfl b649 Tryd.underlying41 rfl (sk inf41 (len_dig hf386.pub)) ?_
   have hE:recE f v=0:=(if_neg (fun q=>absurd q (of_decide_eq_false (decide_eq_false hc47)))).trans ((if_neg (fun q=>absurd q (of_decide_eq_false (decide_eq_false hc92)))).trans ( (if_neg (fun q=>q.elim (fun h=>of_decide_eq_false (decide_eq_false hc140) h) (fun h=>by omega))).trans ((if_neg (by omega)).trans (if_pos (of_decide_eq_true (decide_eq_true hc366))))))
   have hend:drain g g.early=g:=drain_end (fun x hx=>by rw [hi426] at hx;injection hx with hx;subst hx;omega)
   have F0:recF f v=g:=(if_neg (fun q=>q hE)).trans ((if_neg (by omega)).trans (by rw [← hp376];exact hend))
   rw [F0,hE]
   have d654:=(RLs.pres rIt hf386.items (((Pres.refl w373).ext hx400).gc hg650))
   have d655:=(RLs.pres rVr hf386.early (((Pres.refl w373).ext hx400).gc hg650))
   exact ⟨_,_,rfl,RFo.subB (⟨hf386.pub,RLs.sub rIt d654 (fun b hb=>hb),RLs.sub rVr d655 (fun b hb=>hb)⟩:RFo (Fz S w g2 g10 g18) _ _ _ g) (fun b _ hb=>hb.1),((((Ext.refl w).trans hx375).trans hx400).gn hg650)⟩
  refine F414.yu 5 rfl<|Yu 6 rfl<|Yu 7 rfl<|Yu 8 rfl<|Yu 9 rfl<|Yu 10 rfl<|Yu 11 rfl<|Yu 12 rfl<|Yu 13 rfl<|Yv 14 (.bool false) rfl<|fun _ F675=>?_;clear F414
  refine nn (hK398 _ _ ?_);clear hK398
  have F676:=F675.k [0,1,2,3,4,5,6,14,7,24,8,9,42,49,10,76,92];clear F675
  refine F676.cf ?_
  refine wp_exit ?_
  refine exit_then ?_
  refine exit_then ?_
  refine exit_here ?_
  refine hK367 _ _ ?_;clear hK367
  refine wr fun K677 hK677=>?_
  refine F676.xw (ag (dg g.pub [(vi g.many),(vi g.no),(vl GA g.items.length ga),(vl GE g.early.length ge)])) (fun F=>rb F rfl b406 (hk:=len_dig hf386.pub))<|fun _ F679=>?_;clear F676
  have b680:=(b383.ext hx400)
  refine F679.xs rfl b680 (fun w681 b682 hg683=>?_) (hk:=len_dig hf386.pub);have z684:=hg683.size
  refine F679.xv (vi 0)<|fun _ F686=>?_;clear F679
  refine wpList_nil (hK677 _ _ ?_);clear hK677
  refine wp_ret ?_
  refine retC1 F686 rfl rfl rfl b682 Tryd.underlying41 rfl (sk inf41 (len_dig hf386.pub)) ?_
  have hE:recE f v=0:=(if_neg (fun q=>absurd q (of_decide_eq_false (decide_eq_false hc47)))).trans ((if_neg (fun q=>absurd q (of_decide_eq_false (decide_eq_false hc92)))).trans ( (if_neg (fun q=>q.elim (fun h=>of_decide_eq_false (decide_eq_false hc140) h) (fun h=>by omega))).trans ((if_neg (by omega)).trans (if_pos (of_decide_eq_true (decide_eq_true hc366))))))
  have hend:drain g g.early=g:=drain_end (fun x hx=>by have:=(List.getElem?_eq_some_iff.1 hx).1;omega)
  have F0:recF f v=g:=(if_neg (fun q=>q hE)).trans ((if_neg (by omega)).trans (by rw [← hp376];exact hend))
  rw [F0,hE]
  have d687:=(RLs.pres rIt hf386.items (((Pres.refl w373).ext hx400).gc hg683))
  have d688:=(RLs.pres rVr hf386.early (((Pres.refl w373).ext hx400).gc hg683))
  exact ⟨_,_,rfl,RFo.subB (⟨hf386.pub,RLs.sub rIt d687 (fun b hb=>hb),RLs.sub rVr d688 (fun b hb=>hb)⟩:RFo (Fz S w g2 g10 g18) _ _ _ g) (fun b _ hb=>hb.1),((((Ext.refl w).trans hx375).trans hx400).gn hg683)⟩
 refine F365.ct ?_
 refine wr fun K689 hK689=>?_
 have b690:=(((((b20.ext hx36).ext hx80).ext hx119).ext hx333).gn hg355)
 refine F365.xw (ag fz) (fun F=>rb F rfl b690)<|fun _ F692=>?_;clear F365
 refine F692.xs rfl b690 (fun w693 b694 hg695=>?_);have z696:=hg695.size
 refine F692.xv (vi 400)<|fun _ F698=>?_;clear F692
 refine wpList_nil (hK689 _ _ ?_);clear hK689
 refine wp_ret (ret_then ?_)
 refine retC1 F698 rfl rfl rfl b694 Tryd.underlying41 rfl (sk inf41 (len_dig zero32_len)) ?_
 have hE:recE f v=400:=(if_neg (fun q=>absurd q (of_decide_eq_false (decide_eq_false hc47)))).trans ((if_neg (fun q=>absurd q (of_decide_eq_false (decide_eq_false hc92)))).trans ( (if_neg (fun q=>q.elim (fun h=>of_decide_eq_false (decide_eq_false hc140) h) (fun h=>by omega))).trans ((if_neg (by omega)).trans (if_neg (of_decide_eq_false (decide_eq_false hc366))))))
 have F0:recF f v=foNil:=if_pos (by rw [hE];decide)
 rw [F0,hE]
 exact ⟨_,_,rfl,foNil_at _,((((((((((Ext.refl w).trans hx5).trans hx13).trans hx21).trans hx36).trans hx80).trans hx119).trans hx333).gn hg355).gn hg695)⟩

theorem receive_at {c e c1 o1 e1 p1:Value} (f:Fo) (v:Vr) (w:World) (hf:RFo S w c e f) (hv:RVp S w c1 o1 e1 p1 v) (hdi:∀ x∈f.items,x.data.length≤4294967296) (hde:∀ v∈f.early,∀ x∈v.chs,x.data.length≤4294967296) (hdv:∀ x∈v.chs,x.data.length≤4294967296) (hG:Glob w) :
  Calls Tryd.prog 14 #[ag (fcs f.pub f.many f.no c e),ag (vcs v.no v.state c1 v.sg.index o1 e1 p1)] w (fun en w'=>∃ c' e',en=.returned (.tuple #[ag (fcs (recF f v).pub (recF f v).many (recF f v).no c' e'),.int .i64 (recE f v)])∧RFo (Fr S w) w' c' e' (recF f v)∧Ext w w'):=by
 obtain ⟨FA,fa,rfl,_⟩:=RLs.form hf.items
 obtain ⟨FE,fe,rfl,_⟩:=RLs.form hf.early
 obtain ⟨C,cc,rfl,_⟩:=RLs.form hv.chs
 obtain ⟨O,oc,rfl,_⟩:=Fl.form hv.sg.op
 obtain ⟨E,ec,rfl,_⟩:=Fl.form hv.sg.cl
 obtain ⟨P,pc,rfl,_⟩:=Fl.form hv.sg.path
 exact receive_any FA fa FE fe C cc O oc E ec P pc f v w hf hv hdi hde hdv hG

end Go.Proofs.YtihgmaoghbnnaaaDoor

namespace Go.Proofs.YtihgmaoghbnnaaaDoor
open Go.RowKit

variable {S S':Nat→Prop}

def fewIt (x:It):Prop:=x.name.length≤100∧x.data.length≤300
instance (x:It):Decidable (fewIt x):=inferInstanceAs (Decidable (_∧_))
def fewI (l:List It):Prop:=l.length≤12∧∀ x∈l,fewIt x
instance (l:List It):Decidable (fewI l):=inferInstanceAs (Decidable (_∧∀ x∈l,fewIt x))
def fewCg (x:Cg):Prop:=x.name.length≤100∧x.data.length≤300
instance (x:Cg):Decidable (fewCg x):=inferInstanceAs (Decidable (_∧_))
def fewC (l:List Cg):Prop:=l.length≤12∧∀ x∈l,fewCg x
instance (l:List Cg):Decidable (fewC l):=inferInstanceAs (Decidable (_∧∀ x∈l,fewCg x))
def fewV (v:Vr):Prop:=((fewC v.chs∧v.sg.op.length≤70)∧v.sg.cl.length≤70)∧v.sg.path.length≤20
instance (v:Vr):Decidable (fewV v):=inferInstanceAs (Decidable (((_∧_)∧_)∧_))
theorem few_yes {α:Type} {p:α→Prop} {l:List α} {k:Nat} (h:∀ j,j<k→∀ x,l[j]?=some x→p x) (hk:l.length≤k):∀ x∈l,p x:=fun c hc=>by
 obtain ⟨i,hi,rfl⟩:=List.getElem_of_mem hc
 exact h i (by omega) _ (List.getElem?_eq_getElem hi)
theorem few_at {α:Type} {p:α→Prop} {l:List α} {k:Nat} {x:α} (hx:l[k]?=some x) (h:p x):∀ y,l[k]?=some y→p y:=fun y hy=>by rw [hx] at hy;injection hy with hy;subst hy;exact h
theorem len_few {p q:Prop} [Decidable p] [Decidable q] {n:Nat} (hq:q↔n≤12∧p) (hp:p):decide (((n:Nat):Int)≤(12:Int))=decide q:=decide_eq_decide.2 ⟨fun h=>hq.2 ⟨by omega,hp⟩,fun h=>by have:=(hq.1 h).1;omega⟩
set_option maxRecDepth 100000 in
set_option maxHeartbeats 1000000 in
theorem few40_any (A:Option Addr) (c:Nat) (l:List It) (w:World) (h:RLs RIt 2 S w (vl A l.length c) l) :
  Calls Tryd.prog 9 #[.slice A l.length c] w (fun e w'=>e=.returned (.bool (decide (fewI l)))∧Ext w w'):=by
 have hc:RLs RIt 2 (Clip S w) w (vl A l.length c) l:=RLs.clip rIt h
 obtain ⟨-,hck,hcm⟩:=RLs.at h
 refine calls_enter Tryd.func9 rfl rfl rfl fun _ hF=>?_
 refine wr fun K1 hK1=>?_
 refine hF.xv (.bool false)<|fun _ F3=>?_;clear hF
 refine wpList_nil (hK1 _ _ ?_);clear hK1
 refine wp_seq_k fun K4 hK4=>?_
 refine wr fun K5 hK5=>?_
 refine F3.xv (vi 0)<|fun _ F7=>?_;clear F3
 refine wpList_nil (hK5 _ _ ?_);clear hK5
 refine wp_block ?_
 refine wp_loop (fun a' W=>∃ (k:Nat),Sl 29 [(0,(vl A l.length c)),(2,(.bool false)),(3,(vi (k:Nat)))] a'∧k≤l.length∧(∀ j,j<k→∀ x,l[j]?=some x→fewIt x)∧Ext w W∧w.heap.size≤W.heap.size) (fun a' _=>l.length - (intOf (a'.eval (.tmp 3))).toNat) ⟨0,F7.j,(by omega),(fun j hj=>absurd hj (by omega)),(Ext.refl w),(Nat.le_refl _)⟩ ?_
 clear F7
 rintro a8 w9 ⟨k,F10,hp12,hp13,hx11,hf14⟩
 have hL15:=F10
 have z16:=hx11.size
 refine wp_seq_k fun K17 hK17=>?_
 refine wr fun K18 hK18=>?_
 refine F10.xm rfl<|Xm rfl<|Xv (vi (l.length:Nat))<|Xv (.bool (decide (((k:Nat):Int)<((l.length:Nat):Int))))<|fun _ F26=>?_;clear F10
 refine wpList_nil (hK18 _ _ ?_);clear hK18
 by_cases hc27:((k:Nat):Int)<((l.length:Nat):Int)
 ·skip
  refine F26.ct ?_
  refine wp_skip ?_
  refine hK17 _ _ ?_;clear hK17
  refine wp_seq_k fun K28 hK28=>?_
  refine wp_block ?_
  refine wr fun K29 hK29=>?_
  refine F26.xm rfl<|Xm rfl<|fun _ F33=>?_;clear F26
  have d34:=(RLs.ext rIt hc hx11)
  obtain ⟨b35,o36,x37,cs38,hA39,hi40,hk41,hc42,hr43⟩:=RLs.get d34 (by omega:k<l.length)
  obtain ⟨A44,c45,rfl,hd46⟩:=hr43
  have z47:=(Fl.cel hd46).2.1
  refine F33.xw (.pointer (some ⟨b35,o36+k*2,none⟩)) (fun F=>rn_indexE Tryd.underlying22 inf66 ((F.get rfl).trans (by rw [hA39])) (F.get rfl) (by omega:(0:Int)≤(k:Nat)) (by omega:((k:Nat):Int)<((l.length:Nat):Int)) (by omega))<|Xv (.pointer (some ⟨b35,o36+k*2,none⟩))<|Xw (strOf x37.name) (fun F=>rl F rfl (hc42 0 _ rfl))<|Xw (vi (x37.name.length:Nat)) (fun F=>rn_lenS Tryd.underlying9 (F.get rfl))<|Xv (.bool (decide ((100:Int)<((x37.name.length:Nat):Int))))<|Xm rfl<|fun _ F59=>?_;clear F33
  by_cases hc60:(100:Int)<((x37.name.length:Nat):Int)
  ·skip
   refine F59.xu<|Xu<|Xu<|Xu<|Xu<|Xu<|Xu<|Xv (.bool true)<|fun _ F76=>?_;clear F59
   refine wpList_nil (hK29 _ _ ?_);clear hK29
   have F77:=F76.k [0,2,3,7,25];clear F76
   refine F77.ct ?_
   refine wr fun K78 hK78=>?_
   refine F77.xv (.bool false)<|fun _ F80=>?_;clear F77
   refine wpList_nil (hK78 _ _ ?_);clear hK78
   refine wp_ret ?_
   refine ret_block ?_
   refine ret_then ?_
   refine ret_then ?_
   refine ret_block ?_
   refine ret_then ?_
   refine ret1 F80 rfl rfl ?_
   exact ⟨ret_bool (decide_eq_false (fun q:fewI l=>by have h1:=q.2 x37 (List.mem_of_getElem? hi40);have h2:=h1.1;have h3:=h1.2;omega)).symm,((Ext.refl w).trans hx11)⟩
  refine F59.xg (vl A l.length c)<|Xg (vi (k:Nat))<|Xgw (.pointer (some ⟨b35,o36+k*2,none⟩)) (fun F=>rn_indexE Tryd.underlying22 inf66 ((F.get rfl).trans (by rw [hA39])) (F.get rfl) (by omega:(0:Int)≤(k:Nat)) (by omega:((k:Nat):Int)<((l.length:Nat):Int)) (by omega))<|Xg (.pointer (some ⟨b35,o36+k*2+1,none⟩))<|Xgw (vl A44 x37.data.length c45) (fun F=>rl F rfl (hc42 1 _ rfl))<|Xg (vi (x37.data.length:Nat))<|Xg (.bool (decide ((300:Int)<((x37.data.length:Nat):Int))))<|Xv (.bool (decide ((300:Int)<((x37.data.length:Nat):Int))))<|fun _ F96=>?_;clear F59
  refine wpList_nil (hK29 _ _ ?_);clear hK29
  have F97:=F96.k [0,2,3,7,25];clear F96
  by_cases hc98:(300:Int)<((x37.data.length:Nat):Int)
  ·skip
   refine F97.ct ?_
   refine wr fun K99 hK99=>?_
   refine F97.xv (.bool false)<|fun _ F101=>?_;clear F97
   refine wpList_nil (hK99 _ _ ?_);clear hK99
   refine wp_ret ?_
   refine ret_block ?_
   refine ret_then ?_
   refine ret_then ?_
   refine ret_block ?_
   refine ret_then ?_
   refine ret1 F101 rfl rfl ?_
   exact ⟨ret_bool (decide_eq_false (fun q:fewI l=>by have h1:=q.2 x37 (List.mem_of_getElem? hi40);have h2:=h1.1;have h3:=h1.2;omega)).symm,((Ext.refl w).trans hx11)⟩
  refine F97.cf ?_
  refine wp_skip ?_
  refine hK28 _ _ ?_;clear hK28
  refine wp_region_lit ?_
  refine F97.xm rfl<|Xv (vi (k+1:Nat))<|Xa rfl<|fun _ F107=>?_;clear F97
  refine wpList_nil ?_
  refine ⟨⟨(k+1),F107.j,(by omega),(all_succ hp13 (few_at hi40 (show fewIt x37 from ⟨by omega,by omega⟩))),((Ext.refl w).trans hx11),(by omega)⟩,?_⟩
  rw [F107.get (t:=3) rfl,hL15.get (t:=3) rfl];simp [intOf] <;> omega
 refine F26.cf ?_
 refine wp_exit ?_
 refine exit_then ?_
 refine exit_then ?_
 refine exit_here ?_
 refine hK4 _ _ ?_;clear hK4
 refine wr fun K108 hK108=>?_
 refine F26.xm rfl<|Xv (vi (l.length:Nat))<|Xv (.bool (decide (((l.length:Nat):Int)≤(12:Int))))<|Xa rfl<|fun _ F116=>?_;clear F26
 refine wpList_nil (hK108 _ _ ?_);clear hK108
 have F117:=F116.k [0,2,3,7];clear F116
 refine wp_ret ?_
 refine ret1 F117 rfl rfl ?_
 exact ⟨ret_bool (len_few (q:=fewI l) Iff.rfl (few_yes hp13 (by omega))),((Ext.refl w).trans hx11)⟩

theorem few40_at {v:Value} (l:List It) (w:World) (h:RLs RIt 2 S w v l) :
  Calls Tryd.prog 9 #[v] w (fun e w'=>e=.returned (.bool (decide (fewI l)))∧Ext w w'):=by
 obtain ⟨A,c,rfl,_⟩:=h.form
 exact few40_any A c l w h

end Go.Proofs.YtihgmaoghbnnaaaDoor

namespace Go.Proofs.YtihgmaoghbnnaaaDoor
open Go.RowKit

theorem check_of {l:List It} (h:checkE l=0):Srt (itNames l):=named_srt (check_named h).2
theorem diffE_zero {a b:List It} (ha:checkE a=0) (hb:checkE b=0):diffE a b=0∧diffV a b=diffL a b:=by
 have h:diffE a b=0:=(if_neg (fun q=>q ha)).trans hb
 exact ⟨h,if_pos h⟩
theorem diff_good {a b:List It} (ha:checkE a=0) (hb:checkE b=0) (hl:a.length+b.length≤65536):validC (diffL a b):=diff_valid (check_named ha).2 (check_named hb).2 hl
theorem apply_good {a b:List It} (ha:checkE a=0) (hb:checkE b=0) (hl:a.length+b.length≤65536):applyE a (diffL a b)=0∧appL a (diffL a b)=b:=by
 obtain ⟨h1,h2⟩:=app_diff _ a b (Nat.le_refl _) (check_of ha) (check_of hb)
 have h3:=(check_named hb).1
 refine ⟨(if_neg (fun q=>q ha)).trans ((if_neg (fun q=>q (diff_good ha hb hl))).trans ((if_neg (by rw [h2];decide)).trans (if_neg (by rw [h1];omega)))),h1⟩
section
variable {sd:List UInt8} {a b:List It}
theorem kok (hs:1≤sd.length∧sd.length≤64) {u:Int} (h0:0≤u) (h2:u≤2):kOk sd 2 u=true:=kOk_iff.2 ⟨hs,by omega,h0,h2⟩
theorem pub_u (hs:1≤sd.length∧sd.length≤64) {u:Int} (h0:0≤u) (h2:u≤2):pubF sd 2 u=pubF sd 2 0∧pubE sd 2 u=0:=by
 have h1:=pub_of (kok hs h0 h2)
 have h3:=pub_of (kok hs (Int.le_refl 0) (by omega))
 exact ⟨h1.1.trans h3.1.symm,h1.2⟩
/-- a version of a state after another -/
theorem version_good (hs:1≤sd.length∧sd.length≤64) {n:Nat} (hn:n<2) (ha:checkE a=0) (hb:checkE b=0) (hl:a.length+b.length≤65536) :
  versionE sd 2 (n:Int) n b (diffL a b)=0∧versionV sd 2 (n:Int) n b (diffL a b)=⟨(n+1:Nat),stateD b,diffL a b,signF sd 2 n n (msgV (n+1:Nat) (stateD b) (diffL a b))⟩ ∧
  verifyE (pubF sd 2 0) 2 (versionV sd 2 (n:Int) n b (diffL a b))=0:=by
 have hp:=pub_u hs (u:=(n:Int)) (by omega) (by omega)
 have hm:(msgV (n+1:Nat) (stateD b) (diffL a b)).length=72:=msgV_len (stateD_len b)
 have hz:signE sd 2 (n:Int) n (msgV (n+1:Nat) (stateD b) (diffL a b))=0:=(sign_iff (kok hs (by omega) (by omega)) (by omega)).2 ⟨by omega,by omega⟩
 have hv:=diff_good ha hb hl
 have hE:versionE sd 2 (n:Int) n b (diffL a b)=0:=(if_neg (fun q=>q hp.2)).trans ((if_neg (fun q=>q rfl)).trans ((if_neg (fun q=>q hb)).trans ((if_neg (fun q=>q hv)).trans hz)))
 have hV:versionV sd 2 (n:Int) n b (diffL a b)=⟨(n+1:Nat),stateD b,diffL a b,signF sd 2 n n (msgV (n+1:Nat) (stateD b) (diffL a b))⟩:=if_pos hE
 refine ⟨hE,hV,?_⟩
 rw [hV]
 have hw:=verifies1 hz (by omega)
 rw [hp.1] at hw
 have hi:=(sign_len hz).2.2
 refine (if_neg (by show ¬ (((n+1:Nat):Int)<1∨4096<((n+1:Nat):Int));omega)).trans ((if_neg (fun q=>q hv)).trans (if_neg (fun q=>?_)))
 rcases q with q | q
 ·exact q (by show (signF sd 2 n n _).index=((n+1:Nat):Int) - 1;rw [hi];omega)
 ·have q':verifyF (pubF sd 2 0) 2 (msgV (n+1:Nat) (stateD b) (diffL a b)) (signF sd 2 n n (msgV (n+1:Nat) (stateD b) (diffL a b)))=false:=q
  rw [hw] at q';cases q'
end
/-! what a follower makes of two versions -/
theorem check_nil:checkE []=0:=rfl
structure Duo (pub:List UInt8) (a b:List It) (v1 v2:Vr):Prop where
 ha:checkE a=0
 hb:checkE b=0
 hl:a.length+b.length≤65536
 n1:v1.no=1
 n2:v2.no=2
 s1:v1.state=stateD a
 s2:v2.state=stateD b
 c1:v1.chs=diffL [] a
 c2:v2.chs=diffL a b
 e1:verifyE pub 2 v1=0
 e2:verifyE pub 2 v2=0
section
variable {pub:List UInt8} {a b:List It} {v1 v2:Vr}
def fo (pub:List UInt8) (n:Int) (l:List It) (e:List Vr):Fo:=⟨pub,2,n,l,e⟩
theorem check_fo {n:Int} {l:List It} {e:List Vr} (h0:0≤n) (h1:n≤4096) (hl:checkE l=0) (hn:n=0→l=[]) (he:e.length≤64) (ha:asc (n+1) e) (hv:firstE (verifyE pub 2) e=0):checkFE (fo pub n l e)=0 :=
 (if_neg (by simp [fo])).trans ((if_neg (by simp only [fo];omega)).trans ((if_neg (fun q=>q hl)).trans ((if_neg (fun q=>by have:=q.1;have h5:=q.2;rw [show (fo pub n l e).items=l from rfl,hn this] at h5;simp at h5)).trans ((if_neg (by simp only [fo];omega)).trans ((if_neg (fun q=>q ha)).trans hv)))))
theorem asc_nil (n:Int):asc n []:=fun i hi=>absurd hi (by simp)
theorem Duo.f0 (_h:Duo pub a b v1 v2):checkFE (fo pub 0 [] [])=0:=check_fo (by omega) (by omega) rfl (fun _=>rfl) (by simp) (asc_nil _) rfl
theorem Duo.f1 (h:Duo pub a b v1 v2):checkFE (fo pub 1 a [])=0:=check_fo (by omega) (by omega) h.ha (fun q=>absurd q (by omega)) (by simp) (asc_nil _) rfl
theorem Duo.f2 (h:Duo pub a b v1 v2):checkFE (fo pub 2 b [])=0:=check_fo (by omega) (by omega) h.hb (fun q=>absurd q (by omega)) (by simp) (asc_nil _) rfl
theorem Duo.fe (h:Duo pub a b v1 v2):checkFE (fo pub 0 [] [v2])=0:=check_fo (by omega) (by omega) rfl (fun _=>rfl) (by simp) (fun i hi=>by
  simp only [List.length_singleton] at hi
  obtain rfl:i=0:=by omega
  show (0:Int)+1<v2.no
  rw [h.n2];decide) ((if_neg (fun q=>q h.e2)))
theorem Duo.fit1 (h:Duo pub a b v1 v2) {e:List Vr}:fits (fo pub 0 [] e) v1∧stepF (fo pub 0 [] e) v1=fo pub 1 a e:=by
 have hl:=h.hl
 obtain ⟨q1,q2⟩:=apply_good check_nil h.ha (by simp;omega)
 have hf:fits (fo pub 0 [] e) v1:=⟨by rw [h.c1];exact q1,by rw [h.c1];show checkE (appL [] _)=0;rw [q2];exact h.ha,by rw [h.c1,h.s1];show stateD (appL [] _)=_;rw [q2]⟩
 refine ⟨hf,(if_pos hf).trans ?_⟩
 rw [h.c1,h.n1]
 show (⟨pub,2,1,appL [] (diffL [] a),e⟩:Fo)=_
 rw [q2];rfl
theorem Duo.fit2 (h:Duo pub a b v1 v2) {e:List Vr}:fits (fo pub 1 a e) v2∧stepF (fo pub 1 a e) v2=fo pub 2 b e:=by
 obtain ⟨q1,q2⟩:=apply_good h.ha h.hb h.hl
 have hf:fits (fo pub 1 a e) v2:=⟨by rw [h.c2];exact q1,by rw [h.c2];show checkE (appL a _)=0;rw [q2];exact h.hb,by rw [h.c2,h.s2];show stateD (appL a _)=_;rw [q2]⟩
 refine ⟨hf,(if_pos hf).trans ?_⟩
 rw [h.c2,h.n2]
 show (⟨pub,2,2,appL a (diffL a b),e⟩:Fo)=_
 rw [q2];rfl
theorem rec_ok {f:Fo} {v:Vr} (hc:checkFE f=0) (hv:verifyE f.pub f.many v=0) (hm:¬ ((∃ w∈f.early,w.no=v.no)∨v.no≤f.no)) (hn:¬ f.no+1<v.no) (hf:fits f v):recE f v=0∧recF f v=drain (stepF f v) f.early:=by
 have h:recE f v=0:=(if_neg (fun q=>q hc)).trans ((if_neg (fun q=>q hv)).trans ((if_neg hm).trans ((if_neg hn).trans (if_pos hf))))
 exact ⟨h,(if_neg (fun q=>q h)).trans (if_neg hn)⟩
theorem rec_old {f:Fo} {v:Vr} (hc:checkFE f=0) (hv:verifyE f.pub f.many v=0) (hm:(∃ w∈f.early,w.no=v.no)∨v.no≤f.no):recE f v=420∧recF f v=foNil:=by
 have h:recE f v=420:=(if_neg (fun q=>q hc)).trans ((if_neg (fun q=>q hv)).trans (if_pos hm))
 exact ⟨h,if_pos (by rw [h];decide)⟩
theorem Duo.r1 (h:Duo pub a b v1 v2):recE (fo pub 0 [] []) v1=0∧recF (fo pub 0 [] []) v1=fo pub 1 a []:=by
 obtain ⟨h1,h2⟩:=rec_ok h.f0 h.e1 (fun q=>by rcases q with ⟨w,hw,_⟩ | q;exact absurd hw (by simp [fo]);rw [h.n1] at q;simp [fo] at q) (by rw [h.n1];simp [fo]) h.fit1.1
 exact ⟨h1,h2.trans (by rw [h.fit1.2];rfl)⟩
theorem Duo.r2 (h:Duo pub a b v1 v2):recE (fo pub 1 a []) v2=0∧recF (fo pub 1 a []) v2=fo pub 2 b []:=by
 obtain ⟨h1,h2⟩:=rec_ok h.f1 h.e2 (fun q=>by rcases q with ⟨w,hw,_⟩ | q;exact absurd hw (by simp [fo]);rw [h.n2] at q;simp [fo] at q) (by rw [h.n2];simp [fo]) h.fit2.1
 exact ⟨h1,h2.trans (by rw [h.fit2.2];rfl)⟩
theorem Duo.early (h:Duo pub a b v1 v2):recE (fo pub 0 [] []) v2=0∧recF (fo pub 0 [] []) v2=fo pub 0 [] [v2]:=by
 have hn:(fo pub 0 [] []).no+1<v2.no:=by rw [h.n2];simp [fo]
 have hE:recE (fo pub 0 [] []) v2=0:=(if_neg (fun q=>q h.f0)).trans ((if_neg (fun q=>q h.e2)).trans ((if_neg (fun q=>by rcases q with ⟨w,hw,_⟩ | q;exact absurd hw (by simp [fo]);rw [h.n2] at q;simp [fo] at q)).trans ((if_pos hn).trans (if_neg (by simp [fo])))))
 exact ⟨hE,(if_neg (fun q=>q hE)).trans ((if_pos hn).trans rfl)⟩
theorem Duo.late (h:Duo pub a b v1 v2):recE (fo pub 0 [] [v2]) v1=0∧recF (fo pub 0 [] [v2]) v1=fo pub 2 b []:=by
 obtain ⟨h1,h2⟩:=rec_ok h.fe h.e1 (fun q=>by rcases q with ⟨w,hw,e⟩ | q;rw [List.mem_singleton.1 hw,h.n1,h.n2] at e;simp at e;rw [h.n1] at q;simp [fo] at q) (by rw [h.n1];simp [fo]) h.fit1.1
 refine ⟨h1,h2.trans ?_⟩
 rw [h.fit1.2]
 show drain (fo pub 1 a [v2]) [v2]=_
 rw [drain,if_pos (by rw [h.n2];rfl),h.fit2.2]
 rfl
theorem Duo.again2 (h:Duo pub a b v1 v2):(recE (fo pub 2 b []) v1=420∧recF (fo pub 2 b []) v1=foNil)∧(recE (fo pub 2 b []) v2=420∧recF (fo pub 2 b []) v2=foNil) :=
 ⟨rec_old h.f2 h.e1 (.inr (by rw [h.n1];simp [fo])),rec_old h.f2 h.e2 (.inr (by rw [h.n2];simp [fo]))⟩
end

end Go.Proofs.YtihgmaoghbnnaaaDoor

namespace Go.Proofs.YtihgmaoghbnnaaaDoor
open Go.RowKit

variable {S S':Nat→Prop}

theorem retC2 {N:Nat} {m:List (Nat × Value)} {a:Act} {P:Program} {fn:Func} {R:Ending→World→Prop} {w:World} {t u x b:Nat} {ty tt:TypeId} {cs:List Value} {v2 v3:Value} {td:TypeDesc} (hF:Sl N m a) (hr:fn.results=#[.cell t ty,.tmp u,.tmp x]) (hv:look m t=some (.pointer (some ⟨b,0,none⟩))) (hu:look m u=some v2) (hx:look m x=some v3)
  (hB:Blk w b tt cs) (hty:P.underlying ty=some td) (hd:aggTy td=true) (hi:(P.info? ty).map (·.size)=some cs.length) (h:R (.returned (.tuple #[.agg cs.toArray,v2,v3])) w):bodyPost P fn R .ret a w:=by
 have h1:=hF.get hv
 have h2:=hF.get hu
 have h3:=hF.get hx
 simp only [Act.eval] at h1 h2 h3
 refine bodyPost_ret ?_ hF.2.1 h
 have:=run_loadVar_row (P:=P) w b tt ty cs.toArray (0,0) td hB hty (by cases td <;> simp_all [aggTy]) (by simpa using hi)
 rw [Array.getD_eq_getD_getElem?] at h1 h2 h3
 simp [results,hr,h1,h2,h3,asAddr,this]
def RIs (S:Nat→Prop) (w:World) (cs:List Value) (l:List It):Prop:=∃ u,cs=[u]∧RLs RIt 2 S w u l
theorem rIs:Rel RIs:=⟨fun ⟨u,h1,h2⟩ hp=>⟨u,h1,h2.pres rIt hp⟩,fun ⟨u,h1,h2⟩ hs=>⟨u,h1,h2.subB rIt hs⟩⟩
def chainL (sd:List UInt8):Nat→List It→List (List It)→List Vr
 | _,_,[]=>[]
 | n,bf,s::r=>versionV sd 2 (n:Int) n s (diffL bf s)::chainL sd (n+1) s r
theorem chain_step {sd:List UInt8} {k:Nat} {bf s:List It} {ss:List (List It)} {vs T:List Vr} {v:Vr} (hx:ss[k]?=some s) (hv:versionV sd 2 (k:Int) k s (diffL bf s)=v) (h:vs++chainL sd k bf (ss.drop k)=T):(vs++[v])++chainL sd (k+1) s (ss.drop (k+1))=T:=by
 have hk:=(List.getElem?_eq_some_iff.1 hx)
 rw [← h,List.drop_eq_getElem_cons hk.1,hk.2,chainL,hv,List.append_assoc];rfl
theorem chain_end {sd:List UInt8} {k:Nat} {bf:List It} {ss:List (List It)} {vs T:List Vr} (hk:ss.length≤k) (h:vs++chainL sd k bf (ss.drop k)=T):vs=T:=by
 rw [List.drop_eq_nil_of_le hk,chainL,List.append_nil] at h;exact h
theorem new_facts {sd:List UInt8} (hs:1≤sd.length∧sd.length≤64):newS sd 2=sd∧newM sd 2=2∧newE sd 2=0:=by
 have h:=kok hs (u:=0) (by decide) (by decide)
 exact ⟨if_pos h,if_pos h,if_pos h⟩
theorem OwnL.near {α:Type} {R:RelT α} {k:Nat} {e:TypeId} {base:Nat} {w w':World} {v:Value} {n:Nat} {xs:List Value} {l:List α} (hR:Rel R) (h:OwnL R k e base w v n xs l) (hp:Pres (fun b=>base≤b∧b<w.heap.size) w w'):OwnL R k e base w' v n xs l:=by
 obtain ⟨h1,h2,h3,h4⟩:=h
 refine ⟨⟨h1.1,?_⟩,h2,h3,fun i hi=>hR.sub (hR.pres (hR.subB (S':=fun b=>(base≤b∧b<w.heap.size)∧some b≠v.ownBlock) (h4 i hi) fun b hl hb=>⟨⟨hb.1,hl⟩,hb.2⟩) ⟨hp.1,fun b hb=>hp.2 b hb.1⟩) fun b hb=>⟨hb.1.1,hb.2⟩⟩
 rcases h1.2 with h5 | ⟨g,cap,cur,hv,hb,hg,h6⟩
 ·exact .inl h5
 ·have hl:=(Array.getElem?_eq_some_iff.1 hg).1
  exact .inr ⟨g,cap,cur,hv,hb,(hp.2 g ⟨hb,hl⟩ hl).trans hg,h6⟩

theorem diff_sm {a b:List It} (ha:∀ x∈a,x.data.length≤4294967296) (hb:∀ x∈b,x.data.length≤4294967296):∀ x∈diffL a b,x.data.length≤4294967296:=by
 intro c hc
 rcases diff_mem hc with ⟨x,hx,rfl⟩ | ⟨y,hy,rfl⟩
 ·simp
 ·exact hb y hy
set_option maxRecDepth 100000 in
set_option maxHeartbeats 1000000 in
theorem chain_any (seed:UInt8) (A:Option Addr) (c:Nat) (ss:List (List It)) (w:World) (h:RLs RIs 1 S w (vl A ss.length c) ss) (hss:∀ s∈ss,checkE s=0∧s.length≤12∧∀ x∈s,x.data.length≤4294967296) (hl2:ss.length≤2) (hG:Glob w) :
  Calls Tryd.prog 12 #[.int .u8 (seed.toNat:Nat),.slice A ss.length c] w (fun e w'=>∃ A n c,e=.returned (.tuple #[.agg (byteVals (pubF [seed] 2 0)).toArray,.slice A n c,.bool true])∧RLs RVr 38 (fun b=>w.heap.size≤b) w' (vl A n c) (chainL [seed] 0 [] ss)∧Ext w w'):=by
 have hc:RLs RIs 1 (Clip S w) w (vl A ss.length c) ss:=RLs.clip rIs h
 obtain ⟨-,hck,hcm⟩:=RLs.at h
 have hk:1≤[seed].length∧[seed].length≤64:=⟨by simp,by simp⟩
 refine calls_enter Tryd.func12 rfl rfl rfl fun _ hF=>?_
 refine wr fun K1 hK1=>?_
 refine hF.xz (byteVals (List.replicate 32 0)) 24 fun g2 w3 _ F9 z6 z7 b4 hx5=>?_;clear hF
 refine F9.xv v0<|Xv (.bool false)<|fun _ F13=>?_;clear F9
 refine wpList_nil (hK1 _ _ ?_);clear hK1
 refine wr fun K14 hK14=>?_
 refine F13.xm rfl<|fun _ F16=>?_;clear F13
 refine F16.xn (fun g=>(vl (some ⟨g,0,none⟩) 1 1)) [(.int .u8 (seed.toNat:Nat))] 5 (fun F=>rn_buildSlice (parts1 (F.get rfl)) (by kernel_rfl)) fun g17 w18 _ F24 z21 z22 b19 hx20=>?_;clear F16
 refine wpl_op (i:=2) rfl (o_call F24 rfl rfl rfl rfl (rn_call (args2 (F24.get rfl) rfl) rfl (by kernel_rfl)) (new_at (v:=(vl (some ⟨g17,0,none⟩) 1 1)) (m:=1) ([seed]) 2 _ (Fl.blk (S:=fun b=>b=g17) (k:=1) (n:=1) (c:=1) (cs:=byteVals [seed]) b19 rfl (byteVals_one _) (by omega) rfl) (by omega)) ?_)
 rw [(new_facts hk).1,(new_facts hk).2.1,(new_facts hk).2.2]
 rintro _ w29 ⟨A25,n26,c27,rfl,hf28,hx30⟩
 have z31:=(Fl.cel hf28).2.1;have z32:=Fl.blen hf28
 refine ⟨_,rfl,?_⟩;intro a33 F34;clear F24;have z35:=hx30.size
 have hf36:Fl (Clip (fun b=>w18.heap.size≤b) w29) w29 1 (vl A25 n26 c27) n26 (byteVals ([seed])):=hf28.clip
 refine F34.xm rfl<|Xv (.agg #[(vl A25 n26 c27),(vi 2),(vi 0)])<|Xv (vi 0)<|fun _ F42=>?_;clear F34
 refine F42.xz [v0,(vi 0),(vi 0)] 56 fun g43 w44 _ F50 z47 z48 b45 hx46=>?_;clear F42
 refine F50.xs rfl b45 (fun w51 b52 hg53=>?_);have z54:=hg53.size
 refine F50.xa rfl<|fun _ F56=>?_;clear F50
 refine wpList_nil (hK14 _ _ ?_);clear hK14
 have F57:=F56.k [0,1,4,5,6,7,8];clear F56
 refine wr fun K58 hK58=>?_
 refine F57.xw (.agg #[(vl A25 n26 c27),(vi 2),(vi 0)]) (fun F=>rb F rfl b52)<|fun _ F60=>?_;clear F57
 have d61:=(hf36.pres (((Pres.refl w29).ext hx46).gc hg53))
 refine F60.xc (pub_at (v:=(vl A25 n26 c27)) (m:=n26) ([seed]) 2 0 _ d61 (hG.ext ((((((Ext.refl w).trans hx5).trans hx20).trans hx30).trans hx46).gn hg53))) ?_
 rintro _ w62 ⟨rfl,hx63⟩
 refine ⟨_,rfl,?_⟩;intro a64 F65;clear F60;have z66:=hx63.size
 refine F65.xm rfl<|Xv (.agg (byteVals (pubF ([seed]) 2 0)).toArray)<|Xv (vi (pubE ([seed]) 2 0))<|fun _ F72=>?_;clear F65
 have b76:=(((((b4.ext hx20).ext hx30).ext hx46).gn hg53).ext hx63)
 refine F72.xs rfl b76 (fun w73 b74 hg75=>?_) (hk:=byteVals_len (pubF_len _ _ _));have z77:=hg75.size
 refine F72.xa rfl<|fun _ F79=>?_;clear F72
 refine wpList_nil (hK58 _ _ ?_);clear hK58
 have F80:=F79.k [0,1,4,5,6,7,8,9];clear F79
 refine wp_seq_k fun K81 hK81=>?_
 refine wr fun K82 hK82=>?_
 refine F80.xm rfl<|Xv (.bool false)<|Xm rfl<|Xg (vi (pubE ([seed]) 2 0))<|Xg (.bool (decide (((pubE ([seed]) 2 0):Int)≠(0:Int))))<|Xv (.bool (decide (((pubE ([seed]) 2 0):Int)≠(0:Int))))<|fun _ F94=>?_;clear F80
 refine wpList_nil (hK82 _ _ ?_);clear hK82
 have F95:=F94.k [0,1,4,5,6,7,8,9,34];clear F94
 refine wp_cond_false (c_false F95 rfl ((decide_eq_false (fun q=>q (pub_u hk (by decide) (by decide)).2)):decide (((pubE ([seed]) 2 0):Int)≠(0:Int))=false)) ?_
 refine wp_skip ?_
 refine hK81 _ _ ?_;clear hK81
 refine wr fun K97 hK97=>?_
 refine F95.xn (fun g=>(vl (some ⟨g,0,none⟩) 0 0)) [] 66 (fun F=>rn_buildSlice (parts0 ) (by kernel_rfl)) fun g98 w99 _ F105 z102 z103 b100 hx101=>?_;clear F95
 refine F105.xa rfl<|fun _ F107=>?_;clear F105
 refine wpList_nil (hK97 _ _ ?_);clear hK97
 refine wp_seq_k fun K108 hK108=>?_
 refine wr fun K109 hK109=>?_
 refine F107.xm rfl<|Xv (vi (ss.length:Nat))<|Xv (vi 0)<|fun _ F115=>?_;clear F107
 refine wpList_nil (hK109 _ _ ?_);clear hK109
 refine wp_block ?_
 have hO116:OwnL RVr 38 30 w99.heap.size w99 v0 0 [] []:=OwnL.nil _ (Nat.le_refl _)
 have hl117:RLs RIt 2 (Clip (fun b=>b<w99.heap.size) w99) w99 (vl (some ⟨g98,0,none⟩) 0 0) []:=RLs.empty (by omega)
 have d118:=(hf36.pres ((((((Pres.refl w29).ext hx46).gc hg53).ext hx63).gc hg75).ext hx101))
 have b119:=(b74.ext hx101)
 have b120:=((((((b19.ext hx30).ext hx46).gn hg53).ext hx63).gn hg75).ext hx101)
 have b121:=(((b52.ext hx63).gn hg75).ext hx101)
 refine wp_loop (fun a' W=>∃ (k:Nat) (Ap:Option Addr) (cp:Nat) (xp:List Value) (vs:List Vr) (bf:List It) (BA:Option Addr) (ba:Nat),Sl 80 [(0,(.int .u8 (seed.toNat:Nat))),(1,(vl A ss.length c)),(4,(vp g2)),(5,(vl Ap k cp)),(6,(.bool false)),(7,(vp g43)),(8,(vi 0)),(9,(vi (pubE ([seed]) 2 0))),(34,(.bool (decide (((pubE ([seed]) 2 0):Int)≠(0:Int))))),(10,(vl BA bf.length ba)),(37,(vl A ss.length c)),(38,(vi (ss.length:Nat))),(39,(vi (k:Nat)))] a'∧k≤ss.length∧vs++chainL [seed] k bf (ss.drop k)=chainL [seed] 0 [] ss∧((checkE bf=0∧bf.length≤12∧∀ x∈bf,x.data.length≤4294967296))∧Ext w W∧Blk W g2 24 (byteVals (pubF ([seed]) 2 0))∧Blk W g17 5 [(.int .u8 (seed.toNat:Nat))]∧Blk W g43 56 [(vl A25 n26 c27),(vi 2),(vi (k:Nat))]∧Fl (Clip (fun b=>w18.heap.size≤b) w29) W 1 (vl A25 n26 c27) n26 (byteVals ([seed]))∧OwnL RVr 38 30 w99.heap.size W (vl Ap k cp) k xp vs∧RLs RIt 2 (Clip S w) W (vl BA bf.length ba) bf∧w99.heap.size≤W.heap.size) (fun a' _=>ss.length - (intOf (a'.eval (.tmp 39))).toNat) ⟨0,none,0,[],[],[],(some ⟨g98,0,none⟩),0,F115.j,(by omega),rfl,⟨rfl,by simp,fun x hx=>absurd hx (by simp)⟩,(((((((((Ext.refl w).trans hx5).trans hx20).trans hx30).trans hx46).gn hg53).trans hx63).gn hg75).trans hx101),b119,b120,b121,d118,hO116,(RLs.empty (by omega)),(Nat.le_refl _)⟩ ?_
 clear F115
 rintro a122 w123 ⟨k,Ap,cp,xp,vs,bf,BA,ba,F124,hp126,hp127,hp128,hx125,b129,b130,b131,hf132,hf133,hf134,hf135⟩
 have hL136:=F124
 have z137:=hx125.size
 have z138:=b129.lt
 have z139:=b130.lt
 have z140:=b131.lt
 have z141:=own_form0 hf133.1
 obtain ⟨-,z142,z143⟩:=RLs.at hf134
 have hbf:=hp128
 refine wr fun K144 hK144=>?_
 refine F124.xv (.bool (decide (((k:Nat):Int)<((ss.length:Nat):Int))))<|fun _ F146=>?_;clear F124
 refine wpList_nil (hK144 _ _ ?_);clear hK144
 refine wp_seq_k fun K147 hK147=>?_
 by_cases hc148:((k:Nat):Int)<((ss.length:Nat):Int)
 ·skip
  refine F146.ct ?_
  refine wp_skip ?_
  refine hK147 _ _ ?_;clear hK147
  refine wp_seq_k fun K149 hK149=>?_
  refine wp_block ?_
  refine wr fun K150 hK150=>?_
  have d151:=(RLs.ext rIs hc hx125)
  obtain ⟨b152,o153,x154,cs155,hA156,hi157,hk158,hc159,hr160⟩:=RLs.get d151 (by omega:k<ss.length)
  obtain ⟨u161,rfl,hd164⟩:=hr160
  obtain ⟨A162,c163,rfl,z165,z166⟩:=RLs.form hd164
  have hsx:=hss x154 (List.mem_of_getElem? hi157)
  simp only [Nat.mul_one] at hc159
  refine F146.xw (.pointer (some ⟨b152,o153+k,none⟩)) (fun F=>rn_index1 Tryd.underlying39 inf22 ((F.get rfl).trans (by rw [hA156])) (F.get rfl) (by omega:(0:Int)≤(k:Nat)) (by omega:((k:Nat):Int)<((ss.length:Nat):Int)))<|Xw (vl A162 x154.length c163) (fun F=>rl F rfl (hc159 0 _ rfl))<|Xa rfl<|fun _ F172=>?_;clear F146
  refine wpList_nil (hK150 _ _ ?_);clear hK150
  refine wr fun K173 hK173=>?_
  refine F172.xm rfl<|Xm rfl<|fun _ F177=>?_;clear F172
  refine F177.xc (diff_at (u:=(vl BA bf.length ba)) (v:=(vl A162 x154.length c163)) bf x154 _ hf134 hd164 hbf.2.2 hsx.2.2) ?_
  rw [(diffE_zero hbf.1 hsx.1).2,(diffE_zero hbf.1 hsx.1).1]
  rintro _ w181 ⟨A178,c179,rfl,hL180,hx182⟩
  refine ⟨_,rfl,?_⟩;intro a183 F184;clear F177;have z185:=hx182.size
  have hl186:RLs RCg 3 (Clip (fun z=>w123.heap.size≤z) w181) w181 (vl A178 ((diffL bf x154).length) c179) (diffL bf x154):=RLs.clip rCg hL180
  obtain ⟨-,z187,z188⟩:=RLs.at hL180
  refine F184.xm rfl<|Xv (vl A178 ((diffL bf x154).length) c179)<|Xv (vi 0)<|Xa rfl<|Xa rfl<|fun _ F198=>?_;clear F184
  refine wpList_nil (hK173 _ _ ?_);clear hK173
  have F199:=F198.k [0,1,4,5,6,7,8,9,34,10,37,38,39,40,12,13,14];clear F198
  refine wr fun K200 hK200=>?_
  have b201:=(b131.ext hx182)
  refine F199.xw (.agg #[(vl A25 n26 c27),(vi 2),(vi (k:Nat))]) (fun F=>rb F rfl b201)<|Xm rfl<|Xm rfl<|Xm rfl<|fun _ F209=>?_;clear F199
  have d210:=(hf132.ext hx182)
  have d211:=(RLs.ext rIt hd164 hx182)
  have hv212:=version_good (sd:=[seed]) hk (n:=k) (by omega) hbf.1 hsx.1 (by have h5:=hbf.2.1;have h6:=hsx.2.1;omega)
  obtain ⟨vr213,hvr214⟩:∃ z,versionV ([seed]) 2 ((k:Nat):Int) k x154 (diffL bf x154)=z:=⟨_,rfl⟩
  rw [hvr214] at hv212
  refine wpl_op (i:=4) rfl (o_call F209 rfl rfl rfl rfl (rn_call (args4 (F209.get rfl) (F209.get rfl) (F209.get rfl) (F209.get rfl)) rfl (by kernel_rfl)) (version_at (S:=fun _=>True) Ap cp ([seed]) 2 ((k:Nat):Int) (k) x154 (diffL bf x154) _ (Fl.any d210) (RLs.sub (S':=fun _=>True) rIt d211 fun _ _=>trivial) (RLs.sub (S':=fun _=>True) rCg hl186 fun _ _=>trivial) hsx.2.2 (by have h6:=hsx.2.1;omega) (diff_sm hbf.2.2 hsx.2.2) (hG.ext (((Ext.refl w).trans hx125).trans hx182))) ?_)
  have hv2120:=hv212.1
  rw [hvr214,hv212.1,show keyS ([seed]) 2 ((k:Nat):Int) k x154 (diffL bf x154)=[seed] from if_pos hv2120,show keyM ([seed]) 2 ((k:Nat):Int) k x154 (diffL bf x154)=2 from if_pos hv2120,show keyU ([seed]) 2 ((k:Nat):Int) k x154 (diffL bf x154)=((k:Nat):Int)+1 from if_pos hv2120]
  rintro _ w216 ⟨c218,o219,e220,p221,A222,n223,c224,rfl,hR225,hK226,hS227,hq228,hx217⟩
  obtain ⟨rfl,hkk⟩:=hq228 rfl;obtain ⟨rfl,rfl,rfl⟩:=Value.slice.inj hkk.symm
  have hvc215:vr213.chs=diffL bf x154:=by rw [hv212.2.1]
  obtain ⟨A229,c230,rfl,z231,z232⟩:=Fl.form hS227.op
  obtain ⟨A233,c234,rfl,z235,z236⟩:=Fl.form hS227.cl
  obtain ⟨A237,c238,rfl,z239,z240⟩:=Fl.form hS227.path
  refine ⟨_,rfl,?_⟩;intro a241 F242;clear F209;have z243:=hx217.size
  have d244:=(RLs.ext rCg hl186 hx217)
  have hl245:RLs RCg 3 (Clip (fun z=>w123.heap.size≤z) w181) w216 (vl A178 ((diffL bf x154).length) c179) vr213.chs:=by rw [hvc215];exact d244
  have hf246:Fl (Clip (fun b=>w181.heap.size≤b) w216) _ _ _ _ _:=Fl.subB hS227.op (fun _ h1 h2=>⟨h2,h1⟩)
  have hf247:Fl (Clip (fun b=>w181.heap.size≤b) w216) _ _ _ _ _:=Fl.subB hS227.cl (fun _ h1 h2=>⟨h2,h1⟩)
  have hf248:Fl (Clip (fun b=>w181.heap.size≤b) w216) _ _ _ _ _:=Fl.subB hS227.path (fun _ h1 h2=>⟨h2,h1⟩)
  refine F242.xm rfl<|Xv (ag ((vi vr213.no)::dg vr213.state [(vl A178 ((diffL bf x154).length) c179),(vi vr213.sg.index),(vl A229 vr213.sg.op.length c230),(vl A233 vr213.sg.cl.length c234),(vl A237 vr213.sg.path.length c238)]))<|Xv (.agg #[(vl A25 n26 c27),(vi 2),(vi (k+1:Nat))])<|Xv (vi 0)<|fun _ F256=>?_;clear F242
  refine F256.xz vz 30 fun g257 w258 _ F264 z261 z262 b259 hx260=>?_;clear F256
  refine F264.xz [v0,(vi 0),(vi 0)] 56 fun g265 w266 _ F272 z269 z270 b267 hx268=>?_;clear F264
  have b273:=(b259.ext hx268)
  refine F272.xs rfl b273 (fun w274 b275 hg276=>?_) (hk:=len_dig1 hR225.st);have z277:=hg276.size
  have b281:=(b267.gn hg276)
  refine F272.xs rfl b281 (fun w278 b279 hg280=>?_);have z282:=hg280.size
  refine F272.xa rfl<|fun _ F284=>?_;clear F272
  refine wpList_nil (hK200 _ _ ?_);clear hK200
  have F285:=F284.k [0,1,4,5,6,7,8,9,34,10,37,38,39,40,12,13,14,15,16,17];clear F284
  refine wp_seq_k fun K286 hK286=>?_
  refine wr fun K287 hK287=>?_
  refine F285.xm rfl<|Xv (.bool false)<|Xm rfl<|Xg (vi 0)<|Xg (.bool false)<|Xv (.bool false)<|Xm rfl<|fun _ F301=>?_;clear F285
  have b302:=((((((b129.ext hx182).ext hx217).ext hx260).ext hx268).gn hg276).gn hg280)
  refine F301.xgw (.agg (byteVals (pubF ([seed]) 2 0)).toArray) (fun F=>rb F rfl b302 (hk:=byteVals_len (pubF_len _ _ _)))<|fun _ F304=>?_;clear F301
  have b305:=(b275.gn hg280)
  refine F304.xgw (ag ((vi vr213.no)::dg vr213.state [(vl A178 ((diffL bf x154).length) c179),(vi vr213.sg.index),(vl A229 vr213.sg.op.length c230),(vl A233 vr213.sg.cl.length c234),(vl A237 vr213.sg.path.length c238)])) (fun F=>rb F rfl b305 (hk:=len_dig1 hR225.st))<|fun _ F307=>?_;clear F304
  have d308:=(RLs.pres rCg hl245 (((((Pres.refl w216).ext hx260).ext hx268).gc hg276).gc hg280))
  have d309:=(hf246.pres (((((Pres.refl w216).ext hx260).ext hx268).gc hg276).gc hg280))
  have d310:=(hf247.pres (((((Pres.refl w216).ext hx260).ext hx268).gc hg276).gc hg280))
  have d311:=(hf248.pres (((((Pres.refl w216).ext hx260).ext hx268).gc hg276).gc hg280))
  refine wpl_op (i:=9) rfl (o_call F307 rfl (wanted_guard rfl rfl rfl F307 rfl rfl rfl) rfl rfl (rn_call (args3 (F307.get rfl) rfl (F307.get rfl)) rfl (by kernel_rfl)) (verifyv_at (pubF ([seed]) 2 0) 2 vr213 _ (⟨hR225.st,RLs.sub (S':=fun _=>True) rCg d308 fun _ _=>trivial,⟨Fl.any d309,Fl.any d310,Fl.any d311,hS227.o32,hS227.c32,hS227.p32⟩⟩:RVp (fun _=>True) _ _ _ _ _ vr213) (pubF_len _ _ _) (by rw [hv212.2.1];exact diff_sm hbf.2.2 hsx.2.2) (hG.ext ((((((((Ext.refl w).trans hx125).trans hx182).trans hx217).trans hx260).trans hx268).gn hg276).gn hg280))) ?_)
  rintro _ w312 ⟨rfl,hx313⟩
  refine ⟨_,rfl,?_⟩;intro a314 F315;clear F307;have z316:=hx313.size
  refine F315.xg (.bool (decide (((verifyE (pubF ([seed]) 2 0) 2 vr213):Int)≠(0:Int))))<|Xv (.bool (decide (((verifyE (pubF ([seed]) 2 0) 2 vr213):Int)≠(0:Int))))<|fun _ F320=>?_;clear F315
  refine wpList_nil (hK287 _ _ ?_);clear hK287
  have F321:=F320.k [0,1,4,5,6,7,8,9,34,10,37,38,39,40,12,13,14,15,16,17,69];clear F320
  refine wp_cond_false (c_false F321 rfl ((decide_eq_false (fun q=>q hv212.2.2)):decide (((verifyE (pubF ([seed]) 2 0) 2 vr213):Int)≠(0:Int))=false)) ?_
  refine wp_skip ?_
  refine hK286 _ _ ?_;clear hK286
  have hx324:∃ W,w312.drew=W∧Ext w312 W:=⟨_,rfl,(Ext.refl _).drew⟩
  obtain ⟨w323,e325,hx324⟩:=hx324
  have z326:=hx324.size
  refine any_start (fun W=>Ext w323 W∧Blk W g257 30 ((vi vr213.no)::dg vr213.state [(vl A178 ((diffL bf x154).length) c179),(vi vr213.sg.index),(vl A229 vr213.sg.op.length c230),(vl A233 vr213.sg.cl.length c234),(vl A237 vr213.sg.path.length c238)])∧Blk W g265 56 [(vl A25 n26 c27),(vi 2),(vi (k+1:Nat))]∧Blk W g43 56 [(vl A25 n26 c27),(vi 2),(vi (k:Nat))]) (fun i=>i==3||i==7) 9 (.replicate 9 false) rfl rfl rfl ?_
  rw [e325];clear e325
  refine F321.ym 0 rfl<|fun _ F328=>?_;clear F321
  have b330:=((b305.ext hx313).ext hx324)
  have b331:=((b279.ext hx313).ext hx324)
  have b332:=(((((((b201.ext hx217).ext hx260).ext hx268).gn hg276).gn hg280).ext hx313).ext hx324)
  have hS329:Ext w323 w323∧Blk w323 g257 30 ((vi vr213.no)::dg vr213.state [(vl A178 ((diffL bf x154).length) c179),(vi vr213.sg.index),(vl A229 vr213.sg.op.length c230),(vl A233 vr213.sg.cl.length c234),(vl A237 vr213.sg.path.length c238)])∧Blk w323 g265 56 [(vl A25 n26 c27),(vi 2),(vi (k+1:Nat))]∧Blk w323 g43 56 [(vl A25 n26 c27),(vi 2),(vi (k:Nat))]:=⟨(Ext.refl w323),b330,b331,b332⟩
  refine anyt_val (i:=1) (v:=(ag ((vi vr213.no)::dg vr213.state [(vl A178 ((diffL bf x154).length) c179),(vi vr213.sg.index),(vl A229 vr213.sg.op.length c230),(vl A233 vr213.sg.cl.length c234),(vl A237 vr213.sg.path.length c238)]))) [2,3,6,7] F328 (fun j hj=>by simp at hj;first | (subst hj;decide) | (rcases hj with rfl | rfl <;> decide)) (by decide +kernel) (by decide +kernel) rfl rfl rfl rfl (fun _ _ _ _ h=>h) rfl hS329 (fun W hW=>(rb F328 rfl hW.2.1 (hk:=len_dig1 hR225.st))) ?_
  intro a333 F334;clear F328
  refine F334.ym 5 rfl<|fun _ F336=>?_;clear F334
  refine any_two (i:=2) (k:=4) (by decide +kernel) rfl rfl ?_ ?_
  ·skip
   refine F336.on (fun g=>(vl (some ⟨g,0,none⟩) 1 1)) ((vi vr213.no)::dg vr213.state [(vl A178 ((diffL bf x154).length) c179),(vi vr213.sg.index),(vl A229 vr213.sg.op.length c230),(vl A233 vr213.sg.cl.length c234),(vl A237 vr213.sg.path.length c238)]) 30 rfl (fun F=>rn_buildSlice (parts1 (F.get rfl)) (build_wholeE (vs:=[(ag ((vi vr213.no)::dg vr213.state [(vl A178 ((diffL bf x154).length) c179),(vi vr213.sg.index),(vl A229 vr213.sg.op.length c230),(vl A233 vr213.sg.cl.length c234),(vl A237 vr213.sg.path.length c238)]))]) El36 rfl rfl (fun z0 hz0=>by rw [List.mem_singleton.1 hz0];exact (show List.length ((vi vr213.no)::dg vr213.state [(vl A178 ((diffL bf x154).length) c179),(vi vr213.sg.index),(vl A229 vr213.sg.op.length c230),(vl A233 vr213.sg.cl.length c234),(vl A237 vr213.sg.path.length c238)])=38 from (by simp [byteVals_len hR225.st]))) (by decide) (by decide) (by simp [Value.cells]))) fun g337 w338 _ F344 z341 z342 b339 hx340=>?_;clear F336
   have b345:=(b330.ext hx340)
   have b346:=(b331.ext hx340)
   have b347:=(b332.ext hx340)
   refine ⟨fun _ _=>⟨((Ext.refl w323).trans hx340),b345,b346,b347⟩,?_⟩
   refine any_two (i:=3) (k:=4) (by decide +kernel) rfl rfl ?_ ?_
   ·skip
    have hO348:=OwnL.near rVr hf133 ((((((((((Pres.refl w123).ext hx182).ext hx217).ext hx260).ext hx268).grownN hg276 (fun h=>by have h1:=h.1;have h2:=h.2;omega)).grownN hg280 (fun h=>by have h1:=h.1;have h2:=h.2;omega)).ext hx313).ext hx324).ext hx340)
    have d358:=(RLs.pres rCg hl245 ((((((((Pres.refl w216).ext hx260).ext hx268).gc hg276).gc hg280).ext hx313).ext hx324).ext hx340))
    have d359:=(hf246.pres ((((((((Pres.refl w216).ext hx260).ext hx268).gc hg276).gc hg280).ext hx313).ext hx324).ext hx340))
    have d360:=(hf247.pres ((((((((Pres.refl w216).ext hx260).ext hx268).gc hg276).gc hg280).ext hx313).ext hx324).ext hx340))
    have d361:=(hf248.pres ((((((((Pres.refl w216).ext hx260).ext hx268).gc hg276).gc hg280).ext hx313).ext hx324).ext hx340))
    refine o_appB (zs:=xp++((vi vr213.no)::dg vr213.state [(vl A178 ((diffL bf x154).length) c179),(vi vr213.sg.index),(vl A229 vr213.sg.op.length c230),(vl A233 vr213.sg.cl.length c234),(vl A237 vr213.sg.path.length c238)])) El36 F344 rfl rfl rfl rfl rfl (F344.get rfl) (F344.get rfl) hO348.1 (Fl.cel (Fl.blk (S:=fun _=>True) (k:=38) (n:=1) (c:=1) (cs:=((vi vr213.no)::dg vr213.state [(vl A178 ((diffL bf x154).length) c179),(vi vr213.sg.index),(vl A229 vr213.sg.op.length c230),(vl A233 vr213.sg.cl.length c234),(vl A237 vr213.sg.path.length c238)])) b339 (show List.length ((vi vr213.no)::dg vr213.state [(vl A178 ((diffL bf x154).length) c179),(vi vr213.sg.index),(vl A229 vr213.sg.op.length c230),(vl A233 vr213.sg.cl.length c234),(vl A237 vr213.sg.path.length c238)])=38 from (by simp [byteVals_len hR225.st])) (one_cons rfl (one_app (byteVals_one _) (one_cons rfl (one_cons rfl (one_cons rfl (one_cons rfl (one_cons rfl one_nil))))))) ⟨Nat.le_refl _,by omega⟩ trivial)).2.2 (by omega) (by omega) (by omega) rfl ?_
    intro A349 c350 w351 a362 F363 r352 hg353 z354 z355 hnb356;clear F344;have z364:=hg353.size
    have hO357:=OwnL.snoc (x:=vr213) rVr hO348 r352 hg353 hnb356 (show List.length ((vi vr213.no)::dg vr213.state [(vl A178 ((diffL bf x154).length) c179),(vi vr213.sg.index),(vl A229 vr213.sg.op.length c230),(vl A233 vr213.sg.cl.length c234),(vl A237 vr213.sg.path.length c238)])=38 from (by simp [byteVals_len hR225.st])) (one_cons rfl (one_app (byteVals_one _) (one_cons rfl (one_cons rfl (one_cons rfl (one_cons rfl (one_cons rfl one_nil))))))) ⟨_,_,_,_,rfl,(⟨hR225.st,RLs.sub rCg d358 (fun b hb=>by first | omega | (simp only [Clip] at hb;omega)),⟨Fl.sub d359 (fun b hb=>by first | omega | (simp only [Clip] at hb;omega)),Fl.sub d360 (fun b hb=>by first | omega | (simp only [Clip] at hb;omega)),Fl.sub d361 (fun b hb=>by first | omega | (simp only [Clip] at hb;omega)),hS227.o32,hS227.c32,hS227.p32⟩⟩:RVp (fun b=>w123.heap.size≤b) _ _ _ _ _ vr213)⟩ (fun b _ hb=>⟨by omega,fun e1=>by have h5:=own_blk_lt hf133.1 b e1;omega⟩)
    refine ⟨fun h=>absurd h (by decide),?_⟩
    refine F363.yv 6 (vl A349 (k+1) c350) rfl<|fun _ F366=>?_;clear F363
    have b367:=(grown_blk hO348.1 hg353 b346 (by decide))
    refine ao 4 rfl (F366.ow (.agg #[(vl A25 n26 c27),(vi 2),(vi (k+1:Nat))]) rfl (fun F=>rb F rfl b367) fun _ F369=>ap ?_);clear F366
    have b373:=(grown_blk hO348.1 hg353 b347 (by decide))
    refine ao 7 rfl (F369.os rfl b373 (fun w370 b371 hg372=>an ?_));have z374:=hg372.size
    refine F369.yv 8 (vl A162 x154.length c163) rfl<|fun _ F376=>?_;clear F369
    refine nn (hK149 _ _ ?_);clear hK149
    have F377:=F376.k [0,1,4,5,6,7,8,9,34,10,37,38,39,40,12,13,14,15,16,17,69];clear F376
    refine wp_region_lit ?_
    refine F377.xv (vi (k+1:Nat))<|Xm rfl<|fun _ F381=>?_;clear F377
    refine wpList_nil ?_
    have d382:=(hf132.pres ((Pres.row ((((((((((Pres.refl w123).ext hx182).ext hx217).ext hx260).ext hx268).gc hg276).gc hg280).ext hx313).ext hx324).ext hx340) hg353 hO348.1 (fun b hb h=>by simp only [Clip] at h;omega)).gc hg372))
    have hO383:=OwnL.near rVr hO357 ((Pres.refl w351).grownN hg372 (fun h=>by have h1:=h.1;have h2:=h.2;omega))
    have d384:=(RLs.pres rIt hd164 ((Pres.row ((((((((((Pres.refl w123).ext hx182).ext hx217).ext hx260).ext hx268).gc hg276).gc hg280).ext hx313).ext hx324).ext hx340) hg353 hO348.1 (fun b hb h=>by simp only [Clip] at h;omega)).gc hg372))
    have b385:=((grown_blk hO348.1 hg353 (((b302.ext hx313).ext hx324).ext hx340) (by decide)).gn hg372)
    have b386:=((grown_blk hO348.1 hg353 (((((((((b130.ext hx182).ext hx217).ext hx260).ext hx268).gn hg276).gn hg280).ext hx313).ext hx324).ext hx340) (by decide)).gn hg372)
    refine ⟨⟨(k+1),A349,c350,(xp++((vi vr213.no)::dg vr213.state [(vl A178 ((diffL bf x154).length) c179),(vi vr213.sg.index),(vl A229 vr213.sg.op.length c230),(vl A233 vr213.sg.cl.length c234),(vl A237 vr213.sg.path.length c238)])),(vs++[vr213]),x154,A162,c163,F381.j,(by omega),(chain_step hi157 hvr214 hp127),hsx,((ext_row (((((((((((Ext.refl w).trans hx125).trans hx182).trans hx217).trans hx260).trans hx268).gn hg276).gn hg280).trans hx313).trans hx324).trans hx340) hg353 hO348.1 (by omega)).gn hg372),b385,b386,b371,d382,hO383,(RLs.norm d384),(by omega)⟩,?_⟩
    rw [F381.get (t:=39) rfl,hL136.get (t:=39) rfl];simp [intOf] <;> omega
   refine F344.ow (.agg #[(vl A25 n26 c27),(vi 2),(vi (k+1:Nat))]) rfl (fun F=>rb F rfl b346) fun _ F388=>ap ?_;clear F344
   refine ao 3 rfl ?_
   have hO389:=OwnL.near rVr hf133 ((((((((((Pres.refl w123).ext hx182).ext hx217).ext hx260).ext hx268).grownN hg276 (fun h=>by have h1:=h.1;have h2:=h.2;omega)).grownN hg280 (fun h=>by have h1:=h.1;have h2:=h.2;omega)).ext hx313).ext hx324).ext hx340)
   have d399:=(RLs.pres rCg hl245 ((((((((Pres.refl w216).ext hx260).ext hx268).gc hg276).gc hg280).ext hx313).ext hx324).ext hx340))
   have d400:=(hf246.pres ((((((((Pres.refl w216).ext hx260).ext hx268).gc hg276).gc hg280).ext hx313).ext hx324).ext hx340))
   have d401:=(hf247.pres ((((((((Pres.refl w216).ext hx260).ext hx268).gc hg276).gc hg280).ext hx313).ext hx324).ext hx340))
   have d402:=(hf248.pres ((((((((Pres.refl w216).ext hx260).ext hx268).gc hg276).gc hg280).ext hx313).ext hx324).ext hx340))
   refine o_appB (zs:=xp++((vi vr213.no)::dg vr213.state [(vl A178 ((diffL bf x154).length) c179),(vi vr213.sg.index),(vl A229 vr213.sg.op.length c230),(vl A233 vr213.sg.cl.length c234),(vl A237 vr213.sg.path.length c238)])) El36 F388 rfl rfl rfl rfl rfl (F388.get rfl) (F388.get rfl) hO389.1 (Fl.cel (Fl.blk (S:=fun _=>True) (k:=38) (n:=1) (c:=1) (cs:=((vi vr213.no)::dg vr213.state [(vl A178 ((diffL bf x154).length) c179),(vi vr213.sg.index),(vl A229 vr213.sg.op.length c230),(vl A233 vr213.sg.cl.length c234),(vl A237 vr213.sg.path.length c238)])) b339 (show List.length ((vi vr213.no)::dg vr213.state [(vl A178 ((diffL bf x154).length) c179),(vi vr213.sg.index),(vl A229 vr213.sg.op.length c230),(vl A233 vr213.sg.cl.length c234),(vl A237 vr213.sg.path.length c238)])=38 from (by simp [byteVals_len hR225.st])) (one_cons rfl (one_app (byteVals_one _) (one_cons rfl (one_cons rfl (one_cons rfl (one_cons rfl (one_cons rfl one_nil))))))) ⟨Nat.le_refl _,by omega⟩ trivial)).2.2 (by omega) (by omega) (by omega) rfl ?_
   intro A390 c391 w392 a403 F404 r393 hg394 z395 z396 hnb397;clear F388;have z405:=hg394.size
   have hO398:=OwnL.snoc (x:=vr213) rVr hO389 r393 hg394 hnb397 (show List.length ((vi vr213.no)::dg vr213.state [(vl A178 ((diffL bf x154).length) c179),(vi vr213.sg.index),(vl A229 vr213.sg.op.length c230),(vl A233 vr213.sg.cl.length c234),(vl A237 vr213.sg.path.length c238)])=38 from (by simp [byteVals_len hR225.st])) (one_cons rfl (one_app (byteVals_one _) (one_cons rfl (one_cons rfl (one_cons rfl (one_cons rfl (one_cons rfl one_nil))))))) ⟨_,_,_,_,rfl,(⟨hR225.st,RLs.sub rCg d399 (fun b hb=>by first | omega | (simp only [Clip] at hb;omega)),⟨Fl.sub d400 (fun b hb=>by first | omega | (simp only [Clip] at hb;omega)),Fl.sub d401 (fun b hb=>by first | omega | (simp only [Clip] at hb;omega)),Fl.sub d402 (fun b hb=>by first | omega | (simp only [Clip] at hb;omega)),hS227.o32,hS227.c32,hS227.p32⟩⟩:RVp (fun b=>w123.heap.size≤b) _ _ _ _ _ vr213)⟩ (fun b _ hb=>⟨by omega,fun e1=>by have h5:=own_blk_lt hf133.1 b e1;omega⟩)
   refine ⟨fun h=>absurd h (by decide),?_⟩
   refine F404.yv 6 (vl A390 (k+1) c391) rfl<|fun _ F407=>?_;clear F404
   have b411:=(grown_blk hO389.1 hg394 b347 (by decide))
   refine ao 7 rfl (F407.os rfl b411 (fun w408 b409 hg410=>an ?_));have z412:=hg410.size
   refine F407.yv 8 (vl A162 x154.length c163) rfl<|fun _ F414=>?_;clear F407
   refine nn (hK149 _ _ ?_);clear hK149
   have F415:=F414.k [0,1,4,5,6,7,8,9,34,10,37,38,39,40,12,13,14,15,16,17,69];clear F414
   refine wp_region_lit ?_
   refine F415.xv (vi (k+1:Nat))<|Xm rfl<|fun _ F419=>?_;clear F415
   refine wpList_nil ?_
   have d420:=(hf132.pres ((Pres.row ((((((((((Pres.refl w123).ext hx182).ext hx217).ext hx260).ext hx268).gc hg276).gc hg280).ext hx313).ext hx324).ext hx340) hg394 hO389.1 (fun b hb h=>by simp only [Clip] at h;omega)).gc hg410))
   have hO421:=OwnL.near rVr hO398 ((Pres.refl w392).grownN hg410 (fun h=>by have h1:=h.1;have h2:=h.2;omega))
   have d422:=(RLs.pres rIt hd164 ((Pres.row ((((((((((Pres.refl w123).ext hx182).ext hx217).ext hx260).ext hx268).gc hg276).gc hg280).ext hx313).ext hx324).ext hx340) hg394 hO389.1 (fun b hb h=>by simp only [Clip] at h;omega)).gc hg410))
   have b423:=((grown_blk hO389.1 hg394 (((b302.ext hx313).ext hx324).ext hx340) (by decide)).gn hg410)
   have b424:=((grown_blk hO389.1 hg394 (((((((((b130.ext hx182).ext hx217).ext hx260).ext hx268).gn hg276).gn hg280).ext hx313).ext hx324).ext hx340) (by decide)).gn hg410)
   refine ⟨⟨(k+1),A390,c391,(xp++((vi vr213.no)::dg vr213.state [(vl A178 ((diffL bf x154).length) c179),(vi vr213.sg.index),(vl A229 vr213.sg.op.length c230),(vl A233 vr213.sg.cl.length c234),(vl A237 vr213.sg.path.length c238)])),(vs++[vr213]),x154,A162,c163,F419.j,(by omega),(chain_step hi157 hvr214 hp127),hsx,((ext_row (((((((((((Ext.refl w).trans hx125).trans hx182).trans hx217).trans hx260).trans hx268).gn hg276).gn hg280).trans hx313).trans hx324).trans hx340) hg394 hO389.1 (by omega)).gn hg410),b423,b424,b409,d420,hO421,(RLs.norm d422),(by omega)⟩,?_⟩
   rw [F419.get (t:=39) rfl,hL136.get (t:=39) rfl];simp [intOf] <;> omega
  refine F336.ow (.agg #[(vl A25 n26 c27),(vi 2),(vi (k+1:Nat))]) rfl (fun F=>rb F rfl b331) fun _ F426=>ap ?_;clear F336
  refine ao 2 rfl (F426.on (fun g=>(vl (some ⟨g,0,none⟩) 1 1)) ((vi vr213.no)::dg vr213.state [(vl A178 ((diffL bf x154).length) c179),(vi vr213.sg.index),(vl A229 vr213.sg.op.length c230),(vl A233 vr213.sg.cl.length c234),(vl A237 vr213.sg.path.length c238)]) 30 rfl (fun F=>rn_buildSlice (parts1 (F.get rfl)) (build_wholeE (vs:=[(ag ((vi vr213.no)::dg vr213.state [(vl A178 ((diffL bf x154).length) c179),(vi vr213.sg.index),(vl A229 vr213.sg.op.length c230),(vl A233 vr213.sg.cl.length c234),(vl A237 vr213.sg.path.length c238)]))]) El36 rfl rfl (fun z0 hz0=>by rw [List.mem_singleton.1 hz0];exact (show List.length ((vi vr213.no)::dg vr213.state [(vl A178 ((diffL bf x154).length) c179),(vi vr213.sg.index),(vl A229 vr213.sg.op.length c230),(vl A233 vr213.sg.cl.length c234),(vl A237 vr213.sg.path.length c238)])=38 from (by simp [byteVals_len hR225.st]))) (by decide) (by decide) (by simp [Value.cells]))) fun g427 w428 _ F434 z431 z432 b429 hx430=>?_);clear F426
  have b435:=(b330.ext hx430)
  have b436:=(b331.ext hx430)
  have b437:=(b332.ext hx430)
  refine ⟨fun _ _=>⟨((Ext.refl w323).trans hx430),b435,b436,b437⟩,?_⟩
  refine ao 3 rfl ?_
  have hO438:=OwnL.near rVr hf133 ((((((((((Pres.refl w123).ext hx182).ext hx217).ext hx260).ext hx268).grownN hg276 (fun h=>by have h1:=h.1;have h2:=h.2;omega)).grownN hg280 (fun h=>by have h1:=h.1;have h2:=h.2;omega)).ext hx313).ext hx324).ext hx430)
  have d448:=(RLs.pres rCg hl245 ((((((((Pres.refl w216).ext hx260).ext hx268).gc hg276).gc hg280).ext hx313).ext hx324).ext hx430))
  have d449:=(hf246.pres ((((((((Pres.refl w216).ext hx260).ext hx268).gc hg276).gc hg280).ext hx313).ext hx324).ext hx430))
  have d450:=(hf247.pres ((((((((Pres.refl w216).ext hx260).ext hx268).gc hg276).gc hg280).ext hx313).ext hx324).ext hx430))
  have d451:=(hf248.pres ((((((((Pres.refl w216).ext hx260).ext hx268).gc hg276).gc hg280).ext hx313).ext hx324).ext hx430))
  refine o_appB (zs:=xp++((vi vr213.no)::dg vr213.state [(vl A178 ((diffL bf x154).length) c179),(vi vr213.sg.index),(vl A229 vr213.sg.op.length c230),(vl A233 vr213.sg.cl.length c234),(vl A237 vr213.sg.path.length c238)])) El36 F434 rfl rfl rfl rfl rfl (F434.get rfl) (F434.get rfl) hO438.1 (Fl.cel (Fl.blk (S:=fun _=>True) (k:=38) (n:=1) (c:=1) (cs:=((vi vr213.no)::dg vr213.state [(vl A178 ((diffL bf x154).length) c179),(vi vr213.sg.index),(vl A229 vr213.sg.op.length c230),(vl A233 vr213.sg.cl.length c234),(vl A237 vr213.sg.path.length c238)])) b429 (show List.length ((vi vr213.no)::dg vr213.state [(vl A178 ((diffL bf x154).length) c179),(vi vr213.sg.index),(vl A229 vr213.sg.op.length c230),(vl A233 vr213.sg.cl.length c234),(vl A237 vr213.sg.path.length c238)])=38 from (by simp [byteVals_len hR225.st])) (one_cons rfl (one_app (byteVals_one _) (one_cons rfl (one_cons rfl (one_cons rfl (one_cons rfl (one_cons rfl one_nil))))))) ⟨Nat.le_refl _,by omega⟩ trivial)).2.2 (by omega) (by omega) (by omega) rfl ?_
  intro A439 c440 w441 a452 F453 r442 hg443 z444 z445 hnb446;clear F434;have z454:=hg443.size
  have hO447:=OwnL.snoc (x:=vr213) rVr hO438 r442 hg443 hnb446 (show List.length ((vi vr213.no)::dg vr213.state [(vl A178 ((diffL bf x154).length) c179),(vi vr213.sg.index),(vl A229 vr213.sg.op.length c230),(vl A233 vr213.sg.cl.length c234),(vl A237 vr213.sg.path.length c238)])=38 from (by simp [byteVals_len hR225.st])) (one_cons rfl (one_app (byteVals_one _) (one_cons rfl (one_cons rfl (one_cons rfl (one_cons rfl (one_cons rfl one_nil))))))) ⟨_,_,_,_,rfl,(⟨hR225.st,RLs.sub rCg d448 (fun b hb=>by first | omega | (simp only [Clip] at hb;omega)),⟨Fl.sub d449 (fun b hb=>by first | omega | (simp only [Clip] at hb;omega)),Fl.sub d450 (fun b hb=>by first | omega | (simp only [Clip] at hb;omega)),Fl.sub d451 (fun b hb=>by first | omega | (simp only [Clip] at hb;omega)),hS227.o32,hS227.c32,hS227.p32⟩⟩:RVp (fun b=>w123.heap.size≤b) _ _ _ _ _ vr213)⟩ (fun b _ hb=>⟨by omega,fun e1=>by have h5:=own_blk_lt hf133.1 b e1;omega⟩)
  refine ⟨fun h=>absurd h (by decide),?_⟩
  refine F453.yv 6 (vl A439 (k+1) c440) rfl<|fun _ F456=>?_;clear F453
  have b460:=(grown_blk hO438.1 hg443 b437 (by decide))
  refine ao 7 rfl (F456.os rfl b460 (fun w457 b458 hg459=>an ?_));have z461:=hg459.size
  refine F456.yv 8 (vl A162 x154.length c163) rfl<|fun _ F463=>?_;clear F456
  refine nn (hK149 _ _ ?_);clear hK149
  have F464:=F463.k [0,1,4,5,6,7,8,9,34,10,37,38,39,40,12,13,14,15,16,17,69];clear F463
  refine wp_region_lit ?_
  refine F464.xv (vi (k+1:Nat))<|Xm rfl<|fun _ F468=>?_;clear F464
  refine wpList_nil ?_
  have d469:=(hf132.pres ((Pres.row ((((((((((Pres.refl w123).ext hx182).ext hx217).ext hx260).ext hx268).gc hg276).gc hg280).ext hx313).ext hx324).ext hx430) hg443 hO438.1 (fun b hb h=>by simp only [Clip] at h;omega)).gc hg459))
  have hO470:=OwnL.near rVr hO447 ((Pres.refl w441).grownN hg459 (fun h=>by have h1:=h.1;have h2:=h.2;omega))
  have d471:=(RLs.pres rIt hd164 ((Pres.row ((((((((((Pres.refl w123).ext hx182).ext hx217).ext hx260).ext hx268).gc hg276).gc hg280).ext hx313).ext hx324).ext hx430) hg443 hO438.1 (fun b hb h=>by simp only [Clip] at h;omega)).gc hg459))
  have b472:=((grown_blk hO438.1 hg443 (((b302.ext hx313).ext hx324).ext hx430) (by decide)).gn hg459)
  have b473:=((grown_blk hO438.1 hg443 (((((((((b130.ext hx182).ext hx217).ext hx260).ext hx268).gn hg276).gn hg280).ext hx313).ext hx324).ext hx430) (by decide)).gn hg459)
  refine ⟨⟨(k+1),A439,c440,(xp++((vi vr213.no)::dg vr213.state [(vl A178 ((diffL bf x154).length) c179),(vi vr213.sg.index),(vl A229 vr213.sg.op.length c230),(vl A233 vr213.sg.cl.length c234),(vl A237 vr213.sg.path.length c238)])),(vs++[vr213]),x154,A162,c163,F468.j,(by omega),(chain_step hi157 hvr214 hp127),hsx,((ext_row (((((((((((Ext.refl w).trans hx125).trans hx182).trans hx217).trans hx260).trans hx268).gn hg276).gn hg280).trans hx313).trans hx324).trans hx430) hg443 hO438.1 (by omega)).gn hg459),b472,b473,b458,d469,hO470,(RLs.norm d471),(by omega)⟩,?_⟩
  rw [F468.get (t:=39) rfl,hL136.get (t:=39) rfl];simp [intOf] <;> omega
 refine F146.cf ?_
 refine wp_exit ?_
 refine exit_then ?_
 refine exit_then ?_
 refine exit_here ?_
 refine hK108 _ _ ?_;clear hK108
 refine wr fun K474 hK474=>?_
 refine F146.xw (.agg (byteVals (pubF ([seed]) 2 0)).toArray) (fun F=>rb F rfl b129 (hk:=byteVals_len (pubF_len _ _ _)))<|Xm rfl<|fun _ F478=>?_;clear F146
 refine F478.xs rfl b129 (fun w479 b480 hg481=>?_) (hk:=byteVals_len (pubF_len _ _ _)) (hl:=byteVals_len (pubF_len _ _ _));have z482:=hg481.size
 refine F478.xa rfl<|Xv (.bool true)<|fun _ F486=>?_;clear F478
 refine wpList_nil (hK474 _ _ ?_);clear hK474
 refine wp_ret ?_
 refine retC2 F486 rfl rfl rfl rfl b480 Tryd.underlying24 rfl (sk inf24 (byteVals_len (pubF_len _ _ _))) ?_
 have he:=chain_end (by omega) hp127
 subst he
 have hO487:=OwnL.near rVr hf133 ((Pres.refl w123).grownN hg481 (fun h=>by have h1:=h.1;have h2:=h.2;omega))
 obtain rfl:=hO487.2.1
 exact ⟨_,_,_,rfl,RLs.sub rVr (OwnL.rls rVr hO487) (fun b hb=>by omega),(((Ext.refl w).trans hx125).gn hg481)⟩

theorem chain_at {v:Value} (seed:UInt8) (ss:List (List It)) (w:World) (h:RLs RIs 1 S w v ss) (hss:∀ s∈ss,checkE s=0∧s.length≤12∧∀ x∈s,x.data.length≤4294967296) (hl2:ss.length≤2) (hG:Glob w) :
  Calls Tryd.prog 12 #[.int .u8 (seed.toNat:Nat),v] w (fun e w'=>∃ A n c,e=.returned (.tuple #[.agg (byteVals (pubF [seed] 2 0)).toArray,.slice A n c,.bool true])∧RLs RVr 38 (fun b=>w.heap.size≤b) w' (vl A n c) (chainL [seed] 0 [] ss)∧Ext w w'):=by
 obtain ⟨A,c,rfl,_⟩:=h.form
 exact chain_any seed A c ss w h hss hl2 hG

end Go.Proofs.YtihgmaoghbnnaaaDoor
