/- Several texts in one: MrG, MrH. -/
import Derived.Test.YtihgmaoghbnnaaaDoorProg
import Derived.Test.YtihgmaoghbnnaaaDoorQbD
import Derived.KernelRfl
import Derived.Test.YtihgmaoghbnnaaaDoorQbA
import Derived.Test.YtihgmaoghbnnaaaDoorQbB
set_option linter.unusedVariables false
set_option linter.unusedSimpArgs false
namespace Go.Proofs.YtihgmaoghbnnaaaDoor
open Go.RowKit

variable {S S':Nat→Prop}

theorem sub_drop {α:Type} {l l0:List α} (h:∀ z∈l,z∈l0) (i:Nat):∀ z∈l.drop i,z∈l0:=fun z hz=>h z (List.mem_of_mem_drop hz)
theorem sub_take {α:Type} {l l0:List α} (h:∀ z∈l,z∈l0) (i:Nat):∀ z∈l.take i,z∈l0:=fun z hz=>h z (List.mem_of_mem_take hz)

set_option maxRecDepth 100000 in
set_option maxHeartbeats 1000000 in
theorem mergeIt_any (A:Option Addr) (c:Nat) (a0:List It) (B:Option Addr) (d:Nat) (b0:List It) (f:FuncId) (first cap:Array Value) (hen:∀ (vs:Array Value) (W:World),(callFunc f vs).run Tryd.prog W=.ok (.enter f vs) W) (arg:Value→Value→Array Value) (harg:∀ u v,(first++#[u,v])++cap=arg u v)
  (J:List (Option It × Option It)→World→Prop) (hJ:∀ ps W W',J ps W→Ext W W'→J ps W') (N:Nat)
  (hp:∀ (ps:List (Option It × Option It)) (u v:Value) (x:List It) (y:List It) (W:World),J ps W→RLs RIt 2 S W u x→RLs RIt 2 S W v y→x.length≤1→y.length≤1→¬ (x=[]∧y=[])→(∀ z∈y,z∈b0)→(∀ z∈x,z∈a0)→ps.length<N→Calls Tryd.prog f (arg u v) W (fun e W'=>e=.returned (.tuple #[])∧J (ps++[(x.head?,y.head?)]) W'∧FarX S W W'))
  (w:World) (h1:RLs RIt 2 S w (vl A a0.length c) a0) (h2:RLs RIt 2 S w (vl B b0.length d) b0) (hN:(mrg It.name It.name a0 b0).length≤N) (hj:J [] w) :
  Calls Tryd.prog 44 #[.slice A a0.length c,.slice B b0.length d,.func (.func 26) #[] #[],.func (.func 26) #[] #[],.func (.func f) first cap] w (fun e w'=>e=.returned (.tuple #[])∧J (mrg It.name It.name a0 b0) w'∧FarX S w w'):=by
 obtain ⟨-,hc1,hc2⟩:=RLs.at h1;obtain ⟨-,hd1,hd2⟩:=RLs.at h2
 refine calls_enter Tryd.func44 rfl rfl rfl fun _ hF=>?_
 refine wp_block ?_
 refine wp_loop (fun a' W=>∃ (a1:List It) (b1:List It) (A1:Option Addr) (c1:Nat) (B1:Option Addr) (d1:Nat) (ps:List (Option It × Option It)),Sl 68 [(0,(vl A1 a1.length c1)),(1,(vl B1 b1.length d1)),(2,(.func (.func 26) #[] #[])),(3,(.func (.func 26) #[] #[])),(4,(.func (.func f) first cap))] a'∧ps++mrg It.name It.name a1 b1=mrg It.name It.name a0 b0∧((∀ z∈a1,z∈a0))∧((∀ z∈b1,z∈b0))∧True∧RLs RIt 2 S W (vl A1 a1.length c1) a1∧RLs RIt 2 S W (vl B1 b1.length d1) b1∧J ps W∧FarX S w W) (fun a' _=>sliceLen (a'.eval (.tmp 0))+sliceLen (a'.eval (.tmp 1))) ⟨a0,b0,A,c,B,d,[],(((((hF.nil.cons (q_get hF (t:=4) rfl rfl)).cons (q_get hF (t:=3) rfl rfl)).cons (q_get hF (t:=2) rfl rfl)).cons (q_get hF (t:=1) rfl (by first | rfl | (simp only [List.length_drop])))).cons (q_get hF (t:=0) rfl (by first | rfl | (simp only [List.length_drop])))),(List.nil_append _),(fun _ h=>h),(fun _ h=>h),trivial,h1,h2,hj,(FarX.refl w)⟩ ?_
 clear hF
 rintro a1 w2 ⟨a1,b1,A1,c1,B1,d1,ps,F3,hp5,hp6,hp7,hx4,hf8,hf9,hf10,hf11⟩
 have hL12:=F3
 obtain ⟨-,z13,z14⟩:=RLs.at hf8
 obtain ⟨-,z15,z16⟩:=RLs.at hf9
 refine wp_seq_k fun K17 hK17=>?_
 refine wr fun K18 hK18=>?_
 refine F3.xm rfl<|Xv (vi (a1.length:Nat))<|Xv (.bool (decide ((0:Int)<((a1.length:Nat):Int))))<|Xm rfl<|fun _ F26=>?_;clear F3
 by_cases hc27:(0:Int)<((a1.length:Nat):Int)
 ·skip
  refine F26.xu<|Xu<|Xu<|Xv (.bool true)<|fun _ F35=>?_;clear F26
  refine wpList_nil (hK18 _ _ ?_);clear hK18
  have F36:=F35.k [0,1,2,3,4,20];clear F35
  refine F36.ct ?_
  refine wp_skip ?_
  refine hK17 _ _ ?_;clear hK17
  refine wp_block ?_
  refine wr fun K37 hK37=>?_
  refine F36.xv (vi 0)<|fun _ F39=>?_;clear F36
  refine wpList_nil (hK37 _ _ ?_);clear hK37
  refine wp_seq_k fun K40 hK40=>?_
  refine wp_block ?_
  refine wr fun K41 hK41=>?_
  refine F39.xm rfl<|Xv (vi (b1.length:Nat))<|Xv (.bool (decide (((b1.length:Nat):Int)=(0:Int))))<|Xa rfl<|fun _ F49=>?_;clear F39
  refine wpList_nil (hK41 _ _ ?_);clear hK41
  by_cases hc50:((b1.length:Nat):Int)=(0:Int)
  ·skip
   refine F49.ct ?_
   refine wp_region_lit ?_
   refine F49.xv (vi (-1))<|fun _ F52=>?_;clear F49
   refine wpList_nil (hK40 _ _ ?_);clear hK40
   refine wp_seq_k fun K53 hK53=>?_
   obtain ⟨b54,o55,x56,cs57,hA58,hi59,hk60,hc61,hr62⟩:=RLs.get hf8 (by omega:0<a1.length)
   obtain ⟨A63,c64,rfl,hd65⟩:=hr62
   have z66:=(Fl.cel hd65).2.1
   refine wp_region_lit ?_
   refine F52.xm rfl<|Xv (vi (a1.length:Nat))<|Xm rfl<|Xv (vi 0)<|Xv (vi 1)<|Xv (vi 1)<|Xv (vi 1)<|Xm rfl<|Xv (vi (b1.length:Nat))<|Xm rfl<|Xv (vi (-1))<|Xv (vi 0)<|Xv (vi 0)<|Xv (vi 0)<|Xa rfl<|Xa rfl<|fun _ F98=>?_;clear F52
   refine wpList_nil (hK53 _ _ ?_);clear hK53
   have F99:=F98.k [0,1,2,3,4,20,10,32,11,12];clear F98
   refine wp_seq_k fun K100 hK100=>?_
   have hx102:∃ W,w2.drew=W∧Ext w2 W:=⟨_,rfl,(Ext.refl _).drew⟩
   obtain ⟨w101,e103,hx102⟩:=hx102
   have z104:=hx102.size
   refine any_start (fun W=>True) (fun i=>false) 8 (.replicate 8 false) rfl rfl rfl ?_
   rw [e103];clear e103
   refine F99.ym 0 rfl<|Ym 1 rfl<|Ym 2 rfl<|Yw 3 (vl A1 1 c1) rfl (fun F W=>rn_sliceHi Tryd.underlying22 inf66 (F.get rfl) (F.get rfl) (by omega:(0:Int)≤1) (by omega:(1:Int)≤((c1:Nat):Int)))<|Ym 4 rfl<|Ym 5 rfl<|Yw 6 (vl B1 0 d1) rfl (fun F W=>rn_sliceHi Tryd.underlying22 inf66 (F.get rfl) (F.get rfl) (by omega:(0:Int)≤0) (by omega:(0:Int)≤((d1:Nat):Int)))<|fun _ F118=>?_;clear F99
   refine ao 7 rfl ?_
   have d119:=(RLs.ext rIt hf8 hx102)
   have d120:=(RLs.ext rIt hf9 hx102)
   have hf121:=(mrg_l0 (na:=It.name) (nb:=It.name) (a:=a1) (b:=b1) hi59 (by omega))
   have hf122:=hJ _ _ _ hf10 ((Ext.refl w2).trans hx102)
   have hf123:=(FarX.ext hf11 ((Ext.refl w2).trans hx102))
   have hf124:=(RLs.take d119 (by omega:1≤a1.length))
   have hf125:=(RLs.take d120 (by omega:0≤b1.length))
   have hf126:=RLs.norm d119
   have hf127:=RLs.norm d120
   refine o_call F118 rfl rfl rfl rfl (rn_callvc (F118.get rfl) (argsw_2 harg (F118.get rfl) (F118.get rfl)) (hen _ _)) (hp ps _ _ (a1.take 1) (b1.take 0) _ hf122 hf124 hf125 (by rw [List.length_take];omega) (by rw [List.length_take];omega) (fun q=>by have q1:=congrArg List.length q.1;have q2:=congrArg List.length q.2;simp only [List.length_take,List.length_nil] at q1 q2;omega) (sub_take hp7 _) (sub_take hp6 _) (mrg_room hp5 hf121 hN)) ?_
   rintro _ w128 ⟨rfl,hj129,hP130⟩
   refine ⟨_,rfl,?_⟩;intro a132 F133;clear F118
   have hf134:=(FarX.trans hf123 hP130)
   have hf135:=RLs.pres rIt hf126 hP130.1
   have hf136:=RLs.pres rIt hf127 hP130.1
   refine ⟨fun _ _=>trivial,?_⟩
   refine nn (hK100 _ _ ?_);clear hK100
   have F137:=F133.k [0,1,2,3,4,20,10,32,11,12];clear F133
   have hx139:∃ W,w128.drew=W∧Ext w128 W:=⟨_,rfl,(Ext.refl _).drew⟩
   obtain ⟨w138,e140,hx139⟩:=hx139
   have z141:=hx139.size
   refine any_start (fun W=>Ext w138 W) (fun i=>false) 8 (.replicate 8 false) rfl rfl rfl ?_
   rw [e140];clear e140
   refine F137.ym 0 rfl<|Ym 1 rfl<|Yv 2 (vl (cutA A1 c1 1 2) (a1.length - 1) (c1 - 1)) rfl<|Ym 3 rfl<|Ym 4 rfl<|Yv 5 (vl (cutA B1 d1 0 2) (b1.length - 0) (d1 - 0)) rfl<|Yv 6 (vl (cutA A1 c1 1 2) (a1.length - 1) (c1 - 1)) rfl<|Yv 7 (vl (cutA B1 d1 0 2) (b1.length - 0) (d1 - 0)) rfl<|fun _ F157=>?_;clear F137
   refine nn ?_
   have d158:=(RLs.ext rIt hf135 hx139)
   have d159:=(RLs.ext rIt hf136 hx139)
   refine ⟨⟨(a1.drop 1),(b1.drop 0),(cutA A1 c1 1 2),c1 - 1,(cutA B1 d1 0 2),d1 - 0,(ps++[((a1.take 1).head?,(b1.take 0).head?)]),F157.j,(by rw [List.append_assoc];exact (congrArg (fun z=>ps++z) hf121.symm).trans hp5),(sub_drop hp6 _),(sub_drop hp7 _),trivial,(RLs.norm (RLs.cut d158 (by omega:1≤a1.length))),(RLs.norm (RLs.cut d159 (by omega:0≤b1.length))),(hJ _ _ _ hj129 ((Ext.refl w128).trans hx139)),(FarX.ext hf134 ((Ext.refl w128).trans hx139))⟩,?_⟩
   rw [F157.get (t:=0) rfl,F157.get (t:=1) rfl,hL12.get (t:=0) rfl,hL12.get (t:=1) rfl];simp only [sliceLen];omega
  refine F49.cf ?_
  refine wr fun K160 hK160=>?_
  refine F49.xm rfl<|Xv (vi (a1.length:Nat))<|Xv (.bool (decide (((a1.length:Nat):Int)=(0:Int))))<|Xa rfl<|fun _ F168=>?_;clear F49
  refine wpList_nil (hK160 _ _ ?_);clear hK160
  have F169:=F168.k [0,1,2,3,4,20,10,32,36];clear F168
  by_cases hc170:((a1.length:Nat):Int)=(0:Int)
  ·skip
   refine F169.ct ?_
   refine wp_region_lit ?_
   refine F169.xv (vi 1)<|fun _ F172=>?_;clear F169
   refine wpList_nil (hK40 _ _ ?_);clear hK40
   refine wp_seq_k fun K173 hK173=>?_
   obtain ⟨b174,o175,x176,cs177,hA178,hi179,hk180,hc181,hr182⟩:=RLs.get hf9 (by omega:0<b1.length)
   obtain ⟨A183,c184,rfl,hd185⟩:=hr182
   have z186:=(Fl.cel hd185).2.1
   refine wp_region_lit ?_
   refine F172.xm rfl<|Xv (vi (a1.length:Nat))<|Xm rfl<|Xv (vi 1)<|Xv (vi 0)<|Xv (vi 0)<|Xv (vi 0)<|Xm rfl<|Xv (vi (b1.length:Nat))<|Xm rfl<|Xv (vi 0)<|Xv (vi 1)<|Xv (vi 1)<|Xv (vi 1)<|Xa rfl<|Xa rfl<|fun _ F218=>?_;clear F172
   refine wpList_nil (hK173 _ _ ?_);clear hK173
   have F219:=F218.k [0,1,2,3,4,20,10,32,36,11,12];clear F218
   refine wp_seq_k fun K220 hK220=>?_
   have hx222:∃ W,w2.drew=W∧Ext w2 W:=⟨_,rfl,(Ext.refl _).drew⟩
   obtain ⟨w221,e223,hx222⟩:=hx222
   have z224:=hx222.size
   refine any_start (fun W=>True) (fun i=>false) 8 (.replicate 8 false) rfl rfl rfl ?_
   rw [e223];clear e223
   refine F219.ym 0 rfl<|Ym 1 rfl<|Ym 2 rfl<|Yw 3 (vl A1 0 c1) rfl (fun F W=>rn_sliceHi Tryd.underlying22 inf66 (F.get rfl) (F.get rfl) (by omega:(0:Int)≤0) (by omega:(0:Int)≤((c1:Nat):Int)))<|Ym 4 rfl<|Ym 5 rfl<|Yw 6 (vl B1 1 d1) rfl (fun F W=>rn_sliceHi Tryd.underlying22 inf66 (F.get rfl) (F.get rfl) (by omega:(0:Int)≤1) (by omega:(1:Int)≤((d1:Nat):Int)))<|fun _ F238=>?_;clear F219
   refine ao 7 rfl ?_
   have d239:=(RLs.ext rIt hf8 hx222)
   have d240:=(RLs.ext rIt hf9 hx222)
   have hf241:=(mrg_0r (na:=It.name) (nb:=It.name) (a:=a1) (b:=b1) hi179 (by omega))
   have hf242:=hJ _ _ _ hf10 ((Ext.refl w2).trans hx222)
   have hf243:=(FarX.ext hf11 ((Ext.refl w2).trans hx222))
   have hf244:=(RLs.take d239 (by omega:0≤a1.length))
   have hf245:=(RLs.take d240 (by omega:1≤b1.length))
   have hf246:=RLs.norm d239
   have hf247:=RLs.norm d240
   refine o_call F238 rfl rfl rfl rfl (rn_callvc (F238.get rfl) (argsw_2 harg (F238.get rfl) (F238.get rfl)) (hen _ _)) (hp ps _ _ (a1.take 0) (b1.take 1) _ hf242 hf244 hf245 (by rw [List.length_take];omega) (by rw [List.length_take];omega) (fun q=>by have q1:=congrArg List.length q.1;have q2:=congrArg List.length q.2;simp only [List.length_take,List.length_nil] at q1 q2;omega) (sub_take hp7 _) (sub_take hp6 _) (mrg_room hp5 hf241 hN)) ?_
   rintro _ w248 ⟨rfl,hj249,hP250⟩
   refine ⟨_,rfl,?_⟩;intro a252 F253;clear F238
   have hf254:=(FarX.trans hf243 hP250)
   have hf255:=RLs.pres rIt hf246 hP250.1
   have hf256:=RLs.pres rIt hf247 hP250.1
   refine ⟨fun _ _=>trivial,?_⟩
   refine nn (hK220 _ _ ?_);clear hK220
   have F257:=F253.k [0,1,2,3,4,20,10,32,36,11,12];clear F253
   have hx259:∃ W,w248.drew=W∧Ext w248 W:=⟨_,rfl,(Ext.refl _).drew⟩
   obtain ⟨w258,e260,hx259⟩:=hx259
   have z261:=hx259.size
   refine any_start (fun W=>Ext w258 W) (fun i=>false) 8 (.replicate 8 false) rfl rfl rfl ?_
   rw [e260];clear e260
   refine F257.ym 0 rfl<|Ym 1 rfl<|Yv 2 (vl (cutA A1 c1 0 2) (a1.length - 0) (c1 - 0)) rfl<|Ym 3 rfl<|Ym 4 rfl<|Yv 5 (vl (cutA B1 d1 1 2) (b1.length - 1) (d1 - 1)) rfl<|Yv 6 (vl (cutA A1 c1 0 2) (a1.length - 0) (c1 - 0)) rfl<|Yv 7 (vl (cutA B1 d1 1 2) (b1.length - 1) (d1 - 1)) rfl<|fun _ F277=>?_;clear F257
   refine nn ?_
   have d278:=(RLs.ext rIt hf255 hx259)
   have d279:=(RLs.ext rIt hf256 hx259)
   refine ⟨⟨(a1.drop 0),(b1.drop 1),(cutA A1 c1 0 2),c1 - 0,(cutA B1 d1 1 2),d1 - 1,(ps++[((a1.take 0).head?,(b1.take 1).head?)]),F277.j,(by rw [List.append_assoc];exact (congrArg (fun z=>ps++z) hf241.symm).trans hp5),(sub_drop hp6 _),(sub_drop hp7 _),trivial,(RLs.norm (RLs.cut d278 (by omega:0≤a1.length))),(RLs.norm (RLs.cut d279 (by omega:1≤b1.length))),(hJ _ _ _ hj249 ((Ext.refl w248).trans hx259)),(FarX.ext hf254 ((Ext.refl w248).trans hx259))⟩,?_⟩
   rw [F277.get (t:=0) rfl,F277.get (t:=1) rfl,hL12.get (t:=0) rfl,hL12.get (t:=1) rfl];simp only [sliceLen];omega
  refine F169.cf ?_
  obtain ⟨b280,o281,x282,cs283,hA284,hi285,hk286,hc287,hr288⟩:=RLs.get hf8 (by omega:0<a1.length)
  obtain ⟨A289,c290,rfl,hd291⟩:=hr288
  have z292:=(Fl.cel hd291).2.1
  obtain ⟨b293,o294,x295,cs296,hA297,hi298,hk299,hc300,hr301⟩:=RLs.get hf9 (by omega:0<b1.length)
  obtain ⟨A302,c303,rfl,hd304⟩:=hr301
  have z305:=(Fl.cel hd304).2.1
  rcases Bool.eq_false_or_eq_true (ltS x282.name x295.name) with hc306 | hc306
  ·skip
   have hx308:∃ W,w2.drew=W∧Ext w2 W:=⟨_,rfl,(Ext.refl _).drew⟩
   obtain ⟨w307,e309,hx308⟩:=hx308
   have z310:=hx308.size
   refine any_start (fun W=>Ext w307 W) (fun i=>false) 12 (.replicate 12 false) rfl rfl rfl ?_
   rw [e309];clear e309
   refine F169.ym 0 rfl<|Ym 1 rfl<|fun _ F314=>?_;clear F169
   have d315:=(RLs.ext rIt hf8 hx308)
   obtain ⟨b316,o317,x318,cs319,hA320,hi321,hk322,hc323,hr324⟩:=RLs.get d315 (by omega:0<a1.length)
   obtain rfl:x282=x318:=Option.some.inj (hi285.symm.trans hi321)
   obtain ⟨A325,c326,rfl,hd327⟩:=hr324
   have z328:=(Fl.cel hd327).2.1
   refine F314.yw 2 (.pointer (some ⟨b316,o317+0*2,none⟩)) rfl (fun F W=>rn_indexE Tryd.underlying22 inf66 ((F.get rfl).trans (by rw [hA320])) rfl (by omega:(0:Int)≤0) (by omega:(0:Int)<((a1.length:Nat):Int)) (by omega))<|fun _ F330=>?_;clear F314
   have hS331:Ext w307 w307:=(Ext.refl w307)
   refine F330.ys 3 (.agg #[(strOf x282.name),(vl A325 x282.data.length c326)]) rfl hS331 (fun F W hW=>rn_loadN (cs:=[(strOf x282.name),(vl A325 x282.data.length c326)]) (F.get rfl) Tryd.underlying66 rfl inf66 (fun j u hu=>Ext.keep ((Ext.refl w307).trans hW) (hc323 j u hu)))<|Ym 5 rfl<|Ym 6 rfl<|fun _ F337=>?_;clear F330
   have d338:=(RLs.ext rIt hf9 hx308)
   obtain ⟨b339,o340,x341,cs342,hA343,hi344,hk345,hc346,hr347⟩:=RLs.get d338 (by omega:0<b1.length)
   obtain rfl:x295=x341:=Option.some.inj (hi298.symm.trans hi344)
   obtain ⟨A348,c349,rfl,hd350⟩:=hr347
   have z351:=(Fl.cel hd350).2.1
   refine F337.yw 7 (.pointer (some ⟨b339,o340+0*2,none⟩)) rfl (fun F W=>rn_indexE Tryd.underlying22 inf66 ((F.get rfl).trans (by rw [hA343])) rfl (by omega:(0:Int)≤0) (by omega:(0:Int)<((b1.length:Nat):Int)) (by omega))<|Ys 8 (.agg #[(strOf x295.name),(vl A348 x295.data.length c349)]) rfl hS331 (fun F W hW=>rn_loadN (cs:=[(strOf x295.name),(vl A348 x295.data.length c349)]) (F.get rfl) Tryd.underlying66 rfl inf66 (fun j u hu=>Ext.keep ((Ext.refl w307).trans hW) (hc346 j u hu)))<|fun _ F355=>?_;clear F337
   refine ao 4 rfl ?_
   refine o_call F355 rfl rfl rfl rfl (rn_callv (F355.get rfl) (args0_1 (F355.get rfl)) (by kernel_rfl)) (itemName_any x282.name (vl A325 x282.data.length c326) _) ?_
   rintro _ w356 ⟨rfl,hx357⟩
   refine ⟨_,rfl,?_⟩;intro a358 F359;clear F355;have z360:=hx357.size
   refine ⟨fun _ _=>((Ext.refl w307).trans hx357),?_⟩
   refine ao 9 rfl ?_
   refine o_call F359 rfl rfl rfl rfl (rn_callv (F359.get rfl) (args0_1 (F359.get rfl)) (by kernel_rfl)) (itemName_any x295.name (vl A348 x295.data.length c349) _) ?_
   rintro _ w361 ⟨rfl,hx362⟩
   refine ⟨_,rfl,?_⟩;intro a363 F364;clear F359;have z365:=hx362.size
   refine ⟨fun _ _=>(((Ext.refl w307).trans hx357).trans hx362),?_⟩
   refine ao 10 rfl ?_
   refine F364.oc (cmps_lt x282.name x295.name _ hc306) ?_
   rintro _ w366 ⟨rfl,hx367⟩
   refine ⟨_,rfl,?_⟩;intro a368 F369;clear F364;have z370:=hx367.size
   refine ⟨fun _ _=>((((Ext.refl w307).trans hx357).trans hx362).trans hx367),?_⟩
   refine F369.yv 11 (vi (-1)) rfl<|fun _ F372=>?_;clear F369
   refine nn (hK40 _ _ ?_);clear hK40
   have F373:=F372.k [0,1,2,3,4,20,10,32,36];clear F372
   refine wr fun K374 hK374=>?_
   refine F373.xm rfl<|Xv (vi (a1.length:Nat))<|Xm rfl<|Xv (vi 0)<|Xv (vi 1)<|Xv (vi 1)<|Xv (vi 1)<|Xm rfl<|Xv (vi (b1.length:Nat))<|Xm rfl<|Xv (vi (-1))<|Xv (vi 0)<|Xv (vi 0)<|Xv (vi 0)<|Xa rfl<|Xa rfl<|fun _ F406=>?_;clear F373
   refine wpList_nil (hK374 _ _ ?_);clear hK374
   have F407:=F406.k [0,1,2,3,4,20,10,32,36,11,12];clear F406
   refine wp_seq_k fun K408 hK408=>?_
   have hx410:∃ W,w366.drew=W∧Ext w366 W:=⟨_,rfl,(Ext.refl _).drew⟩
   obtain ⟨w409,e411,hx410⟩:=hx410
   have z412:=hx410.size
   refine any_start (fun W=>True) (fun i=>false) 8 (.replicate 8 false) rfl rfl rfl ?_
   rw [e411];clear e411
   refine F407.ym 0 rfl<|Ym 1 rfl<|Ym 2 rfl<|Yw 3 (vl A1 1 c1) rfl (fun F W=>rn_sliceHi Tryd.underlying22 inf66 (F.get rfl) (F.get rfl) (by omega:(0:Int)≤1) (by omega:(1:Int)≤((c1:Nat):Int)))<|Ym 4 rfl<|Ym 5 rfl<|Yw 6 (vl B1 0 d1) rfl (fun F W=>rn_sliceHi Tryd.underlying22 inf66 (F.get rfl) (F.get rfl) (by omega:(0:Int)≤0) (by omega:(0:Int)≤((d1:Nat):Int)))<|fun _ F426=>?_;clear F407
   refine ao 7 rfl ?_
   have d427:=(RLs.ext rIt (RLs.ext rIt (RLs.ext rIt (RLs.ext rIt (RLs.ext rIt hf8 hx308) hx357) hx362) hx367) hx410)
   have d428:=(RLs.ext rIt (RLs.ext rIt (RLs.ext rIt (RLs.ext rIt (RLs.ext rIt hf9 hx308) hx357) hx362) hx367) hx410)
   have hf429:=(mrg_lt (na:=It.name) (nb:=It.name) (a:=a1) (b:=b1) hi285 hi298 hc306)
   have hf430:=hJ _ _ _ hf10 ((((((Ext.refl w2).trans hx308).trans hx357).trans hx362).trans hx367).trans hx410)
   have hf431:=(FarX.ext hf11 ((((((Ext.refl w2).trans hx308).trans hx357).trans hx362).trans hx367).trans hx410))
   have hf432:=(RLs.take d427 (by omega:1≤a1.length))
   have hf433:=(RLs.take d428 (by omega:0≤b1.length))
   have hf434:=RLs.norm d427
   have hf435:=RLs.norm d428
   refine o_call F426 rfl rfl rfl rfl (rn_callvc (F426.get rfl) (argsw_2 harg (F426.get rfl) (F426.get rfl)) (hen _ _)) (hp ps _ _ (a1.take 1) (b1.take 0) _ hf430 hf432 hf433 (by rw [List.length_take];omega) (by rw [List.length_take];omega) (fun q=>by have q1:=congrArg List.length q.1;have q2:=congrArg List.length q.2;simp only [List.length_take,List.length_nil] at q1 q2;omega) (sub_take hp7 _) (sub_take hp6 _) (mrg_room hp5 hf429 hN)) ?_
   rintro _ w436 ⟨rfl,hj437,hP438⟩
   refine ⟨_,rfl,?_⟩;intro a440 F441;clear F426
   have hf442:=(FarX.trans hf431 hP438)
   have hf443:=RLs.pres rIt hf434 hP438.1
   have hf444:=RLs.pres rIt hf435 hP438.1
   refine ⟨fun _ _=>trivial,?_⟩
   refine nn (hK408 _ _ ?_);clear hK408
   have F445:=F441.k [0,1,2,3,4,20,10,32,36,11,12];clear F441
   have hx447:∃ W,w436.drew=W∧Ext w436 W:=⟨_,rfl,(Ext.refl _).drew⟩
   obtain ⟨w446,e448,hx447⟩:=hx447
   have z449:=hx447.size
   refine any_start (fun W=>Ext w446 W) (fun i=>false) 8 (.replicate 8 false) rfl rfl rfl ?_
   rw [e448];clear e448
   refine F445.ym 0 rfl<|Ym 1 rfl<|Yv 2 (vl (cutA A1 c1 1 2) (a1.length - 1) (c1 - 1)) rfl<|Ym 3 rfl<|Ym 4 rfl<|Yv 5 (vl (cutA B1 d1 0 2) (b1.length - 0) (d1 - 0)) rfl<|Yv 6 (vl (cutA A1 c1 1 2) (a1.length - 1) (c1 - 1)) rfl<|Yv 7 (vl (cutA B1 d1 0 2) (b1.length - 0) (d1 - 0)) rfl<|fun _ F465=>?_;clear F445
   refine nn ?_
   have d466:=(RLs.ext rIt hf443 hx447)
   have d467:=(RLs.ext rIt hf444 hx447)
   refine ⟨⟨(a1.drop 1),(b1.drop 0),(cutA A1 c1 1 2),c1 - 1,(cutA B1 d1 0 2),d1 - 0,(ps++[((a1.take 1).head?,(b1.take 0).head?)]),F465.j,(by rw [List.append_assoc];exact (congrArg (fun z=>ps++z) hf429.symm).trans hp5),(sub_drop hp6 _),(sub_drop hp7 _),trivial,(RLs.norm (RLs.cut d466 (by omega:1≤a1.length))),(RLs.norm (RLs.cut d467 (by omega:0≤b1.length))),(hJ _ _ _ hj437 ((Ext.refl w436).trans hx447)),(FarX.ext hf442 ((Ext.refl w436).trans hx447))⟩,?_⟩
   rw [F465.get (t:=0) rfl,F465.get (t:=1) rfl,hL12.get (t:=0) rfl,hL12.get (t:=1) rfl];simp only [sliceLen];omega
  rcases Bool.eq_false_or_eq_true (ltS x295.name x282.name) with hc468 | hc468
  ·skip
   have hx470:∃ W,w2.drew=W∧Ext w2 W:=⟨_,rfl,(Ext.refl _).drew⟩
   obtain ⟨w469,e471,hx470⟩:=hx470
   have z472:=hx470.size
   refine any_start (fun W=>Ext w469 W) (fun i=>false) 12 (.replicate 12 false) rfl rfl rfl ?_
   rw [e471];clear e471
   refine F169.ym 0 rfl<|Ym 1 rfl<|fun _ F476=>?_;clear F169
   have d477:=(RLs.ext rIt hf8 hx470)
   obtain ⟨b478,o479,x480,cs481,hA482,hi483,hk484,hc485,hr486⟩:=RLs.get d477 (by omega:0<a1.length)
   obtain rfl:x282=x480:=Option.some.inj (hi285.symm.trans hi483)
   obtain ⟨A487,c488,rfl,hd489⟩:=hr486
   have z490:=(Fl.cel hd489).2.1
   refine F476.yw 2 (.pointer (some ⟨b478,o479+0*2,none⟩)) rfl (fun F W=>rn_indexE Tryd.underlying22 inf66 ((F.get rfl).trans (by rw [hA482])) rfl (by omega:(0:Int)≤0) (by omega:(0:Int)<((a1.length:Nat):Int)) (by omega))<|fun _ F492=>?_;clear F476
   have hS493:Ext w469 w469:=(Ext.refl w469)
   refine F492.ys 3 (.agg #[(strOf x282.name),(vl A487 x282.data.length c488)]) rfl hS493 (fun F W hW=>rn_loadN (cs:=[(strOf x282.name),(vl A487 x282.data.length c488)]) (F.get rfl) Tryd.underlying66 rfl inf66 (fun j u hu=>Ext.keep ((Ext.refl w469).trans hW) (hc485 j u hu)))<|Ym 5 rfl<|Ym 6 rfl<|fun _ F499=>?_;clear F492
   have d500:=(RLs.ext rIt hf9 hx470)
   obtain ⟨b501,o502,x503,cs504,hA505,hi506,hk507,hc508,hr509⟩:=RLs.get d500 (by omega:0<b1.length)
   obtain rfl:x295=x503:=Option.some.inj (hi298.symm.trans hi506)
   obtain ⟨A510,c511,rfl,hd512⟩:=hr509
   have z513:=(Fl.cel hd512).2.1
   refine F499.yw 7 (.pointer (some ⟨b501,o502+0*2,none⟩)) rfl (fun F W=>rn_indexE Tryd.underlying22 inf66 ((F.get rfl).trans (by rw [hA505])) rfl (by omega:(0:Int)≤0) (by omega:(0:Int)<((b1.length:Nat):Int)) (by omega))<|Ys 8 (.agg #[(strOf x295.name),(vl A510 x295.data.length c511)]) rfl hS493 (fun F W hW=>rn_loadN (cs:=[(strOf x295.name),(vl A510 x295.data.length c511)]) (F.get rfl) Tryd.underlying66 rfl inf66 (fun j u hu=>Ext.keep ((Ext.refl w469).trans hW) (hc508 j u hu)))<|fun _ F517=>?_;clear F499
   refine ao 4 rfl ?_
   refine o_call F517 rfl rfl rfl rfl (rn_callv (F517.get rfl) (args0_1 (F517.get rfl)) (by kernel_rfl)) (itemName_any x282.name (vl A487 x282.data.length c488) _) ?_
   rintro _ w518 ⟨rfl,hx519⟩
   refine ⟨_,rfl,?_⟩;intro a520 F521;clear F517;have z522:=hx519.size
   refine ⟨fun _ _=>((Ext.refl w469).trans hx519),?_⟩
   refine ao 9 rfl ?_
   refine o_call F521 rfl rfl rfl rfl (rn_callv (F521.get rfl) (args0_1 (F521.get rfl)) (by kernel_rfl)) (itemName_any x295.name (vl A510 x295.data.length c511) _) ?_
   rintro _ w523 ⟨rfl,hx524⟩
   refine ⟨_,rfl,?_⟩;intro a525 F526;clear F521;have z527:=hx524.size
   refine ⟨fun _ _=>(((Ext.refl w469).trans hx519).trans hx524),?_⟩
   refine ao 10 rfl ?_
   refine F526.oc (cmps_gt x282.name x295.name _ hc306 hc468) ?_
   rintro _ w528 ⟨rfl,hx529⟩
   refine ⟨_,rfl,?_⟩;intro a530 F531;clear F526;have z532:=hx529.size
   refine ⟨fun _ _=>((((Ext.refl w469).trans hx519).trans hx524).trans hx529),?_⟩
   refine F531.yv 11 (vi 1) rfl<|fun _ F534=>?_;clear F531
   refine nn (hK40 _ _ ?_);clear hK40
   have F535:=F534.k [0,1,2,3,4,20,10,32,36];clear F534
   refine wr fun K536 hK536=>?_
   refine F535.xm rfl<|Xv (vi (a1.length:Nat))<|Xm rfl<|Xv (vi 1)<|Xv (vi 0)<|Xv (vi 0)<|Xv (vi 0)<|Xm rfl<|Xv (vi (b1.length:Nat))<|Xm rfl<|Xv (vi 0)<|Xv (vi 1)<|Xv (vi 1)<|Xv (vi 1)<|Xa rfl<|Xa rfl<|fun _ F568=>?_;clear F535
   refine wpList_nil (hK536 _ _ ?_);clear hK536
   have F569:=F568.k [0,1,2,3,4,20,10,32,36,11,12];clear F568
   refine wp_seq_k fun K570 hK570=>?_
   have hx572:∃ W,w528.drew=W∧Ext w528 W:=⟨_,rfl,(Ext.refl _).drew⟩
   obtain ⟨w571,e573,hx572⟩:=hx572
   have z574:=hx572.size
   refine any_start (fun W=>True) (fun i=>false) 8 (.replicate 8 false) rfl rfl rfl ?_
   rw [e573];clear e573
   refine F569.ym 0 rfl<|Ym 1 rfl<|Ym 2 rfl<|Yw 3 (vl A1 0 c1) rfl (fun F W=>rn_sliceHi Tryd.underlying22 inf66 (F.get rfl) (F.get rfl) (by omega:(0:Int)≤0) (by omega:(0:Int)≤((c1:Nat):Int)))<|Ym 4 rfl<|Ym 5 rfl<|Yw 6 (vl B1 1 d1) rfl (fun F W=>rn_sliceHi Tryd.underlying22 inf66 (F.get rfl) (F.get rfl) (by omega:(0:Int)≤1) (by omega:(1:Int)≤((d1:Nat):Int)))<|fun _ F588=>?_;clear F569
   refine ao 7 rfl ?_
   have d589:=(RLs.ext rIt (RLs.ext rIt (RLs.ext rIt (RLs.ext rIt (RLs.ext rIt hf8 hx470) hx519) hx524) hx529) hx572)
   have d590:=(RLs.ext rIt (RLs.ext rIt (RLs.ext rIt (RLs.ext rIt (RLs.ext rIt hf9 hx470) hx519) hx524) hx529) hx572)
   have hf591:=(mrg_gt (na:=It.name) (nb:=It.name) (a:=a1) (b:=b1) hi285 hi298 hc306 hc468)
   have hf592:=hJ _ _ _ hf10 ((((((Ext.refl w2).trans hx470).trans hx519).trans hx524).trans hx529).trans hx572)
   have hf593:=(FarX.ext hf11 ((((((Ext.refl w2).trans hx470).trans hx519).trans hx524).trans hx529).trans hx572))
   have hf594:=(RLs.take d589 (by omega:0≤a1.length))
   have hf595:=(RLs.take d590 (by omega:1≤b1.length))
   have hf596:=RLs.norm d589
   have hf597:=RLs.norm d590
   refine o_call F588 rfl rfl rfl rfl (rn_callvc (F588.get rfl) (argsw_2 harg (F588.get rfl) (F588.get rfl)) (hen _ _)) (hp ps _ _ (a1.take 0) (b1.take 1) _ hf592 hf594 hf595 (by rw [List.length_take];omega) (by rw [List.length_take];omega) (fun q=>by have q1:=congrArg List.length q.1;have q2:=congrArg List.length q.2;simp only [List.length_take,List.length_nil] at q1 q2;omega) (sub_take hp7 _) (sub_take hp6 _) (mrg_room hp5 hf591 hN)) ?_
   rintro _ w598 ⟨rfl,hj599,hP600⟩
   refine ⟨_,rfl,?_⟩;intro a602 F603;clear F588
   have hf604:=(FarX.trans hf593 hP600)
   have hf605:=RLs.pres rIt hf596 hP600.1
   have hf606:=RLs.pres rIt hf597 hP600.1
   refine ⟨fun _ _=>trivial,?_⟩
   refine nn (hK570 _ _ ?_);clear hK570
   have F607:=F603.k [0,1,2,3,4,20,10,32,36,11,12];clear F603
   have hx609:∃ W,w598.drew=W∧Ext w598 W:=⟨_,rfl,(Ext.refl _).drew⟩
   obtain ⟨w608,e610,hx609⟩:=hx609
   have z611:=hx609.size
   refine any_start (fun W=>Ext w608 W) (fun i=>false) 8 (.replicate 8 false) rfl rfl rfl ?_
   rw [e610];clear e610
   refine F607.ym 0 rfl<|Ym 1 rfl<|Yv 2 (vl (cutA A1 c1 0 2) (a1.length - 0) (c1 - 0)) rfl<|Ym 3 rfl<|Ym 4 rfl<|Yv 5 (vl (cutA B1 d1 1 2) (b1.length - 1) (d1 - 1)) rfl<|Yv 6 (vl (cutA A1 c1 0 2) (a1.length - 0) (c1 - 0)) rfl<|Yv 7 (vl (cutA B1 d1 1 2) (b1.length - 1) (d1 - 1)) rfl<|fun _ F627=>?_;clear F607
   refine nn ?_
   have d628:=(RLs.ext rIt hf605 hx609)
   have d629:=(RLs.ext rIt hf606 hx609)
   refine ⟨⟨(a1.drop 0),(b1.drop 1),(cutA A1 c1 0 2),c1 - 0,(cutA B1 d1 1 2),d1 - 1,(ps++[((a1.take 0).head?,(b1.take 1).head?)]),F627.j,(by rw [List.append_assoc];exact (congrArg (fun z=>ps++z) hf591.symm).trans hp5),(sub_drop hp6 _),(sub_drop hp7 _),trivial,(RLs.norm (RLs.cut d628 (by omega:0≤a1.length))),(RLs.norm (RLs.cut d629 (by omega:1≤b1.length))),(hJ _ _ _ hj599 ((Ext.refl w598).trans hx609)),(FarX.ext hf604 ((Ext.refl w598).trans hx609))⟩,?_⟩
   rw [F627.get (t:=0) rfl,F627.get (t:=1) rfl,hL12.get (t:=0) rfl,hL12.get (t:=1) rfl];simp only [sliceLen];omega
  have hx631:∃ W,w2.drew=W∧Ext w2 W:=⟨_,rfl,(Ext.refl _).drew⟩
  obtain ⟨w630,e632,hx631⟩:=hx631
  have z633:=hx631.size
  refine any_start (fun W=>Ext w630 W) (fun i=>false) 12 (.replicate 12 false) rfl rfl rfl ?_
  rw [e632];clear e632
  refine F169.ym 0 rfl<|Ym 1 rfl<|fun _ F637=>?_;clear F169
  have d638:=(RLs.ext rIt hf8 hx631)
  obtain ⟨b639,o640,x641,cs642,hA643,hi644,hk645,hc646,hr647⟩:=RLs.get d638 (by omega:0<a1.length)
  obtain rfl:x282=x641:=Option.some.inj (hi285.symm.trans hi644)
  obtain ⟨A648,c649,rfl,hd650⟩:=hr647
  have z651:=(Fl.cel hd650).2.1
  refine F637.yw 2 (.pointer (some ⟨b639,o640+0*2,none⟩)) rfl (fun F W=>rn_indexE Tryd.underlying22 inf66 ((F.get rfl).trans (by rw [hA643])) rfl (by omega:(0:Int)≤0) (by omega:(0:Int)<((a1.length:Nat):Int)) (by omega))<|fun _ F653=>?_;clear F637
  have hS654:Ext w630 w630:=(Ext.refl w630)
  refine F653.ys 3 (.agg #[(strOf x282.name),(vl A648 x282.data.length c649)]) rfl hS654 (fun F W hW=>rn_loadN (cs:=[(strOf x282.name),(vl A648 x282.data.length c649)]) (F.get rfl) Tryd.underlying66 rfl inf66 (fun j u hu=>Ext.keep ((Ext.refl w630).trans hW) (hc646 j u hu)))<|Ym 5 rfl<|Ym 6 rfl<|fun _ F660=>?_;clear F653
  have d661:=(RLs.ext rIt hf9 hx631)
  obtain ⟨b662,o663,x664,cs665,hA666,hi667,hk668,hc669,hr670⟩:=RLs.get d661 (by omega:0<b1.length)
  obtain rfl:x295=x664:=Option.some.inj (hi298.symm.trans hi667)
  obtain ⟨A671,c672,rfl,hd673⟩:=hr670
  have z674:=(Fl.cel hd673).2.1
  refine F660.yw 7 (.pointer (some ⟨b662,o663+0*2,none⟩)) rfl (fun F W=>rn_indexE Tryd.underlying22 inf66 ((F.get rfl).trans (by rw [hA666])) rfl (by omega:(0:Int)≤0) (by omega:(0:Int)<((b1.length:Nat):Int)) (by omega))<|Ys 8 (.agg #[(strOf x295.name),(vl A671 x295.data.length c672)]) rfl hS654 (fun F W hW=>rn_loadN (cs:=[(strOf x295.name),(vl A671 x295.data.length c672)]) (F.get rfl) Tryd.underlying66 rfl inf66 (fun j u hu=>Ext.keep ((Ext.refl w630).trans hW) (hc669 j u hu)))<|fun _ F678=>?_;clear F660
  refine ao 4 rfl ?_
  refine o_call F678 rfl rfl rfl rfl (rn_callv (F678.get rfl) (args0_1 (F678.get rfl)) (by kernel_rfl)) (itemName_any x282.name (vl A648 x282.data.length c649) _) ?_
  rintro _ w679 ⟨rfl,hx680⟩
  refine ⟨_,rfl,?_⟩;intro a681 F682;clear F678;have z683:=hx680.size
  refine ⟨fun _ _=>((Ext.refl w630).trans hx680),?_⟩
  refine ao 9 rfl ?_
  refine o_call F682 rfl rfl rfl rfl (rn_callv (F682.get rfl) (args0_1 (F682.get rfl)) (by kernel_rfl)) (itemName_any x295.name (vl A671 x295.data.length c672) _) ?_
  rintro _ w684 ⟨rfl,hx685⟩
  refine ⟨_,rfl,?_⟩;intro a686 F687;clear F682;have z688:=hx685.size
  refine ⟨fun _ _=>(((Ext.refl w630).trans hx680).trans hx685),?_⟩
  refine ao 10 rfl ?_
  refine F687.oc (cmps_eq x282.name x295.name _ hc306 hc468) ?_
  rintro _ w689 ⟨rfl,hx690⟩
  refine ⟨_,rfl,?_⟩;intro a691 F692;clear F687;have z693:=hx690.size
  refine ⟨fun _ _=>((((Ext.refl w630).trans hx680).trans hx685).trans hx690),?_⟩
  refine F692.yv 11 (vi 0) rfl<|fun _ F695=>?_;clear F692
  refine nn (hK40 _ _ ?_);clear hK40
  have F696:=F695.k [0,1,2,3,4,20,10,32,36];clear F695
  refine wr fun K697 hK697=>?_
  refine F696.xm rfl<|Xv (vi (a1.length:Nat))<|Xm rfl<|Xv (vi 0)<|Xv (vi 1)<|Xv (vi 1)<|Xv (vi 1)<|Xm rfl<|Xv (vi (b1.length:Nat))<|Xm rfl<|Xv (vi 0)<|Xv (vi 1)<|Xv (vi 1)<|Xv (vi 1)<|Xa rfl<|Xa rfl<|fun _ F729=>?_;clear F696
  refine wpList_nil (hK697 _ _ ?_);clear hK697
  have F730:=F729.k [0,1,2,3,4,20,10,32,36,11,12];clear F729
  refine wp_seq_k fun K731 hK731=>?_
  have hx733:∃ W,w689.drew=W∧Ext w689 W:=⟨_,rfl,(Ext.refl _).drew⟩
  obtain ⟨w732,e734,hx733⟩:=hx733
  have z735:=hx733.size
  refine any_start (fun W=>True) (fun i=>false) 8 (.replicate 8 false) rfl rfl rfl ?_
  rw [e734];clear e734
  refine F730.ym 0 rfl<|Ym 1 rfl<|Ym 2 rfl<|Yw 3 (vl A1 1 c1) rfl (fun F W=>rn_sliceHi Tryd.underlying22 inf66 (F.get rfl) (F.get rfl) (by omega:(0:Int)≤1) (by omega:(1:Int)≤((c1:Nat):Int)))<|Ym 4 rfl<|Ym 5 rfl<|Yw 6 (vl B1 1 d1) rfl (fun F W=>rn_sliceHi Tryd.underlying22 inf66 (F.get rfl) (F.get rfl) (by omega:(0:Int)≤1) (by omega:(1:Int)≤((d1:Nat):Int)))<|fun _ F749=>?_;clear F730
  refine ao 7 rfl ?_
  have d750:=(RLs.ext rIt (RLs.ext rIt (RLs.ext rIt (RLs.ext rIt (RLs.ext rIt hf8 hx631) hx680) hx685) hx690) hx733)
  have d751:=(RLs.ext rIt (RLs.ext rIt (RLs.ext rIt (RLs.ext rIt (RLs.ext rIt hf9 hx631) hx680) hx685) hx690) hx733)
  have hf752:=(mrg_eq (na:=It.name) (nb:=It.name) (a:=a1) (b:=b1) hi285 hi298 hc306 hc468)
  have hf753:=hJ _ _ _ hf10 ((((((Ext.refl w2).trans hx631).trans hx680).trans hx685).trans hx690).trans hx733)
  have hf754:=(FarX.ext hf11 ((((((Ext.refl w2).trans hx631).trans hx680).trans hx685).trans hx690).trans hx733))
  have hf755:=(RLs.take d750 (by omega:1≤a1.length))
  have hf756:=(RLs.take d751 (by omega:1≤b1.length))
  have hf757:=RLs.norm d750
  have hf758:=RLs.norm d751
  refine o_call F749 rfl rfl rfl rfl (rn_callvc (F749.get rfl) (argsw_2 harg (F749.get rfl) (F749.get rfl)) (hen _ _)) (hp ps _ _ (a1.take 1) (b1.take 1) _ hf753 hf755 hf756 (by rw [List.length_take];omega) (by rw [List.length_take];omega) (fun q=>by have q1:=congrArg List.length q.1;have q2:=congrArg List.length q.2;simp only [List.length_take,List.length_nil] at q1 q2;omega) (sub_take hp7 _) (sub_take hp6 _) (mrg_room hp5 hf752 hN)) ?_
  rintro _ w759 ⟨rfl,hj760,hP761⟩
  refine ⟨_,rfl,?_⟩;intro a763 F764;clear F749
  have hf765:=(FarX.trans hf754 hP761)
  have hf766:=RLs.pres rIt hf757 hP761.1
  have hf767:=RLs.pres rIt hf758 hP761.1
  refine ⟨fun _ _=>trivial,?_⟩
  refine nn (hK731 _ _ ?_);clear hK731
  have F768:=F764.k [0,1,2,3,4,20,10,32,36,11,12];clear F764
  have hx770:∃ W,w759.drew=W∧Ext w759 W:=⟨_,rfl,(Ext.refl _).drew⟩
  obtain ⟨w769,e771,hx770⟩:=hx770
  have z772:=hx770.size
  refine any_start (fun W=>Ext w769 W) (fun i=>false) 8 (.replicate 8 false) rfl rfl rfl ?_
  rw [e771];clear e771
  refine F768.ym 0 rfl<|Ym 1 rfl<|Yv 2 (vl (cutA A1 c1 1 2) (a1.length - 1) (c1 - 1)) rfl<|Ym 3 rfl<|Ym 4 rfl<|Yv 5 (vl (cutA B1 d1 1 2) (b1.length - 1) (d1 - 1)) rfl<|Yv 6 (vl (cutA A1 c1 1 2) (a1.length - 1) (c1 - 1)) rfl<|Yv 7 (vl (cutA B1 d1 1 2) (b1.length - 1) (d1 - 1)) rfl<|fun _ F788=>?_;clear F768
  refine nn ?_
  have d789:=(RLs.ext rIt hf766 hx770)
  have d790:=(RLs.ext rIt hf767 hx770)
  refine ⟨⟨(a1.drop 1),(b1.drop 1),(cutA A1 c1 1 2),c1 - 1,(cutA B1 d1 1 2),d1 - 1,(ps++[((a1.take 1).head?,(b1.take 1).head?)]),F788.j,(by rw [List.append_assoc];exact (congrArg (fun z=>ps++z) hf752.symm).trans hp5),(sub_drop hp6 _),(sub_drop hp7 _),trivial,(RLs.norm (RLs.cut d789 (by omega:1≤a1.length))),(RLs.norm (RLs.cut d790 (by omega:1≤b1.length))),(hJ _ _ _ hj760 ((Ext.refl w759).trans hx770)),(FarX.ext hf765 ((Ext.refl w759).trans hx770))⟩,?_⟩
  rw [F788.get (t:=0) rfl,F788.get (t:=1) rfl,hL12.get (t:=0) rfl,hL12.get (t:=1) rfl];simp only [sliceLen];omega
 refine F26.xg (vl B1 b1.length d1)<|Xg (vi (b1.length:Nat))<|Xg (.bool (decide ((0:Int)<((b1.length:Nat):Int))))<|Xv (.bool (decide ((0:Int)<((b1.length:Nat):Int))))<|fun _ F798=>?_;clear F26
 refine wpList_nil (hK18 _ _ ?_);clear hK18
 have F799:=F798.k [0,1,2,3,4,20];clear F798
 by_cases hc800:(0:Int)<((b1.length:Nat):Int)
 ·skip
  refine F799.ct ?_
  refine wp_skip ?_
  refine hK17 _ _ ?_;clear hK17
  refine wp_block ?_
  refine wr fun K801 hK801=>?_
  refine F799.xv (vi 0)<|fun _ F803=>?_;clear F799
  refine wpList_nil (hK801 _ _ ?_);clear hK801
  refine wp_seq_k fun K804 hK804=>?_
  refine wp_block ?_
  refine wr fun K805 hK805=>?_
  refine F803.xm rfl<|Xv (vi (b1.length:Nat))<|Xv (.bool (decide (((b1.length:Nat):Int)=(0:Int))))<|Xa rfl<|fun _ F813=>?_;clear F803
  refine wpList_nil (hK805 _ _ ?_);clear hK805
  by_cases hc814:((b1.length:Nat):Int)=(0:Int)
  ·skip
   refine F813.ct ?_
   refine wp_region_lit ?_
   refine F813.xv (vi (-1))<|fun _ F816=>?_;clear F813
   refine wpList_nil (hK804 _ _ ?_);clear hK804
   refine wp_seq_k fun K817 hK817=>?_
   obtain ⟨b818,o819,x820,cs821,hA822,hi823,hk824,hc825,hr826⟩:=RLs.get hf8 (by omega:0<a1.length)
   obtain ⟨A827,c828,rfl,hd829⟩:=hr826
   have z830:=(Fl.cel hd829).2.1
   refine wp_region_lit ?_
   refine F816.xm rfl<|Xv (vi (a1.length:Nat))<|Xm rfl<|Xv (vi 0)<|Xv (vi 1)<|Xv (vi 1)<|Xv (vi 1)<|Xm rfl<|Xv (vi (b1.length:Nat))<|Xm rfl<|Xv (vi (-1))<|Xv (vi 0)<|Xv (vi 0)<|Xv (vi 0)<|Xa rfl<|Xa rfl<|fun _ F862=>?_;clear F816
   refine wpList_nil (hK817 _ _ ?_);clear hK817
   have F863:=F862.k [0,1,2,3,4,20,10,32,11,12];clear F862
   refine wp_seq_k fun K864 hK864=>?_
   have hx866:∃ W,w2.drew=W∧Ext w2 W:=⟨_,rfl,(Ext.refl _).drew⟩
   obtain ⟨w865,e867,hx866⟩:=hx866
   have z868:=hx866.size
   refine any_start (fun W=>True) (fun i=>false) 8 (.replicate 8 false) rfl rfl rfl ?_
   rw [e867];clear e867
   refine F863.ym 0 rfl<|Ym 1 rfl<|Ym 2 rfl<|Yw 3 (vl A1 1 c1) rfl (fun F W=>rn_sliceHi Tryd.underlying22 inf66 (F.get rfl) (F.get rfl) (by omega:(0:Int)≤1) (by omega:(1:Int)≤((c1:Nat):Int)))<|Ym 4 rfl<|Ym 5 rfl<|Yw 6 (vl B1 0 d1) rfl (fun F W=>rn_sliceHi Tryd.underlying22 inf66 (F.get rfl) (F.get rfl) (by omega:(0:Int)≤0) (by omega:(0:Int)≤((d1:Nat):Int)))<|fun _ F882=>?_;clear F863
   refine ao 7 rfl ?_
   have d883:=(RLs.ext rIt hf8 hx866)
   have d884:=(RLs.ext rIt hf9 hx866)
   have hf885:=(mrg_l0 (na:=It.name) (nb:=It.name) (a:=a1) (b:=b1) hi823 (by omega))
   have hf886:=hJ _ _ _ hf10 ((Ext.refl w2).trans hx866)
   have hf887:=(FarX.ext hf11 ((Ext.refl w2).trans hx866))
   have hf888:=(RLs.take d883 (by omega:1≤a1.length))
   have hf889:=(RLs.take d884 (by omega:0≤b1.length))
   have hf890:=RLs.norm d883
   have hf891:=RLs.norm d884
   refine o_call F882 rfl rfl rfl rfl (rn_callvc (F882.get rfl) (argsw_2 harg (F882.get rfl) (F882.get rfl)) (hen _ _)) (hp ps _ _ (a1.take 1) (b1.take 0) _ hf886 hf888 hf889 (by rw [List.length_take];omega) (by rw [List.length_take];omega) (fun q=>by have q1:=congrArg List.length q.1;have q2:=congrArg List.length q.2;simp only [List.length_take,List.length_nil] at q1 q2;omega) (sub_take hp7 _) (sub_take hp6 _) (mrg_room hp5 hf885 hN)) ?_
   rintro _ w892 ⟨rfl,hj893,hP894⟩
   refine ⟨_,rfl,?_⟩;intro a896 F897;clear F882
   have hf898:=(FarX.trans hf887 hP894)
   have hf899:=RLs.pres rIt hf890 hP894.1
   have hf900:=RLs.pres rIt hf891 hP894.1
   refine ⟨fun _ _=>trivial,?_⟩
   refine nn (hK864 _ _ ?_);clear hK864
   have F901:=F897.k [0,1,2,3,4,20,10,32,11,12];clear F897
   have hx903:∃ W,w892.drew=W∧Ext w892 W:=⟨_,rfl,(Ext.refl _).drew⟩
   obtain ⟨w902,e904,hx903⟩:=hx903
   have z905:=hx903.size
   refine any_start (fun W=>Ext w902 W) (fun i=>false) 8 (.replicate 8 false) rfl rfl rfl ?_
   rw [e904];clear e904
   refine F901.ym 0 rfl<|Ym 1 rfl<|Yv 2 (vl (cutA A1 c1 1 2) (a1.length - 1) (c1 - 1)) rfl<|Ym 3 rfl<|Ym 4 rfl<|Yv 5 (vl (cutA B1 d1 0 2) (b1.length - 0) (d1 - 0)) rfl<|Yv 6 (vl (cutA A1 c1 1 2) (a1.length - 1) (c1 - 1)) rfl<|Yv 7 (vl (cutA B1 d1 0 2) (b1.length - 0) (d1 - 0)) rfl<|fun _ F921=>?_;clear F901
   refine nn ?_
   have d922:=(RLs.ext rIt hf899 hx903)
   have d923:=(RLs.ext rIt hf900 hx903)
   refine ⟨⟨(a1.drop 1),(b1.drop 0),(cutA A1 c1 1 2),c1 - 1,(cutA B1 d1 0 2),d1 - 0,(ps++[((a1.take 1).head?,(b1.take 0).head?)]),F921.j,(by rw [List.append_assoc];exact (congrArg (fun z=>ps++z) hf885.symm).trans hp5),(sub_drop hp6 _),(sub_drop hp7 _),trivial,(RLs.norm (RLs.cut d922 (by omega:1≤a1.length))),(RLs.norm (RLs.cut d923 (by omega:0≤b1.length))),(hJ _ _ _ hj893 ((Ext.refl w892).trans hx903)),(FarX.ext hf898 ((Ext.refl w892).trans hx903))⟩,?_⟩
   rw [F921.get (t:=0) rfl,F921.get (t:=1) rfl,hL12.get (t:=0) rfl,hL12.get (t:=1) rfl];simp only [sliceLen];omega
  refine F813.cf ?_
  refine wr fun K924 hK924=>?_
  refine F813.xm rfl<|Xv (vi (a1.length:Nat))<|Xv (.bool (decide (((a1.length:Nat):Int)=(0:Int))))<|Xa rfl<|fun _ F932=>?_;clear F813
  refine wpList_nil (hK924 _ _ ?_);clear hK924
  have F933:=F932.k [0,1,2,3,4,20,10,32,36];clear F932
  by_cases hc934:((a1.length:Nat):Int)=(0:Int)
  ·skip
   refine F933.ct ?_
   refine wp_region_lit ?_
   refine F933.xv (vi 1)<|fun _ F936=>?_;clear F933
   refine wpList_nil (hK804 _ _ ?_);clear hK804
   refine wp_seq_k fun K937 hK937=>?_
   obtain ⟨b938,o939,x940,cs941,hA942,hi943,hk944,hc945,hr946⟩:=RLs.get hf9 (by omega:0<b1.length)
   obtain ⟨A947,c948,rfl,hd949⟩:=hr946
   have z950:=(Fl.cel hd949).2.1
   refine wp_region_lit ?_
   refine F936.xm rfl<|Xv (vi (a1.length:Nat))<|Xm rfl<|Xv (vi 1)<|Xv (vi 0)<|Xv (vi 0)<|Xv (vi 0)<|Xm rfl<|Xv (vi (b1.length:Nat))<|Xm rfl<|Xv (vi 0)<|Xv (vi 1)<|Xv (vi 1)<|Xv (vi 1)<|Xa rfl<|Xa rfl<|fun _ F982=>?_;clear F936
   refine wpList_nil (hK937 _ _ ?_);clear hK937
   have F983:=F982.k [0,1,2,3,4,20,10,32,36,11,12];clear F982
   refine wp_seq_k fun K984 hK984=>?_
   have hx986:∃ W,w2.drew=W∧Ext w2 W:=⟨_,rfl,(Ext.refl _).drew⟩
   obtain ⟨w985,e987,hx986⟩:=hx986
   have z988:=hx986.size
   refine any_start (fun W=>True) (fun i=>false) 8 (.replicate 8 false) rfl rfl rfl ?_
   rw [e987];clear e987
   refine F983.ym 0 rfl<|Ym 1 rfl<|Ym 2 rfl<|Yw 3 (vl A1 0 c1) rfl (fun F W=>rn_sliceHi Tryd.underlying22 inf66 (F.get rfl) (F.get rfl) (by omega:(0:Int)≤0) (by omega:(0:Int)≤((c1:Nat):Int)))<|Ym 4 rfl<|Ym 5 rfl<|Yw 6 (vl B1 1 d1) rfl (fun F W=>rn_sliceHi Tryd.underlying22 inf66 (F.get rfl) (F.get rfl) (by omega:(0:Int)≤1) (by omega:(1:Int)≤((d1:Nat):Int)))<|fun _ F1002=>?_;clear F983
   refine ao 7 rfl ?_
   have d1003:=(RLs.ext rIt hf8 hx986)
   have d1004:=(RLs.ext rIt hf9 hx986)
   have hf1005:=(mrg_0r (na:=It.name) (nb:=It.name) (a:=a1) (b:=b1) hi943 (by omega))
   have hf1006:=hJ _ _ _ hf10 ((Ext.refl w2).trans hx986)
   have hf1007:=(FarX.ext hf11 ((Ext.refl w2).trans hx986))
   have hf1008:=(RLs.take d1003 (by omega:0≤a1.length))
   have hf1009:=(RLs.take d1004 (by omega:1≤b1.length))
   have hf1010:=RLs.norm d1003
   have hf1011:=RLs.norm d1004
   refine o_call F1002 rfl rfl rfl rfl (rn_callvc (F1002.get rfl) (argsw_2 harg (F1002.get rfl) (F1002.get rfl)) (hen _ _)) (hp ps _ _ (a1.take 0) (b1.take 1) _ hf1006 hf1008 hf1009 (by rw [List.length_take];omega) (by rw [List.length_take];omega) (fun q=>by have q1:=congrArg List.length q.1;have q2:=congrArg List.length q.2;simp only [List.length_take,List.length_nil] at q1 q2;omega) (sub_take hp7 _) (sub_take hp6 _) (mrg_room hp5 hf1005 hN)) ?_
   rintro _ w1012 ⟨rfl,hj1013,hP1014⟩
   refine ⟨_,rfl,?_⟩;intro a1016 F1017;clear F1002
   have hf1018:=(FarX.trans hf1007 hP1014)
   have hf1019:=RLs.pres rIt hf1010 hP1014.1
   have hf1020:=RLs.pres rIt hf1011 hP1014.1
   refine ⟨fun _ _=>trivial,?_⟩
   refine nn (hK984 _ _ ?_);clear hK984
   have F1021:=F1017.k [0,1,2,3,4,20,10,32,36,11,12];clear F1017
   have hx1023:∃ W,w1012.drew=W∧Ext w1012 W:=⟨_,rfl,(Ext.refl _).drew⟩
   obtain ⟨w1022,e1024,hx1023⟩:=hx1023
   have z1025:=hx1023.size
   refine any_start (fun W=>Ext w1022 W) (fun i=>false) 8 (.replicate 8 false) rfl rfl rfl ?_
   rw [e1024];clear e1024
   refine F1021.ym 0 rfl<|Ym 1 rfl<|Yv 2 (vl (cutA A1 c1 0 2) (a1.length - 0) (c1 - 0)) rfl<|Ym 3 rfl<|Ym 4 rfl<|Yv 5 (vl (cutA B1 d1 1 2) (b1.length - 1) (d1 - 1)) rfl<|Yv 6 (vl (cutA A1 c1 0 2) (a1.length - 0) (c1 - 0)) rfl<|Yv 7 (vl (cutA B1 d1 1 2) (b1.length - 1) (d1 - 1)) rfl<|fun _ F1041=>?_;clear F1021
   refine nn ?_
   have d1042:=(RLs.ext rIt hf1019 hx1023)
   have d1043:=(RLs.ext rIt hf1020 hx1023)
   refine ⟨⟨(a1.drop 0),(b1.drop 1),(cutA A1 c1 0 2),c1 - 0,(cutA B1 d1 1 2),d1 - 1,(ps++[((a1.take 0).head?,(b1.take 1).head?)]),F1041.j,(by rw [List.append_assoc];exact (congrArg (fun z=>ps++z) hf1005.symm).trans hp5),(sub_drop hp6 _),(sub_drop hp7 _),trivial,(RLs.norm (RLs.cut d1042 (by omega:0≤a1.length))),(RLs.norm (RLs.cut d1043 (by omega:1≤b1.length))),(hJ _ _ _ hj1013 ((Ext.refl w1012).trans hx1023)),(FarX.ext hf1018 ((Ext.refl w1012).trans hx1023))⟩,?_⟩
   rw [F1041.get (t:=0) rfl,F1041.get (t:=1) rfl,hL12.get (t:=0) rfl,hL12.get (t:=1) rfl];simp only [sliceLen];omega
  refine F933.cf ?_
  obtain ⟨b1044,o1045,x1046,cs1047,hA1048,hi1049,hk1050,hc1051,hr1052⟩:=RLs.get hf8 (by omega:0<a1.length)
  obtain ⟨A1053,c1054,rfl,hd1055⟩:=hr1052
  have z1056:=(Fl.cel hd1055).2.1
  obtain ⟨b1057,o1058,x1059,cs1060,hA1061,hi1062,hk1063,hc1064,hr1065⟩:=RLs.get hf9 (by omega:0<b1.length)
  obtain ⟨A1066,c1067,rfl,hd1068⟩:=hr1065
  have z1069:=(Fl.cel hd1068).2.1
  rcases Bool.eq_false_or_eq_true (ltS x1046.name x1059.name) with hc1070 | hc1070
  ·skip
   have hx1072:∃ W,w2.drew=W∧Ext w2 W:=⟨_,rfl,(Ext.refl _).drew⟩
   obtain ⟨w1071,e1073,hx1072⟩:=hx1072
   have z1074:=hx1072.size
   refine any_start (fun W=>Ext w1071 W) (fun i=>false) 12 (.replicate 12 false) rfl rfl rfl ?_
   rw [e1073];clear e1073
   refine F933.ym 0 rfl<|Ym 1 rfl<|fun _ F1078=>?_;clear F933
   have d1079:=(RLs.ext rIt hf8 hx1072)
   obtain ⟨b1080,o1081,x1082,cs1083,hA1084,hi1085,hk1086,hc1087,hr1088⟩:=RLs.get d1079 (by omega:0<a1.length)
   obtain rfl:x1046=x1082:=Option.some.inj (hi1049.symm.trans hi1085)
   obtain ⟨A1089,c1090,rfl,hd1091⟩:=hr1088
   have z1092:=(Fl.cel hd1091).2.1
   refine F1078.yw 2 (.pointer (some ⟨b1080,o1081+0*2,none⟩)) rfl (fun F W=>rn_indexE Tryd.underlying22 inf66 ((F.get rfl).trans (by rw [hA1084])) rfl (by omega:(0:Int)≤0) (by omega:(0:Int)<((a1.length:Nat):Int)) (by omega))<|fun _ F1094=>?_;clear F1078
   have hS1095:Ext w1071 w1071:=(Ext.refl w1071)
   refine F1094.ys 3 (.agg #[(strOf x1046.name),(vl A1089 x1046.data.length c1090)]) rfl hS1095 (fun F W hW=>rn_loadN (cs:=[(strOf x1046.name),(vl A1089 x1046.data.length c1090)]) (F.get rfl) Tryd.underlying66 rfl inf66 (fun j u hu=>Ext.keep ((Ext.refl w1071).trans hW) (hc1087 j u hu)))<|Ym 5 rfl<|Ym 6 rfl<|fun _ F1101=>?_;clear F1094
   have d1102:=(RLs.ext rIt hf9 hx1072)
   obtain ⟨b1103,o1104,x1105,cs1106,hA1107,hi1108,hk1109,hc1110,hr1111⟩:=RLs.get d1102 (by omega:0<b1.length)
   obtain rfl:x1059=x1105:=Option.some.inj (hi1062.symm.trans hi1108)
   obtain ⟨A1112,c1113,rfl,hd1114⟩:=hr1111
   have z1115:=(Fl.cel hd1114).2.1
   refine F1101.yw 7 (.pointer (some ⟨b1103,o1104+0*2,none⟩)) rfl (fun F W=>rn_indexE Tryd.underlying22 inf66 ((F.get rfl).trans (by rw [hA1107])) rfl (by omega:(0:Int)≤0) (by omega:(0:Int)<((b1.length:Nat):Int)) (by omega))<|Ys 8 (.agg #[(strOf x1059.name),(vl A1112 x1059.data.length c1113)]) rfl hS1095 (fun F W hW=>rn_loadN (cs:=[(strOf x1059.name),(vl A1112 x1059.data.length c1113)]) (F.get rfl) Tryd.underlying66 rfl inf66 (fun j u hu=>Ext.keep ((Ext.refl w1071).trans hW) (hc1110 j u hu)))<|fun _ F1119=>?_;clear F1101
   refine ao 4 rfl ?_
   refine o_call F1119 rfl rfl rfl rfl (rn_callv (F1119.get rfl) (args0_1 (F1119.get rfl)) (by kernel_rfl)) (itemName_any x1046.name (vl A1089 x1046.data.length c1090) _) ?_
   rintro _ w1120 ⟨rfl,hx1121⟩
   refine ⟨_,rfl,?_⟩;intro a1122 F1123;clear F1119;have z1124:=hx1121.size
   refine ⟨fun _ _=>((Ext.refl w1071).trans hx1121),?_⟩
   refine ao 9 rfl ?_
   refine o_call F1123 rfl rfl rfl rfl (rn_callv (F1123.get rfl) (args0_1 (F1123.get rfl)) (by kernel_rfl)) (itemName_any x1059.name (vl A1112 x1059.data.length c1113) _) ?_
   rintro _ w1125 ⟨rfl,hx1126⟩
   refine ⟨_,rfl,?_⟩;intro a1127 F1128;clear F1123;have z1129:=hx1126.size
   refine ⟨fun _ _=>(((Ext.refl w1071).trans hx1121).trans hx1126),?_⟩
   refine ao 10 rfl ?_
   refine F1128.oc (cmps_lt x1046.name x1059.name _ hc1070) ?_
   rintro _ w1130 ⟨rfl,hx1131⟩
   refine ⟨_,rfl,?_⟩;intro a1132 F1133;clear F1128;have z1134:=hx1131.size
   refine ⟨fun _ _=>((((Ext.refl w1071).trans hx1121).trans hx1126).trans hx1131),?_⟩
   refine F1133.yv 11 (vi (-1)) rfl<|fun _ F1136=>?_;clear F1133
   refine nn (hK804 _ _ ?_);clear hK804
   have F1137:=F1136.k [0,1,2,3,4,20,10,32,36];clear F1136
   refine wr fun K1138 hK1138=>?_
   refine F1137.xm rfl<|Xv (vi (a1.length:Nat))<|Xm rfl<|Xv (vi 0)<|Xv (vi 1)<|Xv (vi 1)<|Xv (vi 1)<|Xm rfl<|Xv (vi (b1.length:Nat))<|Xm rfl<|Xv (vi (-1))<|Xv (vi 0)<|Xv (vi 0)<|Xv (vi 0)<|Xa rfl<|Xa rfl<|fun _ F1170=>?_;clear F1137
   refine wpList_nil (hK1138 _ _ ?_);clear hK1138
   have F1171:=F1170.k [0,1,2,3,4,20,10,32,36,11,12];clear F1170
   refine wp_seq_k fun K1172 hK1172=>?_
   have hx1174:∃ W,w1130.drew=W∧Ext w1130 W:=⟨_,rfl,(Ext.refl _).drew⟩
   obtain ⟨w1173,e1175,hx1174⟩:=hx1174
   have z1176:=hx1174.size
   refine any_start (fun W=>True) (fun i=>false) 8 (.replicate 8 false) rfl rfl rfl ?_
   rw [e1175];clear e1175
   refine F1171.ym 0 rfl<|Ym 1 rfl<|Ym 2 rfl<|Yw 3 (vl A1 1 c1) rfl (fun F W=>rn_sliceHi Tryd.underlying22 inf66 (F.get rfl) (F.get rfl) (by omega:(0:Int)≤1) (by omega:(1:Int)≤((c1:Nat):Int)))<|Ym 4 rfl<|Ym 5 rfl<|Yw 6 (vl B1 0 d1) rfl (fun F W=>rn_sliceHi Tryd.underlying22 inf66 (F.get rfl) (F.get rfl) (by omega:(0:Int)≤0) (by omega:(0:Int)≤((d1:Nat):Int)))<|fun _ F1190=>?_;clear F1171
   refine ao 7 rfl ?_
   have d1191:=(RLs.ext rIt (RLs.ext rIt (RLs.ext rIt (RLs.ext rIt (RLs.ext rIt hf8 hx1072) hx1121) hx1126) hx1131) hx1174)
   have d1192:=(RLs.ext rIt (RLs.ext rIt (RLs.ext rIt (RLs.ext rIt (RLs.ext rIt hf9 hx1072) hx1121) hx1126) hx1131) hx1174)
   have hf1193:=(mrg_lt (na:=It.name) (nb:=It.name) (a:=a1) (b:=b1) hi1049 hi1062 hc1070)
   have hf1194:=hJ _ _ _ hf10 ((((((Ext.refl w2).trans hx1072).trans hx1121).trans hx1126).trans hx1131).trans hx1174)
   have hf1195:=(FarX.ext hf11 ((((((Ext.refl w2).trans hx1072).trans hx1121).trans hx1126).trans hx1131).trans hx1174))
   have hf1196:=(RLs.take d1191 (by omega:1≤a1.length))
   have hf1197:=(RLs.take d1192 (by omega:0≤b1.length))
   have hf1198:=RLs.norm d1191
   have hf1199:=RLs.norm d1192
   refine o_call F1190 rfl rfl rfl rfl (rn_callvc (F1190.get rfl) (argsw_2 harg (F1190.get rfl) (F1190.get rfl)) (hen _ _)) (hp ps _ _ (a1.take 1) (b1.take 0) _ hf1194 hf1196 hf1197 (by rw [List.length_take];omega) (by rw [List.length_take];omega) (fun q=>by have q1:=congrArg List.length q.1;have q2:=congrArg List.length q.2;simp only [List.length_take,List.length_nil] at q1 q2;omega) (sub_take hp7 _) (sub_take hp6 _) (mrg_room hp5 hf1193 hN)) ?_
   rintro _ w1200 ⟨rfl,hj1201,hP1202⟩
   refine ⟨_,rfl,?_⟩;intro a1204 F1205;clear F1190
   have hf1206:=(FarX.trans hf1195 hP1202)
   have hf1207:=RLs.pres rIt hf1198 hP1202.1
   have hf1208:=RLs.pres rIt hf1199 hP1202.1
   refine ⟨fun _ _=>trivial,?_⟩
   refine nn (hK1172 _ _ ?_);clear hK1172
   have F1209:=F1205.k [0,1,2,3,4,20,10,32,36,11,12];clear F1205
   have hx1211:∃ W,w1200.drew=W∧Ext w1200 W:=⟨_,rfl,(Ext.refl _).drew⟩
   obtain ⟨w1210,e1212,hx1211⟩:=hx1211
   have z1213:=hx1211.size
   refine any_start (fun W=>Ext w1210 W) (fun i=>false) 8 (.replicate 8 false) rfl rfl rfl ?_
   rw [e1212];clear e1212
   refine F1209.ym 0 rfl<|Ym 1 rfl<|Yv 2 (vl (cutA A1 c1 1 2) (a1.length - 1) (c1 - 1)) rfl<|Ym 3 rfl<|Ym 4 rfl<|Yv 5 (vl (cutA B1 d1 0 2) (b1.length - 0) (d1 - 0)) rfl<|Yv 6 (vl (cutA A1 c1 1 2) (a1.length - 1) (c1 - 1)) rfl<|Yv 7 (vl (cutA B1 d1 0 2) (b1.length - 0) (d1 - 0)) rfl<|fun _ F1229=>?_;clear F1209
   refine nn ?_
   have d1230:=(RLs.ext rIt hf1207 hx1211)
   have d1231:=(RLs.ext rIt hf1208 hx1211)
   refine ⟨⟨(a1.drop 1),(b1.drop 0),(cutA A1 c1 1 2),c1 - 1,(cutA B1 d1 0 2),d1 - 0,(ps++[((a1.take 1).head?,(b1.take 0).head?)]),F1229.j,(by rw [List.append_assoc];exact (congrArg (fun z=>ps++z) hf1193.symm).trans hp5),(sub_drop hp6 _),(sub_drop hp7 _),trivial,(RLs.norm (RLs.cut d1230 (by omega:1≤a1.length))),(RLs.norm (RLs.cut d1231 (by omega:0≤b1.length))),(hJ _ _ _ hj1201 ((Ext.refl w1200).trans hx1211)),(FarX.ext hf1206 ((Ext.refl w1200).trans hx1211))⟩,?_⟩
   rw [F1229.get (t:=0) rfl,F1229.get (t:=1) rfl,hL12.get (t:=0) rfl,hL12.get (t:=1) rfl];simp only [sliceLen];omega
  rcases Bool.eq_false_or_eq_true (ltS x1059.name x1046.name) with hc1232 | hc1232
  ·skip
   have hx1234:∃ W,w2.drew=W∧Ext w2 W:=⟨_,rfl,(Ext.refl _).drew⟩
   obtain ⟨w1233,e1235,hx1234⟩:=hx1234
   have z1236:=hx1234.size
   refine any_start (fun W=>Ext w1233 W) (fun i=>false) 12 (.replicate 12 false) rfl rfl rfl ?_
   rw [e1235];clear e1235
   refine F933.ym 0 rfl<|Ym 1 rfl<|fun _ F1240=>?_;clear F933
   have d1241:=(RLs.ext rIt hf8 hx1234)
   obtain ⟨b1242,o1243,x1244,cs1245,hA1246,hi1247,hk1248,hc1249,hr1250⟩:=RLs.get d1241 (by omega:0<a1.length)
   obtain rfl:x1046=x1244:=Option.some.inj (hi1049.symm.trans hi1247)
   obtain ⟨A1251,c1252,rfl,hd1253⟩:=hr1250
   have z1254:=(Fl.cel hd1253).2.1
   refine F1240.yw 2 (.pointer (some ⟨b1242,o1243+0*2,none⟩)) rfl (fun F W=>rn_indexE Tryd.underlying22 inf66 ((F.get rfl).trans (by rw [hA1246])) rfl (by omega:(0:Int)≤0) (by omega:(0:Int)<((a1.length:Nat):Int)) (by omega))<|fun _ F1256=>?_;clear F1240
   have hS1257:Ext w1233 w1233:=(Ext.refl w1233)
   refine F1256.ys 3 (.agg #[(strOf x1046.name),(vl A1251 x1046.data.length c1252)]) rfl hS1257 (fun F W hW=>rn_loadN (cs:=[(strOf x1046.name),(vl A1251 x1046.data.length c1252)]) (F.get rfl) Tryd.underlying66 rfl inf66 (fun j u hu=>Ext.keep ((Ext.refl w1233).trans hW) (hc1249 j u hu)))<|Ym 5 rfl<|Ym 6 rfl<|fun _ F1263=>?_;clear F1256
   have d1264:=(RLs.ext rIt hf9 hx1234)
   obtain ⟨b1265,o1266,x1267,cs1268,hA1269,hi1270,hk1271,hc1272,hr1273⟩:=RLs.get d1264 (by omega:0<b1.length)
   obtain rfl:x1059=x1267:=Option.some.inj (hi1062.symm.trans hi1270)
   obtain ⟨A1274,c1275,rfl,hd1276⟩:=hr1273
   have z1277:=(Fl.cel hd1276).2.1
   refine F1263.yw 7 (.pointer (some ⟨b1265,o1266+0*2,none⟩)) rfl (fun F W=>rn_indexE Tryd.underlying22 inf66 ((F.get rfl).trans (by rw [hA1269])) rfl (by omega:(0:Int)≤0) (by omega:(0:Int)<((b1.length:Nat):Int)) (by omega))<|Ys 8 (.agg #[(strOf x1059.name),(vl A1274 x1059.data.length c1275)]) rfl hS1257 (fun F W hW=>rn_loadN (cs:=[(strOf x1059.name),(vl A1274 x1059.data.length c1275)]) (F.get rfl) Tryd.underlying66 rfl inf66 (fun j u hu=>Ext.keep ((Ext.refl w1233).trans hW) (hc1272 j u hu)))<|fun _ F1281=>?_;clear F1263
   refine ao 4 rfl ?_
   refine o_call F1281 rfl rfl rfl rfl (rn_callv (F1281.get rfl) (args0_1 (F1281.get rfl)) (by kernel_rfl)) (itemName_any x1046.name (vl A1251 x1046.data.length c1252) _) ?_
   rintro _ w1282 ⟨rfl,hx1283⟩
   refine ⟨_,rfl,?_⟩;intro a1284 F1285;clear F1281;have z1286:=hx1283.size
   refine ⟨fun _ _=>((Ext.refl w1233).trans hx1283),?_⟩
   refine ao 9 rfl ?_
   refine o_call F1285 rfl rfl rfl rfl (rn_callv (F1285.get rfl) (args0_1 (F1285.get rfl)) (by kernel_rfl)) (itemName_any x1059.name (vl A1274 x1059.data.length c1275) _) ?_
   rintro _ w1287 ⟨rfl,hx1288⟩
   refine ⟨_,rfl,?_⟩;intro a1289 F1290;clear F1285;have z1291:=hx1288.size
   refine ⟨fun _ _=>(((Ext.refl w1233).trans hx1283).trans hx1288),?_⟩
   refine ao 10 rfl ?_
   refine F1290.oc (cmps_gt x1046.name x1059.name _ hc1070 hc1232) ?_
   rintro _ w1292 ⟨rfl,hx1293⟩
   refine ⟨_,rfl,?_⟩;intro a1294 F1295;clear F1290;have z1296:=hx1293.size
   refine ⟨fun _ _=>((((Ext.refl w1233).trans hx1283).trans hx1288).trans hx1293),?_⟩
   refine F1295.yv 11 (vi 1) rfl<|fun _ F1298=>?_;clear F1295
   refine nn (hK804 _ _ ?_);clear hK804
   have F1299:=F1298.k [0,1,2,3,4,20,10,32,36];clear F1298
   refine wr fun K1300 hK1300=>?_
   refine F1299.xm rfl<|Xv (vi (a1.length:Nat))<|Xm rfl<|Xv (vi 1)<|Xv (vi 0)<|Xv (vi 0)<|Xv (vi 0)<|Xm rfl<|Xv (vi (b1.length:Nat))<|Xm rfl<|Xv (vi 0)<|Xv (vi 1)<|Xv (vi 1)<|Xv (vi 1)<|Xa rfl<|Xa rfl<|fun _ F1332=>?_;clear F1299
   refine wpList_nil (hK1300 _ _ ?_);clear hK1300
   have F1333:=F1332.k [0,1,2,3,4,20,10,32,36,11,12];clear F1332
   refine wp_seq_k fun K1334 hK1334=>?_
   have hx1336:∃ W,w1292.drew=W∧Ext w1292 W:=⟨_,rfl,(Ext.refl _).drew⟩
   obtain ⟨w1335,e1337,hx1336⟩:=hx1336
   have z1338:=hx1336.size
   refine any_start (fun W=>True) (fun i=>false) 8 (.replicate 8 false) rfl rfl rfl ?_
   rw [e1337];clear e1337
   refine F1333.ym 0 rfl<|Ym 1 rfl<|Ym 2 rfl<|Yw 3 (vl A1 0 c1) rfl (fun F W=>rn_sliceHi Tryd.underlying22 inf66 (F.get rfl) (F.get rfl) (by omega:(0:Int)≤0) (by omega:(0:Int)≤((c1:Nat):Int)))<|Ym 4 rfl<|Ym 5 rfl<|Yw 6 (vl B1 1 d1) rfl (fun F W=>rn_sliceHi Tryd.underlying22 inf66 (F.get rfl) (F.get rfl) (by omega:(0:Int)≤1) (by omega:(1:Int)≤((d1:Nat):Int)))<|fun _ F1352=>?_;clear F1333
   refine ao 7 rfl ?_
   have d1353:=(RLs.ext rIt (RLs.ext rIt (RLs.ext rIt (RLs.ext rIt (RLs.ext rIt hf8 hx1234) hx1283) hx1288) hx1293) hx1336)
   have d1354:=(RLs.ext rIt (RLs.ext rIt (RLs.ext rIt (RLs.ext rIt (RLs.ext rIt hf9 hx1234) hx1283) hx1288) hx1293) hx1336)
   have hf1355:=(mrg_gt (na:=It.name) (nb:=It.name) (a:=a1) (b:=b1) hi1049 hi1062 hc1070 hc1232)
   have hf1356:=hJ _ _ _ hf10 ((((((Ext.refl w2).trans hx1234).trans hx1283).trans hx1288).trans hx1293).trans hx1336)
   have hf1357:=(FarX.ext hf11 ((((((Ext.refl w2).trans hx1234).trans hx1283).trans hx1288).trans hx1293).trans hx1336))
   have hf1358:=(RLs.take d1353 (by omega:0≤a1.length))
   have hf1359:=(RLs.take d1354 (by omega:1≤b1.length))
   have hf1360:=RLs.norm d1353
   have hf1361:=RLs.norm d1354
   refine o_call F1352 rfl rfl rfl rfl (rn_callvc (F1352.get rfl) (argsw_2 harg (F1352.get rfl) (F1352.get rfl)) (hen _ _)) (hp ps _ _ (a1.take 0) (b1.take 1) _ hf1356 hf1358 hf1359 (by rw [List.length_take];omega) (by rw [List.length_take];omega) (fun q=>by have q1:=congrArg List.length q.1;have q2:=congrArg List.length q.2;simp only [List.length_take,List.length_nil] at q1 q2;omega) (sub_take hp7 _) (sub_take hp6 _) (mrg_room hp5 hf1355 hN)) ?_
   rintro _ w1362 ⟨rfl,hj1363,hP1364⟩
   refine ⟨_,rfl,?_⟩;intro a1366 F1367;clear F1352
   have hf1368:=(FarX.trans hf1357 hP1364)
   have hf1369:=RLs.pres rIt hf1360 hP1364.1
   have hf1370:=RLs.pres rIt hf1361 hP1364.1
   refine ⟨fun _ _=>trivial,?_⟩
   refine nn (hK1334 _ _ ?_);clear hK1334
   have F1371:=F1367.k [0,1,2,3,4,20,10,32,36,11,12];clear F1367
   have hx1373:∃ W,w1362.drew=W∧Ext w1362 W:=⟨_,rfl,(Ext.refl _).drew⟩
   obtain ⟨w1372,e1374,hx1373⟩:=hx1373
   have z1375:=hx1373.size
   refine any_start (fun W=>Ext w1372 W) (fun i=>false) 8 (.replicate 8 false) rfl rfl rfl ?_
   rw [e1374];clear e1374
   refine F1371.ym 0 rfl<|Ym 1 rfl<|Yv 2 (vl (cutA A1 c1 0 2) (a1.length - 0) (c1 - 0)) rfl<|Ym 3 rfl<|Ym 4 rfl<|Yv 5 (vl (cutA B1 d1 1 2) (b1.length - 1) (d1 - 1)) rfl<|Yv 6 (vl (cutA A1 c1 0 2) (a1.length - 0) (c1 - 0)) rfl<|Yv 7 (vl (cutA B1 d1 1 2) (b1.length - 1) (d1 - 1)) rfl<|fun _ F1391=>?_;clear F1371
   refine nn ?_
   have d1392:=(RLs.ext rIt hf1369 hx1373)
   have d1393:=(RLs.ext rIt hf1370 hx1373)
   refine ⟨⟨(a1.drop 0),(b1.drop 1),(cutA A1 c1 0 2),c1 - 0,(cutA B1 d1 1 2),d1 - 1,(ps++[((a1.take 0).head?,(b1.take 1).head?)]),F1391.j,(by rw [List.append_assoc];exact (congrArg (fun z=>ps++z) hf1355.symm).trans hp5),(sub_drop hp6 _),(sub_drop hp7 _),trivial,(RLs.norm (RLs.cut d1392 (by omega:0≤a1.length))),(RLs.norm (RLs.cut d1393 (by omega:1≤b1.length))),(hJ _ _ _ hj1363 ((Ext.refl w1362).trans hx1373)),(FarX.ext hf1368 ((Ext.refl w1362).trans hx1373))⟩,?_⟩
   rw [F1391.get (t:=0) rfl,F1391.get (t:=1) rfl,hL12.get (t:=0) rfl,hL12.get (t:=1) rfl];simp only [sliceLen];omega
  have hx1395:∃ W,w2.drew=W∧Ext w2 W:=⟨_,rfl,(Ext.refl _).drew⟩
  obtain ⟨w1394,e1396,hx1395⟩:=hx1395
  have z1397:=hx1395.size
  refine any_start (fun W=>Ext w1394 W) (fun i=>false) 12 (.replicate 12 false) rfl rfl rfl ?_
  rw [e1396];clear e1396
  refine F933.ym 0 rfl<|Ym 1 rfl<|fun _ F1401=>?_;clear F933
  have d1402:=(RLs.ext rIt hf8 hx1395)
  obtain ⟨b1403,o1404,x1405,cs1406,hA1407,hi1408,hk1409,hc1410,hr1411⟩:=RLs.get d1402 (by omega:0<a1.length)
  obtain rfl:x1046=x1405:=Option.some.inj (hi1049.symm.trans hi1408)
  obtain ⟨A1412,c1413,rfl,hd1414⟩:=hr1411
  have z1415:=(Fl.cel hd1414).2.1
  refine F1401.yw 2 (.pointer (some ⟨b1403,o1404+0*2,none⟩)) rfl (fun F W=>rn_indexE Tryd.underlying22 inf66 ((F.get rfl).trans (by rw [hA1407])) rfl (by omega:(0:Int)≤0) (by omega:(0:Int)<((a1.length:Nat):Int)) (by omega))<|fun _ F1417=>?_;clear F1401
  have hS1418:Ext w1394 w1394:=(Ext.refl w1394)
  refine F1417.ys 3 (.agg #[(strOf x1046.name),(vl A1412 x1046.data.length c1413)]) rfl hS1418 (fun F W hW=>rn_loadN (cs:=[(strOf x1046.name),(vl A1412 x1046.data.length c1413)]) (F.get rfl) Tryd.underlying66 rfl inf66 (fun j u hu=>Ext.keep ((Ext.refl w1394).trans hW) (hc1410 j u hu)))<|Ym 5 rfl<|Ym 6 rfl<|fun _ F1424=>?_;clear F1417
  have d1425:=(RLs.ext rIt hf9 hx1395)
  obtain ⟨b1426,o1427,x1428,cs1429,hA1430,hi1431,hk1432,hc1433,hr1434⟩:=RLs.get d1425 (by omega:0<b1.length)
  obtain rfl:x1059=x1428:=Option.some.inj (hi1062.symm.trans hi1431)
  obtain ⟨A1435,c1436,rfl,hd1437⟩:=hr1434
  have z1438:=(Fl.cel hd1437).2.1
  refine F1424.yw 7 (.pointer (some ⟨b1426,o1427+0*2,none⟩)) rfl (fun F W=>rn_indexE Tryd.underlying22 inf66 ((F.get rfl).trans (by rw [hA1430])) rfl (by omega:(0:Int)≤0) (by omega:(0:Int)<((b1.length:Nat):Int)) (by omega))<|Ys 8 (.agg #[(strOf x1059.name),(vl A1435 x1059.data.length c1436)]) rfl hS1418 (fun F W hW=>rn_loadN (cs:=[(strOf x1059.name),(vl A1435 x1059.data.length c1436)]) (F.get rfl) Tryd.underlying66 rfl inf66 (fun j u hu=>Ext.keep ((Ext.refl w1394).trans hW) (hc1433 j u hu)))<|fun _ F1442=>?_;clear F1424
  refine ao 4 rfl ?_
  refine o_call F1442 rfl rfl rfl rfl (rn_callv (F1442.get rfl) (args0_1 (F1442.get rfl)) (by kernel_rfl)) (itemName_any x1046.name (vl A1412 x1046.data.length c1413) _) ?_
  rintro _ w1443 ⟨rfl,hx1444⟩
  refine ⟨_,rfl,?_⟩;intro a1445 F1446;clear F1442;have z1447:=hx1444.size
  refine ⟨fun _ _=>((Ext.refl w1394).trans hx1444),?_⟩
  refine ao 9 rfl ?_
  refine o_call F1446 rfl rfl rfl rfl (rn_callv (F1446.get rfl) (args0_1 (F1446.get rfl)) (by kernel_rfl)) (itemName_any x1059.name (vl A1435 x1059.data.length c1436) _) ?_
  rintro _ w1448 ⟨rfl,hx1449⟩
  refine ⟨_,rfl,?_⟩;intro a1450 F1451;clear F1446;have z1452:=hx1449.size
  refine ⟨fun _ _=>(((Ext.refl w1394).trans hx1444).trans hx1449),?_⟩
  refine ao 10 rfl ?_
  refine F1451.oc (cmps_eq x1046.name x1059.name _ hc1070 hc1232) ?_
  rintro _ w1453 ⟨rfl,hx1454⟩
  refine ⟨_,rfl,?_⟩;intro a1455 F1456;clear F1451;have z1457:=hx1454.size
  refine ⟨fun _ _=>((((Ext.refl w1394).trans hx1444).trans hx1449).trans hx1454),?_⟩
  refine F1456.yv 11 (vi 0) rfl<|fun _ F1459=>?_;clear F1456
  refine nn (hK804 _ _ ?_);clear hK804
  have F1460:=F1459.k [0,1,2,3,4,20,10,32,36];clear F1459
  refine wr fun K1461 hK1461=>?_
  refine F1460.xm rfl<|Xv (vi (a1.length:Nat))<|Xm rfl<|Xv (vi 0)<|Xv (vi 1)<|Xv (vi 1)<|Xv (vi 1)<|Xm rfl<|Xv (vi (b1.length:Nat))<|Xm rfl<|Xv (vi 0)<|Xv (vi 1)<|Xv (vi 1)<|Xv (vi 1)<|Xa rfl<|Xa rfl<|fun _ F1493=>?_;clear F1460
  refine wpList_nil (hK1461 _ _ ?_);clear hK1461
  have F1494:=F1493.k [0,1,2,3,4,20,10,32,36,11,12];clear F1493
  refine wp_seq_k fun K1495 hK1495=>?_
  have hx1497:∃ W,w1453.drew=W∧Ext w1453 W:=⟨_,rfl,(Ext.refl _).drew⟩
  obtain ⟨w1496,e1498,hx1497⟩:=hx1497
  have z1499:=hx1497.size
  refine any_start (fun W=>True) (fun i=>false) 8 (.replicate 8 false) rfl rfl rfl ?_
  rw [e1498];clear e1498
  refine F1494.ym 0 rfl<|Ym 1 rfl<|Ym 2 rfl<|Yw 3 (vl A1 1 c1) rfl (fun F W=>rn_sliceHi Tryd.underlying22 inf66 (F.get rfl) (F.get rfl) (by omega:(0:Int)≤1) (by omega:(1:Int)≤((c1:Nat):Int)))<|Ym 4 rfl<|Ym 5 rfl<|Yw 6 (vl B1 1 d1) rfl (fun F W=>rn_sliceHi Tryd.underlying22 inf66 (F.get rfl) (F.get rfl) (by omega:(0:Int)≤1) (by omega:(1:Int)≤((d1:Nat):Int)))<|fun _ F1513=>?_;clear F1494
  refine ao 7 rfl ?_
  have d1514:=(RLs.ext rIt (RLs.ext rIt (RLs.ext rIt (RLs.ext rIt (RLs.ext rIt hf8 hx1395) hx1444) hx1449) hx1454) hx1497)
  have d1515:=(RLs.ext rIt (RLs.ext rIt (RLs.ext rIt (RLs.ext rIt (RLs.ext rIt hf9 hx1395) hx1444) hx1449) hx1454) hx1497)
  have hf1516:=(mrg_eq (na:=It.name) (nb:=It.name) (a:=a1) (b:=b1) hi1049 hi1062 hc1070 hc1232)
  have hf1517:=hJ _ _ _ hf10 ((((((Ext.refl w2).trans hx1395).trans hx1444).trans hx1449).trans hx1454).trans hx1497)
  have hf1518:=(FarX.ext hf11 ((((((Ext.refl w2).trans hx1395).trans hx1444).trans hx1449).trans hx1454).trans hx1497))
  have hf1519:=(RLs.take d1514 (by omega:1≤a1.length))
  have hf1520:=(RLs.take d1515 (by omega:1≤b1.length))
  have hf1521:=RLs.norm d1514
  have hf1522:=RLs.norm d1515
  refine o_call F1513 rfl rfl rfl rfl (rn_callvc (F1513.get rfl) (argsw_2 harg (F1513.get rfl) (F1513.get rfl)) (hen _ _)) (hp ps _ _ (a1.take 1) (b1.take 1) _ hf1517 hf1519 hf1520 (by rw [List.length_take];omega) (by rw [List.length_take];omega) (fun q=>by have q1:=congrArg List.length q.1;have q2:=congrArg List.length q.2;simp only [List.length_take,List.length_nil] at q1 q2;omega) (sub_take hp7 _) (sub_take hp6 _) (mrg_room hp5 hf1516 hN)) ?_
  rintro _ w1523 ⟨rfl,hj1524,hP1525⟩
  refine ⟨_,rfl,?_⟩;intro a1527 F1528;clear F1513
  have hf1529:=(FarX.trans hf1518 hP1525)
  have hf1530:=RLs.pres rIt hf1521 hP1525.1
  have hf1531:=RLs.pres rIt hf1522 hP1525.1
  refine ⟨fun _ _=>trivial,?_⟩
  refine nn (hK1495 _ _ ?_);clear hK1495
  have F1532:=F1528.k [0,1,2,3,4,20,10,32,36,11,12];clear F1528
  have hx1534:∃ W,w1523.drew=W∧Ext w1523 W:=⟨_,rfl,(Ext.refl _).drew⟩
  obtain ⟨w1533,e1535,hx1534⟩:=hx1534
  have z1536:=hx1534.size
  refine any_start (fun W=>Ext w1533 W) (fun i=>false) 8 (.replicate 8 false) rfl rfl rfl ?_
  rw [e1535];clear e1535
  refine F1532.ym 0 rfl<|Ym 1 rfl<|Yv 2 (vl (cutA A1 c1 1 2) (a1.length - 1) (c1 - 1)) rfl<|Ym 3 rfl<|Ym 4 rfl<|Yv 5 (vl (cutA B1 d1 1 2) (b1.length - 1) (d1 - 1)) rfl<|Yv 6 (vl (cutA A1 c1 1 2) (a1.length - 1) (c1 - 1)) rfl<|Yv 7 (vl (cutA B1 d1 1 2) (b1.length - 1) (d1 - 1)) rfl<|fun _ F1552=>?_;clear F1532
  refine nn ?_
  have d1553:=(RLs.ext rIt hf1530 hx1534)
  have d1554:=(RLs.ext rIt hf1531 hx1534)
  refine ⟨⟨(a1.drop 1),(b1.drop 1),(cutA A1 c1 1 2),c1 - 1,(cutA B1 d1 1 2),d1 - 1,(ps++[((a1.take 1).head?,(b1.take 1).head?)]),F1552.j,(by rw [List.append_assoc];exact (congrArg (fun z=>ps++z) hf1516.symm).trans hp5),(sub_drop hp6 _),(sub_drop hp7 _),trivial,(RLs.norm (RLs.cut d1553 (by omega:1≤a1.length))),(RLs.norm (RLs.cut d1554 (by omega:1≤b1.length))),(hJ _ _ _ hj1524 ((Ext.refl w1523).trans hx1534)),(FarX.ext hf1529 ((Ext.refl w1523).trans hx1534))⟩,?_⟩
  rw [F1552.get (t:=0) rfl,F1552.get (t:=1) rfl,hL12.get (t:=0) rfl,hL12.get (t:=1) rfl];simp only [sliceLen];omega
 refine F799.cf ?_
 refine wp_exit ?_
 refine exit_then ?_
 refine exit_then ?_
 refine exit_here ?_
 refine ret0 F799 rfl ?_
 have he:=hp5;rw [mrg_nil (a:=a1) (b:=b1) (by omega) (by omega),List.append_nil] at he;subst he
 exact ⟨rfl,hJ _ _ _ hf10 (Ext.refl w2),FarX.ext hf11 (Ext.refl w2)⟩

set_option maxRecDepth 100000 in
set_option maxHeartbeats 1000000 in
theorem mergeCg_any (A:Option Addr) (c:Nat) (a0:List It) (B:Option Addr) (d:Nat) (b0:List Cg) (f:FuncId) (first cap:Array Value) (hen:∀ (vs:Array Value) (W:World),(callFunc f vs).run Tryd.prog W=.ok (.enter f vs) W) (arg:Value→Value→Array Value) (harg:∀ u v,(first++#[u,v])++cap=arg u v)
  (J:List (Option It × Option Cg)→World→Prop) (hJ:∀ ps W W',J ps W→Ext W W'→J ps W') (N:Nat)
  (hp:∀ (ps:List (Option It × Option Cg)) (u v:Value) (x:List It) (y:List Cg) (W:World),J ps W→RLs RIt 2 S W u x→RLs RCg 3 S W v y→x.length≤1→y.length≤1→¬ (x=[]∧y=[])→(∀ z∈y,z∈b0)→(∀ z∈x,z∈a0)→ps.length<N→Calls Tryd.prog f (arg u v) W (fun e W'=>e=.returned (.tuple #[])∧J (ps++[(x.head?,y.head?)]) W'∧FarX S W W'))
  (w:World) (h1:RLs RIt 2 S w (vl A a0.length c) a0) (h2:RLs RCg 3 S w (vl B b0.length d) b0) (hN:(mrg It.name Cg.name a0 b0).length≤N) (hj:J [] w) :
  Calls Tryd.prog 76 #[.slice A a0.length c,.slice B b0.length d,.func (.func 26) #[] #[],.func (.func 74) #[] #[],.func (.func f) first cap] w (fun e w'=>e=.returned (.tuple #[])∧J (mrg It.name Cg.name a0 b0) w'∧FarX S w w'):=by
 obtain ⟨-,hc1,hc2⟩:=RLs.at h1;obtain ⟨-,hd1,hd2⟩:=RLs.at h2
 refine calls_enter Tryd.func76 rfl rfl rfl fun _ hF=>?_
 refine wp_block ?_
 refine wp_loop (fun a' W=>∃ (a1:List It) (b1:List Cg) (A1:Option Addr) (c1:Nat) (B1:Option Addr) (d1:Nat) (ps:List (Option It × Option Cg)),Sl 68 [(0,(vl A1 a1.length c1)),(1,(vl B1 b1.length d1)),(2,(.func (.func 26) #[] #[])),(3,(.func (.func 74) #[] #[])),(4,(.func (.func f) first cap))] a'∧ps++mrg It.name Cg.name a1 b1=mrg It.name Cg.name a0 b0∧((∀ z∈a1,z∈a0))∧((∀ z∈b1,z∈b0))∧True∧RLs RIt 2 S W (vl A1 a1.length c1) a1∧RLs RCg 3 S W (vl B1 b1.length d1) b1∧J ps W∧FarX S w W) (fun a' _=>sliceLen (a'.eval (.tmp 0))+sliceLen (a'.eval (.tmp 1))) ⟨a0,b0,A,c,B,d,[],(((((hF.nil.cons (q_get hF (t:=4) rfl rfl)).cons (q_get hF (t:=3) rfl rfl)).cons (q_get hF (t:=2) rfl rfl)).cons (q_get hF (t:=1) rfl (by first | rfl | (simp only [List.length_drop])))).cons (q_get hF (t:=0) rfl (by first | rfl | (simp only [List.length_drop])))),(List.nil_append _),(fun _ h=>h),(fun _ h=>h),trivial,h1,h2,hj,(FarX.refl w)⟩ ?_
 clear hF
 rintro a1 w2 ⟨a1,b1,A1,c1,B1,d1,ps,F3,hp5,hp6,hp7,hx4,hf8,hf9,hf10,hf11⟩
 have hL12:=F3
 obtain ⟨-,z13,z14⟩:=RLs.at hf8
 obtain ⟨-,z15,z16⟩:=RLs.at hf9
 refine wp_seq_k fun K17 hK17=>?_
 refine wr fun K18 hK18=>?_
 refine F3.xm rfl<|Xv (vi (a1.length:Nat))<|Xv (.bool (decide ((0:Int)<((a1.length:Nat):Int))))<|Xm rfl<|fun _ F26=>?_;clear F3
 by_cases hc27:(0:Int)<((a1.length:Nat):Int)
 ·skip
  refine F26.xu<|Xu<|Xu<|Xv (.bool true)<|fun _ F35=>?_;clear F26
  refine wpList_nil (hK18 _ _ ?_);clear hK18
  have F36:=F35.k [0,1,2,3,4,20];clear F35
  refine F36.ct ?_
  refine wp_skip ?_
  refine hK17 _ _ ?_;clear hK17
  refine wp_block ?_
  refine wr fun K37 hK37=>?_
  refine F36.xv (vi 0)<|fun _ F39=>?_;clear F36
  refine wpList_nil (hK37 _ _ ?_);clear hK37
  refine wp_seq_k fun K40 hK40=>?_
  refine wp_block ?_
  refine wr fun K41 hK41=>?_
  refine F39.xm rfl<|Xv (vi (b1.length:Nat))<|Xv (.bool (decide (((b1.length:Nat):Int)=(0:Int))))<|Xa rfl<|fun _ F49=>?_;clear F39
  refine wpList_nil (hK41 _ _ ?_);clear hK41
  by_cases hc50:((b1.length:Nat):Int)=(0:Int)
  ·skip
   refine F49.ct ?_
   refine wp_region_lit ?_
   refine F49.xv (vi (-1))<|fun _ F52=>?_;clear F49
   refine wpList_nil (hK40 _ _ ?_);clear hK40
   refine wp_seq_k fun K53 hK53=>?_
   obtain ⟨b54,o55,x56,cs57,hA58,hi59,hk60,hc61,hr62⟩:=RLs.get hf8 (by omega:0<a1.length)
   obtain ⟨A63,c64,rfl,hd65⟩:=hr62
   have z66:=(Fl.cel hd65).2.1
   refine wp_region_lit ?_
   refine F52.xm rfl<|Xv (vi (a1.length:Nat))<|Xm rfl<|Xv (vi 0)<|Xv (vi 1)<|Xv (vi 1)<|Xv (vi 1)<|Xm rfl<|Xv (vi (b1.length:Nat))<|Xm rfl<|Xv (vi (-1))<|Xv (vi 0)<|Xv (vi 0)<|Xv (vi 0)<|Xa rfl<|Xa rfl<|fun _ F98=>?_;clear F52
   refine wpList_nil (hK53 _ _ ?_);clear hK53
   have F99:=F98.k [0,1,2,3,4,20,10,32,11,12];clear F98
   refine wp_seq_k fun K100 hK100=>?_
   have hx102:∃ W,w2.drew=W∧Ext w2 W:=⟨_,rfl,(Ext.refl _).drew⟩
   obtain ⟨w101,e103,hx102⟩:=hx102
   have z104:=hx102.size
   refine any_start (fun W=>True) (fun i=>false) 8 (.replicate 8 false) rfl rfl rfl ?_
   rw [e103];clear e103
   refine F99.ym 0 rfl<|Ym 1 rfl<|Ym 2 rfl<|Yw 3 (vl A1 1 c1) rfl (fun F W=>rn_sliceHi Tryd.underlying22 inf66 (F.get rfl) (F.get rfl) (by omega:(0:Int)≤1) (by omega:(1:Int)≤((c1:Nat):Int)))<|Ym 4 rfl<|Ym 5 rfl<|Yw 6 (vl B1 0 d1) rfl (fun F W=>rn_sliceHi Tryd.underlying25 inf92 (F.get rfl) (F.get rfl) (by omega:(0:Int)≤0) (by omega:(0:Int)≤((d1:Nat):Int)))<|fun _ F118=>?_;clear F99
   refine ao 7 rfl ?_
   have d119:=(RLs.ext rIt hf8 hx102)
   have d120:=(RLs.ext rCg hf9 hx102)
   have hf121:=(mrg_l0 (na:=It.name) (nb:=Cg.name) (a:=a1) (b:=b1) hi59 (by omega))
   have hf122:=hJ _ _ _ hf10 ((Ext.refl w2).trans hx102)
   have hf123:=(FarX.ext hf11 ((Ext.refl w2).trans hx102))
   have hf124:=(RLs.take d119 (by omega:1≤a1.length))
   have hf125:=(RLs.take d120 (by omega:0≤b1.length))
   have hf126:=RLs.norm d119
   have hf127:=RLs.norm d120
   refine o_call F118 rfl rfl rfl rfl (rn_callvc (F118.get rfl) (argsw_2 harg (F118.get rfl) (F118.get rfl)) (hen _ _)) (hp ps _ _ (a1.take 1) (b1.take 0) _ hf122 hf124 hf125 (by rw [List.length_take];omega) (by rw [List.length_take];omega) (fun q=>by have q1:=congrArg List.length q.1;have q2:=congrArg List.length q.2;simp only [List.length_take,List.length_nil] at q1 q2;omega) (sub_take hp7 _) (sub_take hp6 _) (mrg_room hp5 hf121 hN)) ?_
   rintro _ w128 ⟨rfl,hj129,hP130⟩
   refine ⟨_,rfl,?_⟩;intro a132 F133;clear F118
   have hf134:=(FarX.trans hf123 hP130)
   have hf135:=RLs.pres rIt hf126 hP130.1
   have hf136:=RLs.pres rCg hf127 hP130.1
   refine ⟨fun _ _=>trivial,?_⟩
   refine nn (hK100 _ _ ?_);clear hK100
   have F137:=F133.k [0,1,2,3,4,20,10,32,11,12];clear F133
   have hx139:∃ W,w128.drew=W∧Ext w128 W:=⟨_,rfl,(Ext.refl _).drew⟩
   obtain ⟨w138,e140,hx139⟩:=hx139
   have z141:=hx139.size
   refine any_start (fun W=>Ext w138 W) (fun i=>false) 8 (.replicate 8 false) rfl rfl rfl ?_
   rw [e140];clear e140
   refine F137.ym 0 rfl<|Ym 1 rfl<|Yv 2 (vl (cutA A1 c1 1 2) (a1.length - 1) (c1 - 1)) rfl<|Ym 3 rfl<|Ym 4 rfl<|Yv 5 (vl (cutA B1 d1 0 3) (b1.length - 0) (d1 - 0)) rfl<|Yv 6 (vl (cutA A1 c1 1 2) (a1.length - 1) (c1 - 1)) rfl<|Yv 7 (vl (cutA B1 d1 0 3) (b1.length - 0) (d1 - 0)) rfl<|fun _ F157=>?_;clear F137
   refine nn ?_
   have d158:=(RLs.ext rIt hf135 hx139)
   have d159:=(RLs.ext rCg hf136 hx139)
   refine ⟨⟨(a1.drop 1),(b1.drop 0),(cutA A1 c1 1 2),c1 - 1,(cutA B1 d1 0 3),d1 - 0,(ps++[((a1.take 1).head?,(b1.take 0).head?)]),F157.j,(by rw [List.append_assoc];exact (congrArg (fun z=>ps++z) hf121.symm).trans hp5),(sub_drop hp6 _),(sub_drop hp7 _),trivial,(RLs.norm (RLs.cut d158 (by omega:1≤a1.length))),(RLs.norm (RLs.cut d159 (by omega:0≤b1.length))),(hJ _ _ _ hj129 ((Ext.refl w128).trans hx139)),(FarX.ext hf134 ((Ext.refl w128).trans hx139))⟩,?_⟩
   rw [F157.get (t:=0) rfl,F157.get (t:=1) rfl,hL12.get (t:=0) rfl,hL12.get (t:=1) rfl];simp only [sliceLen];omega
  refine F49.cf ?_
  refine wr fun K160 hK160=>?_
  refine F49.xm rfl<|Xv (vi (a1.length:Nat))<|Xv (.bool (decide (((a1.length:Nat):Int)=(0:Int))))<|Xa rfl<|fun _ F168=>?_;clear F49
  refine wpList_nil (hK160 _ _ ?_);clear hK160
  have F169:=F168.k [0,1,2,3,4,20,10,32,36];clear F168
  by_cases hc170:((a1.length:Nat):Int)=(0:Int)
  ·skip
   refine F169.ct ?_
   refine wp_region_lit ?_
   refine F169.xv (vi 1)<|fun _ F172=>?_;clear F169
   refine wpList_nil (hK40 _ _ ?_);clear hK40
   refine wp_seq_k fun K173 hK173=>?_
   obtain ⟨b174,o175,x176,cs177,hA178,hi179,hk180,hc181,hr182⟩:=RLs.get hf9 (by omega:0<b1.length)
   obtain ⟨A183,c184,rfl,hd185⟩:=hr182
   have z186:=(Fl.cel hd185).2.1
   refine wp_region_lit ?_
   refine F172.xm rfl<|Xv (vi (a1.length:Nat))<|Xm rfl<|Xv (vi 1)<|Xv (vi 0)<|Xv (vi 0)<|Xv (vi 0)<|Xm rfl<|Xv (vi (b1.length:Nat))<|Xm rfl<|Xv (vi 0)<|Xv (vi 1)<|Xv (vi 1)<|Xv (vi 1)<|Xa rfl<|Xa rfl<|fun _ F218=>?_;clear F172
   refine wpList_nil (hK173 _ _ ?_);clear hK173
   have F219:=F218.k [0,1,2,3,4,20,10,32,36,11,12];clear F218
   refine wp_seq_k fun K220 hK220=>?_
   have hx222:∃ W,w2.drew=W∧Ext w2 W:=⟨_,rfl,(Ext.refl _).drew⟩
   obtain ⟨w221,e223,hx222⟩:=hx222
   have z224:=hx222.size
   refine any_start (fun W=>True) (fun i=>false) 8 (.replicate 8 false) rfl rfl rfl ?_
   rw [e223];clear e223
   refine F219.ym 0 rfl<|Ym 1 rfl<|Ym 2 rfl<|Yw 3 (vl A1 0 c1) rfl (fun F W=>rn_sliceHi Tryd.underlying22 inf66 (F.get rfl) (F.get rfl) (by omega:(0:Int)≤0) (by omega:(0:Int)≤((c1:Nat):Int)))<|Ym 4 rfl<|Ym 5 rfl<|Yw 6 (vl B1 1 d1) rfl (fun F W=>rn_sliceHi Tryd.underlying25 inf92 (F.get rfl) (F.get rfl) (by omega:(0:Int)≤1) (by omega:(1:Int)≤((d1:Nat):Int)))<|fun _ F238=>?_;clear F219
   refine ao 7 rfl ?_
   have d239:=(RLs.ext rIt hf8 hx222)
   have d240:=(RLs.ext rCg hf9 hx222)
   have hf241:=(mrg_0r (na:=It.name) (nb:=Cg.name) (a:=a1) (b:=b1) hi179 (by omega))
   have hf242:=hJ _ _ _ hf10 ((Ext.refl w2).trans hx222)
   have hf243:=(FarX.ext hf11 ((Ext.refl w2).trans hx222))
   have hf244:=(RLs.take d239 (by omega:0≤a1.length))
   have hf245:=(RLs.take d240 (by omega:1≤b1.length))
   have hf246:=RLs.norm d239
   have hf247:=RLs.norm d240
   refine o_call F238 rfl rfl rfl rfl (rn_callvc (F238.get rfl) (argsw_2 harg (F238.get rfl) (F238.get rfl)) (hen _ _)) (hp ps _ _ (a1.take 0) (b1.take 1) _ hf242 hf244 hf245 (by rw [List.length_take];omega) (by rw [List.length_take];omega) (fun q=>by have q1:=congrArg List.length q.1;have q2:=congrArg List.length q.2;simp only [List.length_take,List.length_nil] at q1 q2;omega) (sub_take hp7 _) (sub_take hp6 _) (mrg_room hp5 hf241 hN)) ?_
   rintro _ w248 ⟨rfl,hj249,hP250⟩
   refine ⟨_,rfl,?_⟩;intro a252 F253;clear F238
   have hf254:=(FarX.trans hf243 hP250)
   have hf255:=RLs.pres rIt hf246 hP250.1
   have hf256:=RLs.pres rCg hf247 hP250.1
   refine ⟨fun _ _=>trivial,?_⟩
   refine nn (hK220 _ _ ?_);clear hK220
   have F257:=F253.k [0,1,2,3,4,20,10,32,36,11,12];clear F253
   have hx259:∃ W,w248.drew=W∧Ext w248 W:=⟨_,rfl,(Ext.refl _).drew⟩
   obtain ⟨w258,e260,hx259⟩:=hx259
   have z261:=hx259.size
   refine any_start (fun W=>Ext w258 W) (fun i=>false) 8 (.replicate 8 false) rfl rfl rfl ?_
   rw [e260];clear e260
   refine F257.ym 0 rfl<|Ym 1 rfl<|Yv 2 (vl (cutA A1 c1 0 2) (a1.length - 0) (c1 - 0)) rfl<|Ym 3 rfl<|Ym 4 rfl<|Yv 5 (vl (cutA B1 d1 1 3) (b1.length - 1) (d1 - 1)) rfl<|Yv 6 (vl (cutA A1 c1 0 2) (a1.length - 0) (c1 - 0)) rfl<|Yv 7 (vl (cutA B1 d1 1 3) (b1.length - 1) (d1 - 1)) rfl<|fun _ F277=>?_;clear F257
   refine nn ?_
   have d278:=(RLs.ext rIt hf255 hx259)
   have d279:=(RLs.ext rCg hf256 hx259)
   refine ⟨⟨(a1.drop 0),(b1.drop 1),(cutA A1 c1 0 2),c1 - 0,(cutA B1 d1 1 3),d1 - 1,(ps++[((a1.take 0).head?,(b1.take 1).head?)]),F277.j,(by rw [List.append_assoc];exact (congrArg (fun z=>ps++z) hf241.symm).trans hp5),(sub_drop hp6 _),(sub_drop hp7 _),trivial,(RLs.norm (RLs.cut d278 (by omega:0≤a1.length))),(RLs.norm (RLs.cut d279 (by omega:1≤b1.length))),(hJ _ _ _ hj249 ((Ext.refl w248).trans hx259)),(FarX.ext hf254 ((Ext.refl w248).trans hx259))⟩,?_⟩
   rw [F277.get (t:=0) rfl,F277.get (t:=1) rfl,hL12.get (t:=0) rfl,hL12.get (t:=1) rfl];simp only [sliceLen];omega
  refine F169.cf ?_
  obtain ⟨b280,o281,x282,cs283,hA284,hi285,hk286,hc287,hr288⟩:=RLs.get hf8 (by omega:0<a1.length)
  obtain ⟨A289,c290,rfl,hd291⟩:=hr288
  have z292:=(Fl.cel hd291).2.1
  obtain ⟨b293,o294,x295,cs296,hA297,hi298,hk299,hc300,hr301⟩:=RLs.get hf9 (by omega:0<b1.length)
  obtain ⟨A302,c303,rfl,hd304⟩:=hr301
  have z305:=(Fl.cel hd304).2.1
  rcases Bool.eq_false_or_eq_true (ltS x282.name x295.name) with hc306 | hc306
  ·skip
   have hx308:∃ W,w2.drew=W∧Ext w2 W:=⟨_,rfl,(Ext.refl _).drew⟩
   obtain ⟨w307,e309,hx308⟩:=hx308
   have z310:=hx308.size
   refine any_start (fun W=>Ext w307 W) (fun i=>false) 12 (.replicate 12 false) rfl rfl rfl ?_
   rw [e309];clear e309
   refine F169.ym 0 rfl<|Ym 1 rfl<|fun _ F314=>?_;clear F169
   have d315:=(RLs.ext rIt hf8 hx308)
   obtain ⟨b316,o317,x318,cs319,hA320,hi321,hk322,hc323,hr324⟩:=RLs.get d315 (by omega:0<a1.length)
   obtain rfl:x282=x318:=Option.some.inj (hi285.symm.trans hi321)
   obtain ⟨A325,c326,rfl,hd327⟩:=hr324
   have z328:=(Fl.cel hd327).2.1
   refine F314.yw 2 (.pointer (some ⟨b316,o317+0*2,none⟩)) rfl (fun F W=>rn_indexE Tryd.underlying22 inf66 ((F.get rfl).trans (by rw [hA320])) rfl (by omega:(0:Int)≤0) (by omega:(0:Int)<((a1.length:Nat):Int)) (by omega))<|fun _ F330=>?_;clear F314
   have hS331:Ext w307 w307:=(Ext.refl w307)
   refine F330.ys 3 (.agg #[(strOf x282.name),(vl A325 x282.data.length c326)]) rfl hS331 (fun F W hW=>rn_loadN (cs:=[(strOf x282.name),(vl A325 x282.data.length c326)]) (F.get rfl) Tryd.underlying66 rfl inf66 (fun j u hu=>Ext.keep ((Ext.refl w307).trans hW) (hc323 j u hu)))<|Ym 5 rfl<|Ym 6 rfl<|fun _ F337=>?_;clear F330
   have d338:=(RLs.ext rCg hf9 hx308)
   obtain ⟨b339,o340,x341,cs342,hA343,hi344,hk345,hc346,hr347⟩:=RLs.get d338 (by omega:0<b1.length)
   obtain rfl:x295=x341:=Option.some.inj (hi298.symm.trans hi344)
   obtain ⟨A348,c349,rfl,hd350⟩:=hr347
   have z351:=(Fl.cel hd350).2.1
   refine F337.yw 7 (.pointer (some ⟨b339,o340+0*3,none⟩)) rfl (fun F W=>rn_indexE Tryd.underlying25 inf92 ((F.get rfl).trans (by rw [hA343])) rfl (by omega:(0:Int)≤0) (by omega:(0:Int)<((b1.length:Nat):Int)) (by omega))<|Ys 8 (.agg #[(strOf x295.name),(vl A348 x295.data.length c349),(.bool x295.gone)]) rfl hS331 (fun F W hW=>rn_loadN (cs:=[(strOf x295.name),(vl A348 x295.data.length c349),(.bool x295.gone)]) (F.get rfl) Tryd.underlying92 rfl inf92 (fun j u hu=>Ext.keep ((Ext.refl w307).trans hW) (hc346 j u hu)))<|fun _ F355=>?_;clear F337
   refine ao 4 rfl ?_
   refine o_call F355 rfl rfl rfl rfl (rn_callv (F355.get rfl) (args0_1 (F355.get rfl)) (by kernel_rfl)) (itemName_any x282.name (vl A325 x282.data.length c326) _) ?_
   rintro _ w356 ⟨rfl,hx357⟩
   refine ⟨_,rfl,?_⟩;intro a358 F359;clear F355;have z360:=hx357.size
   refine ⟨fun _ _=>((Ext.refl w307).trans hx357),?_⟩
   refine ao 9 rfl ?_
   refine o_call F359 rfl rfl rfl rfl (rn_callv (F359.get rfl) (args0_1 (F359.get rfl)) (by kernel_rfl)) (changeName_any x295.name (vl A348 x295.data.length c349) (.bool x295.gone) _) ?_
   rintro _ w361 ⟨rfl,hx362⟩
   refine ⟨_,rfl,?_⟩;intro a363 F364;clear F359;have z365:=hx362.size
   refine ⟨fun _ _=>(((Ext.refl w307).trans hx357).trans hx362),?_⟩
   refine ao 10 rfl ?_
   refine F364.oc (cmps_lt x282.name x295.name _ hc306) ?_
   rintro _ w366 ⟨rfl,hx367⟩
   refine ⟨_,rfl,?_⟩;intro a368 F369;clear F364;have z370:=hx367.size
   refine ⟨fun _ _=>((((Ext.refl w307).trans hx357).trans hx362).trans hx367),?_⟩
   refine F369.yv 11 (vi (-1)) rfl<|fun _ F372=>?_;clear F369
   refine nn (hK40 _ _ ?_);clear hK40
   have F373:=F372.k [0,1,2,3,4,20,10,32,36];clear F372
   refine wr fun K374 hK374=>?_
   refine F373.xm rfl<|Xv (vi (a1.length:Nat))<|Xm rfl<|Xv (vi 0)<|Xv (vi 1)<|Xv (vi 1)<|Xv (vi 1)<|Xm rfl<|Xv (vi (b1.length:Nat))<|Xm rfl<|Xv (vi (-1))<|Xv (vi 0)<|Xv (vi 0)<|Xv (vi 0)<|Xa rfl<|Xa rfl<|fun _ F406=>?_;clear F373
   refine wpList_nil (hK374 _ _ ?_);clear hK374
   have F407:=F406.k [0,1,2,3,4,20,10,32,36,11,12];clear F406
   refine wp_seq_k fun K408 hK408=>?_
   have hx410:∃ W,w366.drew=W∧Ext w366 W:=⟨_,rfl,(Ext.refl _).drew⟩
   obtain ⟨w409,e411,hx410⟩:=hx410
   have z412:=hx410.size
   refine any_start (fun W=>True) (fun i=>false) 8 (.replicate 8 false) rfl rfl rfl ?_
   rw [e411];clear e411
   refine F407.ym 0 rfl<|Ym 1 rfl<|Ym 2 rfl<|Yw 3 (vl A1 1 c1) rfl (fun F W=>rn_sliceHi Tryd.underlying22 inf66 (F.get rfl) (F.get rfl) (by omega:(0:Int)≤1) (by omega:(1:Int)≤((c1:Nat):Int)))<|Ym 4 rfl<|Ym 5 rfl<|Yw 6 (vl B1 0 d1) rfl (fun F W=>rn_sliceHi Tryd.underlying25 inf92 (F.get rfl) (F.get rfl) (by omega:(0:Int)≤0) (by omega:(0:Int)≤((d1:Nat):Int)))<|fun _ F426=>?_;clear F407
   refine ao 7 rfl ?_
   have d427:=(RLs.ext rIt (RLs.ext rIt (RLs.ext rIt (RLs.ext rIt (RLs.ext rIt hf8 hx308) hx357) hx362) hx367) hx410)
   have d428:=(RLs.ext rCg (RLs.ext rCg (RLs.ext rCg (RLs.ext rCg (RLs.ext rCg hf9 hx308) hx357) hx362) hx367) hx410)
   have hf429:=(mrg_lt (na:=It.name) (nb:=Cg.name) (a:=a1) (b:=b1) hi285 hi298 hc306)
   have hf430:=hJ _ _ _ hf10 ((((((Ext.refl w2).trans hx308).trans hx357).trans hx362).trans hx367).trans hx410)
   have hf431:=(FarX.ext hf11 ((((((Ext.refl w2).trans hx308).trans hx357).trans hx362).trans hx367).trans hx410))
   have hf432:=(RLs.take d427 (by omega:1≤a1.length))
   have hf433:=(RLs.take d428 (by omega:0≤b1.length))
   have hf434:=RLs.norm d427
   have hf435:=RLs.norm d428
   refine o_call F426 rfl rfl rfl rfl (rn_callvc (F426.get rfl) (argsw_2 harg (F426.get rfl) (F426.get rfl)) (hen _ _)) (hp ps _ _ (a1.take 1) (b1.take 0) _ hf430 hf432 hf433 (by rw [List.length_take];omega) (by rw [List.length_take];omega) (fun q=>by have q1:=congrArg List.length q.1;have q2:=congrArg List.length q.2;simp only [List.length_take,List.length_nil] at q1 q2;omega) (sub_take hp7 _) (sub_take hp6 _) (mrg_room hp5 hf429 hN)) ?_
   rintro _ w436 ⟨rfl,hj437,hP438⟩
   refine ⟨_,rfl,?_⟩;intro a440 F441;clear F426
   have hf442:=(FarX.trans hf431 hP438)
   have hf443:=RLs.pres rIt hf434 hP438.1
   have hf444:=RLs.pres rCg hf435 hP438.1
   refine ⟨fun _ _=>trivial,?_⟩
   refine nn (hK408 _ _ ?_);clear hK408
   have F445:=F441.k [0,1,2,3,4,20,10,32,36,11,12];clear F441
   have hx447:∃ W,w436.drew=W∧Ext w436 W:=⟨_,rfl,(Ext.refl _).drew⟩
   obtain ⟨w446,e448,hx447⟩:=hx447
   have z449:=hx447.size
   refine any_start (fun W=>Ext w446 W) (fun i=>false) 8 (.replicate 8 false) rfl rfl rfl ?_
   rw [e448];clear e448
   refine F445.ym 0 rfl<|Ym 1 rfl<|Yv 2 (vl (cutA A1 c1 1 2) (a1.length - 1) (c1 - 1)) rfl<|Ym 3 rfl<|Ym 4 rfl<|Yv 5 (vl (cutA B1 d1 0 3) (b1.length - 0) (d1 - 0)) rfl<|Yv 6 (vl (cutA A1 c1 1 2) (a1.length - 1) (c1 - 1)) rfl<|Yv 7 (vl (cutA B1 d1 0 3) (b1.length - 0) (d1 - 0)) rfl<|fun _ F465=>?_;clear F445
   refine nn ?_
   have d466:=(RLs.ext rIt hf443 hx447)
   have d467:=(RLs.ext rCg hf444 hx447)
   refine ⟨⟨(a1.drop 1),(b1.drop 0),(cutA A1 c1 1 2),c1 - 1,(cutA B1 d1 0 3),d1 - 0,(ps++[((a1.take 1).head?,(b1.take 0).head?)]),F465.j,(by rw [List.append_assoc];exact (congrArg (fun z=>ps++z) hf429.symm).trans hp5),(sub_drop hp6 _),(sub_drop hp7 _),trivial,(RLs.norm (RLs.cut d466 (by omega:1≤a1.length))),(RLs.norm (RLs.cut d467 (by omega:0≤b1.length))),(hJ _ _ _ hj437 ((Ext.refl w436).trans hx447)),(FarX.ext hf442 ((Ext.refl w436).trans hx447))⟩,?_⟩
   rw [F465.get (t:=0) rfl,F465.get (t:=1) rfl,hL12.get (t:=0) rfl,hL12.get (t:=1) rfl];simp only [sliceLen];omega
  rcases Bool.eq_false_or_eq_true (ltS x295.name x282.name) with hc468 | hc468
  ·skip
   have hx470:∃ W,w2.drew=W∧Ext w2 W:=⟨_,rfl,(Ext.refl _).drew⟩
   obtain ⟨w469,e471,hx470⟩:=hx470
   have z472:=hx470.size
   refine any_start (fun W=>Ext w469 W) (fun i=>false) 12 (.replicate 12 false) rfl rfl rfl ?_
   rw [e471];clear e471
   refine F169.ym 0 rfl<|Ym 1 rfl<|fun _ F476=>?_;clear F169
   have d477:=(RLs.ext rIt hf8 hx470)
   obtain ⟨b478,o479,x480,cs481,hA482,hi483,hk484,hc485,hr486⟩:=RLs.get d477 (by omega:0<a1.length)
   obtain rfl:x282=x480:=Option.some.inj (hi285.symm.trans hi483)
   obtain ⟨A487,c488,rfl,hd489⟩:=hr486
   have z490:=(Fl.cel hd489).2.1
   refine F476.yw 2 (.pointer (some ⟨b478,o479+0*2,none⟩)) rfl (fun F W=>rn_indexE Tryd.underlying22 inf66 ((F.get rfl).trans (by rw [hA482])) rfl (by omega:(0:Int)≤0) (by omega:(0:Int)<((a1.length:Nat):Int)) (by omega))<|fun _ F492=>?_;clear F476
   have hS493:Ext w469 w469:=(Ext.refl w469)
   refine F492.ys 3 (.agg #[(strOf x282.name),(vl A487 x282.data.length c488)]) rfl hS493 (fun F W hW=>rn_loadN (cs:=[(strOf x282.name),(vl A487 x282.data.length c488)]) (F.get rfl) Tryd.underlying66 rfl inf66 (fun j u hu=>Ext.keep ((Ext.refl w469).trans hW) (hc485 j u hu)))<|Ym 5 rfl<|Ym 6 rfl<|fun _ F499=>?_;clear F492
   have d500:=(RLs.ext rCg hf9 hx470)
   obtain ⟨b501,o502,x503,cs504,hA505,hi506,hk507,hc508,hr509⟩:=RLs.get d500 (by omega:0<b1.length)
   obtain rfl:x295=x503:=Option.some.inj (hi298.symm.trans hi506)
   obtain ⟨A510,c511,rfl,hd512⟩:=hr509
   have z513:=(Fl.cel hd512).2.1
   refine F499.yw 7 (.pointer (some ⟨b501,o502+0*3,none⟩)) rfl (fun F W=>rn_indexE Tryd.underlying25 inf92 ((F.get rfl).trans (by rw [hA505])) rfl (by omega:(0:Int)≤0) (by omega:(0:Int)<((b1.length:Nat):Int)) (by omega))<|Ys 8 (.agg #[(strOf x295.name),(vl A510 x295.data.length c511),(.bool x295.gone)]) rfl hS493 (fun F W hW=>rn_loadN (cs:=[(strOf x295.name),(vl A510 x295.data.length c511),(.bool x295.gone)]) (F.get rfl) Tryd.underlying92 rfl inf92 (fun j u hu=>Ext.keep ((Ext.refl w469).trans hW) (hc508 j u hu)))<|fun _ F517=>?_;clear F499
   refine ao 4 rfl ?_
   refine o_call F517 rfl rfl rfl rfl (rn_callv (F517.get rfl) (args0_1 (F517.get rfl)) (by kernel_rfl)) (itemName_any x282.name (vl A487 x282.data.length c488) _) ?_
   rintro _ w518 ⟨rfl,hx519⟩
   refine ⟨_,rfl,?_⟩;intro a520 F521;clear F517;have z522:=hx519.size
   refine ⟨fun _ _=>((Ext.refl w469).trans hx519),?_⟩
   refine ao 9 rfl ?_
   refine o_call F521 rfl rfl rfl rfl (rn_callv (F521.get rfl) (args0_1 (F521.get rfl)) (by kernel_rfl)) (changeName_any x295.name (vl A510 x295.data.length c511) (.bool x295.gone) _) ?_
   rintro _ w523 ⟨rfl,hx524⟩
   refine ⟨_,rfl,?_⟩;intro a525 F526;clear F521;have z527:=hx524.size
   refine ⟨fun _ _=>(((Ext.refl w469).trans hx519).trans hx524),?_⟩
   refine ao 10 rfl ?_
   refine F526.oc (cmps_gt x282.name x295.name _ hc306 hc468) ?_
   rintro _ w528 ⟨rfl,hx529⟩
   refine ⟨_,rfl,?_⟩;intro a530 F531;clear F526;have z532:=hx529.size
   refine ⟨fun _ _=>((((Ext.refl w469).trans hx519).trans hx524).trans hx529),?_⟩
   refine F531.yv 11 (vi 1) rfl<|fun _ F534=>?_;clear F531
   refine nn (hK40 _ _ ?_);clear hK40
   have F535:=F534.k [0,1,2,3,4,20,10,32,36];clear F534
   refine wr fun K536 hK536=>?_
   refine F535.xm rfl<|Xv (vi (a1.length:Nat))<|Xm rfl<|Xv (vi 1)<|Xv (vi 0)<|Xv (vi 0)<|Xv (vi 0)<|Xm rfl<|Xv (vi (b1.length:Nat))<|Xm rfl<|Xv (vi 0)<|Xv (vi 1)<|Xv (vi 1)<|Xv (vi 1)<|Xa rfl<|Xa rfl<|fun _ F568=>?_;clear F535
   refine wpList_nil (hK536 _ _ ?_);clear hK536
   have F569:=F568.k [0,1,2,3,4,20,10,32,36,11,12];clear F568
   refine wp_seq_k fun K570 hK570=>?_
   have hx572:∃ W,w528.drew=W∧Ext w528 W:=⟨_,rfl,(Ext.refl _).drew⟩
   obtain ⟨w571,e573,hx572⟩:=hx572
   have z574:=hx572.size
   refine any_start (fun W=>True) (fun i=>false) 8 (.replicate 8 false) rfl rfl rfl ?_
   rw [e573];clear e573
   refine F569.ym 0 rfl<|Ym 1 rfl<|Ym 2 rfl<|Yw 3 (vl A1 0 c1) rfl (fun F W=>rn_sliceHi Tryd.underlying22 inf66 (F.get rfl) (F.get rfl) (by omega:(0:Int)≤0) (by omega:(0:Int)≤((c1:Nat):Int)))<|Ym 4 rfl<|Ym 5 rfl<|Yw 6 (vl B1 1 d1) rfl (fun F W=>rn_sliceHi Tryd.underlying25 inf92 (F.get rfl) (F.get rfl) (by omega:(0:Int)≤1) (by omega:(1:Int)≤((d1:Nat):Int)))<|fun _ F588=>?_;clear F569
   refine ao 7 rfl ?_
   have d589:=(RLs.ext rIt (RLs.ext rIt (RLs.ext rIt (RLs.ext rIt (RLs.ext rIt hf8 hx470) hx519) hx524) hx529) hx572)
   have d590:=(RLs.ext rCg (RLs.ext rCg (RLs.ext rCg (RLs.ext rCg (RLs.ext rCg hf9 hx470) hx519) hx524) hx529) hx572)
   have hf591:=(mrg_gt (na:=It.name) (nb:=Cg.name) (a:=a1) (b:=b1) hi285 hi298 hc306 hc468)
   have hf592:=hJ _ _ _ hf10 ((((((Ext.refl w2).trans hx470).trans hx519).trans hx524).trans hx529).trans hx572)
   have hf593:=(FarX.ext hf11 ((((((Ext.refl w2).trans hx470).trans hx519).trans hx524).trans hx529).trans hx572))
   have hf594:=(RLs.take d589 (by omega:0≤a1.length))
   have hf595:=(RLs.take d590 (by omega:1≤b1.length))
   have hf596:=RLs.norm d589
   have hf597:=RLs.norm d590
   refine o_call F588 rfl rfl rfl rfl (rn_callvc (F588.get rfl) (argsw_2 harg (F588.get rfl) (F588.get rfl)) (hen _ _)) (hp ps _ _ (a1.take 0) (b1.take 1) _ hf592 hf594 hf595 (by rw [List.length_take];omega) (by rw [List.length_take];omega) (fun q=>by have q1:=congrArg List.length q.1;have q2:=congrArg List.length q.2;simp only [List.length_take,List.length_nil] at q1 q2;omega) (sub_take hp7 _) (sub_take hp6 _) (mrg_room hp5 hf591 hN)) ?_
   rintro _ w598 ⟨rfl,hj599,hP600⟩
   refine ⟨_,rfl,?_⟩;intro a602 F603;clear F588
   have hf604:=(FarX.trans hf593 hP600)
   have hf605:=RLs.pres rIt hf596 hP600.1
   have hf606:=RLs.pres rCg hf597 hP600.1
   refine ⟨fun _ _=>trivial,?_⟩
   refine nn (hK570 _ _ ?_);clear hK570
   have F607:=F603.k [0,1,2,3,4,20,10,32,36,11,12];clear F603
   have hx609:∃ W,w598.drew=W∧Ext w598 W:=⟨_,rfl,(Ext.refl _).drew⟩
   obtain ⟨w608,e610,hx609⟩:=hx609
   have z611:=hx609.size
   refine any_start (fun W=>Ext w608 W) (fun i=>false) 8 (.replicate 8 false) rfl rfl rfl ?_
   rw [e610];clear e610
   refine F607.ym 0 rfl<|Ym 1 rfl<|Yv 2 (vl (cutA A1 c1 0 2) (a1.length - 0) (c1 - 0)) rfl<|Ym 3 rfl<|Ym 4 rfl<|Yv 5 (vl (cutA B1 d1 1 3) (b1.length - 1) (d1 - 1)) rfl<|Yv 6 (vl (cutA A1 c1 0 2) (a1.length - 0) (c1 - 0)) rfl<|Yv 7 (vl (cutA B1 d1 1 3) (b1.length - 1) (d1 - 1)) rfl<|fun _ F627=>?_;clear F607
   refine nn ?_
   have d628:=(RLs.ext rIt hf605 hx609)
   have d629:=(RLs.ext rCg hf606 hx609)
   refine ⟨⟨(a1.drop 0),(b1.drop 1),(cutA A1 c1 0 2),c1 - 0,(cutA B1 d1 1 3),d1 - 1,(ps++[((a1.take 0).head?,(b1.take 1).head?)]),F627.j,(by rw [List.append_assoc];exact (congrArg (fun z=>ps++z) hf591.symm).trans hp5),(sub_drop hp6 _),(sub_drop hp7 _),trivial,(RLs.norm (RLs.cut d628 (by omega:0≤a1.length))),(RLs.norm (RLs.cut d629 (by omega:1≤b1.length))),(hJ _ _ _ hj599 ((Ext.refl w598).trans hx609)),(FarX.ext hf604 ((Ext.refl w598).trans hx609))⟩,?_⟩
   rw [F627.get (t:=0) rfl,F627.get (t:=1) rfl,hL12.get (t:=0) rfl,hL12.get (t:=1) rfl];simp only [sliceLen];omega
  have hx631:∃ W,w2.drew=W∧Ext w2 W:=⟨_,rfl,(Ext.refl _).drew⟩
  obtain ⟨w630,e632,hx631⟩:=hx631
  have z633:=hx631.size
  refine any_start (fun W=>Ext w630 W) (fun i=>false) 12 (.replicate 12 false) rfl rfl rfl ?_
  rw [e632];clear e632
  refine F169.ym 0 rfl<|Ym 1 rfl<|fun _ F637=>?_;clear F169
  have d638:=(RLs.ext rIt hf8 hx631)
  obtain ⟨b639,o640,x641,cs642,hA643,hi644,hk645,hc646,hr647⟩:=RLs.get d638 (by omega:0<a1.length)
  obtain rfl:x282=x641:=Option.some.inj (hi285.symm.trans hi644)
  obtain ⟨A648,c649,rfl,hd650⟩:=hr647
  have z651:=(Fl.cel hd650).2.1
  refine F637.yw 2 (.pointer (some ⟨b639,o640+0*2,none⟩)) rfl (fun F W=>rn_indexE Tryd.underlying22 inf66 ((F.get rfl).trans (by rw [hA643])) rfl (by omega:(0:Int)≤0) (by omega:(0:Int)<((a1.length:Nat):Int)) (by omega))<|fun _ F653=>?_;clear F637
  have hS654:Ext w630 w630:=(Ext.refl w630)
  refine F653.ys 3 (.agg #[(strOf x282.name),(vl A648 x282.data.length c649)]) rfl hS654 (fun F W hW=>rn_loadN (cs:=[(strOf x282.name),(vl A648 x282.data.length c649)]) (F.get rfl) Tryd.underlying66 rfl inf66 (fun j u hu=>Ext.keep ((Ext.refl w630).trans hW) (hc646 j u hu)))<|Ym 5 rfl<|Ym 6 rfl<|fun _ F660=>?_;clear F653
  have d661:=(RLs.ext rCg hf9 hx631)
  obtain ⟨b662,o663,x664,cs665,hA666,hi667,hk668,hc669,hr670⟩:=RLs.get d661 (by omega:0<b1.length)
  obtain rfl:x295=x664:=Option.some.inj (hi298.symm.trans hi667)
  obtain ⟨A671,c672,rfl,hd673⟩:=hr670
  have z674:=(Fl.cel hd673).2.1
  refine F660.yw 7 (.pointer (some ⟨b662,o663+0*3,none⟩)) rfl (fun F W=>rn_indexE Tryd.underlying25 inf92 ((F.get rfl).trans (by rw [hA666])) rfl (by omega:(0:Int)≤0) (by omega:(0:Int)<((b1.length:Nat):Int)) (by omega))<|Ys 8 (.agg #[(strOf x295.name),(vl A671 x295.data.length c672),(.bool x295.gone)]) rfl hS654 (fun F W hW=>rn_loadN (cs:=[(strOf x295.name),(vl A671 x295.data.length c672),(.bool x295.gone)]) (F.get rfl) Tryd.underlying92 rfl inf92 (fun j u hu=>Ext.keep ((Ext.refl w630).trans hW) (hc669 j u hu)))<|fun _ F678=>?_;clear F660
  refine ao 4 rfl ?_
  refine o_call F678 rfl rfl rfl rfl (rn_callv (F678.get rfl) (args0_1 (F678.get rfl)) (by kernel_rfl)) (itemName_any x282.name (vl A648 x282.data.length c649) _) ?_
  rintro _ w679 ⟨rfl,hx680⟩
  refine ⟨_,rfl,?_⟩;intro a681 F682;clear F678;have z683:=hx680.size
  refine ⟨fun _ _=>((Ext.refl w630).trans hx680),?_⟩
  refine ao 9 rfl ?_
  refine o_call F682 rfl rfl rfl rfl (rn_callv (F682.get rfl) (args0_1 (F682.get rfl)) (by kernel_rfl)) (changeName_any x295.name (vl A671 x295.data.length c672) (.bool x295.gone) _) ?_
  rintro _ w684 ⟨rfl,hx685⟩
  refine ⟨_,rfl,?_⟩;intro a686 F687;clear F682;have z688:=hx685.size
  refine ⟨fun _ _=>(((Ext.refl w630).trans hx680).trans hx685),?_⟩
  refine ao 10 rfl ?_
  refine F687.oc (cmps_eq x282.name x295.name _ hc306 hc468) ?_
  rintro _ w689 ⟨rfl,hx690⟩
  refine ⟨_,rfl,?_⟩;intro a691 F692;clear F687;have z693:=hx690.size
  refine ⟨fun _ _=>((((Ext.refl w630).trans hx680).trans hx685).trans hx690),?_⟩
  refine F692.yv 11 (vi 0) rfl<|fun _ F695=>?_;clear F692
  refine nn (hK40 _ _ ?_);clear hK40
  have F696:=F695.k [0,1,2,3,4,20,10,32,36];clear F695
  refine wr fun K697 hK697=>?_
  refine F696.xm rfl<|Xv (vi (a1.length:Nat))<|Xm rfl<|Xv (vi 0)<|Xv (vi 1)<|Xv (vi 1)<|Xv (vi 1)<|Xm rfl<|Xv (vi (b1.length:Nat))<|Xm rfl<|Xv (vi 0)<|Xv (vi 1)<|Xv (vi 1)<|Xv (vi 1)<|Xa rfl<|Xa rfl<|fun _ F729=>?_;clear F696
  refine wpList_nil (hK697 _ _ ?_);clear hK697
  have F730:=F729.k [0,1,2,3,4,20,10,32,36,11,12];clear F729
  refine wp_seq_k fun K731 hK731=>?_
  have hx733:∃ W,w689.drew=W∧Ext w689 W:=⟨_,rfl,(Ext.refl _).drew⟩
  obtain ⟨w732,e734,hx733⟩:=hx733
  have z735:=hx733.size
  refine any_start (fun W=>True) (fun i=>false) 8 (.replicate 8 false) rfl rfl rfl ?_
  rw [e734];clear e734
  refine F730.ym 0 rfl<|Ym 1 rfl<|Ym 2 rfl<|Yw 3 (vl A1 1 c1) rfl (fun F W=>rn_sliceHi Tryd.underlying22 inf66 (F.get rfl) (F.get rfl) (by omega:(0:Int)≤1) (by omega:(1:Int)≤((c1:Nat):Int)))<|Ym 4 rfl<|Ym 5 rfl<|Yw 6 (vl B1 1 d1) rfl (fun F W=>rn_sliceHi Tryd.underlying25 inf92 (F.get rfl) (F.get rfl) (by omega:(0:Int)≤1) (by omega:(1:Int)≤((d1:Nat):Int)))<|fun _ F749=>?_;clear F730
  refine ao 7 rfl ?_
  have d750:=(RLs.ext rIt (RLs.ext rIt (RLs.ext rIt (RLs.ext rIt (RLs.ext rIt hf8 hx631) hx680) hx685) hx690) hx733)
  have d751:=(RLs.ext rCg (RLs.ext rCg (RLs.ext rCg (RLs.ext rCg (RLs.ext rCg hf9 hx631) hx680) hx685) hx690) hx733)
  have hf752:=(mrg_eq (na:=It.name) (nb:=Cg.name) (a:=a1) (b:=b1) hi285 hi298 hc306 hc468)
  have hf753:=hJ _ _ _ hf10 ((((((Ext.refl w2).trans hx631).trans hx680).trans hx685).trans hx690).trans hx733)
  have hf754:=(FarX.ext hf11 ((((((Ext.refl w2).trans hx631).trans hx680).trans hx685).trans hx690).trans hx733))
  have hf755:=(RLs.take d750 (by omega:1≤a1.length))
  have hf756:=(RLs.take d751 (by omega:1≤b1.length))
  have hf757:=RLs.norm d750
  have hf758:=RLs.norm d751
  refine o_call F749 rfl rfl rfl rfl (rn_callvc (F749.get rfl) (argsw_2 harg (F749.get rfl) (F749.get rfl)) (hen _ _)) (hp ps _ _ (a1.take 1) (b1.take 1) _ hf753 hf755 hf756 (by rw [List.length_take];omega) (by rw [List.length_take];omega) (fun q=>by have q1:=congrArg List.length q.1;have q2:=congrArg List.length q.2;simp only [List.length_take,List.length_nil] at q1 q2;omega) (sub_take hp7 _) (sub_take hp6 _) (mrg_room hp5 hf752 hN)) ?_
  rintro _ w759 ⟨rfl,hj760,hP761⟩
  refine ⟨_,rfl,?_⟩;intro a763 F764;clear F749
  have hf765:=(FarX.trans hf754 hP761)
  have hf766:=RLs.pres rIt hf757 hP761.1
  have hf767:=RLs.pres rCg hf758 hP761.1
  refine ⟨fun _ _=>trivial,?_⟩
  refine nn (hK731 _ _ ?_);clear hK731
  have F768:=F764.k [0,1,2,3,4,20,10,32,36,11,12];clear F764
  have hx770:∃ W,w759.drew=W∧Ext w759 W:=⟨_,rfl,(Ext.refl _).drew⟩
  obtain ⟨w769,e771,hx770⟩:=hx770
  have z772:=hx770.size
  refine any_start (fun W=>Ext w769 W) (fun i=>false) 8 (.replicate 8 false) rfl rfl rfl ?_
  rw [e771];clear e771
  refine F768.ym 0 rfl<|Ym 1 rfl<|Yv 2 (vl (cutA A1 c1 1 2) (a1.length - 1) (c1 - 1)) rfl<|Ym 3 rfl<|Ym 4 rfl<|Yv 5 (vl (cutA B1 d1 1 3) (b1.length - 1) (d1 - 1)) rfl<|Yv 6 (vl (cutA A1 c1 1 2) (a1.length - 1) (c1 - 1)) rfl<|Yv 7 (vl (cutA B1 d1 1 3) (b1.length - 1) (d1 - 1)) rfl<|fun _ F788=>?_;clear F768
  refine nn ?_
  have d789:=(RLs.ext rIt hf766 hx770)
  have d790:=(RLs.ext rCg hf767 hx770)
  refine ⟨⟨(a1.drop 1),(b1.drop 1),(cutA A1 c1 1 2),c1 - 1,(cutA B1 d1 1 3),d1 - 1,(ps++[((a1.take 1).head?,(b1.take 1).head?)]),F788.j,(by rw [List.append_assoc];exact (congrArg (fun z=>ps++z) hf752.symm).trans hp5),(sub_drop hp6 _),(sub_drop hp7 _),trivial,(RLs.norm (RLs.cut d789 (by omega:1≤a1.length))),(RLs.norm (RLs.cut d790 (by omega:1≤b1.length))),(hJ _ _ _ hj760 ((Ext.refl w759).trans hx770)),(FarX.ext hf765 ((Ext.refl w759).trans hx770))⟩,?_⟩
  rw [F788.get (t:=0) rfl,F788.get (t:=1) rfl,hL12.get (t:=0) rfl,hL12.get (t:=1) rfl];simp only [sliceLen];omega
 refine F26.xg (vl B1 b1.length d1)<|Xg (vi (b1.length:Nat))<|Xg (.bool (decide ((0:Int)<((b1.length:Nat):Int))))<|Xv (.bool (decide ((0:Int)<((b1.length:Nat):Int))))<|fun _ F798=>?_;clear F26
 refine wpList_nil (hK18 _ _ ?_);clear hK18
 have F799:=F798.k [0,1,2,3,4,20];clear F798
 by_cases hc800:(0:Int)<((b1.length:Nat):Int)
 ·skip
  refine F799.ct ?_
  refine wp_skip ?_
  refine hK17 _ _ ?_;clear hK17
  refine wp_block ?_
  refine wr fun K801 hK801=>?_
  refine F799.xv (vi 0)<|fun _ F803=>?_;clear F799
  refine wpList_nil (hK801 _ _ ?_);clear hK801
  refine wp_seq_k fun K804 hK804=>?_
  refine wp_block ?_
  refine wr fun K805 hK805=>?_
  refine F803.xm rfl<|Xv (vi (b1.length:Nat))<|Xv (.bool (decide (((b1.length:Nat):Int)=(0:Int))))<|Xa rfl<|fun _ F813=>?_;clear F803
  refine wpList_nil (hK805 _ _ ?_);clear hK805
  by_cases hc814:((b1.length:Nat):Int)=(0:Int)
  ·skip
   refine F813.ct ?_
   refine wp_region_lit ?_
   refine F813.xv (vi (-1))<|fun _ F816=>?_;clear F813
   refine wpList_nil (hK804 _ _ ?_);clear hK804
   refine wp_seq_k fun K817 hK817=>?_
   obtain ⟨b818,o819,x820,cs821,hA822,hi823,hk824,hc825,hr826⟩:=RLs.get hf8 (by omega:0<a1.length)
   obtain ⟨A827,c828,rfl,hd829⟩:=hr826
   have z830:=(Fl.cel hd829).2.1
   refine wp_region_lit ?_
   refine F816.xm rfl<|Xv (vi (a1.length:Nat))<|Xm rfl<|Xv (vi 0)<|Xv (vi 1)<|Xv (vi 1)<|Xv (vi 1)<|Xm rfl<|Xv (vi (b1.length:Nat))<|Xm rfl<|Xv (vi (-1))<|Xv (vi 0)<|Xv (vi 0)<|Xv (vi 0)<|Xa rfl<|Xa rfl<|fun _ F862=>?_;clear F816
   refine wpList_nil (hK817 _ _ ?_);clear hK817
   have F863:=F862.k [0,1,2,3,4,20,10,32,11,12];clear F862
   refine wp_seq_k fun K864 hK864=>?_
   have hx866:∃ W,w2.drew=W∧Ext w2 W:=⟨_,rfl,(Ext.refl _).drew⟩
   obtain ⟨w865,e867,hx866⟩:=hx866
   have z868:=hx866.size
   refine any_start (fun W=>True) (fun i=>false) 8 (.replicate 8 false) rfl rfl rfl ?_
   rw [e867];clear e867
   refine F863.ym 0 rfl<|Ym 1 rfl<|Ym 2 rfl<|Yw 3 (vl A1 1 c1) rfl (fun F W=>rn_sliceHi Tryd.underlying22 inf66 (F.get rfl) (F.get rfl) (by omega:(0:Int)≤1) (by omega:(1:Int)≤((c1:Nat):Int)))<|Ym 4 rfl<|Ym 5 rfl<|Yw 6 (vl B1 0 d1) rfl (fun F W=>rn_sliceHi Tryd.underlying25 inf92 (F.get rfl) (F.get rfl) (by omega:(0:Int)≤0) (by omega:(0:Int)≤((d1:Nat):Int)))<|fun _ F882=>?_;clear F863
   refine ao 7 rfl ?_
   have d883:=(RLs.ext rIt hf8 hx866)
   have d884:=(RLs.ext rCg hf9 hx866)
   have hf885:=(mrg_l0 (na:=It.name) (nb:=Cg.name) (a:=a1) (b:=b1) hi823 (by omega))
   have hf886:=hJ _ _ _ hf10 ((Ext.refl w2).trans hx866)
   have hf887:=(FarX.ext hf11 ((Ext.refl w2).trans hx866))
   have hf888:=(RLs.take d883 (by omega:1≤a1.length))
   have hf889:=(RLs.take d884 (by omega:0≤b1.length))
   have hf890:=RLs.norm d883
   have hf891:=RLs.norm d884
   refine o_call F882 rfl rfl rfl rfl (rn_callvc (F882.get rfl) (argsw_2 harg (F882.get rfl) (F882.get rfl)) (hen _ _)) (hp ps _ _ (a1.take 1) (b1.take 0) _ hf886 hf888 hf889 (by rw [List.length_take];omega) (by rw [List.length_take];omega) (fun q=>by have q1:=congrArg List.length q.1;have q2:=congrArg List.length q.2;simp only [List.length_take,List.length_nil] at q1 q2;omega) (sub_take hp7 _) (sub_take hp6 _) (mrg_room hp5 hf885 hN)) ?_
   rintro _ w892 ⟨rfl,hj893,hP894⟩
   refine ⟨_,rfl,?_⟩;intro a896 F897;clear F882
   have hf898:=(FarX.trans hf887 hP894)
   have hf899:=RLs.pres rIt hf890 hP894.1
   have hf900:=RLs.pres rCg hf891 hP894.1
   refine ⟨fun _ _=>trivial,?_⟩
   refine nn (hK864 _ _ ?_);clear hK864
   have F901:=F897.k [0,1,2,3,4,20,10,32,11,12];clear F897
   have hx903:∃ W,w892.drew=W∧Ext w892 W:=⟨_,rfl,(Ext.refl _).drew⟩
   obtain ⟨w902,e904,hx903⟩:=hx903
   have z905:=hx903.size
   refine any_start (fun W=>Ext w902 W) (fun i=>false) 8 (.replicate 8 false) rfl rfl rfl ?_
   rw [e904];clear e904
   refine F901.ym 0 rfl<|Ym 1 rfl<|Yv 2 (vl (cutA A1 c1 1 2) (a1.length - 1) (c1 - 1)) rfl<|Ym 3 rfl<|Ym 4 rfl<|Yv 5 (vl (cutA B1 d1 0 3) (b1.length - 0) (d1 - 0)) rfl<|Yv 6 (vl (cutA A1 c1 1 2) (a1.length - 1) (c1 - 1)) rfl<|Yv 7 (vl (cutA B1 d1 0 3) (b1.length - 0) (d1 - 0)) rfl<|fun _ F921=>?_;clear F901
   refine nn ?_
   have d922:=(RLs.ext rIt hf899 hx903)
   have d923:=(RLs.ext rCg hf900 hx903)
   refine ⟨⟨(a1.drop 1),(b1.drop 0),(cutA A1 c1 1 2),c1 - 1,(cutA B1 d1 0 3),d1 - 0,(ps++[((a1.take 1).head?,(b1.take 0).head?)]),F921.j,(by rw [List.append_assoc];exact (congrArg (fun z=>ps++z) hf885.symm).trans hp5),(sub_drop hp6 _),(sub_drop hp7 _),trivial,(RLs.norm (RLs.cut d922 (by omega:1≤a1.length))),(RLs.norm (RLs.cut d923 (by omega:0≤b1.length))),(hJ _ _ _ hj893 ((Ext.refl w892).trans hx903)),(FarX.ext hf898 ((Ext.refl w892).trans hx903))⟩,?_⟩
   rw [F921.get (t:=0) rfl,F921.get (t:=1) rfl,hL12.get (t:=0) rfl,hL12.get (t:=1) rfl];simp only [sliceLen];omega
  refine F813.cf ?_
  refine wr fun K924 hK924=>?_
  refine F813.xm rfl<|Xv (vi (a1.length:Nat))<|Xv (.bool (decide (((a1.length:Nat):Int)=(0:Int))))<|Xa rfl<|fun _ F932=>?_;clear F813
  refine wpList_nil (hK924 _ _ ?_);clear hK924
  have F933:=F932.k [0,1,2,3,4,20,10,32,36];clear F932
  by_cases hc934:((a1.length:Nat):Int)=(0:Int)
  ·skip
   refine F933.ct ?_
   refine wp_region_lit ?_
   refine F933.xv (vi 1)<|fun _ F936=>?_;clear F933
   refine wpList_nil (hK804 _ _ ?_);clear hK804
   refine wp_seq_k fun K937 hK937=>?_
   obtain ⟨b938,o939,x940,cs941,hA942,hi943,hk944,hc945,hr946⟩:=RLs.get hf9 (by omega:0<b1.length)
   obtain ⟨A947,c948,rfl,hd949⟩:=hr946
   have z950:=(Fl.cel hd949).2.1
   refine wp_region_lit ?_
   refine F936.xm rfl<|Xv (vi (a1.length:Nat))<|Xm rfl<|Xv (vi 1)<|Xv (vi 0)<|Xv (vi 0)<|Xv (vi 0)<|Xm rfl<|Xv (vi (b1.length:Nat))<|Xm rfl<|Xv (vi 0)<|Xv (vi 1)<|Xv (vi 1)<|Xv (vi 1)<|Xa rfl<|Xa rfl<|fun _ F982=>?_;clear F936
   refine wpList_nil (hK937 _ _ ?_);clear hK937
   have F983:=F982.k [0,1,2,3,4,20,10,32,36,11,12];clear F982
   refine wp_seq_k fun K984 hK984=>?_
   have hx986:∃ W,w2.drew=W∧Ext w2 W:=⟨_,rfl,(Ext.refl _).drew⟩
   obtain ⟨w985,e987,hx986⟩:=hx986
   have z988:=hx986.size
   refine any_start (fun W=>True) (fun i=>false) 8 (.replicate 8 false) rfl rfl rfl ?_
   rw [e987];clear e987
   refine F983.ym 0 rfl<|Ym 1 rfl<|Ym 2 rfl<|Yw 3 (vl A1 0 c1) rfl (fun F W=>rn_sliceHi Tryd.underlying22 inf66 (F.get rfl) (F.get rfl) (by omega:(0:Int)≤0) (by omega:(0:Int)≤((c1:Nat):Int)))<|Ym 4 rfl<|Ym 5 rfl<|Yw 6 (vl B1 1 d1) rfl (fun F W=>rn_sliceHi Tryd.underlying25 inf92 (F.get rfl) (F.get rfl) (by omega:(0:Int)≤1) (by omega:(1:Int)≤((d1:Nat):Int)))<|fun _ F1002=>?_;clear F983
   refine ao 7 rfl ?_
   have d1003:=(RLs.ext rIt hf8 hx986)
   have d1004:=(RLs.ext rCg hf9 hx986)
   have hf1005:=(mrg_0r (na:=It.name) (nb:=Cg.name) (a:=a1) (b:=b1) hi943 (by omega))
   have hf1006:=hJ _ _ _ hf10 ((Ext.refl w2).trans hx986)
   have hf1007:=(FarX.ext hf11 ((Ext.refl w2).trans hx986))
   have hf1008:=(RLs.take d1003 (by omega:0≤a1.length))
   have hf1009:=(RLs.take d1004 (by omega:1≤b1.length))
   have hf1010:=RLs.norm d1003
   have hf1011:=RLs.norm d1004
   refine o_call F1002 rfl rfl rfl rfl (rn_callvc (F1002.get rfl) (argsw_2 harg (F1002.get rfl) (F1002.get rfl)) (hen _ _)) (hp ps _ _ (a1.take 0) (b1.take 1) _ hf1006 hf1008 hf1009 (by rw [List.length_take];omega) (by rw [List.length_take];omega) (fun q=>by have q1:=congrArg List.length q.1;have q2:=congrArg List.length q.2;simp only [List.length_take,List.length_nil] at q1 q2;omega) (sub_take hp7 _) (sub_take hp6 _) (mrg_room hp5 hf1005 hN)) ?_
   rintro _ w1012 ⟨rfl,hj1013,hP1014⟩
   refine ⟨_,rfl,?_⟩;intro a1016 F1017;clear F1002
   have hf1018:=(FarX.trans hf1007 hP1014)
   have hf1019:=RLs.pres rIt hf1010 hP1014.1
   have hf1020:=RLs.pres rCg hf1011 hP1014.1
   refine ⟨fun _ _=>trivial,?_⟩
   refine nn (hK984 _ _ ?_);clear hK984
   have F1021:=F1017.k [0,1,2,3,4,20,10,32,36,11,12];clear F1017
   have hx1023:∃ W,w1012.drew=W∧Ext w1012 W:=⟨_,rfl,(Ext.refl _).drew⟩
   obtain ⟨w1022,e1024,hx1023⟩:=hx1023
   have z1025:=hx1023.size
   refine any_start (fun W=>Ext w1022 W) (fun i=>false) 8 (.replicate 8 false) rfl rfl rfl ?_
   rw [e1024];clear e1024
   refine F1021.ym 0 rfl<|Ym 1 rfl<|Yv 2 (vl (cutA A1 c1 0 2) (a1.length - 0) (c1 - 0)) rfl<|Ym 3 rfl<|Ym 4 rfl<|Yv 5 (vl (cutA B1 d1 1 3) (b1.length - 1) (d1 - 1)) rfl<|Yv 6 (vl (cutA A1 c1 0 2) (a1.length - 0) (c1 - 0)) rfl<|Yv 7 (vl (cutA B1 d1 1 3) (b1.length - 1) (d1 - 1)) rfl<|fun _ F1041=>?_;clear F1021
   refine nn ?_
   have d1042:=(RLs.ext rIt hf1019 hx1023)
   have d1043:=(RLs.ext rCg hf1020 hx1023)
   refine ⟨⟨(a1.drop 0),(b1.drop 1),(cutA A1 c1 0 2),c1 - 0,(cutA B1 d1 1 3),d1 - 1,(ps++[((a1.take 0).head?,(b1.take 1).head?)]),F1041.j,(by rw [List.append_assoc];exact (congrArg (fun z=>ps++z) hf1005.symm).trans hp5),(sub_drop hp6 _),(sub_drop hp7 _),trivial,(RLs.norm (RLs.cut d1042 (by omega:0≤a1.length))),(RLs.norm (RLs.cut d1043 (by omega:1≤b1.length))),(hJ _ _ _ hj1013 ((Ext.refl w1012).trans hx1023)),(FarX.ext hf1018 ((Ext.refl w1012).trans hx1023))⟩,?_⟩
   rw [F1041.get (t:=0) rfl,F1041.get (t:=1) rfl,hL12.get (t:=0) rfl,hL12.get (t:=1) rfl];simp only [sliceLen];omega
  refine F933.cf ?_
  obtain ⟨b1044,o1045,x1046,cs1047,hA1048,hi1049,hk1050,hc1051,hr1052⟩:=RLs.get hf8 (by omega:0<a1.length)
  obtain ⟨A1053,c1054,rfl,hd1055⟩:=hr1052
  have z1056:=(Fl.cel hd1055).2.1
  obtain ⟨b1057,o1058,x1059,cs1060,hA1061,hi1062,hk1063,hc1064,hr1065⟩:=RLs.get hf9 (by omega:0<b1.length)
  obtain ⟨A1066,c1067,rfl,hd1068⟩:=hr1065
  have z1069:=(Fl.cel hd1068).2.1
  rcases Bool.eq_false_or_eq_true (ltS x1046.name x1059.name) with hc1070 | hc1070
  ·skip
   have hx1072:∃ W,w2.drew=W∧Ext w2 W:=⟨_,rfl,(Ext.refl _).drew⟩
   obtain ⟨w1071,e1073,hx1072⟩:=hx1072
   have z1074:=hx1072.size
   refine any_start (fun W=>Ext w1071 W) (fun i=>false) 12 (.replicate 12 false) rfl rfl rfl ?_
   rw [e1073];clear e1073
   refine F933.ym 0 rfl<|Ym 1 rfl<|fun _ F1078=>?_;clear F933
   have d1079:=(RLs.ext rIt hf8 hx1072)
   obtain ⟨b1080,o1081,x1082,cs1083,hA1084,hi1085,hk1086,hc1087,hr1088⟩:=RLs.get d1079 (by omega:0<a1.length)
   obtain rfl:x1046=x1082:=Option.some.inj (hi1049.symm.trans hi1085)
   obtain ⟨A1089,c1090,rfl,hd1091⟩:=hr1088
   have z1092:=(Fl.cel hd1091).2.1
   refine F1078.yw 2 (.pointer (some ⟨b1080,o1081+0*2,none⟩)) rfl (fun F W=>rn_indexE Tryd.underlying22 inf66 ((F.get rfl).trans (by rw [hA1084])) rfl (by omega:(0:Int)≤0) (by omega:(0:Int)<((a1.length:Nat):Int)) (by omega))<|fun _ F1094=>?_;clear F1078
   have hS1095:Ext w1071 w1071:=(Ext.refl w1071)
   refine F1094.ys 3 (.agg #[(strOf x1046.name),(vl A1089 x1046.data.length c1090)]) rfl hS1095 (fun F W hW=>rn_loadN (cs:=[(strOf x1046.name),(vl A1089 x1046.data.length c1090)]) (F.get rfl) Tryd.underlying66 rfl inf66 (fun j u hu=>Ext.keep ((Ext.refl w1071).trans hW) (hc1087 j u hu)))<|Ym 5 rfl<|Ym 6 rfl<|fun _ F1101=>?_;clear F1094
   have d1102:=(RLs.ext rCg hf9 hx1072)
   obtain ⟨b1103,o1104,x1105,cs1106,hA1107,hi1108,hk1109,hc1110,hr1111⟩:=RLs.get d1102 (by omega:0<b1.length)
   obtain rfl:x1059=x1105:=Option.some.inj (hi1062.symm.trans hi1108)
   obtain ⟨A1112,c1113,rfl,hd1114⟩:=hr1111
   have z1115:=(Fl.cel hd1114).2.1
   refine F1101.yw 7 (.pointer (some ⟨b1103,o1104+0*3,none⟩)) rfl (fun F W=>rn_indexE Tryd.underlying25 inf92 ((F.get rfl).trans (by rw [hA1107])) rfl (by omega:(0:Int)≤0) (by omega:(0:Int)<((b1.length:Nat):Int)) (by omega))<|Ys 8 (.agg #[(strOf x1059.name),(vl A1112 x1059.data.length c1113),(.bool x1059.gone)]) rfl hS1095 (fun F W hW=>rn_loadN (cs:=[(strOf x1059.name),(vl A1112 x1059.data.length c1113),(.bool x1059.gone)]) (F.get rfl) Tryd.underlying92 rfl inf92 (fun j u hu=>Ext.keep ((Ext.refl w1071).trans hW) (hc1110 j u hu)))<|fun _ F1119=>?_;clear F1101
   refine ao 4 rfl ?_
   refine o_call F1119 rfl rfl rfl rfl (rn_callv (F1119.get rfl) (args0_1 (F1119.get rfl)) (by kernel_rfl)) (itemName_any x1046.name (vl A1089 x1046.data.length c1090) _) ?_
   rintro _ w1120 ⟨rfl,hx1121⟩
   refine ⟨_,rfl,?_⟩;intro a1122 F1123;clear F1119;have z1124:=hx1121.size
   refine ⟨fun _ _=>((Ext.refl w1071).trans hx1121),?_⟩
   refine ao 9 rfl ?_
   refine o_call F1123 rfl rfl rfl rfl (rn_callv (F1123.get rfl) (args0_1 (F1123.get rfl)) (by kernel_rfl)) (changeName_any x1059.name (vl A1112 x1059.data.length c1113) (.bool x1059.gone) _) ?_
   rintro _ w1125 ⟨rfl,hx1126⟩
   refine ⟨_,rfl,?_⟩;intro a1127 F1128;clear F1123;have z1129:=hx1126.size
   refine ⟨fun _ _=>(((Ext.refl w1071).trans hx1121).trans hx1126),?_⟩
   refine ao 10 rfl ?_
   refine F1128.oc (cmps_lt x1046.name x1059.name _ hc1070) ?_
   rintro _ w1130 ⟨rfl,hx1131⟩
   refine ⟨_,rfl,?_⟩;intro a1132 F1133;clear F1128;have z1134:=hx1131.size
   refine ⟨fun _ _=>((((Ext.refl w1071).trans hx1121).trans hx1126).trans hx1131),?_⟩
   refine F1133.yv 11 (vi (-1)) rfl<|fun _ F1136=>?_;clear F1133
   refine nn (hK804 _ _ ?_);clear hK804
   have F1137:=F1136.k [0,1,2,3,4,20,10,32,36];clear F1136
   refine wr fun K1138 hK1138=>?_
   refine F1137.xm rfl<|Xv (vi (a1.length:Nat))<|Xm rfl<|Xv (vi 0)<|Xv (vi 1)<|Xv (vi 1)<|Xv (vi 1)<|Xm rfl<|Xv (vi (b1.length:Nat))<|Xm rfl<|Xv (vi (-1))<|Xv (vi 0)<|Xv (vi 0)<|Xv (vi 0)<|Xa rfl<|Xa rfl<|fun _ F1170=>?_;clear F1137
   refine wpList_nil (hK1138 _ _ ?_);clear hK1138
   have F1171:=F1170.k [0,1,2,3,4,20,10,32,36,11,12];clear F1170
   refine wp_seq_k fun K1172 hK1172=>?_
   have hx1174:∃ W,w1130.drew=W∧Ext w1130 W:=⟨_,rfl,(Ext.refl _).drew⟩
   obtain ⟨w1173,e1175,hx1174⟩:=hx1174
   have z1176:=hx1174.size
   refine any_start (fun W=>True) (fun i=>false) 8 (.replicate 8 false) rfl rfl rfl ?_
   rw [e1175];clear e1175
   refine F1171.ym 0 rfl<|Ym 1 rfl<|Ym 2 rfl<|Yw 3 (vl A1 1 c1) rfl (fun F W=>rn_sliceHi Tryd.underlying22 inf66 (F.get rfl) (F.get rfl) (by omega:(0:Int)≤1) (by omega:(1:Int)≤((c1:Nat):Int)))<|Ym 4 rfl<|Ym 5 rfl<|Yw 6 (vl B1 0 d1) rfl (fun F W=>rn_sliceHi Tryd.underlying25 inf92 (F.get rfl) (F.get rfl) (by omega:(0:Int)≤0) (by omega:(0:Int)≤((d1:Nat):Int)))<|fun _ F1190=>?_;clear F1171
   refine ao 7 rfl ?_
   have d1191:=(RLs.ext rIt (RLs.ext rIt (RLs.ext rIt (RLs.ext rIt (RLs.ext rIt hf8 hx1072) hx1121) hx1126) hx1131) hx1174)
   have d1192:=(RLs.ext rCg (RLs.ext rCg (RLs.ext rCg (RLs.ext rCg (RLs.ext rCg hf9 hx1072) hx1121) hx1126) hx1131) hx1174)
   have hf1193:=(mrg_lt (na:=It.name) (nb:=Cg.name) (a:=a1) (b:=b1) hi1049 hi1062 hc1070)
   have hf1194:=hJ _ _ _ hf10 ((((((Ext.refl w2).trans hx1072).trans hx1121).trans hx1126).trans hx1131).trans hx1174)
   have hf1195:=(FarX.ext hf11 ((((((Ext.refl w2).trans hx1072).trans hx1121).trans hx1126).trans hx1131).trans hx1174))
   have hf1196:=(RLs.take d1191 (by omega:1≤a1.length))
   have hf1197:=(RLs.take d1192 (by omega:0≤b1.length))
   have hf1198:=RLs.norm d1191
   have hf1199:=RLs.norm d1192
   refine o_call F1190 rfl rfl rfl rfl (rn_callvc (F1190.get rfl) (argsw_2 harg (F1190.get rfl) (F1190.get rfl)) (hen _ _)) (hp ps _ _ (a1.take 1) (b1.take 0) _ hf1194 hf1196 hf1197 (by rw [List.length_take];omega) (by rw [List.length_take];omega) (fun q=>by have q1:=congrArg List.length q.1;have q2:=congrArg List.length q.2;simp only [List.length_take,List.length_nil] at q1 q2;omega) (sub_take hp7 _) (sub_take hp6 _) (mrg_room hp5 hf1193 hN)) ?_
   rintro _ w1200 ⟨rfl,hj1201,hP1202⟩
   refine ⟨_,rfl,?_⟩;intro a1204 F1205;clear F1190
   have hf1206:=(FarX.trans hf1195 hP1202)
   have hf1207:=RLs.pres rIt hf1198 hP1202.1
   have hf1208:=RLs.pres rCg hf1199 hP1202.1
   refine ⟨fun _ _=>trivial,?_⟩
   refine nn (hK1172 _ _ ?_);clear hK1172
   have F1209:=F1205.k [0,1,2,3,4,20,10,32,36,11,12];clear F1205
   have hx1211:∃ W,w1200.drew=W∧Ext w1200 W:=⟨_,rfl,(Ext.refl _).drew⟩
   obtain ⟨w1210,e1212,hx1211⟩:=hx1211
   have z1213:=hx1211.size
   refine any_start (fun W=>Ext w1210 W) (fun i=>false) 8 (.replicate 8 false) rfl rfl rfl ?_
   rw [e1212];clear e1212
   refine F1209.ym 0 rfl<|Ym 1 rfl<|Yv 2 (vl (cutA A1 c1 1 2) (a1.length - 1) (c1 - 1)) rfl<|Ym 3 rfl<|Ym 4 rfl<|Yv 5 (vl (cutA B1 d1 0 3) (b1.length - 0) (d1 - 0)) rfl<|Yv 6 (vl (cutA A1 c1 1 2) (a1.length - 1) (c1 - 1)) rfl<|Yv 7 (vl (cutA B1 d1 0 3) (b1.length - 0) (d1 - 0)) rfl<|fun _ F1229=>?_;clear F1209
   refine nn ?_
   have d1230:=(RLs.ext rIt hf1207 hx1211)
   have d1231:=(RLs.ext rCg hf1208 hx1211)
   refine ⟨⟨(a1.drop 1),(b1.drop 0),(cutA A1 c1 1 2),c1 - 1,(cutA B1 d1 0 3),d1 - 0,(ps++[((a1.take 1).head?,(b1.take 0).head?)]),F1229.j,(by rw [List.append_assoc];exact (congrArg (fun z=>ps++z) hf1193.symm).trans hp5),(sub_drop hp6 _),(sub_drop hp7 _),trivial,(RLs.norm (RLs.cut d1230 (by omega:1≤a1.length))),(RLs.norm (RLs.cut d1231 (by omega:0≤b1.length))),(hJ _ _ _ hj1201 ((Ext.refl w1200).trans hx1211)),(FarX.ext hf1206 ((Ext.refl w1200).trans hx1211))⟩,?_⟩
   rw [F1229.get (t:=0) rfl,F1229.get (t:=1) rfl,hL12.get (t:=0) rfl,hL12.get (t:=1) rfl];simp only [sliceLen];omega
  rcases Bool.eq_false_or_eq_true (ltS x1059.name x1046.name) with hc1232 | hc1232
  ·skip
   have hx1234:∃ W,w2.drew=W∧Ext w2 W:=⟨_,rfl,(Ext.refl _).drew⟩
   obtain ⟨w1233,e1235,hx1234⟩:=hx1234
   have z1236:=hx1234.size
   refine any_start (fun W=>Ext w1233 W) (fun i=>false) 12 (.replicate 12 false) rfl rfl rfl ?_
   rw [e1235];clear e1235
   refine F933.ym 0 rfl<|Ym 1 rfl<|fun _ F1240=>?_;clear F933
   have d1241:=(RLs.ext rIt hf8 hx1234)
   obtain ⟨b1242,o1243,x1244,cs1245,hA1246,hi1247,hk1248,hc1249,hr1250⟩:=RLs.get d1241 (by omega:0<a1.length)
   obtain rfl:x1046=x1244:=Option.some.inj (hi1049.symm.trans hi1247)
   obtain ⟨A1251,c1252,rfl,hd1253⟩:=hr1250
   have z1254:=(Fl.cel hd1253).2.1
   refine F1240.yw 2 (.pointer (some ⟨b1242,o1243+0*2,none⟩)) rfl (fun F W=>rn_indexE Tryd.underlying22 inf66 ((F.get rfl).trans (by rw [hA1246])) rfl (by omega:(0:Int)≤0) (by omega:(0:Int)<((a1.length:Nat):Int)) (by omega))<|fun _ F1256=>?_;clear F1240
   have hS1257:Ext w1233 w1233:=(Ext.refl w1233)
   refine F1256.ys 3 (.agg #[(strOf x1046.name),(vl A1251 x1046.data.length c1252)]) rfl hS1257 (fun F W hW=>rn_loadN (cs:=[(strOf x1046.name),(vl A1251 x1046.data.length c1252)]) (F.get rfl) Tryd.underlying66 rfl inf66 (fun j u hu=>Ext.keep ((Ext.refl w1233).trans hW) (hc1249 j u hu)))<|Ym 5 rfl<|Ym 6 rfl<|fun _ F1263=>?_;clear F1256
   have d1264:=(RLs.ext rCg hf9 hx1234)
   obtain ⟨b1265,o1266,x1267,cs1268,hA1269,hi1270,hk1271,hc1272,hr1273⟩:=RLs.get d1264 (by omega:0<b1.length)
   obtain rfl:x1059=x1267:=Option.some.inj (hi1062.symm.trans hi1270)
   obtain ⟨A1274,c1275,rfl,hd1276⟩:=hr1273
   have z1277:=(Fl.cel hd1276).2.1
   refine F1263.yw 7 (.pointer (some ⟨b1265,o1266+0*3,none⟩)) rfl (fun F W=>rn_indexE Tryd.underlying25 inf92 ((F.get rfl).trans (by rw [hA1269])) rfl (by omega:(0:Int)≤0) (by omega:(0:Int)<((b1.length:Nat):Int)) (by omega))<|Ys 8 (.agg #[(strOf x1059.name),(vl A1274 x1059.data.length c1275),(.bool x1059.gone)]) rfl hS1257 (fun F W hW=>rn_loadN (cs:=[(strOf x1059.name),(vl A1274 x1059.data.length c1275),(.bool x1059.gone)]) (F.get rfl) Tryd.underlying92 rfl inf92 (fun j u hu=>Ext.keep ((Ext.refl w1233).trans hW) (hc1272 j u hu)))<|fun _ F1281=>?_;clear F1263
   refine ao 4 rfl ?_
   refine o_call F1281 rfl rfl rfl rfl (rn_callv (F1281.get rfl) (args0_1 (F1281.get rfl)) (by kernel_rfl)) (itemName_any x1046.name (vl A1251 x1046.data.length c1252) _) ?_
   rintro _ w1282 ⟨rfl,hx1283⟩
   refine ⟨_,rfl,?_⟩;intro a1284 F1285;clear F1281;have z1286:=hx1283.size
   refine ⟨fun _ _=>((Ext.refl w1233).trans hx1283),?_⟩
   refine ao 9 rfl ?_
   refine o_call F1285 rfl rfl rfl rfl (rn_callv (F1285.get rfl) (args0_1 (F1285.get rfl)) (by kernel_rfl)) (changeName_any x1059.name (vl A1274 x1059.data.length c1275) (.bool x1059.gone) _) ?_
   rintro _ w1287 ⟨rfl,hx1288⟩
   refine ⟨_,rfl,?_⟩;intro a1289 F1290;clear F1285;have z1291:=hx1288.size
   refine ⟨fun _ _=>(((Ext.refl w1233).trans hx1283).trans hx1288),?_⟩
   refine ao 10 rfl ?_
   refine F1290.oc (cmps_gt x1046.name x1059.name _ hc1070 hc1232) ?_
   rintro _ w1292 ⟨rfl,hx1293⟩
   refine ⟨_,rfl,?_⟩;intro a1294 F1295;clear F1290;have z1296:=hx1293.size
   refine ⟨fun _ _=>((((Ext.refl w1233).trans hx1283).trans hx1288).trans hx1293),?_⟩
   refine F1295.yv 11 (vi 1) rfl<|fun _ F1298=>?_;clear F1295
   refine nn (hK804 _ _ ?_);clear hK804
   have F1299:=F1298.k [0,1,2,3,4,20,10,32,36];clear F1298
   refine wr fun K1300 hK1300=>?_
   refine F1299.xm rfl<|Xv (vi (a1.length:Nat))<|Xm rfl<|Xv (vi 1)<|Xv (vi 0)<|Xv (vi 0)<|Xv (vi 0)<|Xm rfl<|Xv (vi (b1.length:Nat))<|Xm rfl<|Xv (vi 0)<|Xv (vi 1)<|Xv (vi 1)<|Xv (vi 1)<|Xa rfl<|Xa rfl<|fun _ F1332=>?_;clear F1299
   refine wpList_nil (hK1300 _ _ ?_);clear hK1300
   have F1333:=F1332.k [0,1,2,3,4,20,10,32,36,11,12];clear F1332
   refine wp_seq_k fun K1334 hK1334=>?_
   have hx1336:∃ W,w1292.drew=W∧Ext w1292 W:=⟨_,rfl,(Ext.refl _).drew⟩
   obtain ⟨w1335,e1337,hx1336⟩:=hx1336
   have z1338:=hx1336.size
   refine any_start (fun W=>True) (fun i=>false) 8 (.replicate 8 false) rfl rfl rfl ?_
   rw [e1337];clear e1337
   refine F1333.ym 0 rfl<|Ym 1 rfl<|Ym 2 rfl<|Yw 3 (vl A1 0 c1) rfl (fun F W=>rn_sliceHi Tryd.underlying22 inf66 (F.get rfl) (F.get rfl) (by omega:(0:Int)≤0) (by omega:(0:Int)≤((c1:Nat):Int)))<|Ym 4 rfl<|Ym 5 rfl<|Yw 6 (vl B1 1 d1) rfl (fun F W=>rn_sliceHi Tryd.underlying25 inf92 (F.get rfl) (F.get rfl) (by omega:(0:Int)≤1) (by omega:(1:Int)≤((d1:Nat):Int)))<|fun _ F1352=>?_;clear F1333
   refine ao 7 rfl ?_
   have d1353:=(RLs.ext rIt (RLs.ext rIt (RLs.ext rIt (RLs.ext rIt (RLs.ext rIt hf8 hx1234) hx1283) hx1288) hx1293) hx1336)
   have d1354:=(RLs.ext rCg (RLs.ext rCg (RLs.ext rCg (RLs.ext rCg (RLs.ext rCg hf9 hx1234) hx1283) hx1288) hx1293) hx1336)
   have hf1355:=(mrg_gt (na:=It.name) (nb:=Cg.name) (a:=a1) (b:=b1) hi1049 hi1062 hc1070 hc1232)
   have hf1356:=hJ _ _ _ hf10 ((((((Ext.refl w2).trans hx1234).trans hx1283).trans hx1288).trans hx1293).trans hx1336)
   have hf1357:=(FarX.ext hf11 ((((((Ext.refl w2).trans hx1234).trans hx1283).trans hx1288).trans hx1293).trans hx1336))
   have hf1358:=(RLs.take d1353 (by omega:0≤a1.length))
   have hf1359:=(RLs.take d1354 (by omega:1≤b1.length))
   have hf1360:=RLs.norm d1353
   have hf1361:=RLs.norm d1354
   refine o_call F1352 rfl rfl rfl rfl (rn_callvc (F1352.get rfl) (argsw_2 harg (F1352.get rfl) (F1352.get rfl)) (hen _ _)) (hp ps _ _ (a1.take 0) (b1.take 1) _ hf1356 hf1358 hf1359 (by rw [List.length_take];omega) (by rw [List.length_take];omega) (fun q=>by have q1:=congrArg List.length q.1;have q2:=congrArg List.length q.2;simp only [List.length_take,List.length_nil] at q1 q2;omega) (sub_take hp7 _) (sub_take hp6 _) (mrg_room hp5 hf1355 hN)) ?_
   rintro _ w1362 ⟨rfl,hj1363,hP1364⟩
   refine ⟨_,rfl,?_⟩;intro a1366 F1367;clear F1352
   have hf1368:=(FarX.trans hf1357 hP1364)
   have hf1369:=RLs.pres rIt hf1360 hP1364.1
   have hf1370:=RLs.pres rCg hf1361 hP1364.1
   refine ⟨fun _ _=>trivial,?_⟩
   refine nn (hK1334 _ _ ?_);clear hK1334
   have F1371:=F1367.k [0,1,2,3,4,20,10,32,36,11,12];clear F1367
   have hx1373:∃ W,w1362.drew=W∧Ext w1362 W:=⟨_,rfl,(Ext.refl _).drew⟩
   obtain ⟨w1372,e1374,hx1373⟩:=hx1373
   have z1375:=hx1373.size
   refine any_start (fun W=>Ext w1372 W) (fun i=>false) 8 (.replicate 8 false) rfl rfl rfl ?_
   rw [e1374];clear e1374
   refine F1371.ym 0 rfl<|Ym 1 rfl<|Yv 2 (vl (cutA A1 c1 0 2) (a1.length - 0) (c1 - 0)) rfl<|Ym 3 rfl<|Ym 4 rfl<|Yv 5 (vl (cutA B1 d1 1 3) (b1.length - 1) (d1 - 1)) rfl<|Yv 6 (vl (cutA A1 c1 0 2) (a1.length - 0) (c1 - 0)) rfl<|Yv 7 (vl (cutA B1 d1 1 3) (b1.length - 1) (d1 - 1)) rfl<|fun _ F1391=>?_;clear F1371
   refine nn ?_
   have d1392:=(RLs.ext rIt hf1369 hx1373)
   have d1393:=(RLs.ext rCg hf1370 hx1373)
   refine ⟨⟨(a1.drop 0),(b1.drop 1),(cutA A1 c1 0 2),c1 - 0,(cutA B1 d1 1 3),d1 - 1,(ps++[((a1.take 0).head?,(b1.take 1).head?)]),F1391.j,(by rw [List.append_assoc];exact (congrArg (fun z=>ps++z) hf1355.symm).trans hp5),(sub_drop hp6 _),(sub_drop hp7 _),trivial,(RLs.norm (RLs.cut d1392 (by omega:0≤a1.length))),(RLs.norm (RLs.cut d1393 (by omega:1≤b1.length))),(hJ _ _ _ hj1363 ((Ext.refl w1362).trans hx1373)),(FarX.ext hf1368 ((Ext.refl w1362).trans hx1373))⟩,?_⟩
   rw [F1391.get (t:=0) rfl,F1391.get (t:=1) rfl,hL12.get (t:=0) rfl,hL12.get (t:=1) rfl];simp only [sliceLen];omega
  have hx1395:∃ W,w2.drew=W∧Ext w2 W:=⟨_,rfl,(Ext.refl _).drew⟩
  obtain ⟨w1394,e1396,hx1395⟩:=hx1395
  have z1397:=hx1395.size
  refine any_start (fun W=>Ext w1394 W) (fun i=>false) 12 (.replicate 12 false) rfl rfl rfl ?_
  rw [e1396];clear e1396
  refine F933.ym 0 rfl<|Ym 1 rfl<|fun _ F1401=>?_;clear F933
  have d1402:=(RLs.ext rIt hf8 hx1395)
  obtain ⟨b1403,o1404,x1405,cs1406,hA1407,hi1408,hk1409,hc1410,hr1411⟩:=RLs.get d1402 (by omega:0<a1.length)
  obtain rfl:x1046=x1405:=Option.some.inj (hi1049.symm.trans hi1408)
  obtain ⟨A1412,c1413,rfl,hd1414⟩:=hr1411
  have z1415:=(Fl.cel hd1414).2.1
  refine F1401.yw 2 (.pointer (some ⟨b1403,o1404+0*2,none⟩)) rfl (fun F W=>rn_indexE Tryd.underlying22 inf66 ((F.get rfl).trans (by rw [hA1407])) rfl (by omega:(0:Int)≤0) (by omega:(0:Int)<((a1.length:Nat):Int)) (by omega))<|fun _ F1417=>?_;clear F1401
  have hS1418:Ext w1394 w1394:=(Ext.refl w1394)
  refine F1417.ys 3 (.agg #[(strOf x1046.name),(vl A1412 x1046.data.length c1413)]) rfl hS1418 (fun F W hW=>rn_loadN (cs:=[(strOf x1046.name),(vl A1412 x1046.data.length c1413)]) (F.get rfl) Tryd.underlying66 rfl inf66 (fun j u hu=>Ext.keep ((Ext.refl w1394).trans hW) (hc1410 j u hu)))<|Ym 5 rfl<|Ym 6 rfl<|fun _ F1424=>?_;clear F1417
  have d1425:=(RLs.ext rCg hf9 hx1395)
  obtain ⟨b1426,o1427,x1428,cs1429,hA1430,hi1431,hk1432,hc1433,hr1434⟩:=RLs.get d1425 (by omega:0<b1.length)
  obtain rfl:x1059=x1428:=Option.some.inj (hi1062.symm.trans hi1431)
  obtain ⟨A1435,c1436,rfl,hd1437⟩:=hr1434
  have z1438:=(Fl.cel hd1437).2.1
  refine F1424.yw 7 (.pointer (some ⟨b1426,o1427+0*3,none⟩)) rfl (fun F W=>rn_indexE Tryd.underlying25 inf92 ((F.get rfl).trans (by rw [hA1430])) rfl (by omega:(0:Int)≤0) (by omega:(0:Int)<((b1.length:Nat):Int)) (by omega))<|Ys 8 (.agg #[(strOf x1059.name),(vl A1435 x1059.data.length c1436),(.bool x1059.gone)]) rfl hS1418 (fun F W hW=>rn_loadN (cs:=[(strOf x1059.name),(vl A1435 x1059.data.length c1436),(.bool x1059.gone)]) (F.get rfl) Tryd.underlying92 rfl inf92 (fun j u hu=>Ext.keep ((Ext.refl w1394).trans hW) (hc1433 j u hu)))<|fun _ F1442=>?_;clear F1424
  refine ao 4 rfl ?_
  refine o_call F1442 rfl rfl rfl rfl (rn_callv (F1442.get rfl) (args0_1 (F1442.get rfl)) (by kernel_rfl)) (itemName_any x1046.name (vl A1412 x1046.data.length c1413) _) ?_
  rintro _ w1443 ⟨rfl,hx1444⟩
  refine ⟨_,rfl,?_⟩;intro a1445 F1446;clear F1442;have z1447:=hx1444.size
  refine ⟨fun _ _=>((Ext.refl w1394).trans hx1444),?_⟩
  refine ao 9 rfl ?_
  refine o_call F1446 rfl rfl rfl rfl (rn_callv (F1446.get rfl) (args0_1 (F1446.get rfl)) (by kernel_rfl)) (changeName_any x1059.name (vl A1435 x1059.data.length c1436) (.bool x1059.gone) _) ?_
  rintro _ w1448 ⟨rfl,hx1449⟩
  refine ⟨_,rfl,?_⟩;intro a1450 F1451;clear F1446;have z1452:=hx1449.size
  refine ⟨fun _ _=>(((Ext.refl w1394).trans hx1444).trans hx1449),?_⟩
  refine ao 10 rfl ?_
  refine F1451.oc (cmps_eq x1046.name x1059.name _ hc1070 hc1232) ?_
  rintro _ w1453 ⟨rfl,hx1454⟩
  refine ⟨_,rfl,?_⟩;intro a1455 F1456;clear F1451;have z1457:=hx1454.size
  refine ⟨fun _ _=>((((Ext.refl w1394).trans hx1444).trans hx1449).trans hx1454),?_⟩
  refine F1456.yv 11 (vi 0) rfl<|fun _ F1459=>?_;clear F1456
  refine nn (hK804 _ _ ?_);clear hK804
  have F1460:=F1459.k [0,1,2,3,4,20,10,32,36];clear F1459
  refine wr fun K1461 hK1461=>?_
  refine F1460.xm rfl<|Xv (vi (a1.length:Nat))<|Xm rfl<|Xv (vi 0)<|Xv (vi 1)<|Xv (vi 1)<|Xv (vi 1)<|Xm rfl<|Xv (vi (b1.length:Nat))<|Xm rfl<|Xv (vi 0)<|Xv (vi 1)<|Xv (vi 1)<|Xv (vi 1)<|Xa rfl<|Xa rfl<|fun _ F1493=>?_;clear F1460
  refine wpList_nil (hK1461 _ _ ?_);clear hK1461
  have F1494:=F1493.k [0,1,2,3,4,20,10,32,36,11,12];clear F1493
  refine wp_seq_k fun K1495 hK1495=>?_
  have hx1497:∃ W,w1453.drew=W∧Ext w1453 W:=⟨_,rfl,(Ext.refl _).drew⟩
  obtain ⟨w1496,e1498,hx1497⟩:=hx1497
  have z1499:=hx1497.size
  refine any_start (fun W=>True) (fun i=>false) 8 (.replicate 8 false) rfl rfl rfl ?_
  rw [e1498];clear e1498
  refine F1494.ym 0 rfl<|Ym 1 rfl<|Ym 2 rfl<|Yw 3 (vl A1 1 c1) rfl (fun F W=>rn_sliceHi Tryd.underlying22 inf66 (F.get rfl) (F.get rfl) (by omega:(0:Int)≤1) (by omega:(1:Int)≤((c1:Nat):Int)))<|Ym 4 rfl<|Ym 5 rfl<|Yw 6 (vl B1 1 d1) rfl (fun F W=>rn_sliceHi Tryd.underlying25 inf92 (F.get rfl) (F.get rfl) (by omega:(0:Int)≤1) (by omega:(1:Int)≤((d1:Nat):Int)))<|fun _ F1513=>?_;clear F1494
  refine ao 7 rfl ?_
  have d1514:=(RLs.ext rIt (RLs.ext rIt (RLs.ext rIt (RLs.ext rIt (RLs.ext rIt hf8 hx1395) hx1444) hx1449) hx1454) hx1497)
  have d1515:=(RLs.ext rCg (RLs.ext rCg (RLs.ext rCg (RLs.ext rCg (RLs.ext rCg hf9 hx1395) hx1444) hx1449) hx1454) hx1497)
  have hf1516:=(mrg_eq (na:=It.name) (nb:=Cg.name) (a:=a1) (b:=b1) hi1049 hi1062 hc1070 hc1232)
  have hf1517:=hJ _ _ _ hf10 ((((((Ext.refl w2).trans hx1395).trans hx1444).trans hx1449).trans hx1454).trans hx1497)
  have hf1518:=(FarX.ext hf11 ((((((Ext.refl w2).trans hx1395).trans hx1444).trans hx1449).trans hx1454).trans hx1497))
  have hf1519:=(RLs.take d1514 (by omega:1≤a1.length))
  have hf1520:=(RLs.take d1515 (by omega:1≤b1.length))
  have hf1521:=RLs.norm d1514
  have hf1522:=RLs.norm d1515
  refine o_call F1513 rfl rfl rfl rfl (rn_callvc (F1513.get rfl) (argsw_2 harg (F1513.get rfl) (F1513.get rfl)) (hen _ _)) (hp ps _ _ (a1.take 1) (b1.take 1) _ hf1517 hf1519 hf1520 (by rw [List.length_take];omega) (by rw [List.length_take];omega) (fun q=>by have q1:=congrArg List.length q.1;have q2:=congrArg List.length q.2;simp only [List.length_take,List.length_nil] at q1 q2;omega) (sub_take hp7 _) (sub_take hp6 _) (mrg_room hp5 hf1516 hN)) ?_
  rintro _ w1523 ⟨rfl,hj1524,hP1525⟩
  refine ⟨_,rfl,?_⟩;intro a1527 F1528;clear F1513
  have hf1529:=(FarX.trans hf1518 hP1525)
  have hf1530:=RLs.pres rIt hf1521 hP1525.1
  have hf1531:=RLs.pres rCg hf1522 hP1525.1
  refine ⟨fun _ _=>trivial,?_⟩
  refine nn (hK1495 _ _ ?_);clear hK1495
  have F1532:=F1528.k [0,1,2,3,4,20,10,32,36,11,12];clear F1528
  have hx1534:∃ W,w1523.drew=W∧Ext w1523 W:=⟨_,rfl,(Ext.refl _).drew⟩
  obtain ⟨w1533,e1535,hx1534⟩:=hx1534
  have z1536:=hx1534.size
  refine any_start (fun W=>Ext w1533 W) (fun i=>false) 8 (.replicate 8 false) rfl rfl rfl ?_
  rw [e1535];clear e1535
  refine F1532.ym 0 rfl<|Ym 1 rfl<|Yv 2 (vl (cutA A1 c1 1 2) (a1.length - 1) (c1 - 1)) rfl<|Ym 3 rfl<|Ym 4 rfl<|Yv 5 (vl (cutA B1 d1 1 3) (b1.length - 1) (d1 - 1)) rfl<|Yv 6 (vl (cutA A1 c1 1 2) (a1.length - 1) (c1 - 1)) rfl<|Yv 7 (vl (cutA B1 d1 1 3) (b1.length - 1) (d1 - 1)) rfl<|fun _ F1552=>?_;clear F1532
  refine nn ?_
  have d1553:=(RLs.ext rIt hf1530 hx1534)
  have d1554:=(RLs.ext rCg hf1531 hx1534)
  refine ⟨⟨(a1.drop 1),(b1.drop 1),(cutA A1 c1 1 2),c1 - 1,(cutA B1 d1 1 3),d1 - 1,(ps++[((a1.take 1).head?,(b1.take 1).head?)]),F1552.j,(by rw [List.append_assoc];exact (congrArg (fun z=>ps++z) hf1516.symm).trans hp5),(sub_drop hp6 _),(sub_drop hp7 _),trivial,(RLs.norm (RLs.cut d1553 (by omega:1≤a1.length))),(RLs.norm (RLs.cut d1554 (by omega:1≤b1.length))),(hJ _ _ _ hj1524 ((Ext.refl w1523).trans hx1534)),(FarX.ext hf1529 ((Ext.refl w1523).trans hx1534))⟩,?_⟩
  rw [F1552.get (t:=0) rfl,F1552.get (t:=1) rfl,hL12.get (t:=0) rfl,hL12.get (t:=1) rfl];simp only [sliceLen];omega
 refine F799.cf ?_
 refine wp_exit ?_
 refine exit_then ?_
 refine exit_then ?_
 refine exit_here ?_
 refine ret0 F799 rfl ?_
 have he:=hp5;rw [mrg_nil (a:=a1) (b:=b1) (by omega) (by omega),List.append_nil] at he;subst he
 exact ⟨rfl,hJ _ _ _ hf10 (Ext.refl w2),FarX.ext hf11 (Ext.refl w2)⟩

end Go.Proofs.YtihgmaoghbnnaaaDoor

namespace Go.Proofs.YtihgmaoghbnnaaaDoor
open Go.RowKit

variable {S S':Nat→Prop}

theorem El22:El Tryd.prog 22 66 (.agg #[(strOf ([])),v0]) 2 40:=⟨Tryd.underlying22,by kernel_rfl,rfl,by decide⟩
theorem El25:El Tryd.prog 25 92 (.agg #[(strOf ([])),v0,(.bool false)]) 3 48:=⟨Tryd.underlying25,by kernel_rfl,rfl,by decide⟩
set_option maxRecDepth 100000 in
set_option maxHeartbeats 1000000 in
theorem beq_any (A B:Option Addr) (c e:Nat) (a b:List UInt8) (w:World) (ha:Fl S w 1 (vl A a.length c) a.length (byteVals a)) (hb:Fl S w 1 (vl B b.length e) b.length (byteVals b)) :
  Calls Tryd.prog 46 #[.slice A a.length c,.slice B b.length e] w (fun e w'=>e=.returned (.bool (decide (a=b)))∧Ext w w'):=by
 have hca:Fl (Clip S w) w 1 (vl A a.length c) a.length (byteVals a):=ha.clip
 have hcac:=(Fl.cel hca).2.1
 have hcb:Fl (Clip S w) w 1 (vl B b.length e) b.length (byteVals b):=hb.clip
 have hcbc:=(Fl.cel hcb).2.1
 refine calls_enter Tryd.func46 rfl rfl rfl fun _ hF=>?_
 refine wr fun K1 hK1=>?_
 refine hF.xv (.bool false)<|fun _ F3=>?_;clear hF
 refine wpList_nil (hK1 _ _ ?_);clear hK1
 refine wr fun K4 hK4=>?_
 refine F3.xm rfl<|Xw (strOf a) (fun F=>rn_str (F.get rfl) (Fl.rbs hca) Tryd.underlying52 Tryd.underlying5 Tryd.underlying9)<|Xm rfl<|Xw (strOf b) (fun F=>rn_str (F.get rfl) (Fl.rbs hcb) Tryd.underlying52 Tryd.underlying5 Tryd.underlying9)<|Xw (.bool (decide (a=b))) (fun F=>rn_eqs (F.get rfl) (F.get rfl) rfl)<|Xa rfl<|fun _ F16=>?_;clear F3
 refine wpList_nil (hK4 _ _ ?_);clear hK4
 have F17:=F16.k [0,1,4];clear F16
 refine wp_ret ?_
 refine ret1 F17 rfl rfl ?_
 exact ⟨rfl,(Ext.refl w)⟩

theorem beq_at {v u:Value} {n m:Nat} (a b:List UInt8) (w:World) (ha:Fl S w 1 v n (byteVals a)) (hb:Fl S' w 1 u m (byteVals b)) :
  Calls Tryd.prog 46 #[v,u] w (fun e w'=>e=.returned (.bool (decide (a=b)))∧Ext w w'):=by
 have h1:=ha.blen
 have h2:=hb.blen
 subst h1 h2
 obtain ⟨A,c,rfl,_⟩:=ha.form
 obtain ⟨B,e,rfl,_⟩:=hb.form
 exact beq_any (S:=fun _=>True) A B c e a b w (ha.sub fun _ _=>trivial) (hb.sub fun _ _=>trivial)

set_option maxRecDepth 100000 in
set_option maxHeartbeats 1000000 in
theorem diff1_any (p base:Nat) (A0:Option Addr) (n0 c0:Nat) (xs:List Value) (acc:List Cg) (A:Option Addr) (c:Nat) (x:List It) (B:Option Addr) (d:Nat) (y:List It) (w:World) (hp:Blk w p 25 [.slice A0 n0 c0]) (hO:OwnL RCg 3 92 base w (vl A0 n0 c0) n0 xs acc) (hpb:p<base) (hbs:base≤w.heap.size) (hn:n0≤1000000) (hx:RLs RIt 2 S w (vl A x.length c) x) (hy:RLs RIt 2 S w (vl B y.length d) y) (hne:0<x.length∨0<y.length) (hdx:∀ z∈x,z.data.length≤4294967296) (hdy:∀ z∈y,z.data.length≤4294967296) :
  Calls Tryd.prog 45 #[.slice A x.length c,.slice B y.length d,.pointer (some ⟨p,0,none⟩)] w (fun e w'=>e=.returned (.tuple #[])∧(∃ A n c xs,Blk w' p 25 [.slice A n c]∧OwnL RCg 3 92 base w' (vl A n c) n xs (acc++dstep (x.head?,y.head?)))∧FarX (fun b=>b<base∧b≠p) w w'):=by
 obtain ⟨-,hxc,hxd⟩:=RLs.at hx;obtain ⟨-,hyc,hyd⟩:=RLs.at hy;have hpl:=hp.lt
 refine calls_enter Tryd.func45 rfl rfl rfl fun _ hF=>?_
 refine wp_block ?_
 refine wr fun K1 hK1=>?_
 refine hF.xm rfl<|Xv (vi (y.length:Nat))<|Xv (.bool (decide (((y.length:Nat):Int)=(0:Int))))<|Xa rfl<|fun _ F9=>?_;clear hF
 refine wpList_nil (hK1 _ _ ?_);clear hK1
 by_cases hc10:((y.length:Nat):Int)=(0:Int)
 ·skip
  refine F9.ct ?_
  have hx12:∃ W,w.drew=W∧Ext w W:=⟨_,rfl,(Ext.refl _).drew⟩
  obtain ⟨w11,e13,hx12⟩:=hx12
  have z14:=hx12.size
  refine any_start (fun W=>Ext w11 W∧Blk W p 25 [(vl A0 n0 c0)]) (fun i=>i==8||i==9) 10 (.replicate 10 false) rfl rfl rfl ?_
  rw [e13];clear e13
  have b16:=(hp.ext hx12)
  have hS15:Ext w11 w11∧Blk w11 p 25 [(vl A0 n0 c0)]:=⟨(Ext.refl w11),b16⟩
  refine F9.ys 0 (vl A0 n0 c0) rfl hS15 (fun F W hW=>rl F rfl (hW.2.rule.1 0))<|Ym 1 rfl<|fun _ F20=>?_;clear F9
  have d21:=(RLs.ext rIt hx hx12)
  obtain ⟨b22,o23,x24,cs25,hA26,hi27,hk28,hc29,hr30⟩:=RLs.get d21 (by omega:0<x.length)
  obtain ⟨A31,c32,rfl,hd33⟩:=hr30
  have z34:=(Fl.cel hd33).2.1
  have z35:=hdx x24 (List.mem_of_getElem? hi27)
  refine F20.yw 2 (.pointer (some ⟨b22,o23+0*2,none⟩)) rfl (fun F W=>rn_indexE Tryd.underlying22 inf66 ((F.get rfl).trans (by rw [hA26])) rfl (by omega:(0:Int)≤0) (by omega:(0:Int)<((x.length:Nat):Int)) (by omega))<|Yv 3 (.pointer (some ⟨b22,o23+0*2,none⟩)) rfl<|fun _ F39=>?_;clear F20
  refine anyt_val (i:=4) (v:=(strOf x24.name)) [5,6,7,8,9] F39 (fun j hj=>by simp at hj;first | (subst hj;decide) | (rcases hj with rfl | rfl <;> decide)) (by decide +kernel) (by decide +kernel) rfl rfl rfl rfl (fun _ _ _ _ h=>h) rfl hS15 (fun W hW=>(rl F39 rfl ((fun j u hu=>Ext.keep ((Ext.refl w11).trans hW.1) (hc29 j u hu)) 0 _ rfl))) ?_
  intro a40 F41;clear F39
  refine F41.yw 5 (.agg #[(strOf x24.name),v0]) rfl (fun F W=>rn_build (parts1 (F.get rfl)) (by kernel_rfl))<|Yw 6 (.agg #[(strOf x24.name),v0,(.bool true)]) rfl (fun F W=>rn_build (parts2 (F.get rfl) rfl) (by kernel_rfl))<|fun _ F45=>?_;clear F41
  refine ao 7 rfl (F45.on (fun g=>(vl (some ⟨g,0,none⟩) 1 1)) [(strOf x24.name),v0,(.bool true)] 92 rfl (fun F=>rn_buildSlice (parts1 (F.get rfl)) (by kernel_rfl)) fun g46 w47 _ F53 z50 z51 b48 hx49=>?_);clear F45
  have b54:=(b16.ext hx49)
  refine ⟨fun _ _=>⟨((Ext.refl w11).trans hx49),b54⟩,?_⟩
  refine ao 8 rfl ?_
  have hO55:=OwnL.pres rCg hO (((Pres.refl w).ext hx12).ext hx49)
  refine o_appB (zs:=xs++[(strOf x24.name),v0,(.bool true)]) El25 F53 rfl rfl rfl rfl rfl (F53.get rfl) (F53.get rfl) hO55.1 (Fl.cel (Fl.blk (S:=fun _=>True) (k:=3) (n:=1) (c:=1) (cs:=[(strOf x24.name),v0,(.bool true)]) b48 rfl (one_cons rfl (one_cons rfl (one_cons rfl one_nil))) ⟨Nat.le_refl _,by omega⟩ trivial)).2.2 (by omega) (by omega) (by omega) rfl ?_
  intro A56 c57 w58 a65 F66 r59 hg60 z61 z62 hnb63;clear F53;have z67:=hg60.size
  have hO64:=OwnL.snoc (x:=(⟨x24.name,[],true⟩:Cg)) rCg hO55 r59 hg60 hnb63 rfl (one_cons rfl (one_cons rfl (one_cons rfl one_nil))) ⟨_,_,rfl,(Fl.nil _)⟩ (fun b _ (h:False)=>h.elim)
  refine ⟨fun h=>absurd h (by decide),?_⟩
  refine ao 9 rfl ?_
  have b71:=(grown_blk hO55.1 hg60 b54 (by decide))
  refine o_store1 (new:=[(vl A56 (n0+1) c57)]) F66 rfl rfl rfl rfl (F66.get rfl) (F66.get rfl) b71 inf25 (by simp) rfl rfl ?_
  intro w68 b69 hg70;have z72:=hg70.size
  refine ⟨fun h=>absurd h (by decide),?_⟩
  refine nn ?_
  refine blk_normal ?_
  refine ret0 F66 rfl ?_
  have hO73:=OwnL.pres rCg hO64 ((Pres.refl w58).gn hg70)
  exact ⟨rfl,⟨_,_,_,_,b69,by rw [dstep_x (y:=y) hi27 (by omega)];exact hO73⟩,(((((FarX.refl w).ext hx12).ext hx49).row hg60 hO55.1 (fun b hb h=>by have h6:=h.1;omega)).gc hg70)⟩
 refine F9.cf ?_
 refine wp_seq_k fun K74 hK74=>?_
 have hx76:∃ W,w.drew=W∧Ext w W:=⟨_,rfl,(Ext.refl _).drew⟩
 obtain ⟨w75,e77,hx76⟩:=hx76
 have z78:=hx76.size
 refine any_start (fun W=>Ext w75 W) (fun i=>false) 16 (.replicate 16 false) rfl rfl rfl ?_
 rw [e77];clear e77
 refine F9.ym 0 rfl<|Yv 1 (vi (x.length:Nat)) rfl<|Yv 2 (.bool (decide (((x.length:Nat):Int)=(0:Int)))) rfl<|Ym 3 rfl<|fun _ F86=>?_;clear F9
 by_cases hc87:((x.length:Nat):Int)=(0:Int)
 ·skip
  refine F86.yu 4 rfl<|Yu 5 rfl<|Yu 6 rfl<|Yu 7 rfl<|Yu 8 rfl<|Yu 9 rfl<|Yu 10 rfl<|Yu 11 rfl<|fun _ F103=>?_;clear F86
  refine ao 12 rfl ?_
  refine o_skip F103 rfl (unwanted_guard rfl rfl rfl F103 rfl (decide_eq_true hc87) rfl) rfl rfl ?_
  intro a104 F105;clear F103
  refine ⟨fun _ _=>(Ext.refl w75),?_⟩
  refine F105.yu 13 rfl<|Yv 14 (.bool true) rfl<|Yv 15 (.bool true) rfl<|fun _ F111=>?_;clear F105
  refine nn (hK74 _ _ ?_);clear hK74
  have F112:=F111.k [0,1,2,5,18];clear F111
  refine F112.ct ?_
  have hx114:∃ W,w75.drew=W∧Ext w75 W:=⟨_,rfl,(Ext.refl _).drew⟩
  obtain ⟨w113,e115,hx114⟩:=hx114
  have z116:=hx114.size
  refine any_start (fun W=>Ext w113 W∧Blk W p 25 [(vl A0 n0 c0)]) (fun i=>i==13||i==14) 15 (.replicate 15 false) rfl rfl rfl ?_
  rw [e115];clear e115
  have b118:=((hp.ext hx76).ext hx114)
  have hS117:Ext w113 w113∧Blk w113 p 25 [(vl A0 n0 c0)]:=⟨(Ext.refl w113),b118⟩
  refine F112.ys 0 (vl A0 n0 c0) rfl hS117 (fun F W hW=>rl F rfl (hW.2.rule.1 0))<|Ym 1 rfl<|fun _ F122=>?_;clear F112
  have d123:=(RLs.ext rIt (RLs.ext rIt hy hx76) hx114)
  obtain ⟨b124,o125,x126,cs127,hA128,hi129,hk130,hc131,hr132⟩:=RLs.get d123 (by omega:0<y.length)
  obtain ⟨A133,c134,rfl,hd135⟩:=hr132
  have z136:=(Fl.cel hd135).2.1
  have z137:=hdy x126 (List.mem_of_getElem? hi129)
  refine F122.yw 2 (.pointer (some ⟨b124,o125+0*2,none⟩)) rfl (fun F W=>rn_indexE Tryd.underlying22 inf66 ((F.get rfl).trans (by rw [hA128])) rfl (by omega:(0:Int)≤0) (by omega:(0:Int)<((y.length:Nat):Int)) (by omega))<|Yv 3 (.pointer (some ⟨b124,o125+0*2,none⟩)) rfl<|fun _ F141=>?_;clear F122
  refine anyt_val (i:=4) (v:=(strOf x126.name)) [10,11,12,13,14] F141 (fun j hj=>by simp at hj;first | (subst hj;decide) | (rcases hj with rfl | rfl <;> decide)) (by decide +kernel) (by decide +kernel) rfl rfl rfl rfl (fun _ _ _ _ h=>h) rfl hS117 (fun W hW=>(rl F141 rfl ((fun j u hu=>Ext.keep ((Ext.refl w113).trans hW.1) (hc131 j u hu)) 0 _ rfl))) ?_
  intro a142 F143;clear F141
  refine F143.ym 5 rfl<|Yw 6 (.pointer (some ⟨b124,o125+0*2,none⟩)) rfl (fun F W=>rn_indexE Tryd.underlying22 inf66 ((F.get rfl).trans (by rw [hA128])) rfl (by omega:(0:Int)≤0) (by omega:(0:Int)<((y.length:Nat):Int)) (by omega))<|Yv 7 (.pointer (some ⟨b124,o125+0*2+1,none⟩)) rfl<|fun _ F149=>?_;clear F143
  refine anyt_val (i:=8) (v:=(vl A133 x126.data.length c134)) [9,10,11,12,13,14] F149 (fun j hj=>by simp at hj;first | (subst hj;decide) | (rcases hj with rfl | rfl <;> decide)) (by decide +kernel) (by decide +kernel) rfl rfl rfl rfl (fun _ _ _ _ h=>h) rfl hS117 (fun W hW=>(rl F149 rfl ((fun j u hu=>Ext.keep ((Ext.refl w113).trans hW.1) (hc131 j u hu)) 1 _ rfl))) ?_
  intro a150 F151;clear F149
  refine ao 9 rfl ?_
  refine o_call F151 rfl rfl rfl rfl (rn_call (args1 (F151.get rfl)) rfl (by kernel_rfl)) (bclone_at (v:=(vl A133 x126.data.length c134)) (n:=x126.data.length) x126.data _ hd135 (by omega)) ?_
  rintro _ w156 ⟨A152,c153,rfl,hf154,hx157⟩
  have z155:=(Fl.cel hf154).2.1
  refine ⟨_,rfl,?_⟩;intro a158 F159;clear F151;have z160:=hx157.size
  have hf161:Fl (Clip (fun b=>w113.heap.size≤b) w156) w156 1 (vl A152 x126.data.length c153) x126.data.length (byteVals x126.data):=hf154.clip
  have b162:=(b118.ext hx157)
  refine ⟨fun _ _=>⟨((Ext.refl w113).trans hx157),b162⟩,?_⟩
  refine F159.yw 10 (.agg #[(strOf x126.name),(vl A152 x126.data.length c153)]) rfl (fun F W=>rn_build (parts2 (F.get rfl) (F.get rfl)) (by kernel_rfl))<|Yw 11 (.agg #[(strOf x126.name),(vl A152 x126.data.length c153),(.bool false)]) rfl (fun F W=>rn_build (parts1 (F.get rfl)) (by kernel_rfl))<|fun _ F166=>?_;clear F159
  refine ao 12 rfl (F166.on (fun g=>(vl (some ⟨g,0,none⟩) 1 1)) [(strOf x126.name),(vl A152 x126.data.length c153),(.bool false)] 92 rfl (fun F=>rn_buildSlice (parts1 (F.get rfl)) (by kernel_rfl)) fun g167 w168 _ F174 z171 z172 b169 hx170=>?_);clear F166
  have b175:=(b162.ext hx170)
  refine ⟨fun _ _=>⟨(((Ext.refl w113).trans hx157).trans hx170),b175⟩,?_⟩
  refine ao 13 rfl ?_
  have hO176:=OwnL.pres rCg hO (((((Pres.refl w).ext hx76).ext hx114).ext hx157).ext hx170)
  have d177:=(hf161.ext hx170)
  refine o_appB (zs:=xs++[(strOf x126.name),(vl A152 x126.data.length c153),(.bool false)]) El25 F174 rfl rfl rfl rfl rfl (F174.get rfl) (F174.get rfl) hO176.1 (Fl.cel (Fl.blk (S:=fun _=>True) (k:=3) (n:=1) (c:=1) (cs:=[(strOf x126.name),(vl A152 x126.data.length c153),(.bool false)]) b169 rfl (one_cons rfl (one_cons rfl (one_cons rfl one_nil))) ⟨Nat.le_refl _,by omega⟩ trivial)).2.2 (by omega) (by omega) (by omega) rfl ?_
  intro A178 c179 w180 a187 F188 r181 hg182 z183 z184 hnb185;clear F174;have z189:=hg182.size
  have hO186:=OwnL.snoc (x:=(⟨x126.name,x126.data,false⟩:Cg)) rCg hO176 r181 hg182 hnb185 rfl (one_cons rfl (one_cons rfl (one_cons rfl one_nil))) ⟨_,_,rfl,d177⟩ (fun b _ hb=>⟨by simp only [Clip] at hb;omega,fun e1=>by have h5:=own_blk_lt hO.1 b e1;simp only [Clip] at hb;omega⟩)
  refine ⟨fun h=>absurd h (by decide),?_⟩
  refine ao 14 rfl ?_
  have b193:=(grown_blk hO176.1 hg182 b175 (by decide))
  refine o_store1 (new:=[(vl A178 (n0+1) c179)]) F188 rfl rfl rfl rfl (F188.get rfl) (F188.get rfl) b193 inf25 (by simp) rfl rfl ?_
  intro w190 b191 hg192;have z194:=hg192.size
  refine ⟨fun h=>absurd h (by decide),?_⟩
  refine nn ?_
  refine blk_normal ?_
  refine ret0 F188 rfl ?_
  have hO195:=OwnL.pres rCg hO186 ((Pres.refl w180).gn hg192)
  exact ⟨rfl,⟨_,_,_,_,b191,by rw [dstep_y (x:=x) hi129 (by omega)];exact hO195⟩,(((((((FarX.refl w).ext hx76).ext hx114).ext hx157).ext hx170).row hg182 hO176.1 (fun b hb h=>by have h6:=h.1;omega)).gc hg192)⟩
 refine F86.yg 4 (vl A x.length c) rfl<|fun _ F197=>?_;clear F86
 have d198:=(RLs.ext rIt hx hx76)
 obtain ⟨b199,o200,x201,cs202,hA203,hi204,hk205,hc206,hr207⟩:=RLs.get d198 (by omega:0<x.length)
 obtain ⟨A208,c209,rfl,hd210⟩:=hr207
 have z211:=(Fl.cel hd210).2.1
 have z212:=hdx x201 (List.mem_of_getElem? hi204)
 refine F197.ygw 5 (.pointer (some ⟨b199,o200+0*2,none⟩)) rfl (fun F W=>rn_indexE Tryd.underlying22 inf66 ((F.get rfl).trans (by rw [hA203])) rfl (by omega:(0:Int)≤0) (by omega:(0:Int)<((x.length:Nat):Int)) (by omega))<|Yg 6 (.pointer (some ⟨b199,o200+0*2+1,none⟩)) rfl<|fun _ F216=>?_;clear F197
 have hS217:Ext w75 w75:=(Ext.refl w75)
 refine F216.ysg 7 (vl A208 x201.data.length c209) rfl hS217 (fun F W hW=>rl F rfl ((fun j u hu=>Ext.keep ((Ext.refl w75).trans hW) (hc206 j u hu)) 1 _ rfl))<|Yg 8 (vl B y.length d) rfl<|fun _ F221=>?_;clear F216
 have d222:=(RLs.ext rIt hy hx76)
 obtain ⟨b223,o224,x225,cs226,hA227,hi228,hk229,hc230,hr231⟩:=RLs.get d222 (by omega:0<y.length)
 obtain ⟨A232,c233,rfl,hd234⟩:=hr231
 have z235:=(Fl.cel hd234).2.1
 have z236:=hdy x225 (List.mem_of_getElem? hi228)
 refine F221.ygw 9 (.pointer (some ⟨b223,o224+0*2,none⟩)) rfl (fun F W=>rn_indexE Tryd.underlying22 inf66 ((F.get rfl).trans (by rw [hA227])) rfl (by omega:(0:Int)≤0) (by omega:(0:Int)<((y.length:Nat):Int)) (by omega))<|Yg 10 (.pointer (some ⟨b223,o224+0*2+1,none⟩)) rfl<|Ysg 11 (vl A232 x225.data.length c233) rfl hS217 (fun F W hW=>rl F rfl ((fun j u hu=>Ext.keep ((Ext.refl w75).trans hW) (hc230 j u hu)) 1 _ rfl))<|fun _ F242=>?_;clear F221
 refine ao 12 rfl ?_
 refine o_call F242 rfl (wanted_guard rfl rfl rfl F242 rfl (decide_eq_false hc87) rfl) rfl rfl (rn_call (args2 (F242.get rfl) (F242.get rfl)) rfl (by kernel_rfl)) (beq_at (v:=(vl A208 x201.data.length c209)) (u:=(vl A232 x225.data.length c233)) (n:=x201.data.length) (m:=x225.data.length) x201.data x225.data _ hd210 hd234) ?_
 rintro _ w243 ⟨rfl,hx244⟩
 refine ⟨_,rfl,?_⟩;intro a245 F246;clear F242;have z247:=hx244.size
 refine ⟨fun _ _=>((Ext.refl w75).trans hx244),?_⟩
 refine F246.ygw 13 (.bool (!(decide (x201.data=x225.data)))) rfl (fun F W=>rn_not' (F.get rfl) rfl)<|Yv 14 (.bool (!(decide (x201.data=x225.data)))) rfl<|Yv 15 (.bool (!(decide (x201.data=x225.data)))) rfl<|fun _ F253=>?_;clear F246
 refine nn (hK74 _ _ ?_);clear hK74
 have F254:=F253.k [0,1,2,5,18];clear F253
 by_cases hc255:x201.data=x225.data
 ·skip
  refine F254.cf ?_
  refine wp_skip ?_
  refine blk_normal ?_
  refine ret0 F254 rfl ?_
  have hO256:=OwnL.pres rCg hO (((Pres.refl w).ext hx76).ext hx244)
  have b257:=((hp.ext hx76).ext hx244)
  exact ⟨rfl,⟨_,_,_,_,b257,by rw [dstep_eq hi204 hi228 (of_decide_eq_true (decide_eq_true hc255)),List.append_nil];exact hO256⟩,(((FarX.refl w).ext hx76).ext hx244)⟩
 refine F254.ct ?_
 have hx259:∃ W,w243.drew=W∧Ext w243 W:=⟨_,rfl,(Ext.refl _).drew⟩
 obtain ⟨w258,e260,hx259⟩:=hx259
 have z261:=hx259.size
 refine any_start (fun W=>Ext w258 W∧Blk W p 25 [(vl A0 n0 c0)]) (fun i=>i==13||i==14) 15 (.replicate 15 false) rfl rfl rfl ?_
 rw [e260];clear e260
 have b263:=(((hp.ext hx76).ext hx244).ext hx259)
 have hS262:Ext w258 w258∧Blk w258 p 25 [(vl A0 n0 c0)]:=⟨(Ext.refl w258),b263⟩
 refine F254.ys 0 (vl A0 n0 c0) rfl hS262 (fun F W hW=>rl F rfl (hW.2.rule.1 0))<|Ym 1 rfl<|fun _ F267=>?_;clear F254
 have d268:=(RLs.ext rIt (RLs.ext rIt (RLs.ext rIt hy hx76) hx244) hx259)
 obtain ⟨b269,o270,x271,cs272,hA273,hi274,hk275,hc276,hr277⟩:=RLs.get d268 (by omega:0<y.length)
 obtain rfl:x225=x271:=Option.some.inj (hi228.symm.trans hi274)
 obtain ⟨A278,c279,rfl,hd280⟩:=hr277
 have z281:=(Fl.cel hd280).2.1
 have z282:=hdy x225 (List.mem_of_getElem? hi228)
 refine F267.yw 2 (.pointer (some ⟨b269,o270+0*2,none⟩)) rfl (fun F W=>rn_indexE Tryd.underlying22 inf66 ((F.get rfl).trans (by rw [hA273])) rfl (by omega:(0:Int)≤0) (by omega:(0:Int)<((y.length:Nat):Int)) (by omega))<|Yv 3 (.pointer (some ⟨b269,o270+0*2,none⟩)) rfl<|fun _ F286=>?_;clear F267
 refine anyt_val (i:=4) (v:=(strOf x225.name)) [10,11,12,13,14] F286 (fun j hj=>by simp at hj;first | (subst hj;decide) | (rcases hj with rfl | rfl <;> decide)) (by decide +kernel) (by decide +kernel) rfl rfl rfl rfl (fun _ _ _ _ h=>h) rfl hS262 (fun W hW=>(rl F286 rfl ((fun j u hu=>Ext.keep ((Ext.refl w258).trans hW.1) (hc276 j u hu)) 0 _ rfl))) ?_
 intro a287 F288;clear F286
 refine F288.ym 5 rfl<|Yw 6 (.pointer (some ⟨b269,o270+0*2,none⟩)) rfl (fun F W=>rn_indexE Tryd.underlying22 inf66 ((F.get rfl).trans (by rw [hA273])) rfl (by omega:(0:Int)≤0) (by omega:(0:Int)<((y.length:Nat):Int)) (by omega))<|Yv 7 (.pointer (some ⟨b269,o270+0*2+1,none⟩)) rfl<|fun _ F294=>?_;clear F288
 refine anyt_val (i:=8) (v:=(vl A278 x225.data.length c279)) [9,10,11,12,13,14] F294 (fun j hj=>by simp at hj;first | (subst hj;decide) | (rcases hj with rfl | rfl <;> decide)) (by decide +kernel) (by decide +kernel) rfl rfl rfl rfl (fun _ _ _ _ h=>h) rfl hS262 (fun W hW=>(rl F294 rfl ((fun j u hu=>Ext.keep ((Ext.refl w258).trans hW.1) (hc276 j u hu)) 1 _ rfl))) ?_
 intro a295 F296;clear F294
 refine ao 9 rfl ?_
 refine o_call F296 rfl rfl rfl rfl (rn_call (args1 (F296.get rfl)) rfl (by kernel_rfl)) (bclone_at (v:=(vl A278 x225.data.length c279)) (n:=x225.data.length) x225.data _ hd280 (by omega)) ?_
 rintro _ w301 ⟨A297,c298,rfl,hf299,hx302⟩
 have z300:=(Fl.cel hf299).2.1
 refine ⟨_,rfl,?_⟩;intro a303 F304;clear F296;have z305:=hx302.size
 have hf306:Fl (Clip (fun b=>w258.heap.size≤b) w301) w301 1 (vl A297 x225.data.length c298) x225.data.length (byteVals x225.data):=hf299.clip
 have b307:=(b263.ext hx302)
 refine ⟨fun _ _=>⟨((Ext.refl w258).trans hx302),b307⟩,?_⟩
 refine F304.yw 10 (.agg #[(strOf x225.name),(vl A297 x225.data.length c298)]) rfl (fun F W=>rn_build (parts2 (F.get rfl) (F.get rfl)) (by kernel_rfl))<|Yw 11 (.agg #[(strOf x225.name),(vl A297 x225.data.length c298),(.bool false)]) rfl (fun F W=>rn_build (parts1 (F.get rfl)) (by kernel_rfl))<|fun _ F311=>?_;clear F304
 refine ao 12 rfl (F311.on (fun g=>(vl (some ⟨g,0,none⟩) 1 1)) [(strOf x225.name),(vl A297 x225.data.length c298),(.bool false)] 92 rfl (fun F=>rn_buildSlice (parts1 (F.get rfl)) (by kernel_rfl)) fun g312 w313 _ F319 z316 z317 b314 hx315=>?_);clear F311
 have b320:=(b307.ext hx315)
 refine ⟨fun _ _=>⟨(((Ext.refl w258).trans hx302).trans hx315),b320⟩,?_⟩
 refine ao 13 rfl ?_
 have hO321:=OwnL.pres rCg hO ((((((Pres.refl w).ext hx76).ext hx244).ext hx259).ext hx302).ext hx315)
 have d322:=(hf306.ext hx315)
 refine o_appB (zs:=xs++[(strOf x225.name),(vl A297 x225.data.length c298),(.bool false)]) El25 F319 rfl rfl rfl rfl rfl (F319.get rfl) (F319.get rfl) hO321.1 (Fl.cel (Fl.blk (S:=fun _=>True) (k:=3) (n:=1) (c:=1) (cs:=[(strOf x225.name),(vl A297 x225.data.length c298),(.bool false)]) b314 rfl (one_cons rfl (one_cons rfl (one_cons rfl one_nil))) ⟨Nat.le_refl _,by omega⟩ trivial)).2.2 (by omega) (by omega) (by omega) rfl ?_
 intro A323 c324 w325 a332 F333 r326 hg327 z328 z329 hnb330;clear F319;have z334:=hg327.size
 have hO331:=OwnL.snoc (x:=(⟨x225.name,x225.data,false⟩:Cg)) rCg hO321 r326 hg327 hnb330 rfl (one_cons rfl (one_cons rfl (one_cons rfl one_nil))) ⟨_,_,rfl,d322⟩ (fun b _ hb=>⟨by simp only [Clip] at hb;omega,fun e1=>by have h5:=own_blk_lt hO.1 b e1;simp only [Clip] at hb;omega⟩)
 refine ⟨fun h=>absurd h (by decide),?_⟩
 refine ao 14 rfl ?_
 have b338:=(grown_blk hO321.1 hg327 b320 (by decide))
 refine o_store1 (new:=[(vl A323 (n0+1) c324)]) F333 rfl rfl rfl rfl (F333.get rfl) (F333.get rfl) b338 inf25 (by simp) rfl rfl ?_
 intro w335 b336 hg337;have z339:=hg337.size
 refine ⟨fun h=>absurd h (by decide),?_⟩
 refine nn ?_
 refine blk_normal ?_
 refine ret0 F333 rfl ?_
 have hO340:=OwnL.pres rCg hO331 ((Pres.refl w325).gn hg337)
 exact ⟨rfl,⟨_,_,_,_,b336,by rw [dstep_ne hi204 hi228 (of_decide_eq_false (decide_eq_false hc255))];exact hO340⟩,((((((((FarX.refl w).ext hx76).ext hx244).ext hx259).ext hx302).ext hx315).row hg327 hO321.1 (fun b hb h=>by have h6:=h.1;omega)).gc hg337)⟩

set_option maxRecDepth 100000 in
set_option maxHeartbeats 1000000 in
theorem apply2_any (q:Nat) (fn:Bool) (p base:Nat) (A0:Option Addr) (n0 c0:Nat) (xs:List Value) (acc:List It) (A:Option Addr) (c:Nat) (x:List It) (B:Option Addr) (d:Nat) (y:List Cg) (w:World) (hp:Blk w p 22 [.slice A0 n0 c0]) (hq:Blk w q 4 [.bool fn]) (hqb:q<base) (hpq:p≠q) (hO:OwnL RIt 2 66 base w (vl A0 n0 c0) n0 xs acc) (hpb:p<base) (hbs:base≤w.heap.size) (hn:n0≤1000000) (hx:RLs RIt 2 S w (vl A x.length c) x) (hy:RLs RCg 3 S w (vl B y.length d) y) (hne:0<x.length∨0<y.length) (hdx:∀ z∈x,z.data.length≤4294967296) (hdy:∀ z∈y,z.data.length≤4294967296) :
  Calls Tryd.prog 77 #[.slice A x.length c,.slice B y.length d,.pointer (some ⟨p,0,none⟩),.pointer (some ⟨q,0,none⟩)] w (fun e w'=>e=.returned (.tuple #[])∧(∃ A n c xs,Blk w' p 22 [.slice A n c]∧Blk w' q 4 [.bool (fn&&aok (x.head?,y.head?))]∧OwnL RIt 2 66 base w' (vl A n c) n xs (acc++astepX (x.head?,y.head?)))∧FarX (fun b=>b<base∧b≠p∧b≠q) w w'):=by
 obtain ⟨-,hxc,hxd⟩:=RLs.at hx;obtain ⟨-,hyc,hyd⟩:=RLs.at hy;have hpl:=hp.lt
 have hql:=hq.lt
 refine calls_enter Tryd.func77 rfl rfl rfl fun _ hF=>?_
 refine wp_block ?_
 refine wr fun K1 hK1=>?_
 refine hF.xm rfl<|Xv (vi (y.length:Nat))<|Xv (.bool (decide (((y.length:Nat):Int)=(0:Int))))<|Xa rfl<|fun _ F9=>?_;clear hF
 refine wpList_nil (hK1 _ _ ?_);clear hK1
 by_cases hc10:((y.length:Nat):Int)=(0:Int)
 ·skip
  refine F9.ct ?_
  have hx12:∃ W,w.drew=W∧Ext w W:=⟨_,rfl,(Ext.refl _).drew⟩
  obtain ⟨w11,e13,hx12⟩:=hx12
  have z14:=hx12.size
  refine any_start (fun W=>Ext w11 W∧Blk W p 22 [(vl A0 n0 c0)]) (fun i=>i==12||i==13) 14 (.replicate 14 false) rfl rfl rfl ?_
  rw [e13];clear e13
  have b16:=(hp.ext hx12)
  have hS15:Ext w11 w11∧Blk w11 p 22 [(vl A0 n0 c0)]:=⟨(Ext.refl w11),b16⟩
  refine F9.ys 0 (vl A0 n0 c0) rfl hS15 (fun F W hW=>rl F rfl (hW.2.rule.1 0))<|Ym 1 rfl<|fun _ F20=>?_;clear F9
  have d21:=(RLs.ext rIt hx hx12)
  obtain ⟨b22,o23,x24,cs25,hA26,hi27,hk28,hc29,hr30⟩:=RLs.get d21 (by omega:0<x.length)
  obtain ⟨A31,c32,rfl,hd33⟩:=hr30
  have z34:=(Fl.cel hd33).2.1
  have z35:=hdx x24 (List.mem_of_getElem? hi27)
  refine F20.yw 2 (.pointer (some ⟨b22,o23+0*2,none⟩)) rfl (fun F W=>rn_indexE Tryd.underlying22 inf66 ((F.get rfl).trans (by rw [hA26])) rfl (by omega:(0:Int)≤0) (by omega:(0:Int)<((x.length:Nat):Int)) (by omega))<|Yv 3 (.pointer (some ⟨b22,o23+0*2,none⟩)) rfl<|fun _ F39=>?_;clear F20
  refine anyt_val (i:=4) (v:=(strOf x24.name)) [10,11,12,13] F39 (fun j hj=>by simp at hj;first | (subst hj;decide) | (rcases hj with rfl | rfl <;> decide)) (by decide +kernel) (by decide +kernel) rfl rfl rfl rfl (fun _ _ _ _ h=>h) rfl hS15 (fun W hW=>(rl F39 rfl ((fun j u hu=>Ext.keep ((Ext.refl w11).trans hW.1) (hc29 j u hu)) 0 _ rfl))) ?_
  intro a40 F41;clear F39
  refine F41.ym 5 rfl<|Yw 6 (.pointer (some ⟨b22,o23+0*2,none⟩)) rfl (fun F W=>rn_indexE Tryd.underlying22 inf66 ((F.get rfl).trans (by rw [hA26])) rfl (by omega:(0:Int)≤0) (by omega:(0:Int)<((x.length:Nat):Int)) (by omega))<|Yv 7 (.pointer (some ⟨b22,o23+0*2+1,none⟩)) rfl<|fun _ F47=>?_;clear F41
  refine anyt_val (i:=8) (v:=(vl A31 x24.data.length c32)) [9,10,11,12,13] F47 (fun j hj=>by simp at hj;first | (subst hj;decide) | (rcases hj with rfl | rfl <;> decide)) (by decide +kernel) (by decide +kernel) rfl rfl rfl rfl (fun _ _ _ _ h=>h) rfl hS15 (fun W hW=>(rl F47 rfl ((fun j u hu=>Ext.keep ((Ext.refl w11).trans hW.1) (hc29 j u hu)) 1 _ rfl))) ?_
  intro a48 F49;clear F47
  refine ao 9 rfl ?_
  refine o_call F49 rfl rfl rfl rfl (rn_call (args1 (F49.get rfl)) rfl (by kernel_rfl)) (bclone_at (v:=(vl A31 x24.data.length c32)) (n:=x24.data.length) x24.data _ hd33 (by omega)) ?_
  rintro _ w54 ⟨A50,c51,rfl,hf52,hx55⟩
  have z53:=(Fl.cel hf52).2.1
  refine ⟨_,rfl,?_⟩;intro a56 F57;clear F49;have z58:=hx55.size
  have hf59:Fl (Clip (fun b=>w11.heap.size≤b) w54) w54 1 (vl A50 x24.data.length c51) x24.data.length (byteVals x24.data):=hf52.clip
  have b60:=(b16.ext hx55)
  refine ⟨fun _ _=>⟨((Ext.refl w11).trans hx55),b60⟩,?_⟩
  refine F57.yw 10 (.agg #[(strOf x24.name),(vl A50 x24.data.length c51)]) rfl (fun F W=>rn_build (parts2 (F.get rfl) (F.get rfl)) (by kernel_rfl))<|fun _ F62=>?_;clear F57
  refine ao 11 rfl (F62.on (fun g=>(vl (some ⟨g,0,none⟩) 1 1)) [(strOf x24.name),(vl A50 x24.data.length c51)] 66 rfl (fun F=>rn_buildSlice (parts1 (F.get rfl)) (by kernel_rfl)) fun g63 w64 _ F70 z67 z68 b65 hx66=>?_);clear F62
  have b71:=(b60.ext hx66)
  refine ⟨fun _ _=>⟨(((Ext.refl w11).trans hx55).trans hx66),b71⟩,?_⟩
  refine ao 12 rfl ?_
  have hO72:=OwnL.pres rIt hO ((((Pres.refl w).ext hx12).ext hx55).ext hx66)
  have d73:=(hf59.ext hx66)
  refine o_appB (zs:=xs++[(strOf x24.name),(vl A50 x24.data.length c51)]) El22 F70 rfl rfl rfl rfl rfl (F70.get rfl) (F70.get rfl) hO72.1 (Fl.cel (Fl.blk (S:=fun _=>True) (k:=2) (n:=1) (c:=1) (cs:=[(strOf x24.name),(vl A50 x24.data.length c51)]) b65 rfl (one_cons rfl (one_cons rfl one_nil)) ⟨Nat.le_refl _,by omega⟩ trivial)).2.2 (by omega) (by omega) (by omega) rfl ?_
  intro A74 c75 w76 a83 F84 r77 hg78 z79 z80 hnb81;clear F70;have z85:=hg78.size
  have hO82:=OwnL.snoc (x:=(⟨x24.name,x24.data⟩:It)) rIt hO72 r77 hg78 hnb81 rfl (one_cons rfl (one_cons rfl one_nil)) ⟨_,_,rfl,d73⟩ (fun b _ hb=>⟨by simp only [Clip] at hb;omega,fun e1=>by have h5:=own_blk_lt hO.1 b e1;simp only [Clip] at hb;omega⟩)
  refine ⟨fun h=>absurd h (by decide),?_⟩
  refine ao 13 rfl ?_
  have b89:=(grown_blk hO72.1 hg78 b71 (by decide))
  refine o_store1 (new:=[(vl A74 (n0+1) c75)]) F84 rfl rfl rfl rfl (F84.get rfl) (F84.get rfl) b89 inf22 (by simp) rfl rfl ?_
  intro w86 b87 hg88;have z90:=hg88.size
  refine ⟨fun h=>absurd h (by decide),?_⟩
  refine nn ?_
  refine blk_normal ?_
  refine ret0 F84 rfl ?_
  have hO91:=OwnL.pres rIt hO82 ((Pres.refl w76).gn hg88)
  have b92:=((grown_blk hO72.1 hg78 (((hq.ext hx12).ext hx55).ext hx66) (by decide)).gn hg88)
  obtain ⟨he1,he2⟩:=astep_x (y:=y) hi27 (by omega)
  have hfin:fn=(fn&&aok (x.head?,y.head?)):=by rw [he2];simp
  rw [hfin] at b92
  exact ⟨rfl,⟨_,_,_,_,b87,b92,by rw [he1];exact hO91⟩,((((((FarX.refl w).ext hx12).ext hx55).ext hx66).row hg78 hO72.1 (fun b hb h=>by have h6:=h.1;omega)).gc hg88)⟩
 refine F9.cf ?_
 refine wr fun K93 hK93=>?_
 refine F9.xm rfl<|fun _ F95=>?_;clear F9
 obtain ⟨b96,o97,x98,cs99,hA100,hi101,hk102,hc103,hr104⟩:=RLs.get hy (by omega:0<y.length)
 obtain ⟨A105,c106,rfl,hd107⟩:=hr104
 have z108:=(Fl.cel hd107).2.1
 have z109:=hdy x98 (List.mem_of_getElem? hi101)
 refine F95.xw (.pointer (some ⟨b96,o97+0*3,none⟩)) (fun F=>rn_indexE Tryd.underlying25 inf92 ((F.get rfl).trans (by rw [hA100])) rfl (by omega:(0:Int)≤0) (by omega:(0:Int)<((y.length:Nat):Int)) (by omega))<|Xv (.pointer (some ⟨b96,o97+0*3+2,none⟩))<|Xw (.bool x98.gone) (fun F=>rl F rfl (hc103 2 _ rfl))<|Xa rfl<|fun _ F117=>?_;clear F95
 refine wpList_nil (hK93 _ _ ?_);clear hK93
 have F118:=F117.k [0,1,2,3,21,38];clear F117
 rcases Bool.eq_false_or_eq_true x98.gone with hc119 | hc119
 ·skip
  refine F118.ct ?_
  refine wp_region_lit ?_
  refine F118.xw (.bool fn) (fun F=>rl F rfl (hq.rule.1 0))<|Xm rfl<|fun _ F123=>?_;clear F118
  rcases Bool.eq_false_or_eq_true fn with hc124 | hc124
  ·skip
   refine F123.xg (vl A x.length c)<|Xg (vi (x.length:Nat))<|Xg (.bool (decide ((0:Int)<((x.length:Nat):Int))))<|Xv (.bool (decide ((0:Int)<((x.length:Nat):Int))))<|fun _ F132=>?_;clear F123
   refine wpl_op (i:=6) rfl (o_store1 (new:=[(.bool (decide ((0:Int)<((x.length:Nat):Int))))]) F132 rfl rfl rfl rfl (F132.get rfl) (F132.get rfl) hq inf4 (by simp) rfl rfl ?_)
   intro w133 b134 hg135;have z136:=hg135.size
   refine wpList_nil ?_
   refine blk_normal ?_
   refine ret0 F132 rfl ?_
   have hO137:=OwnL.pres rIt hO ((Pres.refl w).gn hg135)
   have b138:=(hp.gn hg135)
   obtain ⟨he1,he2⟩:=astep_gone (x:=x) hi101 hc119
   have hfin:decide ((0:Int)<((x.length:Nat):Int))=(fn&&aok (x.head?,y.head?)):=by rw [he2,hc124];simp
   rw [hfin] at b134
   exact ⟨rfl,⟨_,_,_,_,b138,b134,by rw [he1,List.append_nil];exact hO137⟩,((FarX.refl w).gc hg135)⟩
  refine F123.xu<|Xu<|Xu<|Xv (.bool false)<|fun _ F146=>?_;clear F123
  refine wpl_op (i:=6) rfl (o_store1 (new:=[(.bool false)]) F146 rfl rfl rfl rfl (F146.get rfl) (F146.get rfl) hq inf4 (by simp) rfl rfl ?_)
  intro w147 b148 hg149;have z150:=hg149.size
  refine wpList_nil ?_
  refine blk_normal ?_
  refine ret0 F146 rfl ?_
  have hO151:=OwnL.pres rIt hO ((Pres.refl w).gn hg149)
  have b152:=(hp.gn hg149)
  obtain ⟨he1,he2⟩:=astep_gone (x:=x) hi101 hc119
  have hfin:false=(fn&&aok (x.head?,y.head?)):=by rw [he2,hc124];simp
  rw [hfin] at b148
  exact ⟨rfl,⟨_,_,_,_,b152,b148,by rw [he1,List.append_nil];exact hO151⟩,((FarX.refl w).gc hg149)⟩
 refine F118.cf ?_
 refine wp_seq_k fun K153 hK153=>?_
 have hx155:∃ W,w.drew=W∧Ext w W:=⟨_,rfl,(Ext.refl _).drew⟩
 obtain ⟨w154,e156,hx155⟩:=hx155
 have z157:=hx155.size
 refine any_start (fun W=>Ext w154 W) (fun i=>false) 16 (.replicate 16 false) rfl rfl rfl ?_
 rw [e156];clear e156
 refine F118.ym 0 rfl<|Yv 1 (vi (x.length:Nat)) rfl<|Yv 2 (.bool (decide ((0:Int)<((x.length:Nat):Int)))) rfl<|Ym 3 rfl<|fun _ F165=>?_;clear F118
 by_cases hc166:(0:Int)<((x.length:Nat):Int)
 ·skip
  refine F165.yg 4 (vl A x.length c) rfl<|fun _ F168=>?_;clear F165
  have d169:=(RLs.ext rIt hx hx155)
  obtain ⟨b170,o171,x172,cs173,hA174,hi175,hk176,hc177,hr178⟩:=RLs.get d169 (by omega:0<x.length)
  obtain ⟨A179,c180,rfl,hd181⟩:=hr178
  have z182:=(Fl.cel hd181).2.1
  have z183:=hdx x172 (List.mem_of_getElem? hi175)
  refine F168.ygw 5 (.pointer (some ⟨b170,o171+0*2,none⟩)) rfl (fun F W=>rn_indexE Tryd.underlying22 inf66 ((F.get rfl).trans (by rw [hA174])) rfl (by omega:(0:Int)≤0) (by omega:(0:Int)<((x.length:Nat):Int)) (by omega))<|Yg 6 (.pointer (some ⟨b170,o171+0*2+1,none⟩)) rfl<|fun _ F187=>?_;clear F168
  have hS188:Ext w154 w154:=(Ext.refl w154)
  refine F187.ysg 7 (vl A179 x172.data.length c180) rfl hS188 (fun F W hW=>rl F rfl ((fun j u hu=>Ext.keep ((Ext.refl w154).trans hW) (hc177 j u hu)) 1 _ rfl))<|Yg 8 (vl B y.length d) rfl<|fun _ F192=>?_;clear F187
  have d193:=(RLs.ext rCg hy hx155)
  obtain ⟨b194,o195,x196,cs197,hA198,hi199,hk200,hc201,hr202⟩:=RLs.get d193 (by omega:0<y.length)
  obtain rfl:x98=x196:=Option.some.inj (hi101.symm.trans hi199)
  obtain ⟨A203,c204,rfl,hd205⟩:=hr202
  have z206:=(Fl.cel hd205).2.1
  have z207:=hdy x98 (List.mem_of_getElem? hi101)
  refine F192.ygw 9 (.pointer (some ⟨b194,o195+0*3,none⟩)) rfl (fun F W=>rn_indexE Tryd.underlying25 inf92 ((F.get rfl).trans (by rw [hA198])) rfl (by omega:(0:Int)≤0) (by omega:(0:Int)<((y.length:Nat):Int)) (by omega))<|Yg 10 (.pointer (some ⟨b194,o195+0*3,none⟩)) rfl<|Yg 11 (.pointer (some ⟨b194,o195+0*3+1,none⟩)) rfl<|Ysg 12 (vl A203 x98.data.length c204) rfl hS188 (fun F W hW=>rl F rfl ((fun j u hu=>Ext.keep ((Ext.refl w154).trans hW) (hc201 j u hu)) 1 _ rfl))<|fun _ F215=>?_;clear F192
  refine ao 13 rfl ?_
  refine o_call F215 rfl (wanted_guard rfl rfl rfl F215 rfl (decide_eq_true hc166) rfl) rfl rfl (rn_call (args2 (F215.get rfl) (F215.get rfl)) rfl (by kernel_rfl)) (beq_at (v:=(vl A179 x172.data.length c180)) (u:=(vl A203 x98.data.length c204)) (n:=x172.data.length) (m:=x98.data.length) x172.data x98.data _ hd181 hd205) ?_
  rintro _ w216 ⟨rfl,hx217⟩
  refine ⟨_,rfl,?_⟩;intro a218 F219;clear F215;have z220:=hx217.size
  refine ⟨fun _ _=>((Ext.refl w154).trans hx217),?_⟩
  refine F219.yv 14 (.bool (decide (x172.data=x98.data))) rfl<|Yv 15 (.bool (decide (x172.data=x98.data))) rfl<|fun _ F224=>?_;clear F219
  refine nn (hK153 _ _ ?_);clear hK153
  have F225:=F224.k [0,1,2,3,21,38,49];clear F224
  by_cases hc226:x172.data=x98.data
  ·skip
   refine F225.ct ?_
   refine wp_region_lit ?_
   have b230:=((hq.ext hx155).ext hx217)
   refine wpl_op (i:=0) rfl (o_store1 (new:=[(.bool false)]) F225 rfl rfl rfl rfl (F225.get rfl) rfl b230 inf4 (by simp) rfl rfl ?_)
   intro w227 b228 hg229;have z231:=hg229.size
   refine wpList_nil ?_
   refine blk_normal ?_
   refine ret0 F225 rfl ?_
   have hO232:=OwnL.pres rIt hO ((((Pres.refl w).ext hx155).ext hx217).gn hg229)
   have b233:=(((hp.ext hx155).ext hx217).gn hg229)
   obtain ⟨he1,he2⟩:=astep_same hi175 hi101 hc119 (of_decide_eq_true (decide_eq_true hc226))
   have hfin:false=(fn&&aok (x.head?,y.head?)):=by rw [he2];simp
   rw [hfin] at b228
   exact ⟨rfl,⟨_,_,_,_,b233,b228,by rw [he1,List.append_nil];exact hO232⟩,((((FarX.refl w).ext hx155).ext hx217).gc hg229)⟩
  refine F225.cf ?_
  have hx235:∃ W,w216.drew=W∧Ext w216 W:=⟨_,rfl,(Ext.refl _).drew⟩
  obtain ⟨w234,e236,hx235⟩:=hx235
  have z237:=hx235.size
  refine any_start (fun W=>Ext w234 W∧Blk W p 22 [(vl A0 n0 c0)]) (fun i=>i==14||i==15) 16 (.replicate 16 false) rfl rfl rfl ?_
  rw [e236];clear e236
  have b239:=(((hp.ext hx155).ext hx217).ext hx235)
  have hS238:Ext w234 w234∧Blk w234 p 22 [(vl A0 n0 c0)]:=⟨(Ext.refl w234),b239⟩
  refine F225.ys 0 (vl A0 n0 c0) rfl hS238 (fun F W hW=>rl F rfl (hW.2.rule.1 0))<|Ym 1 rfl<|fun _ F243=>?_;clear F225
  have d244:=(RLs.ext rCg (RLs.ext rCg (RLs.ext rCg hy hx155) hx217) hx235)
  obtain ⟨b245,o246,x247,cs248,hA249,hi250,hk251,hc252,hr253⟩:=RLs.get d244 (by omega:0<y.length)
  obtain rfl:x98=x247:=Option.some.inj (hi101.symm.trans hi250)
  obtain ⟨A254,c255,rfl,hd256⟩:=hr253
  have z257:=(Fl.cel hd256).2.1
  have z258:=hdy x98 (List.mem_of_getElem? hi101)
  refine F243.yw 2 (.pointer (some ⟨b245,o246+0*3,none⟩)) rfl (fun F W=>rn_indexE Tryd.underlying25 inf92 ((F.get rfl).trans (by rw [hA249])) rfl (by omega:(0:Int)≤0) (by omega:(0:Int)<((y.length:Nat):Int)) (by omega))<|Yv 3 (.pointer (some ⟨b245,o246+0*3,none⟩)) rfl<|Yv 4 (.pointer (some ⟨b245,o246+0*3,none⟩)) rfl<|fun _ F264=>?_;clear F243
  refine anyt_val (i:=5) (v:=(strOf x98.name)) [12,13,14,15] F264 (fun j hj=>by simp at hj;first | (subst hj;decide) | (rcases hj with rfl | rfl <;> decide)) (by decide +kernel) (by decide +kernel) rfl rfl rfl rfl (fun _ _ _ _ h=>h) rfl hS238 (fun W hW=>(rl F264 rfl ((fun j u hu=>Ext.keep ((Ext.refl w234).trans hW.1) (hc252 j u hu)) 0 _ rfl))) ?_
  intro a265 F266;clear F264
  refine F266.ym 6 rfl<|Yw 7 (.pointer (some ⟨b245,o246+0*3,none⟩)) rfl (fun F W=>rn_indexE Tryd.underlying25 inf92 ((F.get rfl).trans (by rw [hA249])) rfl (by omega:(0:Int)≤0) (by omega:(0:Int)<((y.length:Nat):Int)) (by omega))<|Yv 8 (.pointer (some ⟨b245,o246+0*3,none⟩)) rfl<|Yv 9 (.pointer (some ⟨b245,o246+0*3+1,none⟩)) rfl<|fun _ F274=>?_;clear F266
  refine anyt_val (i:=10) (v:=(vl A254 x98.data.length c255)) [11,12,13,14,15] F274 (fun j hj=>by simp at hj;first | (subst hj;decide) | (rcases hj with rfl | rfl <;> decide)) (by decide +kernel) (by decide +kernel) rfl rfl rfl rfl (fun _ _ _ _ h=>h) rfl hS238 (fun W hW=>(rl F274 rfl ((fun j u hu=>Ext.keep ((Ext.refl w234).trans hW.1) (hc252 j u hu)) 1 _ rfl))) ?_
  intro a275 F276;clear F274
  refine ao 11 rfl ?_
  refine o_call F276 rfl rfl rfl rfl (rn_call (args1 (F276.get rfl)) rfl (by kernel_rfl)) (bclone_at (v:=(vl A254 x98.data.length c255)) (n:=x98.data.length) x98.data _ hd256 (by omega)) ?_
  rintro _ w281 ⟨A277,c278,rfl,hf279,hx282⟩
  have z280:=(Fl.cel hf279).2.1
  refine ⟨_,rfl,?_⟩;intro a283 F284;clear F276;have z285:=hx282.size
  have hf286:Fl (Clip (fun b=>w234.heap.size≤b) w281) w281 1 (vl A277 x98.data.length c278) x98.data.length (byteVals x98.data):=hf279.clip
  have b287:=(b239.ext hx282)
  refine ⟨fun _ _=>⟨((Ext.refl w234).trans hx282),b287⟩,?_⟩
  refine F284.yw 12 (.agg #[(strOf x98.name),(vl A277 x98.data.length c278)]) rfl (fun F W=>rn_build (parts2 (F.get rfl) (F.get rfl)) (by kernel_rfl))<|fun _ F289=>?_;clear F284
  refine ao 13 rfl (F289.on (fun g=>(vl (some ⟨g,0,none⟩) 1 1)) [(strOf x98.name),(vl A277 x98.data.length c278)] 66 rfl (fun F=>rn_buildSlice (parts1 (F.get rfl)) (by kernel_rfl)) fun g290 w291 _ F297 z294 z295 b292 hx293=>?_);clear F289
  have b298:=(b287.ext hx293)
  refine ⟨fun _ _=>⟨(((Ext.refl w234).trans hx282).trans hx293),b298⟩,?_⟩
  refine ao 14 rfl ?_
  have hO299:=OwnL.pres rIt hO ((((((Pres.refl w).ext hx155).ext hx217).ext hx235).ext hx282).ext hx293)
  have d300:=(hf286.ext hx293)
  refine o_appB (zs:=xs++[(strOf x98.name),(vl A277 x98.data.length c278)]) El22 F297 rfl rfl rfl rfl rfl (F297.get rfl) (F297.get rfl) hO299.1 (Fl.cel (Fl.blk (S:=fun _=>True) (k:=2) (n:=1) (c:=1) (cs:=[(strOf x98.name),(vl A277 x98.data.length c278)]) b292 rfl (one_cons rfl (one_cons rfl one_nil)) ⟨Nat.le_refl _,by omega⟩ trivial)).2.2 (by omega) (by omega) (by omega) rfl ?_
  intro A301 c302 w303 a310 F311 r304 hg305 z306 z307 hnb308;clear F297;have z312:=hg305.size
  have hO309:=OwnL.snoc (x:=(⟨x98.name,x98.data⟩:It)) rIt hO299 r304 hg305 hnb308 rfl (one_cons rfl (one_cons rfl one_nil)) ⟨_,_,rfl,d300⟩ (fun b _ hb=>⟨by simp only [Clip] at hb;omega,fun e1=>by have h5:=own_blk_lt hO.1 b e1;simp only [Clip] at hb;omega⟩)
  refine ⟨fun h=>absurd h (by decide),?_⟩
  refine ao 15 rfl ?_
  have b316:=(grown_blk hO299.1 hg305 b298 (by decide))
  refine o_store1 (new:=[(vl A301 (n0+1) c302)]) F311 rfl rfl rfl rfl (F311.get rfl) (F311.get rfl) b316 inf22 (by simp) rfl rfl ?_
  intro w313 b314 hg315;have z317:=hg315.size
  refine ⟨fun h=>absurd h (by decide),?_⟩
  refine nn ?_
  refine blk_normal ?_
  refine ret0 F311 rfl ?_
  have hO318:=OwnL.pres rIt hO309 ((Pres.refl w303).gn hg315)
  have b319:=((grown_blk hO299.1 hg305 (((((hq.ext hx155).ext hx217).ext hx235).ext hx282).ext hx293) (by decide)).gn hg315)
  obtain ⟨he1,he2⟩:=astep_ne hi175 hi101 hc119 (of_decide_eq_false (decide_eq_false hc226))
  have hfin:fn=(fn&&aok (x.head?,y.head?)):=by rw [he2];simp
  rw [hfin] at b319
  exact ⟨rfl,⟨_,_,_,_,b314,b319,by rw [he1];exact hO318⟩,((((((((FarX.refl w).ext hx155).ext hx217).ext hx235).ext hx282).ext hx293).row hg305 hO299.1 (fun b hb h=>by have h6:=h.1;omega)).gc hg315)⟩
 refine F165.yu 4 rfl<|Yu 5 rfl<|Yu 6 rfl<|Yu 7 rfl<|Yu 8 rfl<|Yu 9 rfl<|Yu 10 rfl<|Yu 11 rfl<|Yu 12 rfl<|fun _ F337=>?_;clear F165
 refine ao 13 rfl ?_
 refine o_skip F337 rfl (unwanted_guard rfl rfl rfl F337 rfl (decide_eq_false hc166) rfl) rfl rfl ?_
 intro a338 F339;clear F337
 refine ⟨fun _ _=>(Ext.refl w154),?_⟩
 refine F339.yv 14 (.bool false) rfl<|Yv 15 (.bool false) rfl<|fun _ F343=>?_;clear F339
 refine nn (hK153 _ _ ?_);clear hK153
 have F344:=F343.k [0,1,2,3,21,38,49];clear F343
 refine F344.cf ?_
 have hx346:∃ W,w154.drew=W∧Ext w154 W:=⟨_,rfl,(Ext.refl _).drew⟩
 obtain ⟨w345,e347,hx346⟩:=hx346
 have z348:=hx346.size
 refine any_start (fun W=>Ext w345 W∧Blk W p 22 [(vl A0 n0 c0)]) (fun i=>i==14||i==15) 16 (.replicate 16 false) rfl rfl rfl ?_
 rw [e347];clear e347
 have b350:=((hp.ext hx155).ext hx346)
 have hS349:Ext w345 w345∧Blk w345 p 22 [(vl A0 n0 c0)]:=⟨(Ext.refl w345),b350⟩
 refine F344.ys 0 (vl A0 n0 c0) rfl hS349 (fun F W hW=>rl F rfl (hW.2.rule.1 0))<|Ym 1 rfl<|fun _ F354=>?_;clear F344
 have d355:=(RLs.ext rCg (RLs.ext rCg hy hx155) hx346)
 obtain ⟨b356,o357,x358,cs359,hA360,hi361,hk362,hc363,hr364⟩:=RLs.get d355 (by omega:0<y.length)
 obtain rfl:x98=x358:=Option.some.inj (hi101.symm.trans hi361)
 obtain ⟨A365,c366,rfl,hd367⟩:=hr364
 have z368:=(Fl.cel hd367).2.1
 have z369:=hdy x98 (List.mem_of_getElem? hi101)
 refine F354.yw 2 (.pointer (some ⟨b356,o357+0*3,none⟩)) rfl (fun F W=>rn_indexE Tryd.underlying25 inf92 ((F.get rfl).trans (by rw [hA360])) rfl (by omega:(0:Int)≤0) (by omega:(0:Int)<((y.length:Nat):Int)) (by omega))<|Yv 3 (.pointer (some ⟨b356,o357+0*3,none⟩)) rfl<|Yv 4 (.pointer (some ⟨b356,o357+0*3,none⟩)) rfl<|fun _ F375=>?_;clear F354
 refine anyt_val (i:=5) (v:=(strOf x98.name)) [12,13,14,15] F375 (fun j hj=>by simp at hj;first | (subst hj;decide) | (rcases hj with rfl | rfl <;> decide)) (by decide +kernel) (by decide +kernel) rfl rfl rfl rfl (fun _ _ _ _ h=>h) rfl hS349 (fun W hW=>(rl F375 rfl ((fun j u hu=>Ext.keep ((Ext.refl w345).trans hW.1) (hc363 j u hu)) 0 _ rfl))) ?_
 intro a376 F377;clear F375
 refine F377.ym 6 rfl<|Yw 7 (.pointer (some ⟨b356,o357+0*3,none⟩)) rfl (fun F W=>rn_indexE Tryd.underlying25 inf92 ((F.get rfl).trans (by rw [hA360])) rfl (by omega:(0:Int)≤0) (by omega:(0:Int)<((y.length:Nat):Int)) (by omega))<|Yv 8 (.pointer (some ⟨b356,o357+0*3,none⟩)) rfl<|Yv 9 (.pointer (some ⟨b356,o357+0*3+1,none⟩)) rfl<|fun _ F385=>?_;clear F377
 refine anyt_val (i:=10) (v:=(vl A365 x98.data.length c366)) [11,12,13,14,15] F385 (fun j hj=>by simp at hj;first | (subst hj;decide) | (rcases hj with rfl | rfl <;> decide)) (by decide +kernel) (by decide +kernel) rfl rfl rfl rfl (fun _ _ _ _ h=>h) rfl hS349 (fun W hW=>(rl F385 rfl ((fun j u hu=>Ext.keep ((Ext.refl w345).trans hW.1) (hc363 j u hu)) 1 _ rfl))) ?_
 intro a386 F387;clear F385
 refine ao 11 rfl ?_
 refine o_call F387 rfl rfl rfl rfl (rn_call (args1 (F387.get rfl)) rfl (by kernel_rfl)) (bclone_at (v:=(vl A365 x98.data.length c366)) (n:=x98.data.length) x98.data _ hd367 (by omega)) ?_
 rintro _ w392 ⟨A388,c389,rfl,hf390,hx393⟩
 have z391:=(Fl.cel hf390).2.1
 refine ⟨_,rfl,?_⟩;intro a394 F395;clear F387;have z396:=hx393.size
 have hf397:Fl (Clip (fun b=>w345.heap.size≤b) w392) w392 1 (vl A388 x98.data.length c389) x98.data.length (byteVals x98.data):=hf390.clip
 have b398:=(b350.ext hx393)
 refine ⟨fun _ _=>⟨((Ext.refl w345).trans hx393),b398⟩,?_⟩
 refine F395.yw 12 (.agg #[(strOf x98.name),(vl A388 x98.data.length c389)]) rfl (fun F W=>rn_build (parts2 (F.get rfl) (F.get rfl)) (by kernel_rfl))<|fun _ F400=>?_;clear F395
 refine ao 13 rfl (F400.on (fun g=>(vl (some ⟨g,0,none⟩) 1 1)) [(strOf x98.name),(vl A388 x98.data.length c389)] 66 rfl (fun F=>rn_buildSlice (parts1 (F.get rfl)) (by kernel_rfl)) fun g401 w402 _ F408 z405 z406 b403 hx404=>?_);clear F400
 have b409:=(b398.ext hx404)
 refine ⟨fun _ _=>⟨(((Ext.refl w345).trans hx393).trans hx404),b409⟩,?_⟩
 refine ao 14 rfl ?_
 have hO410:=OwnL.pres rIt hO (((((Pres.refl w).ext hx155).ext hx346).ext hx393).ext hx404)
 have d411:=(hf397.ext hx404)
 refine o_appB (zs:=xs++[(strOf x98.name),(vl A388 x98.data.length c389)]) El22 F408 rfl rfl rfl rfl rfl (F408.get rfl) (F408.get rfl) hO410.1 (Fl.cel (Fl.blk (S:=fun _=>True) (k:=2) (n:=1) (c:=1) (cs:=[(strOf x98.name),(vl A388 x98.data.length c389)]) b403 rfl (one_cons rfl (one_cons rfl one_nil)) ⟨Nat.le_refl _,by omega⟩ trivial)).2.2 (by omega) (by omega) (by omega) rfl ?_
 intro A412 c413 w414 a421 F422 r415 hg416 z417 z418 hnb419;clear F408;have z423:=hg416.size
 have hO420:=OwnL.snoc (x:=(⟨x98.name,x98.data⟩:It)) rIt hO410 r415 hg416 hnb419 rfl (one_cons rfl (one_cons rfl one_nil)) ⟨_,_,rfl,d411⟩ (fun b _ hb=>⟨by simp only [Clip] at hb;omega,fun e1=>by have h5:=own_blk_lt hO.1 b e1;simp only [Clip] at hb;omega⟩)
 refine ⟨fun h=>absurd h (by decide),?_⟩
 refine ao 15 rfl ?_
 have b427:=(grown_blk hO410.1 hg416 b409 (by decide))
 refine o_store1 (new:=[(vl A412 (n0+1) c413)]) F422 rfl rfl rfl rfl (F422.get rfl) (F422.get rfl) b427 inf22 (by simp) rfl rfl ?_
 intro w424 b425 hg426;have z428:=hg426.size
 refine ⟨fun h=>absurd h (by decide),?_⟩
 refine nn ?_
 refine blk_normal ?_
 refine ret0 F422 rfl ?_
 have hO429:=OwnL.pres rIt hO420 ((Pres.refl w414).gn hg426)
 have b430:=((grown_blk hO410.1 hg416 ((((hq.ext hx155).ext hx346).ext hx393).ext hx404) (by decide)).gn hg426)
 obtain ⟨he1,he2⟩:=astep_y (x:=x) hi101 hc119 (by omega)
 have hfin:fn=(fn&&aok (x.head?,y.head?)):=by rw [he2];simp
 rw [hfin] at b430
 exact ⟨rfl,⟨_,_,_,_,b425,b430,by rw [he1];exact hO429⟩,(((((((FarX.refl w).ext hx155).ext hx346).ext hx393).ext hx404).row hg416 hO410.1 (fun b hb h=>by have h6:=h.1;omega)).gc hg426)⟩

end Go.Proofs.YtihgmaoghbnnaaaDoor
