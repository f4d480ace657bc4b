/- Several texts in one: MrY, MrW, MsA, MsC. -/
import Derived.Test.YtihgmaoghbnnaaaDoorProg
import Derived.Test.YtihgmaoghbnnaaaDoorQcG
import Derived.KernelRfl
import Derived.Test.YtihgmaoghbnnaaaDoorQcA
import Derived.Test.YtihgmaoghbnnaaaDoorQcB
set_option linter.unusedVariables false
set_option linter.unusedSimpArgs false
namespace Go.Proofs.YtihgmaoghbnnaaaDoor
open Go.RowKit

variable {S S':Nat→Prop}

theorem retC2 {N:Nat} {m:List (Nat × Value)} {a:Act} {P:Program} {fn:Func} {R:Ending→World→Prop} {w:World} {t u x b:Nat} {ty tt:TypeId} {cs:List Value} {v2 v3:Value} {td:TypeDesc} (hF:Sl N m a) (hr:fn.results=#[.cell t ty,.tmp u,.tmp x]) (hv:look m t=some (.pointer (some ⟨b,0,none⟩))) (hu:look m u=some v2) (hx:look m x=some v3)
  (hB:Blk w b tt cs) (hty:P.underlying ty=some td) (hd:aggTy td=true) (hi:(P.info? ty).map (·.size)=some cs.length) (h:R (.returned (.tuple #[.agg cs.toArray,v2,v3])) w):bodyPost P fn R .ret a w:=by
 have h1:=hF.get hv
 have h2:=hF.get hu
 have h3:=hF.get hx
 simp only [Act.eval] at h1 h2 h3
 refine bodyPost_ret ?_ hF.2.1 h
 have:=run_loadVar_row (P:=P) w b tt ty cs.toArray (0,0) td hB hty (by cases td <;> simp_all [aggTy]) (by simpa using hi)
 rw [Array.getD_eq_getD_getElem?] at h1 h2 h3
 simp [results,hr,h1,h2,h3,asAddr,this]
def RIs (S:Nat→Prop) (w:World) (cs:List Value) (l:List It):Prop:=∃ u,cs=[u]∧RLs RIt 2 S w u l
theorem rIs:Rel RIs:=⟨fun ⟨u,h1,h2⟩ hp=>⟨u,h1,h2.pres rIt hp⟩,fun ⟨u,h1,h2⟩ hs=>⟨u,h1,h2.subB rIt hs⟩⟩
def chainL (sd:List UInt8):Nat→List It→List (List It)→List Vr
 | _,_,[]=>[]
 | n,bf,s::r=>versionV sd 2 (n:Int) n s (diffL bf s)::chainL sd (n+1) s r
theorem chain_step {sd:List UInt8} {k:Nat} {bf s:List It} {ss:List (List It)} {vs T:List Vr} {v:Vr} (hx:ss[k]?=some s) (hv:versionV sd 2 (k:Int) k s (diffL bf s)=v) (h:vs++chainL sd k bf (ss.drop k)=T):(vs++[v])++chainL sd (k+1) s (ss.drop (k+1))=T:=by
 have hk:=(List.getElem?_eq_some_iff.1 hx)
 rw [← h,List.drop_eq_getElem_cons hk.1,hk.2,chainL,hv,List.append_assoc];rfl
theorem chain_end {sd:List UInt8} {k:Nat} {bf:List It} {ss:List (List It)} {vs T:List Vr} (hk:ss.length≤k) (h:vs++chainL sd k bf (ss.drop k)=T):vs=T:=by
 rw [List.drop_eq_nil_of_le hk,chainL,List.append_nil] at h;exact h
theorem new_facts {sd:List UInt8} (hs:1≤sd.length∧sd.length≤64):newS sd 2=sd∧newM sd 2=2∧newE sd 2=0:=by
 have h:=kok hs (u:=0) (by decide) (by decide)
 exact ⟨if_pos h,if_pos h,if_pos h⟩
theorem OwnL.near {α:Type} {R:RelT α} {k:Nat} {e:TypeId} {base:Nat} {w w':World} {v:Value} {n:Nat} {xs:List Value} {l:List α} (hR:Rel R) (h:OwnL R k e base w v n xs l) (hp:Pres (fun b=>base≤b∧b<w.heap.size) w w'):OwnL R k e base w' v n xs l:=by
 obtain ⟨h1,h2,h3,h4⟩:=h
 refine ⟨⟨h1.1,?_⟩,h2,h3,fun i hi=>hR.sub (hR.pres (hR.subB (S':=fun b=>(base≤b∧b<w.heap.size)∧some b≠v.ownBlock) (h4 i hi) fun b hl hb=>⟨⟨hb.1,hl⟩,hb.2⟩) ⟨hp.1,fun b hb=>hp.2 b hb.1⟩) fun b hb=>⟨hb.1.1,hb.2⟩⟩
 rcases h1.2 with h5 | ⟨g,cap,cur,hv,hb,hg,h6⟩
 ·exact .inl h5
 ·have hl:=(Array.getElem?_eq_some_iff.1 hg).1
  exact .inr ⟨g,cap,cur,hv,hb,(hp.2 g ⟨hb,hl⟩ hl).trans hg,h6⟩

theorem diff_sm {a b:List It} (ha:∀ x∈a,x.data.length≤4294967296) (hb:∀ x∈b,x.data.length≤4294967296):∀ x∈diffL a b,x.data.length≤4294967296:=by
 intro c hc
 rcases diff_mem hc with ⟨x,hx,rfl⟩ | ⟨y,hy,rfl⟩
 ·simp
 ·exact hb y hy
set_option maxRecDepth 100000 in
set_option maxHeartbeats 1000000 in
theorem chain_any (seed:UInt8) (A:Option Addr) (c:Nat) (ss:List (List It)) (w:World) (h:RLs RIs 1 S w (vl A ss.length c) ss) (hss:∀ s∈ss,checkE s=0∧s.length≤12∧∀ x∈s,x.data.length≤4294967296) (hl2:ss.length≤2) (hG:Glob w) :
  Calls Tryd.prog 12 #[.int .u8 (seed.toNat:Nat),.slice A ss.length c] w (fun e w'=>∃ A n c,e=.returned (.tuple #[.agg (byteVals (pubF [seed] 2 0)).toArray,.slice A n c,.bool true])∧RLs RVr 38 (fun b=>w.heap.size≤b) w' (vl A n c) (chainL [seed] 0 [] ss)∧Ext w w'):=by
 have hc:RLs RIs 1 (Clip S w) w (vl A ss.length c) ss:=RLs.clip rIs h
 obtain ⟨-,hck,hcm⟩:=RLs.at h
 have hk:1≤[seed].length∧[seed].length≤64:=⟨by simp,by simp⟩
 refine calls_enter Tryd.func12 rfl rfl rfl fun _ hF=>?_
 refine wr fun K1 hK1=>?_
 refine hF.xz (byteVals (List.replicate 32 0)) 24 fun g2 w3 _ F9 z6 z7 b4 hx5=>?_;clear hF
 refine F9.xv v0<|Xv (.bool false)<|fun _ F13=>?_;clear F9
 refine wpList_nil (hK1 _ _ ?_);clear hK1
 refine wr fun K14 hK14=>?_
 refine F13.xm rfl<|fun _ F16=>?_;clear F13
 refine F16.xn (fun g=>(vl (some ⟨g,0,none⟩) 1 1)) [(.int .u8 (seed.toNat:Nat))] 5 (fun F=>rn_buildSlice (parts1 (F.get rfl)) (by kernel_rfl)) fun g17 w18 _ F24 z21 z22 b19 hx20=>?_;clear F16
 refine wpl_op (i:=2) rfl (o_call F24 rfl rfl rfl rfl (rn_call (args2 (F24.get rfl) rfl) rfl (by kernel_rfl)) (new_at (v:=(vl (some ⟨g17,0,none⟩) 1 1)) (m:=1) ([seed]) 2 _ (Fl.blk (S:=fun b=>b=g17) (k:=1) (n:=1) (c:=1) (cs:=byteVals [seed]) b19 rfl (byteVals_one _) (by omega) rfl) (by omega)) ?_)
 rw [(new_facts hk).1,(new_facts hk).2.1,(new_facts hk).2.2]
 rintro _ w29 ⟨A25,n26,c27,rfl,hf28,hx30⟩
 have z31:=(Fl.cel hf28).2.1;have z32:=Fl.blen hf28
 refine ⟨_,rfl,?_⟩;intro a33 F34;clear F24;have z35:=hx30.size
 have hf36:Fl (Clip (fun b=>w18.heap.size≤b) w29) w29 1 (vl A25 n26 c27) n26 (byteVals ([seed])):=hf28.clip
 refine F34.xm rfl<|Xv (.agg #[(vl A25 n26 c27),(vi 2),(vi 0)])<|Xv (vi 0)<|fun _ F42=>?_;clear F34
 refine F42.xz [v0,(vi 0),(vi 0)] 56 fun g43 w44 _ F50 z47 z48 b45 hx46=>?_;clear F42
 refine F50.xs rfl b45 (fun w51 b52 hg53=>?_);have z54:=hg53.size
 refine F50.xa rfl<|fun _ F56=>?_;clear F50
 refine wpList_nil (hK14 _ _ ?_);clear hK14
 have F57:=F56.k [0,1,4,5,6,7,8];clear F56
 refine wr fun K58 hK58=>?_
 refine F57.xw (.agg #[(vl A25 n26 c27),(vi 2),(vi 0)]) (fun F=>rb F rfl b52)<|fun _ F60=>?_;clear F57
 have d61:=(hf36.pres (((Pres.refl w29).ext hx46).gc hg53))
 refine F60.xc (pub_at (v:=(vl A25 n26 c27)) (m:=n26) ([seed]) 2 0 _ d61 (hG.ext ((((((Ext.refl w).trans hx5).trans hx20).trans hx30).trans hx46).gn hg53))) ?_
 rintro _ w62 ⟨rfl,hx63⟩
 refine ⟨_,rfl,?_⟩;intro a64 F65;clear F60;have z66:=hx63.size
 refine F65.xm rfl<|Xv (.agg (byteVals (pubF ([seed]) 2 0)).toArray)<|Xv (vi (pubE ([seed]) 2 0))<|fun _ F72=>?_;clear F65
 have b76:=(((((b4.ext hx20).ext hx30).ext hx46).gn hg53).ext hx63)
 refine F72.xs rfl b76 (fun w73 b74 hg75=>?_) (hk:=byteVals_len (pubF_len _ _ _));have z77:=hg75.size
 refine F72.xa rfl<|fun _ F79=>?_;clear F72
 refine wpList_nil (hK58 _ _ ?_);clear hK58
 have F80:=F79.k [0,1,4,5,6,7,8,9];clear F79
 refine wp_seq_k fun K81 hK81=>?_
 refine wr fun K82 hK82=>?_
 refine F80.xm rfl<|Xv (.bool false)<|Xm rfl<|Xg (vi (pubE ([seed]) 2 0))<|Xg (.bool (decide (((pubE ([seed]) 2 0):Int)≠(0:Int))))<|Xv (.bool (decide (((pubE ([seed]) 2 0):Int)≠(0:Int))))<|fun _ F94=>?_;clear F80
 refine wpList_nil (hK82 _ _ ?_);clear hK82
 have F95:=F94.k [0,1,4,5,6,7,8,9,34];clear F94
 refine wp_cond_false (c_false F95 rfl ((decide_eq_false (fun q=>q (pub_u hk (by decide) (by decide)).2)):decide (((pubE ([seed]) 2 0):Int)≠(0:Int))=false)) ?_
 refine wp_skip ?_
 refine hK81 _ _ ?_;clear hK81
 refine wr fun K97 hK97=>?_
 refine F95.xn (fun g=>(vl (some ⟨g,0,none⟩) 0 0)) [] 66 (fun F=>rn_buildSlice (parts0 ) (by kernel_rfl)) fun g98 w99 _ F105 z102 z103 b100 hx101=>?_;clear F95
 refine F105.xa rfl<|fun _ F107=>?_;clear F105
 refine wpList_nil (hK97 _ _ ?_);clear hK97
 refine wp_seq_k fun K108 hK108=>?_
 refine wr fun K109 hK109=>?_
 refine F107.xm rfl<|Xv (vi (ss.length:Nat))<|Xv (vi 0)<|fun _ F115=>?_;clear F107
 refine wpList_nil (hK109 _ _ ?_);clear hK109
 refine wp_block ?_
 have hO116:OwnL RVr 38 30 w99.heap.size w99 v0 0 [] []:=OwnL.nil _ (Nat.le_refl _)
 have hl117:RLs RIt 2 (Clip (fun b=>b<w99.heap.size) w99) w99 (vl (some ⟨g98,0,none⟩) 0 0) []:=RLs.empty (by omega)
 have d118:=(hf36.pres ((((((Pres.refl w29).ext hx46).gc hg53).ext hx63).gc hg75).ext hx101))
 have b119:=(b74.ext hx101)
 have b120:=((((((b19.ext hx30).ext hx46).gn hg53).ext hx63).gn hg75).ext hx101)
 have b121:=(((b52.ext hx63).gn hg75).ext hx101)
 refine wp_loop (fun a' W=>∃ (k:Nat) (Ap:Option Addr) (cp:Nat) (xp:List Value) (vs:List Vr) (bf:List It) (BA:Option Addr) (ba:Nat),Sl 80 [(0,(.int .u8 (seed.toNat:Nat))),(1,(vl A ss.length c)),(4,(vp g2)),(5,(vl Ap k cp)),(6,(.bool false)),(7,(vp g43)),(8,(vi 0)),(9,(vi (pubE ([seed]) 2 0))),(34,(.bool (decide (((pubE ([seed]) 2 0):Int)≠(0:Int))))),(10,(vl BA bf.length ba)),(37,(vl A ss.length c)),(38,(vi (ss.length:Nat))),(39,(vi (k:Nat)))] a'∧k≤ss.length∧vs++chainL [seed] k bf (ss.drop k)=chainL [seed] 0 [] ss∧((checkE bf=0∧bf.length≤12∧∀ x∈bf,x.data.length≤4294967296))∧Ext w W∧Blk W g2 24 (byteVals (pubF ([seed]) 2 0))∧Blk W g17 5 [(.int .u8 (seed.toNat:Nat))]∧Blk W g43 56 [(vl A25 n26 c27),(vi 2),(vi (k:Nat))]∧Fl (Clip (fun b=>w18.heap.size≤b) w29) W 1 (vl A25 n26 c27) n26 (byteVals ([seed]))∧OwnL RVr 38 30 w99.heap.size W (vl Ap k cp) k xp vs∧RLs RIt 2 (Clip S w) W (vl BA bf.length ba) bf∧w99.heap.size≤W.heap.size) (fun a' _=>ss.length - (intOf (a'.eval (.tmp 39))).toNat) ⟨0,none,0,[],[],[],(some ⟨g98,0,none⟩),0,F115.j,(by omega),rfl,⟨rfl,by simp,fun x hx=>absurd hx (by simp)⟩,(((((((((Ext.refl w).trans hx5).trans hx20).trans hx30).trans hx46).gn hg53).trans hx63).gn hg75).trans hx101),b119,b120,b121,d118,hO116,(RLs.empty (by omega)),(Nat.le_refl _)⟩ ?_
 clear F115
 rintro a122 w123 ⟨k,Ap,cp,xp,vs,bf,BA,ba,F124,hp126,hp127,hp128,hx125,b129,b130,b131,hf132,hf133,hf134,hf135⟩
 have hL136:=F124
 have z137:=hx125.size
 have z138:=b129.lt
 have z139:=b130.lt
 have z140:=b131.lt
 have z141:=own_form0 hf133.1
 obtain ⟨-,z142,z143⟩:=RLs.at hf134
 have hbf:=hp128
 refine wr fun K144 hK144=>?_
 refine F124.xv (.bool (decide (((k:Nat):Int)<((ss.length:Nat):Int))))<|fun _ F146=>?_;clear F124
 refine wpList_nil (hK144 _ _ ?_);clear hK144
 refine wp_seq_k fun K147 hK147=>?_
 by_cases hc148:((k:Nat):Int)<((ss.length:Nat):Int)
 ·skip
  refine F146.ct ?_
  refine wp_skip ?_
  refine hK147 _ _ ?_;clear hK147
  refine wp_seq_k fun K149 hK149=>?_
  refine wp_block ?_
  refine wr fun K150 hK150=>?_
  have d151:=(RLs.ext rIs hc hx125)
  obtain ⟨b152,o153,x154,cs155,hA156,hi157,hk158,hc159,hr160⟩:=RLs.get d151 (by omega:k<ss.length)
  obtain ⟨u161,rfl,hd164⟩:=hr160
  obtain ⟨A162,c163,rfl,z165,z166⟩:=RLs.form hd164
  have hsx:=hss x154 (List.mem_of_getElem? hi157)
  simp only [Nat.mul_one] at hc159
  refine F146.xw (.pointer (some ⟨b152,o153+k,none⟩)) (fun F=>rn_index1 Tryd.underlying39 inf22 ((F.get rfl).trans (by rw [hA156])) (F.get rfl) (by omega:(0:Int)≤(k:Nat)) (by omega:((k:Nat):Int)<((ss.length:Nat):Int)))<|Xw (vl A162 x154.length c163) (fun F=>rl F rfl (hc159 0 _ rfl))<|Xa rfl<|fun _ F172=>?_;clear F146
  refine wpList_nil (hK150 _ _ ?_);clear hK150
  refine wr fun K173 hK173=>?_
  refine F172.xm rfl<|Xm rfl<|fun _ F177=>?_;clear F172
  refine F177.xc (diff_at (u:=(vl BA bf.length ba)) (v:=(vl A162 x154.length c163)) bf x154 _ hf134 hd164 hbf.2.2 hsx.2.2) ?_
  rw [(diffE_zero hbf.1 hsx.1).2,(diffE_zero hbf.1 hsx.1).1]
  rintro _ w181 ⟨A178,c179,rfl,hL180,hx182⟩
  refine ⟨_,rfl,?_⟩;intro a183 F184;clear F177;have z185:=hx182.size
  have hl186:RLs RCg 3 (Clip (fun z=>w123.heap.size≤z) w181) w181 (vl A178 ((diffL bf x154).length) c179) (diffL bf x154):=RLs.clip rCg hL180
  obtain ⟨-,z187,z188⟩:=RLs.at hL180
  refine F184.xm rfl<|Xv (vl A178 ((diffL bf x154).length) c179)<|Xv (vi 0)<|Xa rfl<|Xa rfl<|fun _ F198=>?_;clear F184
  refine wpList_nil (hK173 _ _ ?_);clear hK173
  have F199:=F198.k [0,1,4,5,6,7,8,9,34,10,37,38,39,40,12,13,14];clear F198
  refine wr fun K200 hK200=>?_
  have b201:=(b131.ext hx182)
  refine F199.xw (.agg #[(vl A25 n26 c27),(vi 2),(vi (k:Nat))]) (fun F=>rb F rfl b201)<|Xm rfl<|Xm rfl<|Xm rfl<|fun _ F209=>?_;clear F199
  have d210:=(hf132.ext hx182)
  have d211:=(RLs.ext rIt hd164 hx182)
  have hv212:=version_good (sd:=[seed]) hk (n:=k) (by omega) hbf.1 hsx.1 (by have h5:=hbf.2.1;have h6:=hsx.2.1;omega)
  obtain ⟨vr213,hvr214⟩:∃ z,versionV ([seed]) 2 ((k:Nat):Int) k x154 (diffL bf x154)=z:=⟨_,rfl⟩
  rw [hvr214] at hv212
  refine wpl_op (i:=4) rfl (o_call F209 rfl rfl rfl rfl (rn_call (args4 (F209.get rfl) (F209.get rfl) (F209.get rfl) (F209.get rfl)) rfl (by kernel_rfl)) (version_at (S:=fun _=>True) Ap cp ([seed]) 2 ((k:Nat):Int) (k) x154 (diffL bf x154) _ (Fl.any d210) (RLs.sub (S':=fun _=>True) rIt d211 fun _ _=>trivial) (RLs.sub (S':=fun _=>True) rCg hl186 fun _ _=>trivial) hsx.2.2 (by have h6:=hsx.2.1;omega) (diff_sm hbf.2.2 hsx.2.2) (hG.ext (((Ext.refl w).trans hx125).trans hx182))) ?_)
  have hv2120:=hv212.1
  rw [hvr214,hv212.1,show keyS ([seed]) 2 ((k:Nat):Int) k x154 (diffL bf x154)=[seed] from if_pos hv2120,show keyM ([seed]) 2 ((k:Nat):Int) k x154 (diffL bf x154)=2 from if_pos hv2120,show keyU ([seed]) 2 ((k:Nat):Int) k x154 (diffL bf x154)=((k:Nat):Int)+1 from if_pos hv2120]
  rintro _ w216 ⟨c218,o219,e220,p221,A222,n223,c224,rfl,hR225,hK226,hS227,hq228,hx217⟩
  obtain ⟨rfl,hkk⟩:=hq228 rfl;obtain ⟨rfl,rfl,rfl⟩:=Value.slice.inj hkk.symm
  have hvc215:vr213.chs=diffL bf x154:=by rw [hv212.2.1]
  obtain ⟨A229,c230,rfl,z231,z232⟩:=Fl.form hS227.op
  obtain ⟨A233,c234,rfl,z235,z236⟩:=Fl.form hS227.cl
  obtain ⟨A237,c238,rfl,z239,z240⟩:=Fl.form hS227.path
  refine ⟨_,rfl,?_⟩;intro a241 F242;clear F209;have z243:=hx217.size
  have d244:=(RLs.ext rCg hl186 hx217)
  have hl245:RLs RCg 3 (Clip (fun z=>w123.heap.size≤z) w181) w216 (vl A178 ((diffL bf x154).length) c179) vr213.chs:=by rw [hvc215];exact d244
  have hf246:Fl (Clip (fun b=>w181.heap.size≤b) w216) _ _ _ _ _:=Fl.subB hS227.op (fun _ h1 h2=>⟨h2,h1⟩)
  have hf247:Fl (Clip (fun b=>w181.heap.size≤b) w216) _ _ _ _ _:=Fl.subB hS227.cl (fun _ h1 h2=>⟨h2,h1⟩)
  have hf248:Fl (Clip (fun b=>w181.heap.size≤b) w216) _ _ _ _ _:=Fl.subB hS227.path (fun _ h1 h2=>⟨h2,h1⟩)
  refine F242.xm rfl<|Xv (ag ((vi vr213.no)::dg vr213.state [(vl A178 ((diffL bf x154).length) c179),(vi vr213.sg.index),(vl A229 vr213.sg.op.length c230),(vl A233 vr213.sg.cl.length c234),(vl A237 vr213.sg.path.length c238)]))<|Xv (.agg #[(vl A25 n26 c27),(vi 2),(vi (k+1:Nat))])<|Xv (vi 0)<|fun _ F256=>?_;clear F242
  refine F256.xz vz 30 fun g257 w258 _ F264 z261 z262 b259 hx260=>?_;clear F256
  refine F264.xz [v0,(vi 0),(vi 0)] 56 fun g265 w266 _ F272 z269 z270 b267 hx268=>?_;clear F264
  have b273:=(b259.ext hx268)
  refine F272.xs rfl b273 (fun w274 b275 hg276=>?_) (hk:=len_dig1 hR225.st);have z277:=hg276.size
  have b281:=(b267.gn hg276)
  refine F272.xs rfl b281 (fun w278 b279 hg280=>?_);have z282:=hg280.size
  refine F272.xa rfl<|fun _ F284=>?_;clear F272
  refine wpList_nil (hK200 _ _ ?_);clear hK200
  have F285:=F284.k [0,1,4,5,6,7,8,9,34,10,37,38,39,40,12,13,14,15,16,17];clear F284
  refine wp_seq_k fun K286 hK286=>?_
  refine wr fun K287 hK287=>?_
  refine F285.xm rfl<|Xv (.bool false)<|Xm rfl<|Xg (vi 0)<|Xg (.bool false)<|Xv (.bool false)<|Xm rfl<|fun _ F301=>?_;clear F285
  have b302:=((((((b129.ext hx182).ext hx217).ext hx260).ext hx268).gn hg276).gn hg280)
  refine F301.xgw (.agg (byteVals (pubF ([seed]) 2 0)).toArray) (fun F=>rb F rfl b302 (hk:=byteVals_len (pubF_len _ _ _)))<|fun _ F304=>?_;clear F301
  have b305:=(b275.gn hg280)
  refine F304.xgw (ag ((vi vr213.no)::dg vr213.state [(vl A178 ((diffL bf x154).length) c179),(vi vr213.sg.index),(vl A229 vr213.sg.op.length c230),(vl A233 vr213.sg.cl.length c234),(vl A237 vr213.sg.path.length c238)])) (fun F=>rb F rfl b305 (hk:=len_dig1 hR225.st))<|fun _ F307=>?_;clear F304
  have d308:=(RLs.pres rCg hl245 (((((Pres.refl w216).ext hx260).ext hx268).gc hg276).gc hg280))
  have d309:=(hf246.pres (((((Pres.refl w216).ext hx260).ext hx268).gc hg276).gc hg280))
  have d310:=(hf247.pres (((((Pres.refl w216).ext hx260).ext hx268).gc hg276).gc hg280))
  have d311:=(hf248.pres (((((Pres.refl w216).ext hx260).ext hx268).gc hg276).gc hg280))
  refine wpl_op (i:=9) rfl (o_call F307 rfl (wanted_guard rfl rfl rfl F307 rfl rfl rfl) rfl rfl (rn_call (args3 (F307.get rfl) rfl (F307.get rfl)) rfl (by kernel_rfl)) (verifyv_at (pubF ([seed]) 2 0) 2 vr213 _ (⟨hR225.st,RLs.sub (S':=fun _=>True) rCg d308 fun _ _=>trivial,⟨Fl.any d309,Fl.any d310,Fl.any d311,hS227.o32,hS227.c32,hS227.p32⟩⟩:RVp (fun _=>True) _ _ _ _ _ vr213) (pubF_len _ _ _) (by rw [hv212.2.1];exact diff_sm hbf.2.2 hsx.2.2) (hG.ext ((((((((Ext.refl w).trans hx125).trans hx182).trans hx217).trans hx260).trans hx268).gn hg276).gn hg280))) ?_)
  rintro _ w312 ⟨rfl,hx313⟩
  refine ⟨_,rfl,?_⟩;intro a314 F315;clear F307;have z316:=hx313.size
  refine F315.xg (.bool (decide (((verifyE (pubF ([seed]) 2 0) 2 vr213):Int)≠(0:Int))))<|Xv (.bool (decide (((verifyE (pubF ([seed]) 2 0) 2 vr213):Int)≠(0:Int))))<|fun _ F320=>?_;clear F315
  refine wpList_nil (hK287 _ _ ?_);clear hK287
  have F321:=F320.k [0,1,4,5,6,7,8,9,34,10,37,38,39,40,12,13,14,15,16,17,69];clear F320
  refine wp_cond_false (c_false F321 rfl ((decide_eq_false (fun q=>q hv212.2.2)):decide (((verifyE (pubF ([seed]) 2 0) 2 vr213):Int)≠(0:Int))=false)) ?_
  refine wp_skip ?_
  refine hK286 _ _ ?_;clear hK286
  have hx324:∃ W,w312.drew=W∧Ext w312 W:=⟨_,rfl,(Ext.refl _).drew⟩
  obtain ⟨w323,e325,hx324⟩:=hx324
  have z326:=hx324.size
  refine any_start (fun W=>Ext w323 W∧Blk W g257 30 ((vi vr213.no)::dg vr213.state [(vl A178 ((diffL bf x154).length) c179),(vi vr213.sg.index),(vl A229 vr213.sg.op.length c230),(vl A233 vr213.sg.cl.length c234),(vl A237 vr213.sg.path.length c238)])∧Blk W g265 56 [(vl A25 n26 c27),(vi 2),(vi (k+1:Nat))]∧Blk W g43 56 [(vl A25 n26 c27),(vi 2),(vi (k:Nat))]) (fun i=>i==3||i==7) 9 (.replicate 9 false) rfl rfl rfl ?_
  rw [e325];clear e325
  refine F321.ym 0 rfl<|fun _ F328=>?_;clear F321
  have b330:=((b305.ext hx313).ext hx324)
  have b331:=((b279.ext hx313).ext hx324)
  have b332:=(((((((b201.ext hx217).ext hx260).ext hx268).gn hg276).gn hg280).ext hx313).ext hx324)
  have hS329:Ext w323 w323∧Blk w323 g257 30 ((vi vr213.no)::dg vr213.state [(vl A178 ((diffL bf x154).length) c179),(vi vr213.sg.index),(vl A229 vr213.sg.op.length c230),(vl A233 vr213.sg.cl.length c234),(vl A237 vr213.sg.path.length c238)])∧Blk w323 g265 56 [(vl A25 n26 c27),(vi 2),(vi (k+1:Nat))]∧Blk w323 g43 56 [(vl A25 n26 c27),(vi 2),(vi (k:Nat))]:=⟨(Ext.refl w323),b330,b331,b332⟩
  refine anyt_val (i:=1) (v:=(ag ((vi vr213.no)::dg vr213.state [(vl A178 ((diffL bf x154).length) c179),(vi vr213.sg.index),(vl A229 vr213.sg.op.length c230),(vl A233 vr213.sg.cl.length c234),(vl A237 vr213.sg.path.length c238)]))) [2,3,6,7] F328 (fun j hj=>by simp at hj;first | (subst hj;decide) | (rcases hj with rfl | rfl <;> decide)) (by decide +kernel) (by decide +kernel) rfl rfl rfl rfl (fun _ _ _ _ h=>h) rfl hS329 (fun W hW=>(rb F328 rfl hW.2.1 (hk:=len_dig1 hR225.st))) ?_
  intro a333 F334;clear F328
  refine F334.ym 5 rfl<|fun _ F336=>?_;clear F334
  refine any_two (i:=2) (k:=4) (by decide +kernel) rfl rfl ?_ ?_
  ·skip
   refine F336.on (fun g=>(vl (some ⟨g,0,none⟩) 1 1)) ((vi vr213.no)::dg vr213.state [(vl A178 ((diffL bf x154).length) c179),(vi vr213.sg.index),(vl A229 vr213.sg.op.length c230),(vl A233 vr213.sg.cl.length c234),(vl A237 vr213.sg.path.length c238)]) 30 rfl (fun F=>rn_buildSlice (parts1 (F.get rfl)) (build_wholeE (vs:=[(ag ((vi vr213.no)::dg vr213.state [(vl A178 ((diffL bf x154).length) c179),(vi vr213.sg.index),(vl A229 vr213.sg.op.length c230),(vl A233 vr213.sg.cl.length c234),(vl A237 vr213.sg.path.length c238)]))]) El36 rfl rfl (fun z0 hz0=>by rw [List.mem_singleton.1 hz0];exact (show List.length ((vi vr213.no)::dg vr213.state [(vl A178 ((diffL bf x154).length) c179),(vi vr213.sg.index),(vl A229 vr213.sg.op.length c230),(vl A233 vr213.sg.cl.length c234),(vl A237 vr213.sg.path.length c238)])=38 from (by simp [byteVals_len hR225.st]))) (by decide) (by decide) (by simp [Value.cells]))) fun g337 w338 _ F344 z341 z342 b339 hx340=>?_;clear F336
   have b345:=(b330.ext hx340)
   have b346:=(b331.ext hx340)
   have b347:=(b332.ext hx340)
   refine ⟨fun _ _=>⟨((Ext.refl w323).trans hx340),b345,b346,b347⟩,?_⟩
   refine any_two (i:=3) (k:=4) (by decide +kernel) rfl rfl ?_ ?_
   ·skip
    have hO348:=OwnL.near rVr hf133 ((((((((((Pres.refl w123).ext hx182).ext hx217).ext hx260).ext hx268).grownN hg276 (fun h=>by have h1:=h.1;have h2:=h.2;omega)).grownN hg280 (fun h=>by have h1:=h.1;have h2:=h.2;omega)).ext hx313).ext hx324).ext hx340)
    have d358:=(RLs.pres rCg hl245 ((((((((Pres.refl w216).ext hx260).ext hx268).gc hg276).gc hg280).ext hx313).ext hx324).ext hx340))
    have d359:=(hf246.pres ((((((((Pres.refl w216).ext hx260).ext hx268).gc hg276).gc hg280).ext hx313).ext hx324).ext hx340))
    have d360:=(hf247.pres ((((((((Pres.refl w216).ext hx260).ext hx268).gc hg276).gc hg280).ext hx313).ext hx324).ext hx340))
    have d361:=(hf248.pres ((((((((Pres.refl w216).ext hx260).ext hx268).gc hg276).gc hg280).ext hx313).ext hx324).ext hx340))
    refine o_appB (zs:=xp++((vi vr213.no)::dg vr213.state [(vl A178 ((diffL bf x154).length) c179),(vi vr213.sg.index),(vl A229 vr213.sg.op.length c230),(vl A233 vr213.sg.cl.length c234),(vl A237 vr213.sg.path.length c238)])) El36 F344 rfl rfl rfl rfl rfl (F344.get rfl) (F344.get rfl) hO348.1 (Fl.cel (Fl.blk (S:=fun _=>True) (k:=38) (n:=1) (c:=1) (cs:=((vi vr213.no)::dg vr213.state [(vl A178 ((diffL bf x154).length) c179),(vi vr213.sg.index),(vl A229 vr213.sg.op.length c230),(vl A233 vr213.sg.cl.length c234),(vl A237 vr213.sg.path.length c238)])) b339 (show List.length ((vi vr213.no)::dg vr213.state [(vl A178 ((diffL bf x154).length) c179),(vi vr213.sg.index),(vl A229 vr213.sg.op.length c230),(vl A233 vr213.sg.cl.length c234),(vl A237 vr213.sg.path.length c238)])=38 from (by simp [byteVals_len hR225.st])) (one_cons rfl (one_app (byteVals_one _) (one_cons rfl (one_cons rfl (one_cons rfl (one_cons rfl (one_cons rfl one_nil))))))) ⟨Nat.le_refl _,by omega⟩ trivial)).2.2 (by omega) (by omega) (by omega) rfl ?_
    intro A349 c350 w351 a362 F363 r352 hg353 z354 z355 hnb356;clear F344;have z364:=hg353.size
    have hO357:=OwnL.snoc (x:=vr213) rVr hO348 r352 hg353 hnb356 (show List.length ((vi vr213.no)::dg vr213.state [(vl A178 ((diffL bf x154).length) c179),(vi vr213.sg.index),(vl A229 vr213.sg.op.length c230),(vl A233 vr213.sg.cl.length c234),(vl A237 vr213.sg.path.length c238)])=38 from (by simp [byteVals_len hR225.st])) (one_cons rfl (one_app (byteVals_one _) (one_cons rfl (one_cons rfl (one_cons rfl (one_cons rfl (one_cons rfl one_nil))))))) ⟨_,_,_,_,rfl,(⟨hR225.st,RLs.sub rCg d358 (fun b hb=>by first | omega | (simp only [Clip] at hb;omega)),⟨Fl.sub d359 (fun b hb=>by first | omega | (simp only [Clip] at hb;omega)),Fl.sub d360 (fun b hb=>by first | omega | (simp only [Clip] at hb;omega)),Fl.sub d361 (fun b hb=>by first | omega | (simp only [Clip] at hb;omega)),hS227.o32,hS227.c32,hS227.p32⟩⟩:RVp (fun b=>w123.heap.size≤b) _ _ _ _ _ vr213)⟩ (fun b _ hb=>⟨by omega,fun e1=>by have h5:=own_blk_lt hf133.1 b e1;omega⟩)
    refine ⟨fun h=>absurd h (by decide),?_⟩
    refine F363.yv 6 (vl A349 (k+1) c350) rfl<|fun _ F366=>?_;clear F363
    have b367:=(grown_blk hO348.1 hg353 b346 (by decide))
    refine ao 4 rfl (F366.ow (.agg #[(vl A25 n26 c27),(vi 2),(vi (k+1:Nat))]) rfl (fun F=>rb F rfl b367) fun _ F369=>ap ?_);clear F366
    have b373:=(grown_blk hO348.1 hg353 b347 (by decide))
    refine ao 7 rfl (F369.os rfl b373 (fun w370 b371 hg372=>an ?_));have z374:=hg372.size
    refine F369.yv 8 (vl A162 x154.length c163) rfl<|fun _ F376=>?_;clear F369
    refine nn (hK149 _ _ ?_);clear hK149
    have F377:=F376.k [0,1,4,5,6,7,8,9,34,10,37,38,39,40,12,13,14,15,16,17,69];clear F376
    refine wp_region_lit ?_
    refine F377.xv (vi (k+1:Nat))<|Xm rfl<|fun _ F381=>?_;clear F377
    refine wpList_nil ?_
    have d382:=(hf132.pres ((Pres.row ((((((((((Pres.refl w123).ext hx182).ext hx217).ext hx260).ext hx268).gc hg276).gc hg280).ext hx313).ext hx324).ext hx340) hg353 hO348.1 (fun b hb h=>by simp only [Clip] at h;omega)).gc hg372))
    have hO383:=OwnL.near rVr hO357 ((Pres.refl w351).grownN hg372 (fun h=>by have h1:=h.1;have h2:=h.2;omega))
    have d384:=(RLs.pres rIt hd164 ((Pres.row ((((((((((Pres.refl w123).ext hx182).ext hx217).ext hx260).ext hx268).gc hg276).gc hg280).ext hx313).ext hx324).ext hx340) hg353 hO348.1 (fun b hb h=>by simp only [Clip] at h;omega)).gc hg372))
    have b385:=((grown_blk hO348.1 hg353 (((b302.ext hx313).ext hx324).ext hx340) (by decide)).gn hg372)
    have b386:=((grown_blk hO348.1 hg353 (((((((((b130.ext hx182).ext hx217).ext hx260).ext hx268).gn hg276).gn hg280).ext hx313).ext hx324).ext hx340) (by decide)).gn hg372)
    refine ⟨⟨(k+1),A349,c350,(xp++((vi vr213.no)::dg vr213.state [(vl A178 ((diffL bf x154).length) c179),(vi vr213.sg.index),(vl A229 vr213.sg.op.length c230),(vl A233 vr213.sg.cl.length c234),(vl A237 vr213.sg.path.length c238)])),(vs++[vr213]),x154,A162,c163,F381.j,(by omega),(chain_step hi157 hvr214 hp127),hsx,((ext_row (((((((((((Ext.refl w).trans hx125).trans hx182).trans hx217).trans hx260).trans hx268).gn hg276).gn hg280).trans hx313).trans hx324).trans hx340) hg353 hO348.1 (by omega)).gn hg372),b385,b386,b371,d382,hO383,(RLs.norm d384),(by omega)⟩,?_⟩
    rw [F381.get (t:=39) rfl,hL136.get (t:=39) rfl];simp [intOf] <;> omega
   refine F344.ow (.agg #[(vl A25 n26 c27),(vi 2),(vi (k+1:Nat))]) rfl (fun F=>rb F rfl b346) fun _ F388=>ap ?_;clear F344
   refine ao 3 rfl ?_
   have hO389:=OwnL.near rVr hf133 ((((((((((Pres.refl w123).ext hx182).ext hx217).ext hx260).ext hx268).grownN hg276 (fun h=>by have h1:=h.1;have h2:=h.2;omega)).grownN hg280 (fun h=>by have h1:=h.1;have h2:=h.2;omega)).ext hx313).ext hx324).ext hx340)
   have d399:=(RLs.pres rCg hl245 ((((((((Pres.refl w216).ext hx260).ext hx268).gc hg276).gc hg280).ext hx313).ext hx324).ext hx340))
   have d400:=(hf246.pres ((((((((Pres.refl w216).ext hx260).ext hx268).gc hg276).gc hg280).ext hx313).ext hx324).ext hx340))
   have d401:=(hf247.pres ((((((((Pres.refl w216).ext hx260).ext hx268).gc hg276).gc hg280).ext hx313).ext hx324).ext hx340))
   have d402:=(hf248.pres ((((((((Pres.refl w216).ext hx260).ext hx268).gc hg276).gc hg280).ext hx313).ext hx324).ext hx340))
   refine o_appB (zs:=xp++((vi vr213.no)::dg vr213.state [(vl A178 ((diffL bf x154).length) c179),(vi vr213.sg.index),(vl A229 vr213.sg.op.length c230),(vl A233 vr213.sg.cl.length c234),(vl A237 vr213.sg.path.length c238)])) El36 F388 rfl rfl rfl rfl rfl (F388.get rfl) (F388.get rfl) hO389.1 (Fl.cel (Fl.blk (S:=fun _=>True) (k:=38) (n:=1) (c:=1) (cs:=((vi vr213.no)::dg vr213.state [(vl A178 ((diffL bf x154).length) c179),(vi vr213.sg.index),(vl A229 vr213.sg.op.length c230),(vl A233 vr213.sg.cl.length c234),(vl A237 vr213.sg.path.length c238)])) b339 (show List.length ((vi vr213.no)::dg vr213.state [(vl A178 ((diffL bf x154).length) c179),(vi vr213.sg.index),(vl A229 vr213.sg.op.length c230),(vl A233 vr213.sg.cl.length c234),(vl A237 vr213.sg.path.length c238)])=38 from (by simp [byteVals_len hR225.st])) (one_cons rfl (one_app (byteVals_one _) (one_cons rfl (one_cons rfl (one_cons rfl (one_cons rfl (one_cons rfl one_nil))))))) ⟨Nat.le_refl _,by omega⟩ trivial)).2.2 (by omega) (by omega) (by omega) rfl ?_
   intro A390 c391 w392 a403 F404 r393 hg394 z395 z396 hnb397;clear F388;have z405:=hg394.size
   have hO398:=OwnL.snoc (x:=vr213) rVr hO389 r393 hg394 hnb397 (show List.length ((vi vr213.no)::dg vr213.state [(vl A178 ((diffL bf x154).length) c179),(vi vr213.sg.index),(vl A229 vr213.sg.op.length c230),(vl A233 vr213.sg.cl.length c234),(vl A237 vr213.sg.path.length c238)])=38 from (by simp [byteVals_len hR225.st])) (one_cons rfl (one_app (byteVals_one _) (one_cons rfl (one_cons rfl (one_cons rfl (one_cons rfl (one_cons rfl one_nil))))))) ⟨_,_,_,_,rfl,(⟨hR225.st,RLs.sub rCg d399 (fun b hb=>by first | omega | (simp only [Clip] at hb;omega)),⟨Fl.sub d400 (fun b hb=>by first | omega | (simp only [Clip] at hb;omega)),Fl.sub d401 (fun b hb=>by first | omega | (simp only [Clip] at hb;omega)),Fl.sub d402 (fun b hb=>by first | omega | (simp only [Clip] at hb;omega)),hS227.o32,hS227.c32,hS227.p32⟩⟩:RVp (fun b=>w123.heap.size≤b) _ _ _ _ _ vr213)⟩ (fun b _ hb=>⟨by omega,fun e1=>by have h5:=own_blk_lt hf133.1 b e1;omega⟩)
   refine ⟨fun h=>absurd h (by decide),?_⟩
   refine F404.yv 6 (vl A390 (k+1) c391) rfl<|fun _ F407=>?_;clear F404
   have b411:=(grown_blk hO389.1 hg394 b347 (by decide))
   refine ao 7 rfl (F407.os rfl b411 (fun w408 b409 hg410=>an ?_));have z412:=hg410.size
   refine F407.yv 8 (vl A162 x154.length c163) rfl<|fun _ F414=>?_;clear F407
   refine nn (hK149 _ _ ?_);clear hK149
   have F415:=F414.k [0,1,4,5,6,7,8,9,34,10,37,38,39,40,12,13,14,15,16,17,69];clear F414
   refine wp_region_lit ?_
   refine F415.xv (vi (k+1:Nat))<|Xm rfl<|fun _ F419=>?_;clear F415
   refine wpList_nil ?_
   have d420:=(hf132.pres ((Pres.row ((((((((((Pres.refl w123).ext hx182).ext hx217).ext hx260).ext hx268).gc hg276).gc hg280).ext hx313).ext hx324).ext hx340) hg394 hO389.1 (fun b hb h=>by simp only [Clip] at h;omega)).gc hg410))
   have hO421:=OwnL.near rVr hO398 ((Pres.refl w392).grownN hg410 (fun h=>by have h1:=h.1;have h2:=h.2;omega))
   have d422:=(RLs.pres rIt hd164 ((Pres.row ((((((((((Pres.refl w123).ext hx182).ext hx217).ext hx260).ext hx268).gc hg276).gc hg280).ext hx313).ext hx324).ext hx340) hg394 hO389.1 (fun b hb h=>by simp only [Clip] at h;omega)).gc hg410))
   have b423:=((grown_blk hO389.1 hg394 (((b302.ext hx313).ext hx324).ext hx340) (by decide)).gn hg410)
   have b424:=((grown_blk hO389.1 hg394 (((((((((b130.ext hx182).ext hx217).ext hx260).ext hx268).gn hg276).gn hg280).ext hx313).ext hx324).ext hx340) (by decide)).gn hg410)
   refine ⟨⟨(k+1),A390,c391,(xp++((vi vr213.no)::dg vr213.state [(vl A178 ((diffL bf x154).length) c179),(vi vr213.sg.index),(vl A229 vr213.sg.op.length c230),(vl A233 vr213.sg.cl.length c234),(vl A237 vr213.sg.path.length c238)])),(vs++[vr213]),x154,A162,c163,F419.j,(by omega),(chain_step hi157 hvr214 hp127),hsx,((ext_row (((((((((((Ext.refl w).trans hx125).trans hx182).trans hx217).trans hx260).trans hx268).gn hg276).gn hg280).trans hx313).trans hx324).trans hx340) hg394 hO389.1 (by omega)).gn hg410),b423,b424,b409,d420,hO421,(RLs.norm d422),(by omega)⟩,?_⟩
   rw [F419.get (t:=39) rfl,hL136.get (t:=39) rfl];simp [intOf] <;> omega
  refine F336.ow (.agg #[(vl A25 n26 c27),(vi 2),(vi (k+1:Nat))]) rfl (fun F=>rb F rfl b331) fun _ F426=>ap ?_;clear F336
  refine ao 2 rfl (F426.on (fun g=>(vl (some ⟨g,0,none⟩) 1 1)) ((vi vr213.no)::dg vr213.state [(vl A178 ((diffL bf x154).length) c179),(vi vr213.sg.index),(vl A229 vr213.sg.op.length c230),(vl A233 vr213.sg.cl.length c234),(vl A237 vr213.sg.path.length c238)]) 30 rfl (fun F=>rn_buildSlice (parts1 (F.get rfl)) (build_wholeE (vs:=[(ag ((vi vr213.no)::dg vr213.state [(vl A178 ((diffL bf x154).length) c179),(vi vr213.sg.index),(vl A229 vr213.sg.op.length c230),(vl A233 vr213.sg.cl.length c234),(vl A237 vr213.sg.path.length c238)]))]) El36 rfl rfl (fun z0 hz0=>by rw [List.mem_singleton.1 hz0];exact (show List.length ((vi vr213.no)::dg vr213.state [(vl A178 ((diffL bf x154).length) c179),(vi vr213.sg.index),(vl A229 vr213.sg.op.length c230),(vl A233 vr213.sg.cl.length c234),(vl A237 vr213.sg.path.length c238)])=38 from (by simp [byteVals_len hR225.st]))) (by decide) (by decide) (by simp [Value.cells]))) fun g427 w428 _ F434 z431 z432 b429 hx430=>?_);clear F426
  have b435:=(b330.ext hx430)
  have b436:=(b331.ext hx430)
  have b437:=(b332.ext hx430)
  refine ⟨fun _ _=>⟨((Ext.refl w323).trans hx430),b435,b436,b437⟩,?_⟩
  refine ao 3 rfl ?_
  have hO438:=OwnL.near rVr hf133 ((((((((((Pres.refl w123).ext hx182).ext hx217).ext hx260).ext hx268).grownN hg276 (fun h=>by have h1:=h.1;have h2:=h.2;omega)).grownN hg280 (fun h=>by have h1:=h.1;have h2:=h.2;omega)).ext hx313).ext hx324).ext hx430)
  have d448:=(RLs.pres rCg hl245 ((((((((Pres.refl w216).ext hx260).ext hx268).gc hg276).gc hg280).ext hx313).ext hx324).ext hx430))
  have d449:=(hf246.pres ((((((((Pres.refl w216).ext hx260).ext hx268).gc hg276).gc hg280).ext hx313).ext hx324).ext hx430))
  have d450:=(hf247.pres ((((((((Pres.refl w216).ext hx260).ext hx268).gc hg276).gc hg280).ext hx313).ext hx324).ext hx430))
  have d451:=(hf248.pres ((((((((Pres.refl w216).ext hx260).ext hx268).gc hg276).gc hg280).ext hx313).ext hx324).ext hx430))
  refine o_appB (zs:=xp++((vi vr213.no)::dg vr213.state [(vl A178 ((diffL bf x154).length) c179),(vi vr213.sg.index),(vl A229 vr213.sg.op.length c230),(vl A233 vr213.sg.cl.length c234),(vl A237 vr213.sg.path.length c238)])) El36 F434 rfl rfl rfl rfl rfl (F434.get rfl) (F434.get rfl) hO438.1 (Fl.cel (Fl.blk (S:=fun _=>True) (k:=38) (n:=1) (c:=1) (cs:=((vi vr213.no)::dg vr213.state [(vl A178 ((diffL bf x154).length) c179),(vi vr213.sg.index),(vl A229 vr213.sg.op.length c230),(vl A233 vr213.sg.cl.length c234),(vl A237 vr213.sg.path.length c238)])) b429 (show List.length ((vi vr213.no)::dg vr213.state [(vl A178 ((diffL bf x154).length) c179),(vi vr213.sg.index),(vl A229 vr213.sg.op.length c230),(vl A233 vr213.sg.cl.length c234),(vl A237 vr213.sg.path.length c238)])=38 from (by simp [byteVals_len hR225.st])) (one_cons rfl (one_app (byteVals_one _) (one_cons rfl (one_cons rfl (one_cons rfl (one_cons rfl (one_cons rfl one_nil))))))) ⟨Nat.le_refl _,by omega⟩ trivial)).2.2 (by omega) (by omega) (by omega) rfl ?_
  intro A439 c440 w441 a452 F453 r442 hg443 z444 z445 hnb446;clear F434;have z454:=hg443.size
  have hO447:=OwnL.snoc (x:=vr213) rVr hO438 r442 hg443 hnb446 (show List.length ((vi vr213.no)::dg vr213.state [(vl A178 ((diffL bf x154).length) c179),(vi vr213.sg.index),(vl A229 vr213.sg.op.length c230),(vl A233 vr213.sg.cl.length c234),(vl A237 vr213.sg.path.length c238)])=38 from (by simp [byteVals_len hR225.st])) (one_cons rfl (one_app (byteVals_one _) (one_cons rfl (one_cons rfl (one_cons rfl (one_cons rfl (one_cons rfl one_nil))))))) ⟨_,_,_,_,rfl,(⟨hR225.st,RLs.sub rCg d448 (fun b hb=>by first | omega | (simp only [Clip] at hb;omega)),⟨Fl.sub d449 (fun b hb=>by first | omega | (simp only [Clip] at hb;omega)),Fl.sub d450 (fun b hb=>by first | omega | (simp only [Clip] at hb;omega)),Fl.sub d451 (fun b hb=>by first | omega | (simp only [Clip] at hb;omega)),hS227.o32,hS227.c32,hS227.p32⟩⟩:RVp (fun b=>w123.heap.size≤b) _ _ _ _ _ vr213)⟩ (fun b _ hb=>⟨by omega,fun e1=>by have h5:=own_blk_lt hf133.1 b e1;omega⟩)
  refine ⟨fun h=>absurd h (by decide),?_⟩
  refine F453.yv 6 (vl A439 (k+1) c440) rfl<|fun _ F456=>?_;clear F453
  have b460:=(grown_blk hO438.1 hg443 b437 (by decide))
  refine ao 7 rfl (F456.os rfl b460 (fun w457 b458 hg459=>an ?_));have z461:=hg459.size
  refine F456.yv 8 (vl A162 x154.length c163) rfl<|fun _ F463=>?_;clear F456
  refine nn (hK149 _ _ ?_);clear hK149
  have F464:=F463.k [0,1,4,5,6,7,8,9,34,10,37,38,39,40,12,13,14,15,16,17,69];clear F463
  refine wp_region_lit ?_
  refine F464.xv (vi (k+1:Nat))<|Xm rfl<|fun _ F468=>?_;clear F464
  refine wpList_nil ?_
  have d469:=(hf132.pres ((Pres.row ((((((((((Pres.refl w123).ext hx182).ext hx217).ext hx260).ext hx268).gc hg276).gc hg280).ext hx313).ext hx324).ext hx430) hg443 hO438.1 (fun b hb h=>by simp only [Clip] at h;omega)).gc hg459))
  have hO470:=OwnL.near rVr hO447 ((Pres.refl w441).grownN hg459 (fun h=>by have h1:=h.1;have h2:=h.2;omega))
  have d471:=(RLs.pres rIt hd164 ((Pres.row ((((((((((Pres.refl w123).ext hx182).ext hx217).ext hx260).ext hx268).gc hg276).gc hg280).ext hx313).ext hx324).ext hx430) hg443 hO438.1 (fun b hb h=>by simp only [Clip] at h;omega)).gc hg459))
  have b472:=((grown_blk hO438.1 hg443 (((b302.ext hx313).ext hx324).ext hx430) (by decide)).gn hg459)
  have b473:=((grown_blk hO438.1 hg443 (((((((((b130.ext hx182).ext hx217).ext hx260).ext hx268).gn hg276).gn hg280).ext hx313).ext hx324).ext hx430) (by decide)).gn hg459)
  refine ⟨⟨(k+1),A439,c440,(xp++((vi vr213.no)::dg vr213.state [(vl A178 ((diffL bf x154).length) c179),(vi vr213.sg.index),(vl A229 vr213.sg.op.length c230),(vl A233 vr213.sg.cl.length c234),(vl A237 vr213.sg.path.length c238)])),(vs++[vr213]),x154,A162,c163,F468.j,(by omega),(chain_step hi157 hvr214 hp127),hsx,((ext_row (((((((((((Ext.refl w).trans hx125).trans hx182).trans hx217).trans hx260).trans hx268).gn hg276).gn hg280).trans hx313).trans hx324).trans hx430) hg443 hO438.1 (by omega)).gn hg459),b472,b473,b458,d469,hO470,(RLs.norm d471),(by omega)⟩,?_⟩
  rw [F468.get (t:=39) rfl,hL136.get (t:=39) rfl];simp [intOf] <;> omega
 refine F146.cf ?_
 refine wp_exit ?_
 refine exit_then ?_
 refine exit_then ?_
 refine exit_here ?_
 refine hK108 _ _ ?_;clear hK108
 refine wr fun K474 hK474=>?_
 refine F146.xw (.agg (byteVals (pubF ([seed]) 2 0)).toArray) (fun F=>rb F rfl b129 (hk:=byteVals_len (pubF_len _ _ _)))<|Xm rfl<|fun _ F478=>?_;clear F146
 refine F478.xs rfl b129 (fun w479 b480 hg481=>?_) (hk:=byteVals_len (pubF_len _ _ _)) (hl:=byteVals_len (pubF_len _ _ _));have z482:=hg481.size
 refine F478.xa rfl<|Xv (.bool true)<|fun _ F486=>?_;clear F478
 refine wpList_nil (hK474 _ _ ?_);clear hK474
 refine wp_ret ?_
 refine retC2 F486 rfl rfl rfl rfl b480 Tryd.underlying24 rfl (sk inf24 (byteVals_len (pubF_len _ _ _))) ?_
 have he:=chain_end (by omega) hp127
 subst he
 have hO487:=OwnL.near rVr hf133 ((Pres.refl w123).grownN hg481 (fun h=>by have h1:=h.1;have h2:=h.2;omega))
 obtain rfl:=hO487.2.1
 exact ⟨_,_,_,rfl,RLs.sub rVr (OwnL.rls rVr hO487) (fun b hb=>by omega),(((Ext.refl w).trans hx125).gn hg481)⟩

theorem chain_at {v:Value} (seed:UInt8) (ss:List (List It)) (w:World) (h:RLs RIs 1 S w v ss) (hss:∀ s∈ss,checkE s=0∧s.length≤12∧∀ x∈s,x.data.length≤4294967296) (hl2:ss.length≤2) (hG:Glob w) :
  Calls Tryd.prog 12 #[.int .u8 (seed.toNat:Nat),v] w (fun e w'=>∃ A n c,e=.returned (.tuple #[.agg (byteVals (pubF [seed] 2 0)).toArray,.slice A n c,.bool true])∧RLs RVr 38 (fun b=>w.heap.size≤b) w' (vl A n c) (chainL [seed] 0 [] ss)∧Ext w w'):=by
 obtain ⟨A,c,rfl,_⟩:=h.form
 exact chain_any seed A c ss w h hss hl2 hG

end Go.Proofs.YtihgmaoghbnnaaaDoor

namespace Go.Proofs.YtihgmaoghbnnaaaDoor
open Go.RowKit

variable {S S':Nat→Prop}

section
variable {S:Nat→Prop}
theorem join_ok (pub:List UInt8) (w:World) (hp:pub.length=32) :
  Calls Tryd.prog 13 #[.agg (byteVals pub).toArray,.int .i64 2] w (fun e w'=>e=.returned (.tuple #[ag (fcs pub 2 0 v0 v0),.int .i64 0])∧Ext w w'):=join_any pub 2 w hp
theorem join_no (pub:List UInt8) (w:World) (hp:pub.length=32) :
  Calls Tryd.prog 13 #[.agg (byteVals pub).toArray,.int .i64 0] w (fun e w'=>e=.returned (.tuple #[ag (fcs zero32 0 0 v0 v0),.int .i64 40])∧Ext w w'):=join_any pub 0 w hp
theorem recv_at {c e c1 o1 e1 p1:Value} (S:Nat→Prop) (pub:List UInt8) (n:Int) (L:List It) (E:List Vr) (v:Vr) (w:World) (p2:List UInt8) (m2 n2:Int) (L2:List It) (E2:List Vr) (z:Int) (hq:recE (fo pub n L E) v=z∧recF (fo pub n L E) v=⟨p2,m2,n2,L2,E2⟩)
  (hp:pub.length=32) (hL:RLs RIt 2 S w c L) (hE:RLs RVr 38 S w e E) (hv:RVp S w c1 o1 e1 p1 v) (hdi:∀ x∈L,x.data.length≤4294967296) (hde:∀ v∈E,∀ x∈v.chs,x.data.length≤4294967296) (hdv:∀ x∈v.chs,x.data.length≤4294967296) (hG:Glob w) :
  Calls Tryd.prog 14 #[ag (fcs pub 2 n c e),ag (vcs v.no v.state c1 v.sg.index o1 e1 p1)] w (fun en w'=>∃ c' e',en=.returned (.tuple #[ag (fcs p2 m2 n2 c' e'),.int .i64 z])∧RLs RIt 2 (Clip (fun b=>S b∨w.heap.size≤b) w') w' c' L2∧RLs RVr 38 (Clip (fun b=>S b∨w.heap.size≤b) w') w' e' E2∧p2.length=32∧Ext w w'):=by
 have h:=receive_at (S:=S) (c:=c) (e:=e) (fo pub n L E) v w ⟨hp,hL,hE⟩ hv hdi hde hdv hG
 rw [hq.1,hq.2] at h
 refine h.mono ?_
 rintro _ w' ⟨c',e',rfl,hR,hx⟩
 exact ⟨c',e',rfl,RLs.subB rIt hR.items (fun b hb h=>⟨h,hb⟩),RLs.subB rVr hR.early (fun b hb h=>⟨h,hb⟩),hR.pub,hx⟩
theorem wants_fo {S1 S2:Nat→Prop} {c e:Value} (pub:List UInt8) (n:Int) (L:List It) (E:List Vr) (w:World) (z:Int) (hz:n+1=z) (hp:pub.length=32) (hL:RLs RIt 2 S1 w c L) (hE:RLs RVr 38 S2 w e E) (h0:0≤n∧n≤4294967296) :
  Calls Tryd.prog 17 #[ag (fcs pub 2 n c e)] w (fun en w'=>en=.returned (vi z)∧Ext w w'):=by
 subst hz
 exact wants_at (S:=fun _=>True) (c:=c) (e:=e) (fo pub n L E) w ⟨hp,hL.sub rIt fun _ _=>trivial,hE.sub rVr fun _ _=>trivial⟩ h0
theorem samefo_fo {S1 S2 S3 S4:Nat→Prop} {c e c2 e2:Value} (p:List UInt8) (m n:Int) (L:List It) (E:List Vr) (w:World) (hp:p.length=32) (h1:RLs RIt 2 S1 w c L) (h2:RLs RVr 38 S2 w e E) (h3:RLs RIt 2 S3 w c2 L) (h4:RLs RVr 38 S4 w e2 E) :
  Calls Tryd.prog 16 #[ag (fcs p m n c e),ag (fcs p m n c2 e2)] w (fun en w'=>en=.returned (.bool true)∧Ext w w') :=
 samefo_at (S1:=fun _=>True) (S2:=fun _=>True) (⟨p,m,n,L,E⟩:Fo) w ⟨hp,h1.sub rIt fun _ _=>trivial,h2.sub rVr fun _ _=>trivial⟩ ⟨hp,h3.sub rIt fun _ _=>trivial,h4.sub rVr fun _ _=>trivial⟩
theorem verify_nil (pub:List UInt8) (w:World) (hp:pub.length=32) (hG:Glob w) :
  Calls Tryd.prog 22 #[.agg (byteVals pub).toArray,.int .i64 2,ag (vcs 0 zero32 v0 0 v0 v0 v0)] w (fun en w'=>en=.returned (vi 420)∧Ext w w') :=
 verifyv_at (S:=fun _=>True) pub 2 vrNil w ⟨zero32_len,RLs.nil _,⟨Fl.nil _,Fl.nil _,Fl.nil _,All32.nil,All32.nil,All32.nil⟩⟩ hp (fun x hx=>absurd hx (by simp [vrNil])) hG
end
theorem version_idx {sd:List UInt8} {a b:List It} (hs:1≤sd.length∧sd.length≤64) {n:Nat} (hn:n<2) {v:Vr} (hv:v=⟨(n+1:Nat),stateD b,diffL a b,signF sd 2 n n (msgV (n+1:Nat) (stateD b) (diffL a b))⟩):v.sg.index=n:=by
 have hm:(msgV (n+1:Nat) (stateD b) (diffL a b)).length=72:=msgV_len (stateD_len b)
 rw [hv]
 exact (sign_len ((sign_iff (kok hs (by omega) (by omega)) (by omega)).2 ⟨by omega,by omega⟩)).2.2
theorem duo_of {sd:List UInt8} {a b:List It} (hs:1≤sd.length∧sd.length≤64) (ha:checkE a=0) (hb:checkE b=0) (hl:a.length+b.length≤65536) {v1 v2:Vr} (h1:versionV sd 2 ((0:Nat):Int) 0 a (diffL [] a)=v1) (h2:versionV sd 2 ((1:Nat):Int) 1 b (diffL a b)=v2):Duo (pubF sd 2 0) a b v1 v2:=by
 obtain ⟨-,p2,p3⟩:=version_good (a:=[]) hs (n:=0) (by omega) check_nil ha (by simp;omega)
 obtain ⟨-,q2,q3⟩:=version_good (a:=a) hs (n:=1) (by omega) ha hb hl
 rw [h1] at p2 p3
 rw [h2] at q2 q3
 exact ⟨ha,hb,hl,by rw [p2];rfl,by rw [q2];rfl,by rw [p2],by rw [q2],by rw [p2],by rw [q2],p3,q3⟩
def oneL:List It:=[⟨[97],[120]⟩]
set_option maxRecDepth 100000 in
set_option maxHeartbeats 1000000 in
theorem sane42_any (w:World) (hG:Glob w) :
  Calls Tryd.prog 8 #[] w (fun en w'=>en=.returned (.bool true)∧Ext w w'):=by
 have hk:1≤([115,101,101,100]:List UInt8).length∧([115,101,101,100]:List UInt8).length≤64:=⟨by decide,by decide⟩
 refine calls_enter Tryd.func8 rfl rfl rfl fun _ hF=>?_
 refine wr fun K1 hK1=>?_
 refine hF.xv (.bool false)<|fun _ F3=>?_;clear hF
 refine wpList_nil (hK1 _ _ ?_);clear hK1
 refine wr fun K4 hK4=>?_
 refine F3.xn (fun g=>(vl (some ⟨g,0,none⟩) 4 4)) [(.int .u8 115),(.int .u8 101),(.int .u8 101),(.int .u8 100)] 5 (fun F=>rn_buildSlice (parts4 rfl rfl rfl rfl) (by kernel_rfl)) fun g5 w6 _ F12 z9 z10 b7 hx8=>?_;clear F3
 refine wpl_op (i:=1) rfl (o_mark (l:=[(115:UInt8),(101:UInt8),(101:UInt8),(100:UInt8)]) F12 rfl rfl rfl rfl rfl (F12.get rfl) Tryd.underlying52 Tryd.underlying5 b7 rfl (by omega) (by omega) ?_)
 intro w13 a16 F17 hf14 hg15;clear F12;have z18:=hg15.size
 refine wpl_op (i:=2) rfl (o_call F17 rfl rfl rfl rfl (rn_call (args2 (F17.get rfl) rfl) rfl (by kernel_rfl)) (new_at (v:=(vl (some ⟨g5,0,none⟩) 4 4)) (m:=4) ([(115:UInt8),(101:UInt8),(101:UInt8),(100:UInt8)]) 2 _ hf14 (by omega)) ?_)
 rw [(new_facts hk).1,(new_facts hk).2.1,(new_facts hk).2.2]
 rintro _ w23 ⟨A19,n20,c21,rfl,hf22,hx24⟩
 have z25:=(Fl.cel hf22).2.1;have z26:=Fl.blen hf22
 refine ⟨_,rfl,?_⟩;intro a27 F28;clear F17;have z29:=hx24.size
 have hf30:Fl (Clip (fun b=>w13.heap.size≤b) w23) w23 1 (vl A19 n20 c21) n20 (byteVals ([(115:UInt8),(101:UInt8),(101:UInt8),(100:UInt8)])):=hf22.clip
 refine F28.xm rfl<|Xv (.agg #[(vl A19 n20 c21),(vi 2),(vi 0)])<|Xv (vi 0)<|fun _ F36=>?_;clear F28
 refine F36.xz [v0,(vi 0),(vi 0)] 56 fun g37 w38 _ F44 z41 z42 b39 hx40=>?_;clear F36
 refine F44.xs rfl b39 (fun w45 b46 hg47=>?_);have z48:=hg47.size
 refine F44.xa rfl<|fun _ F50=>?_;clear F44
 refine wpList_nil (hK4 _ _ ?_);clear hK4
 have F51:=F50.k [0,1,2];clear F50
 refine wr fun K52 hK52=>?_
 refine F51.xw (.agg #[(vl A19 n20 c21),(vi 2),(vi 0)]) (fun F=>rb F rfl b46)<|fun _ F54=>?_;clear F51
 have d55:=(hf30.pres (((Pres.refl w23).ext hx40).gc hg47))
 refine F54.xc (pub_at (v:=(vl A19 n20 c21)) (m:=n20) ([(115:UInt8),(101:UInt8),(101:UInt8),(100:UInt8)]) 2 0 _ d55 (hG.ext ((((((Ext.refl w).trans hx8).gn hg15).trans hx24).trans hx40).gn hg47))) ?_
 rintro _ w56 ⟨rfl,hx57⟩
 refine ⟨_,rfl,?_⟩;intro a58 F59;clear F54;have z60:=hx57.size
 refine F59.xm rfl<|Xv (.agg (byteVals (pubF ([(115:UInt8),(101:UInt8),(101:UInt8),(100:UInt8)]) 2 0)).toArray)<|Xv (vi (pubE ([(115:UInt8),(101:UInt8),(101:UInt8),(100:UInt8)]) 2 0))<|fun _ F66=>?_;clear F59
 refine F66.xz (byteVals (List.replicate 32 0)) 24 fun g67 w68 _ F74 z71 z72 b69 hx70=>?_;clear F66
 refine F74.xs rfl b69 (fun w75 b76 hg77=>?_) (hk:=byteVals_len (pubF_len _ _ _));have z78:=hg77.size
 refine F74.xa rfl<|fun _ F80=>?_;clear F74
 refine wpList_nil (hK52 _ _ ?_);clear hK52
 have F81:=F80.k [0,1,2,3,4];clear F80
 refine wr fun K82 hK82=>?_
 refine F81.xn (fun g=>(vl (some ⟨g,0,none⟩) 1 1)) [(.int .u8 120)] 5 (fun F=>rn_buildSlice (parts1 rfl) (by kernel_rfl)) fun g83 w84 _ F90 z87 z88 b85 hx86=>?_;clear F81
 refine wpl_op (i:=1) rfl (o_mark (l:=[(120:UInt8)]) F90 rfl rfl rfl rfl rfl (F90.get rfl) Tryd.underlying52 Tryd.underlying5 b85 rfl (by omega) (by omega) ?_)
 intro w91 a94 F95 hf92 hg93;clear F90;have z96:=hg93.size
 refine F95.xw (.agg #[(strOf ([97])),(vl (some ⟨g83,0,none⟩) 1 1)]) (fun F=>rn_build (parts2 rfl (F.get rfl)) (by kernel_rfl))<|fun _ F98=>?_;clear F95
 refine F98.xn (fun g=>(vl (some ⟨g,0,none⟩) 1 1)) [(strOf ([97])),(vl (some ⟨g83,0,none⟩) 1 1)] 66 (fun F=>rn_buildSlice (parts1 (F.get rfl)) (build_wholeE (vs:=[(.agg #[(strOf ([97])),(vl (some ⟨g83,0,none⟩) 1 1)])]) El22 rfl rfl (fun z0 hz0=>by rw [List.mem_singleton.1 hz0];exact (show List.length [(strOf ([97])),(vl (some ⟨g83,0,none⟩) 1 1)]=2 from rfl)) (by decide) (by decide) (by simp [Value.cells]))) fun g99 w100 _ F106 z103 z104 b101 hx102=>?_;clear F98
 have d108:=(hf92.ext hx102)
 have hl107:RLs RIt 2 (Clip (fun _=>True) w100) w100 (vl (some ⟨g99,0,none⟩) 1 1) oneL:=RLs.clip rIt (RLs.one b101 (show List.length [(strOf ([97])),(vl (some ⟨g83,0,none⟩) 1 1)]=2 from rfl) (one_cons rfl (one_cons rfl one_nil)) trivial (⟨_,_,rfl,Fl.any d108⟩:RIt (fun _=>True) _ _ ⟨[97],[(120:UInt8)]⟩))
 refine F106.xa rfl<|fun _ F110=>?_;clear F106
 refine wpList_nil (hK82 _ _ ?_);clear hK82
 have F111:=F110.k [0,1,2,3,4,5];clear F110
 refine wr fun K112 hK112=>?_
 refine F111.xm rfl<|fun _ F114=>?_;clear F111
 refine wpl_op (i:=1) rfl (o_call F114 rfl rfl rfl rfl (rn_call (args2 rfl (F114.get rfl)) rfl (by kernel_rfl)) (diff_at (u:=v0) (v:=(vl (some ⟨g99,0,none⟩) 1 1)) ([]) oneL _ (RLs.nil _:RLs RIt 2 (fun _=>False) _ _ _) hl107 (show ∀ x∈([]:List It),x.data.length≤4294967296 from fun x hx=>absurd hx (by simp)) (show ∀ x∈oneL,x.data.length≤4294967296 by decide)) ?_)
 rw [(diffE_zero (show checkE []=0 from rfl) (show checkE oneL=0 by decide)).2,(diffE_zero (show checkE []=0 from rfl) (show checkE oneL=0 by decide)).1]
 rintro _ w118 ⟨A115,c116,rfl,hL117,hx119⟩
 refine ⟨_,rfl,?_⟩;intro a120 F121;clear F114;have z122:=hx119.size
 have hl123:RLs RCg 3 (Clip (fun z=>w100.heap.size≤z) w118) w118 (vl A115 ((diffL ([]) oneL).length) c116) (diffL ([]) oneL):=RLs.clip rCg hL117
 obtain ⟨-,z124,z125⟩:=RLs.at hL117
 refine F121.xm rfl<|Xv (vl A115 ((diffL ([]) oneL).length) c116)<|Xv (vi 0)<|Xa rfl<|Xa rfl<|fun _ F135=>?_;clear F121
 refine wpList_nil (hK112 _ _ ?_);clear hK112
 have F136:=F135.k [0,1,2,3,4,5,6,7];clear F135
 refine wr fun K137 hK137=>?_
 have b138:=(((((((b46.ext hx57).ext hx70).gn hg77).ext hx86).gn hg93).ext hx102).ext hx119)
 refine F136.xw (.agg #[(vl A19 n20 c21),(vi 2),(vi 0)]) (fun F=>rb F rfl b138)<|Xm rfl<|Xm rfl<|fun _ F144=>?_;clear F136
 have d145:=(hf30.pres ((((((((((Pres.refl w23).ext hx40).gc hg47).ext hx57).ext hx70).gc hg77).ext hx86).gc hg93).ext hx102).ext hx119))
 have d146:=(RLs.ext rIt hl107 hx119)
 have hv147:=version_good (sd:=[(115:UInt8),(101:UInt8),(101:UInt8),(100:UInt8)]) hk (n:=0) (by omega) (show checkE []=0 from rfl) (show checkE oneL=0 by decide) (by have h5:=(show ([]:List It).length≤12 by simp);have h6:=(show oneL.length≤12 by decide);omega)
 obtain ⟨vr148,hvr149⟩:∃ z,versionV ([(115:UInt8),(101:UInt8),(101:UInt8),(100:UInt8)]) 2 ((0:Nat):Int) 0 oneL (diffL ([]) oneL)=z:=⟨_,rfl⟩
 rw [hvr149] at hv147
 refine wpl_op (i:=3) rfl (o_call F144 rfl rfl rfl rfl (rn_call (args4 (F144.get rfl) rfl (F144.get rfl) (F144.get rfl)) rfl (by kernel_rfl)) (version_at (S:=fun _=>True) none 0 ([(115:UInt8),(101:UInt8),(101:UInt8),(100:UInt8)]) 2 ((0:Nat):Int) (0) oneL (diffL ([]) oneL) _ (Fl.any d145) (RLs.sub (S':=fun _=>True) rIt d146 fun _ _=>trivial) (RLs.sub (S':=fun _=>True) rCg hl123 fun _ _=>trivial) (show ∀ x∈oneL,x.data.length≤4294967296 by decide) (by have h6:=(show oneL.length≤12 by decide);omega) (diff_sm (show ∀ x∈([]:List It),x.data.length≤4294967296 from fun x hx=>absurd hx (by simp)) (show ∀ x∈oneL,x.data.length≤4294967296 by decide)) (hG.ext (((((((((((((Ext.refl w).trans hx8).gn hg15).trans hx24).trans hx40).gn hg47).trans hx57).trans hx70).gn hg77).trans hx86).gn hg93).trans hx102).trans hx119))) ?_)
 have hv1470:=hv147.1
 rw [hvr149,hv147.1,show keyS ([(115:UInt8),(101:UInt8),(101:UInt8),(100:UInt8)]) 2 ((0:Nat):Int) 0 oneL (diffL ([]) oneL)=[(115:UInt8),(101:UInt8),(101:UInt8),(100:UInt8)] from if_pos hv1470,show keyM ([(115:UInt8),(101:UInt8),(101:UInt8),(100:UInt8)]) 2 ((0:Nat):Int) 0 oneL (diffL ([]) oneL)=2 from if_pos hv1470,show keyU ([(115:UInt8),(101:UInt8),(101:UInt8),(100:UInt8)]) 2 ((0:Nat):Int) 0 oneL (diffL ([]) oneL)=((0:Nat):Int)+1 from if_pos hv1470]
 rintro _ w151 ⟨c153,o154,e155,p156,A157,n158,c159,rfl,hR160,hK161,hS162,hq163,hx152⟩
 obtain ⟨rfl,hkk⟩:=hq163 rfl;obtain ⟨rfl,rfl,rfl⟩:=Value.slice.inj hkk.symm
 have hvc150:vr148.chs=diffL ([]) oneL:=by rw [hv147.2.1]
 obtain ⟨A164,c165,rfl,z166,z167⟩:=Fl.form hS162.op
 obtain ⟨A168,c169,rfl,z170,z171⟩:=Fl.form hS162.cl
 obtain ⟨A172,c173,rfl,z174,z175⟩:=Fl.form hS162.path
 refine ⟨_,rfl,?_⟩;intro a176 F177;clear F144;have z178:=hx152.size
 have d179:=(RLs.ext rCg hl123 hx152)
 have hl180:RLs RCg 3 (Clip (fun z=>w100.heap.size≤z) w118) w151 (vl A115 ((diffL ([]) oneL).length) c116) vr148.chs:=by rw [hvc150];exact d179
 have hf181:Fl (Clip (fun b=>w118.heap.size≤b) w151) _ _ _ _ _:=Fl.subB hS162.op (fun _ h1 h2=>⟨h2,h1⟩)
 have hf182:Fl (Clip (fun b=>w118.heap.size≤b) w151) _ _ _ _ _:=Fl.subB hS162.cl (fun _ h1 h2=>⟨h2,h1⟩)
 have hf183:Fl (Clip (fun b=>w118.heap.size≤b) w151) _ _ _ _ _:=Fl.subB hS162.path (fun _ h1 h2=>⟨h2,h1⟩)
 refine F177.xm rfl<|Xv (ag ((vi vr148.no)::dg vr148.state [(vl A115 ((diffL ([]) oneL).length) c116),(vi vr148.sg.index),(vl A164 vr148.sg.op.length c165),(vl A168 vr148.sg.cl.length c169),(vl A172 vr148.sg.path.length c173)]))<|Xv (.agg #[(vl A19 n20 c21),(vi 2),(vi (1:Nat))])<|Xv (vi 0)<|fun _ F191=>?_;clear F177
 refine F191.xz vz 30 fun g192 w193 _ F199 z196 z197 b194 hx195=>?_;clear F191
 refine F199.xz [v0,(vi 0),(vi 0)] 56 fun g200 w201 _ F207 z204 z205 b202 hx203=>?_;clear F199
 have b208:=(b194.ext hx203)
 refine F207.xs rfl b208 (fun w209 b210 hg211=>?_) (hk:=len_dig1 hR160.st);have z212:=hg211.size
 have b216:=(b202.gn hg211)
 refine F207.xs rfl b216 (fun w213 b214 hg215=>?_);have z217:=hg215.size
 refine F207.xa rfl<|fun _ F219=>?_;clear F207
 refine wpList_nil (hK137 _ _ ?_);clear hK137
 have F220:=F219.k [0,1,2,3,4,5,6,7,8,9,10];clear F219
 refine wr fun K221 hK221=>?_
 refine F220.xm rfl<|fun _ F223=>?_;clear F220
 have d224:=(RLs.pres rIt hl107 (((((((Pres.refl w100).ext hx119).ext hx152).ext hx195).ext hx203).gc hg211).gc hg215))
 refine wpl_op (i:=1) rfl (o_call F223 rfl rfl rfl rfl (rn_call (args2 (F223.get rfl) rfl) rfl (by kernel_rfl)) (diff_at (u:=(vl (some ⟨g99,0,none⟩) 1 1)) (v:=v0) oneL ([]) _ d224 (RLs.nil _:RLs RIt 2 (fun _=>False) _ _ _) (show ∀ x∈oneL,x.data.length≤4294967296 by decide) (show ∀ x∈([]:List It),x.data.length≤4294967296 from fun x hx=>absurd hx (by simp))) ?_)
 rw [(diffE_zero (show checkE oneL=0 by decide) (show checkE []=0 from rfl)).2,(diffE_zero (show checkE oneL=0 by decide) (show checkE []=0 from rfl)).1]
 rintro _ w228 ⟨A225,c226,rfl,hL227,hx229⟩
 refine ⟨_,rfl,?_⟩;intro a230 F231;clear F223;have z232:=hx229.size
 have hl233:RLs RCg 3 (Clip (fun z=>w213.heap.size≤z) w228) w228 (vl A225 ((diffL oneL ([])).length) c226) (diffL oneL ([])):=RLs.clip rCg hL227
 obtain ⟨-,z234,z235⟩:=RLs.at hL227
 refine F231.xm rfl<|Xv (vl A225 ((diffL oneL ([])).length) c226)<|Xv (vi 0)<|Xa rfl<|Xa rfl<|fun _ F245=>?_;clear F231
 refine wpList_nil (hK221 _ _ ?_);clear hK221
 have F246:=F245.k [0,1,2,3,4,5,6,7,8,9,10,11,12];clear F245
 refine wr fun K247 hK247=>?_
 have b248:=(b214.ext hx229)
 refine F246.xw (.agg #[(vl A19 n20 c21),(vi 2),(vi (1:Nat))]) (fun F=>rb F rfl b248)<|fun _ F250=>?_;clear F246
 have b251:=((b210.gn hg215).ext hx229)
 refine F250.xw (ag ((vi vr148.no)::dg vr148.state [(vl A115 ((diffL ([]) oneL).length) c116),(vi vr148.sg.index),(vl A164 vr148.sg.op.length c165),(vl A168 vr148.sg.cl.length c169),(vl A172 vr148.sg.path.length c173)])) (fun F=>rb F rfl b251 (hk:=len_dig1 hR160.st))<|fun _ F253=>?_;clear F250
 refine F253.xn (fun g=>(vl (some ⟨g,0,none⟩) 1 1)) ((vi vr148.no)::dg vr148.state [(vl A115 ((diffL ([]) oneL).length) c116),(vi vr148.sg.index),(vl A164 vr148.sg.op.length c165),(vl A168 vr148.sg.cl.length c169),(vl A172 vr148.sg.path.length c173)]) 30 (fun F=>rn_buildSlice (parts1 (F.get rfl)) (build_wholeE (vs:=[(ag ((vi vr148.no)::dg vr148.state [(vl A115 ((diffL ([]) oneL).length) c116),(vi vr148.sg.index),(vl A164 vr148.sg.op.length c165),(vl A168 vr148.sg.cl.length c169),(vl A172 vr148.sg.path.length c173)]))]) El36 rfl rfl (fun z0 hz0=>by rw [List.mem_singleton.1 hz0];exact (show List.length ((vi vr148.no)::dg vr148.state [(vl A115 ((diffL ([]) oneL).length) c116),(vi vr148.sg.index),(vl A164 vr148.sg.op.length c165),(vl A168 vr148.sg.cl.length c169),(vl A172 vr148.sg.path.length c173)])=38 from (by simp [byteVals_len hR160.st]))) (by decide) (by decide) (by simp [Value.cells]))) fun g254 w255 _ F261 z258 z259 b256 hx257=>?_;clear F253
 have d263:=(RLs.pres rCg hl180 (((((((Pres.refl w151).ext hx195).ext hx203).gc hg211).gc hg215).ext hx229).ext hx257))
 have d264:=(hf181.pres (((((((Pres.refl w151).ext hx195).ext hx203).gc hg211).gc hg215).ext hx229).ext hx257))
 have d265:=(hf182.pres (((((((Pres.refl w151).ext hx195).ext hx203).gc hg211).gc hg215).ext hx229).ext hx257))
 have d266:=(hf183.pres (((((((Pres.refl w151).ext hx195).ext hx203).gc hg211).gc hg215).ext hx229).ext hx257))
 have hl262:RLs RVr 38 (Clip (fun _=>True) w255) w255 (vl (some ⟨g254,0,none⟩) 1 1) [vr148]:=RLs.clip rVr (RLs.one b256 (show List.length ((vi vr148.no)::dg vr148.state [(vl A115 ((diffL ([]) oneL).length) c116),(vi vr148.sg.index),(vl A164 vr148.sg.op.length c165),(vl A168 vr148.sg.cl.length c169),(vl A172 vr148.sg.path.length c173)])=38 from (by simp [byteVals_len hR160.st])) (one_cons rfl (one_app (byteVals_one _) (one_cons rfl (one_cons rfl (one_cons rfl (one_cons rfl (one_cons rfl one_nil))))))) trivial (⟨_,_,_,_,rfl,(⟨hR160.st,RLs.sub (S':=fun _=>True) rCg d263 fun _ _=>trivial,⟨Fl.any d264,Fl.any d265,Fl.any d266,hS162.o32,hS162.c32,hS162.p32⟩⟩:RVp (fun _=>True) _ _ _ _ _ vr148)⟩:RVr (fun _=>True) _ _ vr148))
 refine F261.xm rfl<|fun _ F268=>?_;clear F261
 have d269:=(hf30.pres (((((((((((((((((Pres.refl w23).ext hx40).gc hg47).ext hx57).ext hx70).gc hg77).ext hx86).gc hg93).ext hx102).ext hx119).ext hx152).ext hx195).ext hx203).gc hg211).gc hg215).ext hx229).ext hx257))
 have d270:=(RLs.ext rCg hl233 hx257)
 have hv271:=version_good (sd:=[(115:UInt8),(101:UInt8),(101:UInt8),(100:UInt8)]) hk (n:=1) (by omega) (show checkE oneL=0 by decide) (show checkE []=0 from rfl) (by have h5:=(show oneL.length≤12 by decide);have h6:=(show ([]:List It).length≤12 by simp);omega)
 obtain ⟨vr272,hvr273⟩:∃ z,versionV ([(115:UInt8),(101:UInt8),(101:UInt8),(100:UInt8)]) 2 ((1:Nat):Int) 1 ([]) (diffL oneL ([]))=z:=⟨_,rfl⟩
 rw [hvr273] at hv271
 refine wpl_op (i:=4) rfl (o_call F268 rfl rfl rfl rfl (rn_call (args4 (F268.get rfl) (F268.get rfl) rfl (F268.get rfl)) rfl (by kernel_rfl)) (version_at (S:=fun _=>True) (some ⟨g254,0,none⟩) 1 ([(115:UInt8),(101:UInt8),(101:UInt8),(100:UInt8)]) 2 ((1:Nat):Int) (1) ([]) (diffL oneL ([])) _ (Fl.any d269) (RLs.sub (S':=fun _=>True) rIt (RLs.nil _:RLs RIt 2 (fun _=>False) _ _ _) fun _ _=>trivial) (RLs.sub (S':=fun _=>True) rCg d270 fun _ _=>trivial) (show ∀ x∈([]:List It),x.data.length≤4294967296 from fun x hx=>absurd hx (by simp)) (by have h6:=(show ([]:List It).length≤12 by simp);omega) (diff_sm (show ∀ x∈oneL,x.data.length≤4294967296 by decide) (show ∀ x∈([]:List It),x.data.length≤4294967296 from fun x hx=>absurd hx (by simp))) (hG.ext ((((((((((((((((((((Ext.refl w).trans hx8).gn hg15).trans hx24).trans hx40).gn hg47).trans hx57).trans hx70).gn hg77).trans hx86).gn hg93).trans hx102).trans hx119).trans hx152).trans hx195).trans hx203).gn hg211).gn hg215).trans hx229).trans hx257))) ?_)
 have hv2710:=hv271.1
 rw [hvr273,hv271.1,show keyS ([(115:UInt8),(101:UInt8),(101:UInt8),(100:UInt8)]) 2 ((1:Nat):Int) 1 ([]) (diffL oneL ([]))=[(115:UInt8),(101:UInt8),(101:UInt8),(100:UInt8)] from if_pos hv2710,show keyM ([(115:UInt8),(101:UInt8),(101:UInt8),(100:UInt8)]) 2 ((1:Nat):Int) 1 ([]) (diffL oneL ([]))=2 from if_pos hv2710,show keyU ([(115:UInt8),(101:UInt8),(101:UInt8),(100:UInt8)]) 2 ((1:Nat):Int) 1 ([]) (diffL oneL ([]))=((1:Nat):Int)+1 from if_pos hv2710]
 rintro _ w275 ⟨c277,o278,e279,p280,A281,n282,c283,rfl,hR284,hK285,hS286,hq287,hx276⟩
 obtain ⟨rfl,hkk⟩:=hq287 rfl;obtain ⟨rfl,rfl,rfl⟩:=Value.slice.inj hkk.symm
 have hvc274:vr272.chs=diffL oneL ([]):=by rw [hv271.2.1]
 obtain ⟨A288,c289,rfl,z290,z291⟩:=Fl.form hS286.op
 obtain ⟨A292,c293,rfl,z294,z295⟩:=Fl.form hS286.cl
 obtain ⟨A296,c297,rfl,z298,z299⟩:=Fl.form hS286.path
 refine ⟨_,rfl,?_⟩;intro a300 F301;clear F268;have z302:=hx276.size
 have d303:=(RLs.ext rCg (RLs.ext rCg hl233 hx257) hx276)
 have hl304:RLs RCg 3 (Clip (fun z=>w213.heap.size≤z) w228) w275 (vl A225 ((diffL oneL ([])).length) c226) vr272.chs:=by rw [hvc274];exact d303
 have hf305:Fl (Clip (fun b=>w255.heap.size≤b) w275) _ _ _ _ _:=Fl.subB hS286.op (fun _ h1 h2=>⟨h2,h1⟩)
 have hf306:Fl (Clip (fun b=>w255.heap.size≤b) w275) _ _ _ _ _:=Fl.subB hS286.cl (fun _ h1 h2=>⟨h2,h1⟩)
 have hf307:Fl (Clip (fun b=>w255.heap.size≤b) w275) _ _ _ _ _:=Fl.subB hS286.path (fun _ h1 h2=>⟨h2,h1⟩)
 refine F301.xm rfl<|Xv (ag ((vi vr272.no)::dg vr272.state [(vl A225 ((diffL oneL ([])).length) c226),(vi vr272.sg.index),(vl A288 vr272.sg.op.length c289),(vl A292 vr272.sg.cl.length c293),(vl A296 vr272.sg.path.length c297)]))<|Xv (.agg #[(vl A19 n20 c21),(vi 2),(vi (2:Nat))])<|Xv (vi 0)<|fun _ F315=>?_;clear F301
 refine F315.xz vz 30 fun g316 w317 _ F323 z320 z321 b318 hx319=>?_;clear F315
 refine F323.xz [v0,(vi 0),(vi 0)] 56 fun g324 w325 _ F331 z328 z329 b326 hx327=>?_;clear F323
 have b332:=(b318.ext hx327)
 refine F331.xs rfl b332 (fun w333 b334 hg335=>?_) (hk:=len_dig1 hR284.st);have z336:=hg335.size
 have b340:=(b326.gn hg335)
 refine F331.xs rfl b340 (fun w337 b338 hg339=>?_);have z341:=hg339.size
 refine F331.xa rfl<|fun _ F343=>?_;clear F331
 refine wpList_nil (hK247 _ _ ?_);clear hK247
 have F344:=F343.k [0,1,2,3,4,5,6,7,8,9,10,11,12,13,15];clear F343
 refine wr fun K345 hK345=>?_
 have b346:=((((((((((((((((b76.ext hx86).gn hg93).ext hx102).ext hx119).ext hx152).ext hx195).ext hx203).gn hg211).gn hg215).ext hx229).ext hx257).ext hx276).ext hx319).ext hx327).gn hg335).gn hg339)
 refine F344.xw (.agg (byteVals (pubF ([(115:UInt8),(101:UInt8),(101:UInt8),(100:UInt8)]) 2 0)).toArray) (fun F=>rb F rfl b346 (hk:=byteVals_len (pubF_len _ _ _)))<|fun _ F348=>?_;clear F344
 refine F348.xc (join_ok (pubF ([(115:UInt8),(101:UInt8),(101:UInt8),(100:UInt8)]) 2 0) _ (pubF_len _ _ _)) ?_
 rintro _ w349 ⟨rfl,hx350⟩
 refine ⟨_,rfl,?_⟩;intro a351 F352;clear F348;have z353:=hx350.size
 refine F352.xm rfl<|Xv (ag (dg (pubF ([(115:UInt8),(101:UInt8),(101:UInt8),(100:UInt8)]) 2 0) [(vi 2),(vi 0),v0,v0]))<|Xv (vi 0)<|fun _ F359=>?_;clear F352
 refine F359.xz fz 41 fun g360 w361 _ F367 z364 z365 b362 hx363=>?_;clear F359
 refine F367.xs rfl b362 (fun w368 b369 hg370=>?_) (hk:=len_dig (pubF_len _ _ _));have z371:=hg370.size
 refine F367.xa rfl<|fun _ F373=>?_;clear F367
 refine wpList_nil (hK345 _ _ ?_);clear hK345
 have F374:=F373.k [0,1,2,3,4,5,6,7,8,9,10,11,12,13,15,16,17];clear F373
 refine wr fun K375 hK375=>?_
 have b376:=(((b346.ext hx350).ext hx363).gn hg370)
 refine F374.xw (.agg (byteVals (pubF ([(115:UInt8),(101:UInt8),(101:UInt8),(100:UInt8)]) 2 0)).toArray) (fun F=>rb F rfl b376 (hk:=byteVals_len (pubF_len _ _ _)))<|fun _ F378=>?_;clear F374
 refine F378.xc (join_no (pubF ([(115:UInt8),(101:UInt8),(101:UInt8),(100:UInt8)]) 2 0) _ (pubF_len _ _ _)) ?_
 rintro _ w379 ⟨rfl,hx380⟩
 refine ⟨_,rfl,?_⟩;intro a381 F382;clear F378;have z383:=hx380.size
 refine F382.xm rfl<|Xv (ag fz)<|Xv (vi 40)<|fun _ F389=>?_;clear F382
 refine F389.xz fz 41 fun g390 w391 _ F397 z394 z395 b392 hx393=>?_;clear F389
 refine F397.xs rfl b392 (fun w398 b399 hg400=>?_);have z401:=hg400.size
 refine F397.xa rfl<|fun _ F403=>?_;clear F397
 refine wpList_nil (hK375 _ _ ?_);clear hK375
 have F404:=F403.k [0,1,2,3,4,5,6,7,8,9,10,11,12,13,15,16,17,19];clear F403
 refine wr fun K405 hK405=>?_
 have b406:=(((b369.ext hx380).ext hx393).gn hg400)
 refine F404.xw (ag (dg (pubF ([(115:UInt8),(101:UInt8),(101:UInt8),(100:UInt8)]) 2 0) [(vi 2),(vi 0),v0,v0])) (fun F=>rb F rfl b406 (hk:=len_dig (pubF_len _ _ _)))<|fun _ F408=>?_;clear F404
 have b409:=(((((((b334.gn hg339).ext hx350).ext hx363).gn hg370).ext hx380).ext hx393).gn hg400)
 refine F408.xw (ag ((vi vr272.no)::dg vr272.state [(vl A225 ((diffL oneL ([])).length) c226),(vi vr272.sg.index),(vl A288 vr272.sg.op.length c289),(vl A292 vr272.sg.cl.length c293),(vl A296 vr272.sg.path.length c297)])) (fun F=>rb F rfl b409 (hk:=len_dig1 hR284.st))<|fun _ F411=>?_;clear F408
 have hD412:=duo_of hk (a:=oneL) (b:=[]) (by decide) rfl (by decide) hvr149 hvr273
 have d413:=(RLs.pres rCg hl304 (((((((((((Pres.refl w275).ext hx319).ext hx327).gc hg335).gc hg339).ext hx350).ext hx363).gc hg370).ext hx380).ext hx393).gc hg400))
 have d414:=(hf305.pres (((((((((((Pres.refl w275).ext hx319).ext hx327).gc hg335).gc hg339).ext hx350).ext hx363).gc hg370).ext hx380).ext hx393).gc hg400))
 have d415:=(hf306.pres (((((((((((Pres.refl w275).ext hx319).ext hx327).gc hg335).gc hg339).ext hx350).ext hx363).gc hg370).ext hx380).ext hx393).gc hg400))
 have d416:=(hf307.pres (((((((((((Pres.refl w275).ext hx319).ext hx327).gc hg335).gc hg339).ext hx350).ext hx363).gc hg370).ext hx380).ext hx393).gc hg400))
 refine wpl_op (i:=2) rfl (o_call F411 rfl rfl rfl rfl (rn_call (args2 (F411.get rfl) (F411.get rfl)) rfl (by kernel_rfl)) (recv_at (fun b=>b<w398.heap.size) (pubF ([(115:UInt8),(101:UInt8),(101:UInt8),(100:UInt8)]) 2 0) 0 ([]) ([]) vr272 _ (pubF [115,101,101,100] 2 0) 2 0 ([]) ([vr272]) 0 hD412.early (pubF_len _ _ _) (RLs.sub (S':=fun b=>b<w398.heap.size) rIt (RLs.nil _:RLs RIt 2 (fun _=>False) _ _ _) cb) (RLs.sub (S':=fun b=>b<w398.heap.size) rVr (RLs.nil _:RLs RVr 38 (fun _=>False) _ _ _) cb) (⟨hR284.st,(RLs.sub (S':=fun b=>b<w398.heap.size) rCg d413 cb),⟨Fl.sub (S':=fun b=>b<w398.heap.size) d414 cb,Fl.sub (S':=fun b=>b<w398.heap.size) d415 cb,Fl.sub (S':=fun b=>b<w398.heap.size) d416 cb,hS286.o32,hS286.c32,hS286.p32⟩⟩:RVp (fun b=>b<w398.heap.size) _ _ _ _ _ vr272) (show ∀ x∈([]:List It),x.data.length≤4294967296 from fun x hx=>absurd hx (by simp)) (fun v hv=>absurd hv (by simp)) (by rw [hv271.2.1];exact diff_sm (show ∀ x∈oneL,x.data.length≤4294967296 by decide) (show ∀ x∈([]:List It),x.data.length≤4294967296 from fun x hx=>absurd hx (by simp))) (hG.ext (((((((((((((((((((((((((((((((Ext.refl w).trans hx8).gn hg15).trans hx24).trans hx40).gn hg47).trans hx57).trans hx70).gn hg77).trans hx86).gn hg93).trans hx102).trans hx119).trans hx152).trans hx195).trans hx203).gn hg211).gn hg215).trans hx229).trans hx257).trans hx276).trans hx319).trans hx327).gn hg335).gn hg339).trans hx350).trans hx363).gn hg370).trans hx380).trans hx393).gn hg400))) ?_)
 rintro _ w417 ⟨c419,e420,rfl,hL421,hE422,hP423,hx418⟩
 obtain ⟨A424,k425,rfl,z426,z427⟩:∃ A k,c419=.slice A 0 k∧0≤k∧k≤9223372036854775807:=RLs.form hL421
 have hl428:RLs RIt 2 (Clip (fun b=>b<w398.heap.size∨w398.heap.size≤b) w417) w417 (vl A424 0 k425) ([]):=hL421
 obtain ⟨A429,k430,rfl,z431,z432⟩:∃ A k,e420=.slice A 1 k∧1≤k∧k≤9223372036854775807:=RLs.form hE422
 have hl433:RLs RVr 38 (Clip (fun b=>b<w398.heap.size∨w398.heap.size≤b) w417) w417 (vl A429 1 k430) ([vr272]):=hE422
 refine ⟨_,rfl,?_⟩;intro a434 F435;clear F411;have z436:=hx418.size
 refine F435.xm rfl<|Xv (ag (dg (pubF [115,101,101,100] 2 0) [(vi 2),(vi 0),(vl A424 0 k425),(vl A429 1 k430)]))<|Xv (vi 0)<|fun _ F442=>?_;clear F435
 refine F442.xz fz 41 fun g443 w444 _ F450 z447 z448 b445 hx446=>?_;clear F442
 refine F450.xs rfl b445 (fun w451 b452 hg453=>?_) (hk:=len_dig (pubF_len _ _ _));have z454:=hg453.size
 refine F450.xa rfl<|fun _ F456=>?_;clear F450
 refine wpList_nil (hK405 _ _ ?_);clear hK405
 have F457:=F456.k [0,1,2,3,4,5,6,7,8,9,10,11,12,13,15,16,17,19,20,21];clear F456
 refine wr fun K458 hK458=>?_
 refine F457.xw (ag (dg (pubF [115,101,101,100] 2 0) [(vi 2),(vi 0),(vl A424 0 k425),(vl A429 1 k430)])) (fun F=>rb F rfl b452 (hk:=len_dig (pubF_len _ _ _)))<|fun _ F460=>?_;clear F457
 have b461:=(((((((((((((((b251.ext hx257).ext hx276).ext hx319).ext hx327).gn hg335).gn hg339).ext hx350).ext hx363).gn hg370).ext hx380).ext hx393).gn hg400).ext hx418).ext hx446).gn hg453)
 refine F460.xw (ag ((vi vr148.no)::dg vr148.state [(vl A115 ((diffL ([]) oneL).length) c116),(vi vr148.sg.index),(vl A164 vr148.sg.op.length c165),(vl A168 vr148.sg.cl.length c169),(vl A172 vr148.sg.path.length c173)])) (fun F=>rb F rfl b461 (hk:=len_dig1 hR160.st))<|fun _ F463=>?_;clear F460
 have d464:=(RLs.pres rIt hl428 (((Pres.refl w417).ext hx446).gc hg453))
 have d465:=(RLs.pres rVr hl433 (((Pres.refl w417).ext hx446).gc hg453))
 have d466:=(RLs.pres rCg hl180 (((((((((((((((((((((Pres.refl w151).ext hx195).ext hx203).gc hg211).gc hg215).ext hx229).ext hx257).ext hx276).ext hx319).ext hx327).gc hg335).gc hg339).ext hx350).ext hx363).gc hg370).ext hx380).ext hx393).gc hg400).ext hx418).ext hx446).gc hg453))
 have d467:=(hf181.pres (((((((((((((((((((((Pres.refl w151).ext hx195).ext hx203).gc hg211).gc hg215).ext hx229).ext hx257).ext hx276).ext hx319).ext hx327).gc hg335).gc hg339).ext hx350).ext hx363).gc hg370).ext hx380).ext hx393).gc hg400).ext hx418).ext hx446).gc hg453))
 have d468:=(hf182.pres (((((((((((((((((((((Pres.refl w151).ext hx195).ext hx203).gc hg211).gc hg215).ext hx229).ext hx257).ext hx276).ext hx319).ext hx327).gc hg335).gc hg339).ext hx350).ext hx363).gc hg370).ext hx380).ext hx393).gc hg400).ext hx418).ext hx446).gc hg453))
 have d469:=(hf183.pres (((((((((((((((((((((Pres.refl w151).ext hx195).ext hx203).gc hg211).gc hg215).ext hx229).ext hx257).ext hx276).ext hx319).ext hx327).gc hg335).gc hg339).ext hx350).ext hx363).gc hg370).ext hx380).ext hx393).gc hg400).ext hx418).ext hx446).gc hg453))
 refine wpl_op (i:=2) rfl (o_call F463 rfl rfl rfl rfl (rn_call (args2 (F463.get rfl) (F463.get rfl)) rfl (by kernel_rfl)) (recv_at (fun b=>b<w451.heap.size) (pubF [115,101,101,100] 2 0) 0 ([]) ([vr272]) vr148 _ (pubF [115,101,101,100] 2 0) 2 2 ([]) ([]) 0 hD412.late (pubF_len _ _ _) (RLs.sub (S':=fun b=>b<w451.heap.size) rIt d464 cb) (RLs.sub (S':=fun b=>b<w451.heap.size) rVr d465 cb) (⟨hR160.st,(RLs.sub (S':=fun b=>b<w451.heap.size) rCg d466 cb),⟨Fl.sub (S':=fun b=>b<w451.heap.size) d467 cb,Fl.sub (S':=fun b=>b<w451.heap.size) d468 cb,Fl.sub (S':=fun b=>b<w451.heap.size) d469 cb,hS162.o32,hS162.c32,hS162.p32⟩⟩:RVp (fun b=>b<w451.heap.size) _ _ _ _ _ vr148) (show ∀ x∈([]:List It),x.data.length≤4294967296 from fun x hx=>absurd hx (by simp)) (fun v hv=>by rw [List.mem_singleton.1 hv];exact (by rw [hv271.2.1];exact diff_sm (show ∀ x∈oneL,x.data.length≤4294967296 by decide) (show ∀ x∈([]:List It),x.data.length≤4294967296 from fun x hx=>absurd hx (by simp)))) (by rw [hv147.2.1];exact diff_sm (show ∀ x∈([]:List It),x.data.length≤4294967296 from fun x hx=>absurd hx (by simp)) (show ∀ x∈oneL,x.data.length≤4294967296 by decide)) (hG.ext ((((((((((((((((((((((((((((((((((Ext.refl w).trans hx8).gn hg15).trans hx24).trans hx40).gn hg47).trans hx57).trans hx70).gn hg77).trans hx86).gn hg93).trans hx102).trans hx119).trans hx152).trans hx195).trans hx203).gn hg211).gn hg215).trans hx229).trans hx257).trans hx276).trans hx319).trans hx327).gn hg335).gn hg339).trans hx350).trans hx363).gn hg370).trans hx380).trans hx393).gn hg400).trans hx418).trans hx446).gn hg453))) ?_)
 rintro _ w470 ⟨c472,e473,rfl,hL474,hE475,hP476,hx471⟩
 obtain ⟨A477,k478,rfl,z479,z480⟩:∃ A k,c472=.slice A 0 k∧0≤k∧k≤9223372036854775807:=RLs.form hL474
 have hl481:RLs RIt 2 (Clip (fun b=>b<w451.heap.size∨w451.heap.size≤b) w470) w470 (vl A477 0 k478) ([]):=hL474
 obtain ⟨A482,k483,rfl,z484,z485⟩:∃ A k,e473=.slice A 0 k∧0≤k∧k≤9223372036854775807:=RLs.form hE475
 have hl486:RLs RVr 38 (Clip (fun b=>b<w451.heap.size∨w451.heap.size≤b) w470) w470 (vl A482 0 k483) ([]):=hE475
 refine ⟨_,rfl,?_⟩;intro a487 F488;clear F463;have z489:=hx471.size
 refine F488.xm rfl<|Xv (ag (dg (pubF [115,101,101,100] 2 0) [(vi 2),(vi 2),(vl A477 0 k478),(vl A482 0 k483)]))<|Xv (vi 0)<|fun _ F495=>?_;clear F488
 refine F495.xz fz 41 fun g496 w497 _ F503 z500 z501 b498 hx499=>?_;clear F495
 refine F503.xs rfl b498 (fun w504 b505 hg506=>?_) (hk:=len_dig (pubF_len _ _ _));have z507:=hg506.size
 refine F503.xa rfl<|fun _ F509=>?_;clear F503
 refine wpList_nil (hK458 _ _ ?_);clear hK458
 have F510:=F509.k [0,1,2,3,4,5,6,7,8,9,10,11,12,13,15,16,17,19,20,21,22,23];clear F509
 refine wr fun K511 hK511=>?_
 refine F510.xw (ag (dg (pubF [115,101,101,100] 2 0) [(vi 2),(vi 2),(vl A477 0 k478),(vl A482 0 k483)])) (fun F=>rb F rfl b505 (hk:=len_dig (pubF_len _ _ _)))<|fun _ F513=>?_;clear F510
 have b514:=(((b461.ext hx471).ext hx499).gn hg506)
 refine F513.xw (ag ((vi vr148.no)::dg vr148.state [(vl A115 ((diffL ([]) oneL).length) c116),(vi vr148.sg.index),(vl A164 vr148.sg.op.length c165),(vl A168 vr148.sg.cl.length c169),(vl A172 vr148.sg.path.length c173)])) (fun F=>rb F rfl b514 (hk:=len_dig1 hR160.st))<|fun _ F516=>?_;clear F513
 have d517:=(RLs.pres rIt hl481 (((Pres.refl w470).ext hx499).gc hg506))
 have d518:=(RLs.pres rVr hl486 (((Pres.refl w470).ext hx499).gc hg506))
 have d519:=(RLs.pres rCg hl180 ((((((((((((((((((((((((Pres.refl w151).ext hx195).ext hx203).gc hg211).gc hg215).ext hx229).ext hx257).ext hx276).ext hx319).ext hx327).gc hg335).gc hg339).ext hx350).ext hx363).gc hg370).ext hx380).ext hx393).gc hg400).ext hx418).ext hx446).gc hg453).ext hx471).ext hx499).gc hg506))
 have d520:=(hf181.pres ((((((((((((((((((((((((Pres.refl w151).ext hx195).ext hx203).gc hg211).gc hg215).ext hx229).ext hx257).ext hx276).ext hx319).ext hx327).gc hg335).gc hg339).ext hx350).ext hx363).gc hg370).ext hx380).ext hx393).gc hg400).ext hx418).ext hx446).gc hg453).ext hx471).ext hx499).gc hg506))
 have d521:=(hf182.pres ((((((((((((((((((((((((Pres.refl w151).ext hx195).ext hx203).gc hg211).gc hg215).ext hx229).ext hx257).ext hx276).ext hx319).ext hx327).gc hg335).gc hg339).ext hx350).ext hx363).gc hg370).ext hx380).ext hx393).gc hg400).ext hx418).ext hx446).gc hg453).ext hx471).ext hx499).gc hg506))
 have d522:=(hf183.pres ((((((((((((((((((((((((Pres.refl w151).ext hx195).ext hx203).gc hg211).gc hg215).ext hx229).ext hx257).ext hx276).ext hx319).ext hx327).gc hg335).gc hg339).ext hx350).ext hx363).gc hg370).ext hx380).ext hx393).gc hg400).ext hx418).ext hx446).gc hg453).ext hx471).ext hx499).gc hg506))
 refine wpl_op (i:=2) rfl (o_call F516 rfl rfl rfl rfl (rn_call (args2 (F516.get rfl) (F516.get rfl)) rfl (by kernel_rfl)) (recv_at (fun b=>b<w504.heap.size) (pubF [115,101,101,100] 2 0) 2 ([]) ([]) vr148 _ zero32 0 0 ([]) ([]) 420 hD412.again2.1 (pubF_len _ _ _) (RLs.sub (S':=fun b=>b<w504.heap.size) rIt d517 cb) (RLs.sub (S':=fun b=>b<w504.heap.size) rVr d518 cb) (⟨hR160.st,(RLs.sub (S':=fun b=>b<w504.heap.size) rCg d519 cb),⟨Fl.sub (S':=fun b=>b<w504.heap.size) d520 cb,Fl.sub (S':=fun b=>b<w504.heap.size) d521 cb,Fl.sub (S':=fun b=>b<w504.heap.size) d522 cb,hS162.o32,hS162.c32,hS162.p32⟩⟩:RVp (fun b=>b<w504.heap.size) _ _ _ _ _ vr148) (show ∀ x∈([]:List It),x.data.length≤4294967296 from fun x hx=>absurd hx (by simp)) (fun v hv=>absurd hv (by simp)) (by rw [hv147.2.1];exact diff_sm (show ∀ x∈([]:List It),x.data.length≤4294967296 from fun x hx=>absurd hx (by simp)) (show ∀ x∈oneL,x.data.length≤4294967296 by decide)) (hG.ext (((((((((((((((((((((((((((((((((((((Ext.refl w).trans hx8).gn hg15).trans hx24).trans hx40).gn hg47).trans hx57).trans hx70).gn hg77).trans hx86).gn hg93).trans hx102).trans hx119).trans hx152).trans hx195).trans hx203).gn hg211).gn hg215).trans hx229).trans hx257).trans hx276).trans hx319).trans hx327).gn hg335).gn hg339).trans hx350).trans hx363).gn hg370).trans hx380).trans hx393).gn hg400).trans hx418).trans hx446).gn hg453).trans hx471).trans hx499).gn hg506))) ?_)
 rintro _ w523 ⟨c525,e526,rfl,hL527,hE528,hP529,hx524⟩
 obtain ⟨A530,k531,rfl,z532,z533⟩:∃ A k,c525=.slice A 0 k∧0≤k∧k≤9223372036854775807:=RLs.form hL527
 have hl534:RLs RIt 2 (Clip (fun b=>b<w504.heap.size∨w504.heap.size≤b) w523) w523 (vl A530 0 k531) ([]):=hL527
 obtain ⟨A535,k536,rfl,z537,z538⟩:∃ A k,e526=.slice A 0 k∧0≤k∧k≤9223372036854775807:=RLs.form hE528
 have hl539:RLs RVr 38 (Clip (fun b=>b<w504.heap.size∨w504.heap.size≤b) w523) w523 (vl A535 0 k536) ([]):=hE528
 refine ⟨_,rfl,?_⟩;intro a540 F541;clear F516;have z542:=hx524.size
 refine F541.xm rfl<|Xv (ag (dg zero32 [(vi 0),(vi 0),(vl A530 0 k531),(vl A535 0 k536)]))<|Xv (vi 420)<|fun _ F548=>?_;clear F541
 refine F548.xz fz 41 fun g549 w550 _ F556 z553 z554 b551 hx552=>?_;clear F548
 refine F556.xs rfl b551 (fun w557 b558 hg559=>?_);have z560:=hg559.size
 refine F556.xa rfl<|fun _ F562=>?_;clear F556
 refine wpList_nil (hK511 _ _ ?_);clear hK511
 have F563:=F562.k [0,1,2,3,4,5,6,7,8,9,10,11,12,13,15,16,17,19,20,21,22,23,25];clear F562
 refine wr fun K564 hK564=>?_
 refine F563.xm rfl<|Xv (.bool true)<|Xm rfl<|Xg (vi (pubE ([(115:UInt8),(101:UInt8),(101:UInt8),(100:UInt8)]) 2 0))<|Xg (.bool (decide (((pubE ([(115:UInt8),(101:UInt8),(101:UInt8),(100:UInt8)]) 2 0):Int)=(0:Int))))<|Xv (.bool (decide (((pubE ([(115:UInt8),(101:UInt8),(101:UInt8),(100:UInt8)]) 2 0):Int)=(0:Int))))<|Xm rfl<|fun _ F578=>?_;clear F563
 refine qg 7 (vi 0) F578 ((decide_eq_true (pub_u hk (by decide) (by decide)).2):decide (((pubE ([(115:UInt8),(101:UInt8),(101:UInt8),(100:UInt8)]) 2 0):Int)=(0:Int))=true) (rn_move (F578.get rfl)) fun _ F581=>?_;clear F578
 refine qg 8 (.bool true) F581 ((decide_eq_true (pub_u hk (by decide) (by decide)).2):decide (((pubE ([(115:UInt8),(101:UInt8),(101:UInt8),(100:UInt8)]) 2 0):Int)=(0:Int))=true) (rn_eql' (F581.get rfl) rfl (by decide)) fun _ F583=>?_;clear F581
 refine F583.xw (.bool true) (fun F=>rn_pickT (c_true F rfl ((decide_eq_true (pub_u hk (by decide) (by decide)).2):decide (((pubE ([(115:UInt8),(101:UInt8),(101:UInt8),(100:UInt8)]) 2 0):Int)=(0:Int))=true)) (F.get rfl))<|Xm rfl<|Xg (vi 0)<|Xg (.bool true)<|Xv (.bool true)<|Xm rfl<|Xg (vp g192)<|fun _ F597=>?_;clear F583
 have b598:=(((b514.ext hx524).ext hx552).gn hg559)
 refine F597.xgw (vi vr148.no) (fun F=>rl F rfl ((b598.rule.1 0).trans rfl))<|Xg (.bool (decide ((vr148.no:Int)=(1:Int))))<|Xv (.bool (decide ((vr148.no:Int)=(1:Int))))<|Xm rfl<|fun _ F606=>?_;clear F597
 refine qg 20 (.pointer (some ⟨g192,34,none⟩)) F606 ((decide_eq_true (congrArg Vr.no hv147.2.1)):decide ((vr148.no:Int)=(1:Int))=true) (rn_field Tryd.underlying30 rfl (by kernel_rfl) (F606.get rfl) rfl) fun _ F609=>?_;clear F606
 refine qg 21 (.pointer (some ⟨g192,34,none⟩)) F609 ((decide_eq_true (congrArg Vr.no hv147.2.1)):decide ((vr148.no:Int)=(1:Int))=true) (rn_field Tryd.underlying28 rfl (by kernel_rfl) (F609.get rfl) rfl) fun _ F611=>?_;clear F609
 refine qg 22 (vi vr148.sg.index) F611 ((decide_eq_true (congrArg Vr.no hv147.2.1)):decide ((vr148.no:Int)=(1:Int))=true) (rl F611 rfl ((b598.rule.1 34).trans ((at_app (k:=1) (byteVals_len hR160.st)).trans rfl))) fun _ F613=>?_;clear F611
 refine qg 23 (.bool (decide ((vr148.sg.index:Int)=(0:Int)))) F613 ((decide_eq_true (congrArg Vr.no hv147.2.1)):decide ((vr148.no:Int)=(1:Int))=true) (rn_eql (F613.get rfl) rfl) fun _ F615=>?_;clear F613
 refine F615.xw (.bool (decide ((vr148.sg.index:Int)=(0:Int)))) (fun F=>rn_pickT (c_true F rfl ((decide_eq_true (congrArg Vr.no hv147.2.1)):decide ((vr148.no:Int)=(1:Int))=true)) (F.get rfl))<|Xm rfl<|fun _ F619=>?_;clear F615
 refine qg 26 (vi 0) F619 ((decide_eq_true (version_idx hk (n:=0) (by decide) hv147.2.1)):decide ((vr148.sg.index:Int)=(0:Int))=true) (rn_move (F619.get rfl)) fun _ F622=>?_;clear F619
 refine qg 27 (.bool true) F622 ((decide_eq_true (version_idx hk (n:=0) (by decide) hv147.2.1)):decide ((vr148.sg.index:Int)=(0:Int))=true) (rn_eql' (F622.get rfl) rfl (by decide)) fun _ F624=>?_;clear F622
 refine F624.xw (.bool true) (fun F=>rn_pickT (c_true F rfl ((decide_eq_true (version_idx hk (n:=0) (by decide) hv147.2.1)):decide ((vr148.sg.index:Int)=(0:Int))=true)) (F.get rfl))<|Xm rfl<|Xg (vi 0)<|Xg (.bool true)<|Xv (.bool true)<|Xm rfl<|Xg (vi 0)<|Xg (.bool true)<|Xv (.bool true)<|Xm rfl<|Xg (vi 40)<|Xg (.bool true)<|Xv (.bool true)<|Xm rfl<|fun _ F652=>?_;clear F624
 have b653:=(((((((((b406.ext hx418).ext hx446).gn hg453).ext hx471).ext hx499).gn hg506).ext hx524).ext hx552).gn hg559)
 refine F652.xgw (ag (dg (pubF ([(115:UInt8),(101:UInt8),(101:UInt8),(100:UInt8)]) 2 0) [(vi 2),(vi 0),v0,v0])) (fun F=>rb F rfl b653 (hk:=len_dig (pubF_len _ _ _)))<|fun _ F655=>?_;clear F652
 refine wpl_op (i:=43) rfl (o_call F655 rfl (wanted_guard rfl rfl rfl F655 rfl rfl rfl) rfl rfl (rn_call (args1 (F655.get rfl)) rfl (by kernel_rfl)) (wants_fo (pubF ([(115:UInt8),(101:UInt8),(101:UInt8),(100:UInt8)]) 2 0) 0 ([]) ([]) _ 1 rfl (pubF_len _ _ _) (RLs.nil _:RLs RIt 2 (fun _=>False) _ _ _) (RLs.nil _:RLs RVr 38 (fun _=>False) _ _ _) (by omega)) ?_)
 rintro _ w656 ⟨rfl,hx657⟩
 refine ⟨_,rfl,?_⟩;intro a658 F659;clear F655;have z660:=hx657.size
 refine F659.xg (.bool true)<|Xv (.bool true)<|Xa rfl<|fun _ F666=>?_;clear F659
 refine wpList_nil (hK564 _ _ ?_);clear hK564
 have F667:=F666.k [0,1,2,3,4,5,6,7,8,9,10,11,12,13,15,16,17,19,20,21,22,23,25,26];clear F666
 refine wr fun K668 hK668=>?_
 refine F667.xm rfl<|Xm rfl<|Xg (vi 0)<|Xg (.bool true)<|Xv (.bool true)<|Xm rfl<|Xg (.pointer (some ⟨g443,33,none⟩))<|fun _ F682=>?_;clear F667
 have b683:=(((((((b452.ext hx471).ext hx499).gn hg506).ext hx524).ext hx552).gn hg559).ext hx657)
 refine F682.xgw (vi 0) (fun F=>rl F rfl ((b683.rule.1 33).trans ((at_app (k:=1) (byteVals_len (pubF_len _ _ _))).trans rfl)))<|Xg (.bool true)<|Xv (.bool true)<|Xm rfl<|Xg (.pointer (some ⟨g443,35,none⟩))<|Xgw (vl A429 1 k430) (fun F=>rl F rfl ((b683.rule.1 35).trans ((at_app (k:=3) (byteVals_len (pubF_len _ _ _))).trans rfl)))<|Xg (vi 1)<|Xg (.bool true)<|Xv (.bool true)<|Xm rfl<|Xg (vi 0)<|Xg (.bool true)<|Xv (.bool true)<|Xm rfl<|Xg (.pointer (some ⟨g496,33,none⟩))<|fun _ F713=>?_;clear F682
 have b714:=((((b505.ext hx524).ext hx552).gn hg559).ext hx657)
 refine F713.xgw (vi 2) (fun F=>rl F rfl ((b714.rule.1 33).trans ((at_app (k:=1) (byteVals_len (pubF_len _ _ _))).trans rfl)))<|Xg (.bool true)<|Xv (.bool true)<|Xm rfl<|Xg (.pointer (some ⟨g496,34,none⟩))<|Xgw (vl A477 0 k478) (fun F=>rl F rfl ((b714.rule.1 34).trans ((at_app (k:=2) (byteVals_len (pubF_len _ _ _))).trans rfl)))<|Xg (vi 0)<|Xg (.bool true)<|Xv (.bool true)<|Xm rfl<|Xg (.pointer (some ⟨g496,35,none⟩))<|Xgw (vl A482 0 k483) (fun F=>rl F rfl ((b714.rule.1 35).trans ((at_app (k:=3) (byteVals_len (pubF_len _ _ _))).trans rfl)))<|Xg (vi 0)<|Xg (.bool true)<|Xv (.bool true)<|Xm rfl<|Xg (vi 420)<|Xg (.bool true)<|Xv (.bool true)<|Xm rfl<|fun _ F754=>?_;clear F713
 have b755:=(((((((((((((b376.ext hx380).ext hx393).gn hg400).ext hx418).ext hx446).gn hg453).ext hx471).ext hx499).gn hg506).ext hx524).ext hx552).gn hg559).ext hx657)
 refine F754.xgw (.agg (byteVals (pubF ([(115:UInt8),(101:UInt8),(101:UInt8),(100:UInt8)]) 2 0)).toArray) (fun F=>rb F rfl b755 (hk:=byteVals_len (pubF_len _ _ _)))<|Xgw (ag vz) (fun F=>rn_build (parts0 ) (by kernel_rfl))<|fun _ F759=>?_;clear F754
 refine wpl_op (i:=44) rfl (o_call F759 rfl (wanted_guard rfl rfl rfl F759 rfl rfl rfl) rfl rfl (rn_call (args3 (F759.get rfl) rfl (F759.get rfl)) rfl (by kernel_rfl)) (verify_nil (pubF ([(115:UInt8),(101:UInt8),(101:UInt8),(100:UInt8)]) 2 0) _ (pubF_len _ _ _) (hG.ext (((((((((((((((((((((((((((((((((((((((((Ext.refl w).trans hx8).gn hg15).trans hx24).trans hx40).gn hg47).trans hx57).trans hx70).gn hg77).trans hx86).gn hg93).trans hx102).trans hx119).trans hx152).trans hx195).trans hx203).gn hg211).gn hg215).trans hx229).trans hx257).trans hx276).trans hx319).trans hx327).gn hg335).gn hg339).trans hx350).trans hx363).gn hg370).trans hx380).trans hx393).gn hg400).trans hx418).trans hx446).gn hg453).trans hx471).trans hx499).gn hg506).trans hx524).trans hx552).gn hg559).trans hx657))) ?_)
 rintro _ w760 ⟨rfl,hx761⟩
 refine ⟨_,rfl,?_⟩;intro a762 F763;clear F759;have z764:=hx761.size
 refine F763.xg (.bool true)<|Xv (.bool true)<|Xa rfl<|fun _ F770=>?_;clear F763
 refine wpList_nil (hK668 _ _ ?_);clear hK668
 have F771:=F770.k [0,1,2,3,4,5,6,7,8,9,10,11,12,13,15,16,17,19,20,21,22,23,25,26];clear F770
 refine wp_ret ?_
 refine ret1 F771 rfl rfl ?_
 exact ⟨rfl,((((((((((((((((((((((((((((((((((((((((((Ext.refl w).trans hx8).gn hg15).trans hx24).trans hx40).gn hg47).trans hx57).trans hx70).gn hg77).trans hx86).gn hg93).trans hx102).trans hx119).trans hx152).trans hx195).trans hx203).gn hg211).gn hg215).trans hx229).trans hx257).trans hx276).trans hx319).trans hx327).gn hg335).gn hg339).trans hx350).trans hx363).gn hg370).trans hx380).trans hx393).gn hg400).trans hx418).trans hx446).gn hg453).trans hx471).trans hx499).gn hg506).trans hx524).trans hx552).gn hg559).trans hx657).trans hx761)⟩

end Go.Proofs.YtihgmaoghbnnaaaDoor

namespace Go.Proofs.YtihgmaoghbnnaaaDoor
open Go.RowKit

variable {S S':Nat→Prop}

theorem few_sm {l:List It} (h:fewI l):∀ x∈l,x.data.length≤4294967296:=fun x hx=>by have:=(h.2 x hx).2;omega
theorem fewv_sm {v:Vr} (h:fewV v):∀ x∈v.chs,x.data.length≤4294967296:=fun x hx=>by have:=(h.1.1.1.2 x hx).2;omega
theorem is_one {S:Nat→Prop} {w:World} {g:Nat} {t:TypeId} {u:Value} {a:List It} (h:Blk w g t [u]) (h1:u.oneCell'=true) (ha:RLs RIt 2 S w u a):RLs RIs 1 (fun _=>True) w (vl (some ⟨g,0,none⟩) 1 1) [a] :=
 RLs.one h rfl (fun z hz=>by rw [List.mem_singleton.1 hz];exact h1) trivial ⟨u,rfl,ha.sub rIt fun _ _=>trivial⟩
theorem seed_ok (seed:UInt8):1≤[seed].length∧[seed].length≤64:=⟨by simp,by simp⟩
theorem chain_one (seed:UInt8) {a:List It} (ha:checkE a=0) (hl:a.length≤65536):∃ v1 v2,chainL [seed] 0 [] [a]=[v1]∧Duo (pubF [seed] 2 0) a [] v1 v2∧v1.sg.index=0 :=
 ⟨_,_,rfl,duo_of (seed_ok seed) ha rfl (by simpa using hl) rfl rfl,version_idx (a:=[]) (b:=a) (seed_ok seed) (n:=0) (by omega) (version_good (seed_ok seed) (n:=0) (by omega) check_nil ha (by simp;omega)).2.1⟩
theorem hss_one {a:List It} (ha:checkE a=0) (hf:fewI a):∀ s∈[a],checkE s=0∧s.length≤12∧∀ x∈s,x.data.length≤4294967296:=fun s hs=>by
 rw [List.mem_singleton.1 hs];exact ⟨ha,hf.1,few_sm hf⟩
theorem El39:El Tryd.prog 39 22 v0 1 24:=⟨Tryd.underlying39,by kernel_rfl,rfl,by decide⟩
end Go.Proofs.YtihgmaoghbnnaaaDoor

namespace Go.Proofs.YtihgmaoghbnnaaaDoor
open Go.RowKit

variable {S S':Nat→Prop}

theorem drain_le {g:Fo} (l:List Vr):g.no≤(drain g l).no:=by
 induction l generalizing g with
 | nil=>exact Int.le_refl _
 | cons v l ih =>
  unfold drain
  split
  ·rename_i h
   refine Int.le_trans ?_ (ih (g:=stepF g v))
   unfold stepF
   split
   ·show g.no≤v.no;omega
   ·exact Int.le_refl _
  ·exact Int.le_refl _
/-- what a follower that takes another version shows -/
theorem stranger {pub:List UInt8} {a:List It} {v:Vr} (hz:recE (fo pub 1 a []) v=0):1<v.no∧1≤(recF (fo pub 1 a []) v).no:=by
 have h1:¬ v.no≤1:=fun q=>by
  unfold recE at hz
  split at hz
  ·rename_i h;exact h hz
  ·split at hz
   ·rename_i h;exact h hz
   ·rw [if_pos (.inr q)] at hz;cases hz
 refine ⟨by omega,?_⟩
 unfold recF
 rw [if_neg (fun q=>q hz)]
 split
 ·exact Int.le_refl _
 ·refine Int.le_trans ?_ (drain_le _)
  unfold stepF
  split
  ·show 1≤v.no;omega
  ·exact Int.le_refl _
theorem samefo_nil {S1 S2:Nat→Prop} {c e:Value} (x:Fo) (hx:x=foNil) (w:World) (h1:RLs RIt 2 S1 w c x.items) (h2:RLs RVr 38 S2 w e x.early) :
  Calls Tryd.prog 16 #[ag (fcs x.pub x.many x.no c e),ag (fcs zero32 0 0 v0 v0)] w (fun en w'=>en=.returned (.bool true)∧Ext w w'):=by
 subst hx
 exact samefo_fo zero32 0 0 [] [] w zero32_len h1 h2 (RLs.nil w:RLs RIt 2 (fun _=>False) w _ _) (RLs.nil w:RLs RVr 38 (fun _=>False) w _ _)
set_option maxRecDepth 100000 in
set_option maxHeartbeats 1000000 in
theorem stranger_any (seed:UInt8) (A:Option Addr) (c:Nat) (a:List It) (C:Option Addr) (cc:Nat) (O:Option Addr) (oc:Nat) (E:Option Addr) (ec:Nat) (P:Option Addr) (pc:Nat) (v:Vr) (w:World) (h:RLs RIt 2 S w (vl A a.length c) a) (hv:RVp S w (vl C v.chs.length cc) (vl O v.sg.op.length oc) (vl E v.sg.cl.length ec) (vl P v.sg.path.length pc) v) (hG:Glob w) :
  Calls Tryd.prog 3 #[.int .u8 (seed.toNat:Nat),.slice A a.length c,(ag ((vi v.no)::dg v.state [(vl C v.chs.length cc),(vi v.sg.index),(vl O v.sg.op.length oc),(vl E v.sg.cl.length ec),(vl P v.sg.path.length pc)]))] w (fun en w'=>en=.returned (.bool true)∧Ext w w'):=by
 have hvc:=RVp.subB (S':=Clip S w) hv (fun _ hb hs=>⟨hs,hb⟩)
 obtain ⟨-,hvc1,hvc2⟩:=RLs.at hvc.chs;have hvc3:=(Fl.cel hvc.sg.op).2.1;have hvc4:=(Fl.cel hvc.sg.cl).2.1;have hvc5:=(Fl.cel hvc.sg.path).2.1
 have hc:RLs RIt 2 (Clip S w) w (vl A a.length c) a:=RLs.clip rIt h
 obtain ⟨-,hck,hcm⟩:=RLs.at h
 refine calls_enter Tryd.func3 rfl rfl rfl fun _ hF=>?_
 refine wr fun K1 hK1=>?_
 refine hF.xb rfl fun g2 w3 _ F9 z6 z7 b4 hx5=>?_;clear hF
 refine F9.xv (.bool false)<|fun _ F11=>?_;clear F9
 refine wpList_nil (hK1 _ _ ?_);clear hK1
 refine wp_seq_k fun K12 hK12=>?_
 refine wr fun K13 hK13=>?_
 refine wpl_op (i:=0) rfl (o_call F11 rfl rfl rfl rfl (rn_call (args0 ) rfl (by kernel_rfl)) (sane42_any _ (hG.ext ((Ext.refl w).trans hx5))) ?_)
 rintro _ w14 ⟨rfl,hx15⟩
 refine ⟨_,rfl,?_⟩;intro a16 F17;clear F11;have z18:=hx15.size
 refine F17.xw (.bool false) (fun F=>rn_not' (F.get rfl) rfl)<|fun _ F20=>?_;clear F17
 refine wpList_nil (hK13 _ _ ?_);clear hK13
 refine F20.cf ?_
 refine wp_skip ?_
 refine hK12 _ _ ?_;clear hK12
 refine wp_seq_k fun K21 hK21=>?_
 refine wr fun K22 hK22=>?_
 refine F20.xm rfl<|fun _ F24=>?_;clear F20
 have d25:=(RLs.ext rIt (RLs.ext rIt hc hx5) hx15)
 refine F24.xc (few40_at (v:=(vl A a.length c)) a _ d25) ?_
 rintro _ w26 ⟨rfl,hx27⟩
 refine ⟨_,rfl,?_⟩;intro a28 F29;clear F24;have z30:=hx27.size
 refine F29.xw (.bool (!(decide (fewI a)))) (fun F=>rn_not' (F.get rfl) rfl)<|Xm rfl<|fun _ F34=>?_;clear F29
 by_cases hc35:fewI a
 ·skip
  refine F34.xg (vl A a.length c)<|fun _ F37=>?_;clear F34
  have d38:=(RLs.ext rIt (RLs.ext rIt (RLs.ext rIt hc hx5) hx15) hx27)
  refine wpl_op (i:=5) rfl (o_call F37 rfl (wanted_guard rfl rfl rfl F37 rfl (not_t (decide_eq_true hc35)) rfl) rfl rfl (rn_call (args1 (F37.get rfl)) rfl (by kernel_rfl)) (pcheck_at (v:=(vl A a.length c)) a _ d38) ?_)
  rintro _ w39 ⟨rfl,hx40⟩
  refine ⟨_,rfl,?_⟩;intro a41 F42;clear F37;have z43:=hx40.size
  refine F42.xg (.bool (decide (((checkE a):Int)≠(0:Int))))<|Xv (.bool (decide (((checkE a):Int)≠(0:Int))))<|Xm rfl<|fun _ F49=>?_;clear F42
  by_cases hc50:((checkE a):Int)≠(0:Int)
  ·skip
   refine F49.xu<|Xu<|Xu<|Xv (.bool true)<|fun _ F58=>?_;clear F49
   refine wpList_nil (hK22 _ _ ?_);clear hK22
   have F59:=F58.k [0,1,2,5,6,17,30];clear F58
   refine F59.ct ?_
   refine wr fun K60 hK60=>?_
   refine F59.xv (.bool true)<|fun _ F62=>?_;clear F59
   refine wpList_nil (hK60 _ _ ?_);clear hK60
   refine wp_ret (ret_then ?_)
   refine ret1 F62 rfl rfl ?_
   exact ⟨rfl,(((((Ext.refl w).trans hx5).trans hx15).trans hx27).trans hx40)⟩
  have b63:=(((b4.ext hx15).ext hx27).ext hx40)
  refine F49.xgw (ag ((vi v.no)::dg v.state [(vl C v.chs.length cc),(vi v.sg.index),(vl O v.sg.op.length oc),(vl E v.sg.cl.length ec),(vl P v.sg.path.length pc)])) (fun F=>rb F rfl b63 (hk:=len_dig1 hvc.st))<|fun _ F65=>?_;clear F49
  have d66:=(RLs.ext rCg (RLs.ext rCg (RLs.ext rCg (RLs.ext rCg hvc.chs hx5) hx15) hx27) hx40)
  have d67:=((((hvc.sg.op.ext hx5).ext hx15).ext hx27).ext hx40)
  have d68:=((((hvc.sg.cl.ext hx5).ext hx15).ext hx27).ext hx40)
  have d69:=((((hvc.sg.path.ext hx5).ext hx15).ext hx27).ext hx40)
  refine wpl_op (i:=10) rfl (o_call F65 rfl (wanted_guard rfl rfl rfl F65 rfl (decide_eq_false hc50) rfl) rfl rfl (rn_call (args1 (F65.get rfl)) rfl (by kernel_rfl)) (fewv_at v _ (⟨hvc.st,RLs.sub (S':=fun _=>True) rCg d66 fun _ _=>trivial,⟨Fl.any d67,Fl.any d68,Fl.any d69,hvc.sg.o32,hvc.sg.c32,hvc.sg.p32⟩⟩:RVp (fun _=>True) _ _ _ _ _ v)) ?_)
  rintro _ w70 ⟨rfl,hx71⟩
  refine ⟨_,rfl,?_⟩;intro a72 F73;clear F65;have z74:=hx71.size
  refine F73.xgw (.bool (!(decide (fewV v)))) (fun F=>rn_not' (F.get rfl) rfl)<|Xv (.bool (!(decide (fewV v))))<|fun _ F78=>?_;clear F73
  refine wpList_nil (hK22 _ _ ?_);clear hK22
  have F79:=F78.k [0,1,2,5,6,17,30];clear F78
  by_cases hc80:fewV v
  ·skip
   refine F79.cf ?_
   refine wp_skip ?_
   refine hK21 _ _ ?_;clear hK21
   refine wr fun K81 hK81=>?_
   refine F79.xm rfl<|Xm rfl<|fun _ F85=>?_;clear F79
   refine F85.xn (fun g=>(vl (some ⟨g,0,none⟩) 1 1)) [(vl A a.length c)] 22 (fun F=>rn_buildSlice (parts1 (F.get rfl)) (build_wholeE (vs:=[(vl A a.length c)]) El39 rfl rfl (fun z0 hz0=>by rw [List.mem_singleton.1 hz0];rfl) (by decide) (by decide) (by simp [Value.cells]))) fun g86 w87 _ F93 z90 z91 b88 hx89=>?_;clear F85
   have d95:=(RLs.ext rIt (RLs.ext rIt (RLs.ext rIt (RLs.ext rIt (RLs.ext rIt (RLs.ext rIt hc hx5) hx15) hx27) hx40) hx71) hx89)
   have hl94:RLs RIs 1 (Clip (fun _=>True) w87) w87 (vl (some ⟨g86,0,none⟩) 1 1) [a]:=RLs.clip rIs (is_one b88 rfl d95)
   have hAa:checkE a=0:=Decidable.not_not.1 (of_decide_eq_false (decide_eq_false hc50))
   have hFa:fewI a:=of_decide_eq_true (decide_eq_true hc35);have hFan:=hFa.1
   obtain ⟨v1,v2,hcl,hD,hidx⟩:=chain_one seed hAa (by omega)
   refine wpl_op (i:=3) rfl (o_call F93 rfl rfl rfl rfl (rn_call (args2 (F93.get rfl) (F93.get rfl)) rfl (by kernel_rfl)) (chain_at (v:=(vl (some ⟨g86,0,none⟩) 1 1)) seed [a] _ hl94 (hss_one hAa hFa) (by simp) (hG.ext (((((((Ext.refl w).trans hx5).trans hx15).trans hx27).trans hx40).trans hx71).trans hx89))) ?_)
   rw [hcl]
   rintro _ w96 ⟨A98,n100,c99,rfl,hL101,hx97⟩
   obtain ⟨rfl,z103,z104⟩:n100=1∧n100≤c99∧c99≤9223372036854775807:=RLs.at hL101
   refine ⟨_,rfl,?_⟩;intro a105 F106;clear F93;have z107:=hx97.size
   have hl102:RLs RVr 38 (Clip (fun _=>True) w96) w96 (vl A98 1 c99) [v1]:=RLs.subB rVr hL101 (fun b hb _=>⟨trivial,hb⟩)
   refine F106.xm rfl<|Xv (.agg (byteVals (pubF [seed] 2 0)).toArray)<|Xv (vl A98 1 c99)<|Xv (.bool true)<|fun _ F115=>?_;clear F106
   refine F115.xz (byteVals (List.replicate 32 0)) 24 fun g116 w117 _ F123 z120 z121 b118 hx119=>?_;clear F115
   refine F123.xs rfl b118 (fun w124 b125 hg126=>?_) (hk:=byteVals_len (pubF_len _ _ _));have z127:=hg126.size
   refine F123.xa rfl<|Xa rfl<|fun _ F131=>?_;clear F123
   refine wpList_nil (hK81 _ _ ?_);clear hK81
   have F132:=F131.k [0,1,2,5,6,17,30,7,8,9];clear F131
   refine wr fun K133 hK133=>?_
   refine F132.xw (.agg (byteVals (pubF [seed] 2 0)).toArray) (fun F=>rb F rfl b125 (hk:=byteVals_len (pubF_len _ _ _)))<|fun _ F135=>?_;clear F132
   refine F135.xc (join_ok (pubF [seed] 2 0) _ (pubF_len _ _ _)) ?_
   rintro _ w136 ⟨rfl,hx137⟩
   refine ⟨_,rfl,?_⟩;intro a138 F139;clear F135;have z140:=hx137.size
   refine F139.xm rfl<|Xv (ag (dg (pubF [seed] 2 0) [(vi 2),(vi 0),v0,v0]))<|Xv (vi 0)<|fun _ F146=>?_;clear F139
   refine F146.xz fz 41 fun g147 w148 _ F154 z151 z152 b149 hx150=>?_;clear F146
   refine F154.xs rfl b149 (fun w155 b156 hg157=>?_) (hk:=len_dig (pubF_len _ _ _));have z158:=hg157.size
   refine F154.xa rfl<|fun _ F160=>?_;clear F154
   refine wpList_nil (hK133 _ _ ?_);clear hK133
   have F161:=F160.k [0,1,2,5,6,17,30,7,8,9,10,11];clear F160
   refine wp_seq_k fun K162 hK162=>?_
   refine wr fun K163 hK163=>?_
   refine F161.xm rfl<|Xw (.bool false) (fun F=>rn_not' (F.get rfl) rfl)<|Xm rfl<|Xg (vl A98 1 c99)<|Xg (vi 1)<|Xg (.bool false)<|Xv (.bool false)<|Xm rfl<|Xg (vi 0)<|Xg (.bool false)<|Xv (.bool false)<|fun _ F185=>?_;clear F161
   refine wpList_nil (hK163 _ _ ?_);clear hK163
   have F186:=F185.k [0,1,2,5,6,17,30,7,8,9,10,11,54];clear F185
   refine F186.cf ?_
   refine wp_skip ?_
   refine hK162 _ _ ?_;clear hK162
   refine wp_meet (fun a' W=>∃ (xg259:Nat) (xA239:Option Addr) (xk240:Nat) (xA244:Option Addr) (xk245:Nat),Sl 96 [(0,(.int .u8 (seed.toNat:Nat))),(1,(vl A a.length c)),(2,(ag ((vi v.no)::dg v.state [(vl C v.chs.length cc),(vi v.sg.index),(vl O v.sg.op.length oc),(vl E v.sg.cl.length ec),(vl P v.sg.path.length pc)]))),(5,(vp g2)),(6,(.bool false)),(17,(.bool false)),(30,(.bool (!(decide (fewV v))))),(7,(vp g116)),(8,(vl A98 1 c99)),(9,(.bool true)),(10,(vp g147)),(11,(vi 0)),(54,(.bool false)),(12,(.pointer (some ⟨xg259,0,none⟩))),(13,(vi 0))] a'∧Ext w155 W∧Blk W xg259 41 (dg (pubF [seed] 2 0) [(vi 2),(vi 1),(vl xA239 a.length xk240),(vl xA244 0 xk245)])∧w155.heap.size≤xg259∧RLs RIt 2 (Clip (fun _=>True) W) W (vl xA239 a.length xk240) a∧RLs RVr 38 (Clip (fun _=>True) W) W (vl xA244 0 xk245) ([])) ?_ ?_
   ·skip
    have hx188:∃ W,w155.drew=W∧Ext w155 W:=⟨_,rfl,(Ext.refl _).drew⟩
    obtain ⟨w187,e189,hx188⟩:=hx188
    have z190:=hx188.size
    refine any_start (fun W=>Ext w187 W∧Blk W g147 41 (dg (pubF [seed] 2 0) [(vi 2),(vi 0),v0,v0])) (fun i=>i==9) 11 (.replicate 11 false) rfl rfl rfl ?_
    rw [e189];clear e189
    have b192:=(b156.ext hx188)
    have hS191:Ext w187 w187∧Blk w187 g147 41 (dg (pubF [seed] 2 0) [(vi 2),(vi 0),v0,v0]):=⟨(Ext.refl w187),b192⟩
    refine F186.ys 0 (ag (dg (pubF [seed] 2 0) [(vi 2),(vi 0),v0,v0])) rfl hS191 (fun F W hW=>rb F rfl hW.2 (hk:=len_dig (pubF_len _ _ _)))<|Ym 1 rfl<|fun _ F196=>?_;clear F186
    have d197:=(RLs.pres rVr hl102 (((((((Pres.refl w96).ext hx119).gc hg126).ext hx137).ext hx150).gc hg157).ext hx188))
    obtain ⟨b198,o199,x200,cs201,hA202,hi203,hk204,hc205,hr206⟩:=RLs.get d197 (by omega:0<1)
    obtain rfl:v1=x200:=Option.some.inj ((rfl:([v1]:List Vr)[0]?=some v1).symm.trans hi203)
    obtain ⟨v207,v208,v209,v210,rfl,hv211⟩:=hr206
    obtain ⟨A212,c213,rfl,z214,z215⟩:=RLs.form hv211.chs
    obtain ⟨A216,c217,rfl,z218,z219⟩:=Fl.form hv211.sg.op
    obtain ⟨A220,c221,rfl,z222,z223⟩:=Fl.form hv211.sg.cl
    obtain ⟨A224,c225,rfl,z226,z227⟩:=Fl.form hv211.sg.path
    refine F196.yw 2 (.pointer (some ⟨b198,o199+0*38,none⟩)) rfl (fun F W=>rn_indexE Tryd.underlying36 inf30 ((F.get rfl).trans (by rw [hA202])) rfl (by omega:(0:Int)≤0) (by omega:(0:Int)<((1:Nat):Int)) (by omega))<|Ys 3 (ag ((vi v1.no)::dg v1.state [(vl A212 v1.chs.length c213),(vi v1.sg.index),(vl A216 v1.sg.op.length c217),(vl A220 v1.sg.cl.length c221),(vl A224 v1.sg.path.length c225)])) rfl hS191 (fun F W hW=>rn_loadN (cs:=((vi v1.no)::dg v1.state [(vl A212 v1.chs.length c213),(vi v1.sg.index),(vl A216 v1.sg.op.length c217),(vl A220 v1.sg.cl.length c221),(vl A224 v1.sg.path.length c225)])) (F.get rfl) Tryd.underlying30 rfl (sk inf30 (len_dig1 hv211.st)) (fun j u hu=>Ext.keep ((Ext.refl w187).trans hW.1) (hc205 j u hu)))<|fun _ F231=>?_;clear F196
    refine any_two (i:=4) (k:=8) (by decide +kernel) rfl rfl ?_ ?_
    ·skip
     refine o_call F231 rfl rfl rfl rfl (rn_call (args2 (F231.get rfl) (F231.get rfl)) rfl (by kernel_rfl)) (recv_at (fun b=>b<w155.heap.size) (pubF [seed] 2 0) 0 ([]) ([]) v1 _ (pubF [seed] 2 0) 2 1 a ([]) 0 hD.r1 (pubF_len _ _ _) (RLs.sub (S':=fun b=>b<w155.heap.size) rIt (RLs.nil _:RLs RIt 2 (fun _=>False) _ _ _) cb) (RLs.sub (S':=fun b=>b<w155.heap.size) rVr (RLs.nil _:RLs RVr 38 (fun _=>False) _ _ _) cb) (⟨hv211.st,(RLs.sub (S':=fun b=>b<w155.heap.size) rCg hv211.chs cb),⟨Fl.sub (S':=fun b=>b<w155.heap.size) hv211.sg.op cb,Fl.sub (S':=fun b=>b<w155.heap.size) hv211.sg.cl cb,Fl.sub (S':=fun b=>b<w155.heap.size) hv211.sg.path cb,hv211.sg.o32,hv211.sg.c32,hv211.sg.p32⟩⟩:RVp (fun b=>b<w155.heap.size) _ _ _ _ _ v1) (show ∀ x∈([]:List It),x.data.length≤4294967296 from fun x hx=>absurd hx (by simp)) (fun v hv=>absurd hv (by simp)) (by rw [hD.c1];exact diff_sm (show ∀ x∈([]:List It),x.data.length≤4294967296 from fun x hx=>absurd hx (by simp)) (few_sm hFa)) (hG.ext ((((((((((((((Ext.refl w).trans hx5).trans hx15).trans hx27).trans hx40).trans hx71).trans hx89).trans hx97).trans hx119).gn hg126).trans hx137).trans hx150).gn hg157).trans hx188))) ?_
     rintro _ w232 ⟨c234,e235,rfl,hL236,hE237,hP238,hx233⟩
     obtain ⟨A239,k240,rfl,z241,z242⟩:∃ A k,c234=.slice A a.length k∧a.length≤k∧k≤9223372036854775807:=RLs.form hL236
     have hl243:RLs RIt 2 (Clip (fun b=>b<w155.heap.size∨w187.heap.size≤b) w232) w232 (vl A239 a.length k240) a:=hL236
     obtain ⟨A244,k245,rfl,z246,z247⟩:∃ A k,e235=.slice A 0 k∧0≤k∧k≤9223372036854775807:=RLs.form hE237
     have hl248:RLs RVr 38 (Clip (fun b=>b<w155.heap.size∨w187.heap.size≤b) w232) w232 (vl A244 0 k245) ([]):=hE237
     refine ⟨_,rfl,?_⟩;intro a249 F250;clear F231;have z251:=hx233.size
     have b252:=(b192.ext hx233)
     refine ⟨fun _ _=>⟨((Ext.refl w187).trans hx233),b252⟩,?_⟩
     refine F250.ym 5 rfl<|Yv 6 (ag (dg (pubF [seed] 2 0) [(vi 2),(vi 1),(vl A239 a.length k240),(vl A244 0 k245)])) rfl<|Yv 7 (vi 0) rfl<|fun _ F258=>?_;clear F250
     refine ao 8 rfl (F258.oz fz 41 rfl fun g259 w260 _ F266 z263 z264 b261 hx262=>?_);clear F258
     have b267:=(b252.ext hx262)
     refine ⟨fun _ _=>⟨(((Ext.refl w187).trans hx233).trans hx262),b267⟩,?_⟩
     refine ao 9 rfl (F266.os rfl b261 (fun w268 b269 hg270=>an ?_) (hk:=len_dig (pubF_len _ _ _)));have z271:=hg270.size
     refine F266.yv 10 (vi 0) rfl<|fun _ F273=>?_;clear F266
     refine nn ?_
     have d274:=(RLs.pres rIt hl243 (((Pres.refl w232).ext hx262).gc hg270))
     have d275:=(RLs.pres rVr hl248 (((Pres.refl w232).ext hx262).gc hg270))
     exact ⟨g259,A239,k240,A244,k245,(((((((((((((((F273.nil.c F273 13 rfl).c F273 12 rfl).c F273 54 rfl).c F273 11 rfl).c F273 10 rfl).c F273 9 rfl).c F273 8 rfl).c F273 7 rfl).c F273 30 rfl).c F273 17 rfl).c F273 6 rfl).c F273 5 rfl).c F273 2 rfl).c F273 1 rfl).c F273 0 rfl),(((((Ext.refl w155).trans hx188).trans hx233).trans hx262).gn hg270),b269,(by omega),(RLs.subB rIt d274 (fun b hb _=>⟨trivial,hb⟩)),(RLs.subB rVr d275 (fun b hb _=>⟨trivial,hb⟩))⟩
    refine F231.oz fz 41 rfl fun g274 w275 _ F281 z278 z279 b276 hx277=>?_;clear F231
    have b282:=(b192.ext hx277)
    refine ⟨fun _ _=>⟨((Ext.refl w187).trans hx277),b282⟩,?_⟩
    refine ao 4 rfl ?_
    have d283:=(RLs.ext rCg hv211.chs hx277)
    have d284:=(hv211.sg.op.ext hx277)
    have d285:=(hv211.sg.cl.ext hx277)
    have d286:=(hv211.sg.path.ext hx277)
    refine o_call F281 rfl rfl rfl rfl (rn_call (args2 (F281.get rfl) (F281.get rfl)) rfl (by kernel_rfl)) (recv_at (fun b=>b<w155.heap.size) (pubF [seed] 2 0) 0 ([]) ([]) v1 _ (pubF [seed] 2 0) 2 1 a ([]) 0 hD.r1 (pubF_len _ _ _) (RLs.sub (S':=fun b=>b<w155.heap.size) rIt (RLs.nil _:RLs RIt 2 (fun _=>False) _ _ _) cb) (RLs.sub (S':=fun b=>b<w155.heap.size) rVr (RLs.nil _:RLs RVr 38 (fun _=>False) _ _ _) cb) (⟨hv211.st,(RLs.sub (S':=fun b=>b<w155.heap.size) rCg d283 cb),⟨Fl.sub (S':=fun b=>b<w155.heap.size) d284 cb,Fl.sub (S':=fun b=>b<w155.heap.size) d285 cb,Fl.sub (S':=fun b=>b<w155.heap.size) d286 cb,hv211.sg.o32,hv211.sg.c32,hv211.sg.p32⟩⟩:RVp (fun b=>b<w155.heap.size) _ _ _ _ _ v1) (show ∀ x∈([]:List It),x.data.length≤4294967296 from fun x hx=>absurd hx (by simp)) (fun v hv=>absurd hv (by simp)) (by rw [hD.c1];exact diff_sm (show ∀ x∈([]:List It),x.data.length≤4294967296 from fun x hx=>absurd hx (by simp)) (few_sm hFa)) (hG.ext (((((((((((((((Ext.refl w).trans hx5).trans hx15).trans hx27).trans hx40).trans hx71).trans hx89).trans hx97).trans hx119).gn hg126).trans hx137).trans hx150).gn hg157).trans hx188).trans hx277))) ?_
    rintro _ w287 ⟨c289,e290,rfl,hL291,hE292,hP293,hx288⟩
    obtain ⟨A294,k295,rfl,z296,z297⟩:∃ A k,c289=.slice A a.length k∧a.length≤k∧k≤9223372036854775807:=RLs.form hL291
    have hl298:RLs RIt 2 (Clip (fun b=>b<w155.heap.size∨w275.heap.size≤b) w287) w287 (vl A294 a.length k295) a:=hL291
    obtain ⟨A299,k300,rfl,z301,z302⟩:∃ A k,e290=.slice A 0 k∧0≤k∧k≤9223372036854775807:=RLs.form hE292
    have hl303:RLs RVr 38 (Clip (fun b=>b<w155.heap.size∨w275.heap.size≤b) w287) w287 (vl A299 0 k300) ([]):=hE292
    refine ⟨_,rfl,?_⟩;intro a304 F305;clear F281;have z306:=hx288.size
    have b307:=(b282.ext hx288)
    refine ⟨fun _ _=>⟨(((Ext.refl w187).trans hx277).trans hx288),b307⟩,?_⟩
    refine F305.ym 5 rfl<|Yv 6 (ag (dg (pubF [seed] 2 0) [(vi 2),(vi 1),(vl A294 a.length k295),(vl A299 0 k300)])) rfl<|Yv 7 (vi 0) rfl<|fun _ F313=>?_;clear F305
    have b314:=(b276.ext hx288)
    refine ao 9 rfl (F313.os rfl b314 (fun w315 b316 hg317=>an ?_) (hk:=len_dig (pubF_len _ _ _)));have z318:=hg317.size
    refine F313.yv 10 (vi 0) rfl<|fun _ F320=>?_;clear F313
    refine nn ?_
    have d321:=(RLs.pres rIt hl298 ((Pres.refl w287).gc hg317))
    have d322:=(RLs.pres rVr hl303 ((Pres.refl w287).gc hg317))
    exact ⟨g274,A294,k295,A299,k300,(((((((((((((((F320.nil.c F320 13 rfl).c F320 12 rfl).c F320 54 rfl).c F320 11 rfl).c F320 10 rfl).c F320 9 rfl).c F320 8 rfl).c F320 7 rfl).c F320 30 rfl).c F320 17 rfl).c F320 6 rfl).c F320 5 rfl).c F320 2 rfl).c F320 1 rfl).c F320 0 rfl),(((((Ext.refl w155).trans hx188).trans hx277).trans hx288).gn hg317),b316,(by omega),(RLs.subB rIt d321 (fun b hb _=>⟨trivial,hb⟩)),(RLs.subB rVr d322 (fun b hb _=>⟨trivial,hb⟩))⟩
   ·rintro a323 w324 ⟨xg259,xA239,xk240,xA244,xk245,F325,hx326,b327,z330,f328,f329⟩
    have z331:=hx326.size
    clear F186
    have z332:=b327.lt
    obtain ⟨-,z333,z334⟩:=RLs.at f328
    obtain ⟨-,z335,z336⟩:=RLs.at f329
    refine wr fun K337 hK337=>?_
    refine F325.xw (ag (dg (pubF [seed] 2 0) [(vi 2),(vi 1),(vl xA239 a.length xk240),(vl xA244 0 xk245)])) (fun F=>rb F rfl b327 (hk:=len_dig (pubF_len _ _ _)))<|fun _ F339=>?_;clear F325
    have b340:=(((((((((b63.ext hx71).ext hx89).ext hx97).ext hx119).gn hg126).ext hx137).ext hx150).gn hg157).ext hx326)
    refine F339.xw (ag ((vi v.no)::dg v.state [(vl C v.chs.length cc),(vi v.sg.index),(vl O v.sg.op.length oc),(vl E v.sg.cl.length ec),(vl P v.sg.path.length pc)])) (fun F=>rb F rfl b340 (hk:=len_dig1 hvc.st))<|fun _ F342=>?_;clear F339
    obtain ⟨x,hxr⟩:∃ x,recF (fo (pubF [seed] 2 0) 1 a ([])) v=x:=⟨_,rfl⟩;obtain ⟨z,hzr⟩:∃ z,recE (fo (pubF [seed] 2 0) 1 a ([])) v=z:=⟨_,rfl⟩
    have d343:=(RLs.pres rCg hvc.chs ((((((((((((((Pres.refl w).ext hx5).ext hx15).ext hx27).ext hx40).ext hx71).ext hx89).ext hx97).ext hx119).gc hg126).ext hx137).ext hx150).gc hg157).ext hx326))
    have d344:=(hvc.sg.op.pres ((((((((((((((Pres.refl w).ext hx5).ext hx15).ext hx27).ext hx40).ext hx71).ext hx89).ext hx97).ext hx119).gc hg126).ext hx137).ext hx150).gc hg157).ext hx326))
    have d345:=(hvc.sg.cl.pres ((((((((((((((Pres.refl w).ext hx5).ext hx15).ext hx27).ext hx40).ext hx71).ext hx89).ext hx97).ext hx119).gc hg126).ext hx137).ext hx150).gc hg157).ext hx326))
    have d346:=(hvc.sg.path.pres ((((((((((((((Pres.refl w).ext hx5).ext hx15).ext hx27).ext hx40).ext hx71).ext hx89).ext hx97).ext hx119).gc hg126).ext hx137).ext hx150).gc hg157).ext hx326))
    refine wpl_op (i:=2) rfl (o_call F342 rfl rfl rfl rfl (rn_call (args2 (F342.get rfl) (F342.get rfl)) rfl (by kernel_rfl)) (recv_at (fun b=>b<w324.heap.size) (pubF [seed] 2 0) 1 a ([]) v _ x.pub x.many x.no x.items x.early z ⟨hzr,hxr⟩ (pubF_len _ _ _) (RLs.sub (S':=fun b=>b<w324.heap.size) rIt f328 cb) (RLs.sub (S':=fun b=>b<w324.heap.size) rVr f329 cb) (⟨hvc.st,(RLs.sub (S':=fun b=>b<w324.heap.size) rCg d343 cb),⟨Fl.sub (S':=fun b=>b<w324.heap.size) d344 cb,Fl.sub (S':=fun b=>b<w324.heap.size) d345 cb,Fl.sub (S':=fun b=>b<w324.heap.size) d346 cb,hvc.sg.o32,hvc.sg.c32,hvc.sg.p32⟩⟩:RVp (fun b=>b<w324.heap.size) _ _ _ _ _ v) (few_sm hFa) (fun v hv=>absurd hv (by simp)) (fewv_sm (of_decide_eq_true (decide_eq_true hc80))) (hG.ext ((((((((((((((Ext.refl w).trans hx5).trans hx15).trans hx27).trans hx40).trans hx71).trans hx89).trans hx97).trans hx119).gn hg126).trans hx137).trans hx150).gn hg157).trans hx326))) ?_)
    rintro _ w347 ⟨c349,e350,rfl,hL351,hE352,hP353,hx348⟩
    obtain ⟨A354,k355,rfl,z356,z357⟩:∃ A k,c349=.slice A x.items.length k∧x.items.length≤k∧k≤9223372036854775807:=RLs.form hL351
    have hl358:RLs RIt 2 (Clip (fun b=>b<w324.heap.size∨w324.heap.size≤b) w347) w347 (vl A354 x.items.length k355) x.items:=hL351
    obtain ⟨A359,k360,rfl,z361,z362⟩:∃ A k,e350=.slice A x.early.length k∧x.early.length≤k∧k≤9223372036854775807:=RLs.form hE352
    have hl363:RLs RVr 38 (Clip (fun b=>b<w324.heap.size∨w324.heap.size≤b) w347) w347 (vl A359 x.early.length k360) x.early:=hE352
    refine ⟨_,rfl,?_⟩;intro a364 F365;clear F342;have z366:=hx348.size
    refine F365.xm rfl<|Xv (ag (dg x.pub [(vi x.many),(vi x.no),(vl A354 x.items.length k355),(vl A359 x.early.length k360)]))<|Xv (vi z)<|fun _ F372=>?_;clear F365
    refine F372.xz fz 41 fun g373 w374 _ F380 z377 z378 b375 hx376=>?_;clear F372
    refine F380.xs rfl b375 (fun w381 b382 hg383=>?_) (hk:=len_dig hP353);have z384:=hg383.size
    refine F380.xa rfl<|fun _ F386=>?_;clear F380
    refine wpList_nil (hK337 _ _ ?_);clear hK337
    have F387:=F386.k [0,1,2,5,6,17,30,7,8,9,10,11,54,12,13,14,15];clear F386
    refine wp_seq_k fun K388 hK388=>?_
    refine wr fun K389 hK389=>?_
    refine F387.xm rfl<|Xv (.bool false)<|Xm rfl<|Xg (.pointer (some ⟨xg259,33,none⟩))<|fun _ F397=>?_;clear F387
    have b398:=(((b327.ext hx348).ext hx376).gn hg383)
    refine F397.xgw (vi 1) (fun F=>rl F rfl ((b398.rule.1 33).trans ((at_app (k:=1) (byteVals_len (pubF_len _ _ _))).trans rfl)))<|Xg (.bool false)<|Xv (.bool false)<|Xm rfl<|Xg (.pointer (some ⟨xg259,34,none⟩))<|Xgw (vl xA239 a.length xk240) (fun F=>rl F rfl ((b398.rule.1 34).trans ((at_app (k:=2) (byteVals_len (pubF_len _ _ _))).trans rfl)))<|Xg (vl A a.length c)<|fun _ F412=>?_;clear F397
    have d413:=(RLs.pres rIt f328 ((((Pres.refl w324).ext hx348).ext hx376).gc hg383))
    have d414:=(RLs.pres rIt hc (((((((((((((((((Pres.refl w).ext hx5).ext hx15).ext hx27).ext hx40).ext hx71).ext hx89).ext hx97).ext hx119).gc hg126).ext hx137).ext hx150).gc hg157).ext hx326).ext hx348).ext hx376).gc hg383))
    refine wpl_op (i:=11) rfl (o_call F412 rfl (wanted_guard rfl rfl rfl F412 rfl rfl rfl) rfl rfl (rn_call (args2 (F412.get rfl) (F412.get rfl)) rfl (by kernel_rfl)) (same40_at (u:=(vl xA239 a.length xk240)) (v:=(vl A a.length c)) a a _ d413 d414) ?_)
    rintro _ w415 ⟨rfl,hx416⟩
    refine ⟨_,rfl,?_⟩;intro a417 F418;clear F412;have z419:=hx416.size
    refine F418.xgw (.bool (!(decide (a=a)))) (fun F=>rn_not' (F.get rfl) rfl)<|Xv (.bool (!(decide (a=a))))<|fun _ F423=>?_;clear F418
    refine wpList_nil (hK389 _ _ ?_);clear hK389
    have F424:=F423.k [0,1,2,5,6,17,30,7,8,9,10,11,54,12,13,14,15,82];clear F423
    refine wp_cond_false (c_false F424 rfl (not_t ((decide_eq_true rfl):decide (a=a)=true))) ?_
    refine wp_skip ?_
    refine hK388 _ _ ?_;clear hK388
    refine wp_seq_k fun K426 hK426=>?_
    refine wr fun K427 hK427=>?_
    refine F424.xm rfl<|Xv (.bool (decide ((z:Int)≠(0:Int))))<|fun _ F431=>?_;clear F424
    refine wpList_nil (hK427 _ _ ?_);clear hK427
    by_cases hc432:(z:Int)≠(0:Int)
    ·skip
     refine F431.ct ?_
     refine wr fun K433 hK433=>?_
     have b434:=(b382.ext hx416)
     refine F431.xw (ag (dg x.pub [(vi x.many),(vi x.no),(vl A354 x.items.length k355),(vl A359 x.early.length k360)])) (fun F=>rb F rfl b434 (hk:=len_dig hP353))<|Xw (ag fz) (fun F=>rn_build (parts0 ) (by kernel_rfl))<|fun _ F438=>?_;clear F431
     have d439:=(RLs.pres rIt hl358 ((((Pres.refl w347).ext hx376).gc hg383).ext hx416))
     have d440:=(RLs.pres rVr hl363 ((((Pres.refl w347).ext hx376).gc hg383).ext hx416))
     have hxn:x=foNil:=by rw [← hxr];exact if_pos (by rw [hzr];exact of_decide_eq_true (decide_eq_true hc432))
     refine F438.xc (samefo_nil x hxn _ d439 d440) ?_
     rintro _ w441 ⟨rfl,hx442⟩
     refine ⟨_,rfl,?_⟩;intro a443 F444;clear F438;have z445:=hx442.size
     refine F444.xa rfl<|fun _ F447=>?_;clear F444
     refine wpList_nil (hK433 _ _ ?_);clear hK433
     have F448:=F447.k [0,1,2,5,6,17,30,7,8,9,10,11,54,12,13,14,15,82,84];clear F447
     refine wp_ret (ret_then ?_)
     refine ret1 F448 rfl rfl ?_
     exact ⟨rfl,(((((((((((((((((((Ext.refl w).trans hx5).trans hx15).trans hx27).trans hx40).trans hx71).trans hx89).trans hx97).trans hx119).gn hg126).trans hx137).trans hx150).gn hg157).trans hx326).trans hx348).trans hx376).gn hg383).trans hx416).trans hx442)⟩
    refine F431.cf ?_
    refine wp_skip ?_
    refine hK426 _ _ ?_;clear hK426
    refine wr fun K449 hK449=>?_
    refine F431.xv (vp g2)<|fun _ F451=>?_;clear F431
    have b452:=((((b340.ext hx348).ext hx376).gn hg383).ext hx416)
    refine F451.xw (vi v.no) (fun F=>rl F rfl ((b452.rule.1 0).trans rfl))<|Xv (.bool (decide ((1:Int)<(v.no:Int))))<|Xm rfl<|fun _ F458=>?_;clear F451
    refine qg 4 (.pointer (some ⟨g373,33,none⟩)) F458 ((decide_eq_true (stranger (hzr.trans (Decidable.not_not.1 (of_decide_eq_false (decide_eq_false hc432))))).1):decide ((1:Int)<(v.no:Int))=true) (rn_field Tryd.underlying41 rfl (by kernel_rfl) (F458.get rfl) rfl) fun _ F461=>?_;clear F458
    have b462:=(b382.ext hx416)
    refine qg 5 (vi x.no) F461 ((decide_eq_true (stranger (hzr.trans (Decidable.not_not.1 (of_decide_eq_false (decide_eq_false hc432))))).1):decide ((1:Int)<(v.no:Int))=true) (rl F461 rfl ((b462.rule.1 33).trans ((at_app (k:=1) (byteVals_len hP353)).trans rfl))) fun _ F464=>?_;clear F461
    refine qg 6 (.bool (decide ((1:Int)≤(x.no:Int)))) F464 ((decide_eq_true (stranger (hzr.trans (Decidable.not_not.1 (of_decide_eq_false (decide_eq_false hc432))))).1):decide ((1:Int)<(v.no:Int))=true) (rn_geq (F464.get rfl) rfl) fun _ F466=>?_;clear F464
    refine F466.xw (.bool (decide ((1:Int)≤(x.no:Int)))) (fun F=>rn_pickT (c_true F rfl ((decide_eq_true (stranger (hzr.trans (Decidable.not_not.1 (of_decide_eq_false (decide_eq_false hc432))))).1):decide ((1:Int)<(v.no:Int))=true)) (F.get rfl))<|Xa rfl<|fun _ F470=>?_;clear F466
    refine wpList_nil (hK449 _ _ ?_);clear hK449
    have F471:=F470.k [0,1,2,5,6,17,30,7,8,9,10,11,54,12,13,14,15,82,84];clear F470
    refine wp_ret ?_
    refine ret1 F471 rfl rfl ?_
    exact ⟨congrArg (fun b=>Ending.returned (.bool b)) ((decide_eq_true (hxr ▸ (stranger (hzr.trans (Decidable.not_not.1 (of_decide_eq_false (decide_eq_false hc432))))).2)):decide ((1:Int)≤(x.no:Int))=true),((((((((((((((((((Ext.refl w).trans hx5).trans hx15).trans hx27).trans hx40).trans hx71).trans hx89).trans hx97).trans hx119).gn hg126).trans hx137).trans hx150).gn hg157).trans hx326).trans hx348).trans hx376).gn hg383).trans hx416)⟩
  refine F79.ct ?_
  refine wr fun K472 hK472=>?_
  refine F79.xv (.bool true)<|fun _ F474=>?_;clear F79
  refine wpList_nil (hK472 _ _ ?_);clear hK472
  refine wp_ret (ret_then ?_)
  refine ret1 F474 rfl rfl ?_
  exact ⟨rfl,((((((Ext.refl w).trans hx5).trans hx15).trans hx27).trans hx40).trans hx71)⟩
 refine F34.xu<|Xu<|Xu<|Xv (.bool true)<|Xm rfl<|Xu<|Xu<|Xu<|Xv (.bool true)<|fun _ F492=>?_;clear F34
 refine wpList_nil (hK22 _ _ ?_);clear hK22
 have F493:=F492.k [0,1,2,5,6,17,30];clear F492
 refine F493.ct ?_
 refine wr fun K494 hK494=>?_
 refine F493.xv (.bool true)<|fun _ F496=>?_;clear F493
 refine wpList_nil (hK494 _ _ ?_);clear hK494
 refine wp_ret (ret_then ?_)
 refine ret1 F496 rfl rfl ?_
 exact ⟨rfl,((((Ext.refl w).trans hx5).trans hx15).trans hx27)⟩

end Go.Proofs.YtihgmaoghbnnaaaDoor
