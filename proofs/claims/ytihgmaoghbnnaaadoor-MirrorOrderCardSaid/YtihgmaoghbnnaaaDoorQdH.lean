/- Several texts in one: MrY, MrW, MsA, MsD. -/
import Derived.Test.YtihgmaoghbnnaaaDoorProg
import Derived.Test.YtihgmaoghbnnaaaDoorQdG
import Derived.KernelRfl
import Derived.Test.YtihgmaoghbnnaaaDoorQdA
import Derived.Test.YtihgmaoghbnnaaaDoorQdB
set_option linter.unusedVariables false
set_option linter.unusedSimpArgs false
namespace Go.Proofs.YtihgmaoghbnnaaaDoor
open Go.RowKit

variable {S S':Nat→Prop}

theorem retC2 {N:Nat} {m:List (Nat × Value)} {a:Act} {P:Program} {fn:Func} {R:Ending→World→Prop} {w:World} {t u x b:Nat} {ty tt:TypeId} {cs:List Value} {v2 v3:Value} {td:TypeDesc} (hF:Sl N m a) (hr:fn.results=#[.cell t ty,.tmp u,.tmp x]) (hv:look m t=some (.pointer (some ⟨b,0,none⟩))) (hu:look m u=some v2) (hx:look m x=some v3)
  (hB:Blk w b tt cs) (hty:P.underlying ty=some td) (hd:aggTy td=true) (hi:(P.info? ty).map (·.size)=some cs.length) (h:R (.returned (.tuple #[.agg cs.toArray,v2,v3])) w):bodyPost P fn R .ret a w:=by
 have h1:=hF.get hv
 have h2:=hF.get hu
 have h3:=hF.get hx
 simp only [Act.eval] at h1 h2 h3
 refine bodyPost_ret ?_ hF.2.1 h
 have:=run_loadVar_row (P:=P) w b tt ty cs.toArray (0,0) td hB hty (by cases td <;> simp_all [aggTy]) (by simpa using hi)
 rw [Array.getD_eq_getD_getElem?] at h1 h2 h3
 simp [results,hr,h1,h2,h3,asAddr,this]
def RIs (S:Nat→Prop) (w:World) (cs:List Value) (l:List It):Prop:=∃ u,cs=[u]∧RLs RIt 2 S w u l
theorem rIs:Rel RIs:=⟨fun ⟨u,h1,h2⟩ hp=>⟨u,h1,h2.pres rIt hp⟩,fun ⟨u,h1,h2⟩ hs=>⟨u,h1,h2.subB rIt hs⟩⟩
def chainL (sd:List UInt8):Nat→List It→List (List It)→List Vr
 | _,_,[]=>[]
 | n,bf,s::r=>versionV sd 2 (n:Int) n s (diffL bf s)::chainL sd (n+1) s r
theorem chain_step {sd:List UInt8} {k:Nat} {bf s:List It} {ss:List (List It)} {vs T:List Vr} {v:Vr} (hx:ss[k]?=some s) (hv:versionV sd 2 (k:Int) k s (diffL bf s)=v) (h:vs++chainL sd k bf (ss.drop k)=T):(vs++[v])++chainL sd (k+1) s (ss.drop (k+1))=T:=by
 have hk:=(List.getElem?_eq_some_iff.1 hx)
 rw [← h,List.drop_eq_getElem_cons hk.1,hk.2,chainL,hv,List.append_assoc];rfl
theorem chain_end {sd:List UInt8} {k:Nat} {bf:List It} {ss:List (List It)} {vs T:List Vr} (hk:ss.length≤k) (h:vs++chainL sd k bf (ss.drop k)=T):vs=T:=by
 rw [List.drop_eq_nil_of_le hk,chainL,List.append_nil] at h;exact h
theorem new_facts {sd:List UInt8} (hs:1≤sd.length∧sd.length≤64):newS sd 2=sd∧newM sd 2=2∧newE sd 2=0:=by
 have h:=kok hs (u:=0) (by decide) (by decide)
 exact ⟨if_pos h,if_pos h,if_pos h⟩
theorem OwnL.near {α:Type} {R:RelT α} {k:Nat} {e:TypeId} {base:Nat} {w w':World} {v:Value} {n:Nat} {xs:List Value} {l:List α} (hR:Rel R) (h:OwnL R k e base w v n xs l) (hp:Pres (fun b=>base≤b∧b<w.heap.size) w w'):OwnL R k e base w' v n xs l:=by
 obtain ⟨h1,h2,h3,h4⟩:=h
 refine ⟨⟨h1.1,?_⟩,h2,h3,fun i hi=>hR.sub (hR.pres (hR.subB (S':=fun b=>(base≤b∧b<w.heap.size)∧some b≠v.ownBlock) (h4 i hi) fun b hl hb=>⟨⟨hb.1,hl⟩,hb.2⟩) ⟨hp.1,fun b hb=>hp.2 b hb.1⟩) fun b hb=>⟨hb.1.1,hb.2⟩⟩
 rcases h1.2 with h5 | ⟨g,cap,cur,hv,hb,hg,h6⟩
 ·exact .inl h5
 ·have hl:=(Array.getElem?_eq_some_iff.1 hg).1
  exact .inr ⟨g,cap,cur,hv,hb,(hp.2 g ⟨hb,hl⟩ hl).trans hg,h6⟩

theorem diff_sm {a b:List It} (ha:∀ x∈a,x.data.length≤4294967296) (hb:∀ x∈b,x.data.length≤4294967296):∀ x∈diffL a b,x.data.length≤4294967296:=by
 intro c hc
 rcases diff_mem hc with ⟨x,hx,rfl⟩ | ⟨y,hy,rfl⟩
 ·simp
 ·exact hb y hy
set_option maxRecDepth 100000 in
set_option maxHeartbeats 1000000 in
theorem chain_any (seed:UInt8) (A:Option Addr) (c:Nat) (ss:List (List It)) (w:World) (h:RLs RIs 1 S w (vl A ss.length c) ss) (hss:∀ s∈ss,checkE s=0∧s.length≤12∧∀ x∈s,x.data.length≤4294967296) (hl2:ss.length≤2) (hG:Glob w) :
  Calls Tryd.prog 12 #[.int .u8 (seed.toNat:Nat),.slice A ss.length c] w (fun e w'=>∃ A n c,e=.returned (.tuple #[.agg (byteVals (pubF [seed] 2 0)).toArray,.slice A n c,.bool true])∧RLs RVr 38 (fun b=>w.heap.size≤b) w' (vl A n c) (chainL [seed] 0 [] ss)∧Ext w w'):=by
 have hc:RLs RIs 1 (Clip S w) w (vl A ss.length c) ss:=RLs.clip rIs h
 obtain ⟨-,hck,hcm⟩:=RLs.at h
 have hk:1≤[seed].length∧[seed].length≤64:=⟨by simp,by simp⟩
 refine calls_enter Tryd.func12 rfl rfl rfl fun _ hF=>?_
 refine wr fun K1 hK1=>?_
 refine hF.xz (byteVals (List.replicate 32 0)) 24 fun g2 w3 _ F9 z6 z7 b4 hx5=>?_;clear hF
 refine F9.xv v0<|Xv (.bool false)<|fun _ F13=>?_;clear F9
 refine wpList_nil (hK1 _ _ ?_);clear hK1
 refine wr fun K14 hK14=>?_
 refine F13.xm rfl<|fun _ F16=>?_;clear F13
 refine F16.xn (fun g=>(vl (some ⟨g,0,none⟩) 1 1)) [(.int .u8 (seed.toNat:Nat))] 5 (fun F=>rn_buildSlice (parts1 (F.get rfl)) (by kernel_rfl)) fun g17 w18 _ F24 z21 z22 b19 hx20=>?_;clear F16
 refine wpl_op (i:=2) rfl (o_call F24 rfl rfl rfl rfl (rn_call (args2 (F24.get rfl) rfl) rfl (by kernel_rfl)) (new_at (v:=(vl (some ⟨g17,0,none⟩) 1 1)) (m:=1) ([seed]) 2 _ (Fl.blk (S:=fun b=>b=g17) (k:=1) (n:=1) (c:=1) (cs:=byteVals [seed]) b19 rfl (byteVals_one _) (by omega) rfl) (by omega)) ?_)
 rw [(new_facts hk).1,(new_facts hk).2.1,(new_facts hk).2.2]
 rintro _ w29 ⟨A25,n26,c27,rfl,hf28,hx30⟩
 have z31:=(Fl.cel hf28).2.1;have z32:=Fl.blen hf28
 refine ⟨_,rfl,?_⟩;intro a33 F34;clear F24;have z35:=hx30.size
 have hf36:Fl (Clip (fun b=>w18.heap.size≤b) w29) w29 1 (vl A25 n26 c27) n26 (byteVals ([seed])):=hf28.clip
 refine F34.xm rfl<|Xv (.agg #[(vl A25 n26 c27),(vi 2),(vi 0)])<|Xv (vi 0)<|fun _ F42=>?_;clear F34
 refine F42.xz [v0,(vi 0),(vi 0)] 56 fun g43 w44 _ F50 z47 z48 b45 hx46=>?_;clear F42
 refine F50.xs rfl b45 (fun w51 b52 hg53=>?_);have z54:=hg53.size
 refine F50.xa rfl<|fun _ F56=>?_;clear F50
 refine wpList_nil (hK14 _ _ ?_);clear hK14
 have F57:=F56.k [0,1,4,5,6,7,8];clear F56
 refine wr fun K58 hK58=>?_
 refine F57.xw (.agg #[(vl A25 n26 c27),(vi 2),(vi 0)]) (fun F=>rb F rfl b52)<|fun _ F60=>?_;clear F57
 have d61:=(hf36.pres (((Pres.refl w29).ext hx46).gc hg53))
 refine F60.xc (pub_at (v:=(vl A25 n26 c27)) (m:=n26) ([seed]) 2 0 _ d61 (hG.ext ((((((Ext.refl w).trans hx5).trans hx20).trans hx30).trans hx46).gn hg53))) ?_
 rintro _ w62 ⟨rfl,hx63⟩
 refine ⟨_,rfl,?_⟩;intro a64 F65;clear F60;have z66:=hx63.size
 refine F65.xm rfl<|Xv (.agg (byteVals (pubF ([seed]) 2 0)).toArray)<|Xv (vi (pubE ([seed]) 2 0))<|fun _ F72=>?_;clear F65
 have b76:=(((((b4.ext hx20).ext hx30).ext hx46).gn hg53).ext hx63)
 refine F72.xs rfl b76 (fun w73 b74 hg75=>?_) (hk:=byteVals_len (pubF_len _ _ _));have z77:=hg75.size
 refine F72.xa rfl<|fun _ F79=>?_;clear F72
 refine wpList_nil (hK58 _ _ ?_);clear hK58
 have F80:=F79.k [0,1,4,5,6,7,8,9];clear F79
 refine wp_seq_k fun K81 hK81=>?_
 refine wr fun K82 hK82=>?_
 refine F80.xm rfl<|Xv (.bool false)<|Xm rfl<|Xg (vi (pubE ([seed]) 2 0))<|Xg (.bool (decide (((pubE ([seed]) 2 0):Int)≠(0:Int))))<|Xv (.bool (decide (((pubE ([seed]) 2 0):Int)≠(0:Int))))<|fun _ F94=>?_;clear F80
 refine wpList_nil (hK82 _ _ ?_);clear hK82
 have F95:=F94.k [0,1,4,5,6,7,8,9,34];clear F94
 refine wp_cond_false (c_false F95 rfl ((decide_eq_false (fun q=>q (pub_u hk (by decide) (by decide)).2)):decide (((pubE ([seed]) 2 0):Int)≠(0:Int))=false)) ?_
 refine wp_skip ?_
 refine hK81 _ _ ?_;clear hK81
 refine wr fun K97 hK97=>?_
 refine F95.xn (fun g=>(vl (some ⟨g,0,none⟩) 0 0)) [] 66 (fun F=>rn_buildSlice (parts0 ) (by kernel_rfl)) fun g98 w99 _ F105 z102 z103 b100 hx101=>?_;clear F95
 refine F105.xa rfl<|fun _ F107=>?_;clear F105
 refine wpList_nil (hK97 _ _ ?_);clear hK97
 refine wp_seq_k fun K108 hK108=>?_
 refine wr fun K109 hK109=>?_
 refine F107.xm rfl<|Xv (vi (ss.length:Nat))<|Xv (vi 0)<|fun _ F115=>?_;clear F107
 refine wpList_nil (hK109 _ _ ?_);clear hK109
 refine wp_block ?_
 have hO116:OwnL RVr 38 30 w99.heap.size w99 v0 0 [] []:=OwnL.nil _ (Nat.le_refl _)
 have hl117:RLs RIt 2 (Clip (fun b=>b<w99.heap.size) w99) w99 (vl (some ⟨g98,0,none⟩) 0 0) []:=RLs.empty (by omega)
 have d118:=(hf36.pres ((((((Pres.refl w29).ext hx46).gc hg53).ext hx63).gc hg75).ext hx101))
 have b119:=(b74.ext hx101)
 have b120:=((((((b19.ext hx30).ext hx46).gn hg53).ext hx63).gn hg75).ext hx101)
 have b121:=(((b52.ext hx63).gn hg75).ext hx101)
 refine wp_loop (fun a' W=>∃ (k:Nat) (Ap:Option Addr) (cp:Nat) (xp:List Value) (vs:List Vr) (bf:List It) (BA:Option Addr) (ba:Nat),Sl 80 [(0,(.int .u8 (seed.toNat:Nat))),(1,(vl A ss.length c)),(4,(vp g2)),(5,(vl Ap k cp)),(6,(.bool false)),(7,(vp g43)),(8,(vi 0)),(9,(vi (pubE ([seed]) 2 0))),(34,(.bool (decide (((pubE ([seed]) 2 0):Int)≠(0:Int))))),(10,(vl BA bf.length ba)),(37,(vl A ss.length c)),(38,(vi (ss.length:Nat))),(39,(vi (k:Nat)))] a'∧k≤ss.length∧vs++chainL [seed] k bf (ss.drop k)=chainL [seed] 0 [] ss∧((checkE bf=0∧bf.length≤12∧∀ x∈bf,x.data.length≤4294967296))∧Ext w W∧Blk W g2 24 (byteVals (pubF ([seed]) 2 0))∧Blk W g17 5 [(.int .u8 (seed.toNat:Nat))]∧Blk W g43 56 [(vl A25 n26 c27),(vi 2),(vi (k:Nat))]∧Fl (Clip (fun b=>w18.heap.size≤b) w29) W 1 (vl A25 n26 c27) n26 (byteVals ([seed]))∧OwnL RVr 38 30 w99.heap.size W (vl Ap k cp) k xp vs∧RLs RIt 2 (Clip S w) W (vl BA bf.length ba) bf∧w99.heap.size≤W.heap.size) (fun a' _=>ss.length - (intOf (a'.eval (.tmp 39))).toNat) ⟨0,none,0,[],[],[],(some ⟨g98,0,none⟩),0,F115.j,(by omega),rfl,⟨rfl,by simp,fun x hx=>absurd hx (by simp)⟩,(((((((((Ext.refl w).trans hx5).trans hx20).trans hx30).trans hx46).gn hg53).trans hx63).gn hg75).trans hx101),b119,b120,b121,d118,hO116,(RLs.empty (by omega)),(Nat.le_refl _)⟩ ?_
 clear F115
 rintro a122 w123 ⟨k,Ap,cp,xp,vs,bf,BA,ba,F124,hp126,hp127,hp128,hx125,b129,b130,b131,hf132,hf133,hf134,hf135⟩
 have hL136:=F124
 have z137:=hx125.size
 have z138:=b129.lt
 have z139:=b130.lt
 have z140:=b131.lt
 have z141:=own_form0 hf133.1
 obtain ⟨-,z142,z143⟩:=RLs.at hf134
 have hbf:=hp128
 refine wr fun K144 hK144=>?_
 refine F124.xv (.bool (decide (((k:Nat):Int)<((ss.length:Nat):Int))))<|fun _ F146=>?_;clear F124
 refine wpList_nil (hK144 _ _ ?_);clear hK144
 refine wp_seq_k fun K147 hK147=>?_
 by_cases hc148:((k:Nat):Int)<((ss.length:Nat):Int)
 ·skip
  refine F146.ct ?_
  refine wp_skip ?_
  refine hK147 _ _ ?_;clear hK147
  refine wp_seq_k fun K149 hK149=>?_
  refine wp_block ?_
  refine wr fun K150 hK150=>?_
  have d151:=(RLs.ext rIs hc hx125)
  obtain ⟨b152,o153,x154,cs155,hA156,hi157,hk158,hc159,hr160⟩:=RLs.get d151 (by omega:k<ss.length)
  obtain ⟨u161,rfl,hd164⟩:=hr160
  obtain ⟨A162,c163,rfl,z165,z166⟩:=RLs.form hd164
  have hsx:=hss x154 (List.mem_of_getElem? hi157)
  simp only [Nat.mul_one] at hc159
  refine F146.xw (.pointer (some ⟨b152,o153+k,none⟩)) (fun F=>rn_index1 Tryd.underlying39 inf22 ((F.get rfl).trans (by rw [hA156])) (F.get rfl) (by omega:(0:Int)≤(k:Nat)) (by omega:((k:Nat):Int)<((ss.length:Nat):Int)))<|Xw (vl A162 x154.length c163) (fun F=>rl F rfl (hc159 0 _ rfl))<|Xa rfl<|fun _ F172=>?_;clear F146
  refine wpList_nil (hK150 _ _ ?_);clear hK150
  refine wr fun K173 hK173=>?_
  refine F172.xm rfl<|Xm rfl<|fun _ F177=>?_;clear F172
  refine F177.xc (diff_at (u:=(vl BA bf.length ba)) (v:=(vl A162 x154.length c163)) bf x154 _ hf134 hd164 hbf.2.2 hsx.2.2) ?_
  rw [(diffE_zero hbf.1 hsx.1).2,(diffE_zero hbf.1 hsx.1).1]
  rintro _ w181 ⟨A178,c179,rfl,hL180,hx182⟩
  refine ⟨_,rfl,?_⟩;intro a183 F184;clear F177;have z185:=hx182.size
  have hl186:RLs RCg 3 (Clip (fun z=>w123.heap.size≤z) w181) w181 (vl A178 ((diffL bf x154).length) c179) (diffL bf x154):=RLs.clip rCg hL180
  obtain ⟨-,z187,z188⟩:=RLs.at hL180
  refine F184.xm rfl<|Xv (vl A178 ((diffL bf x154).length) c179)<|Xv (vi 0)<|Xa rfl<|Xa rfl<|fun _ F198=>?_;clear F184
  refine wpList_nil (hK173 _ _ ?_);clear hK173
  have F199:=F198.k [0,1,4,5,6,7,8,9,34,10,37,38,39,40,12,13,14];clear F198
  refine wr fun K200 hK200=>?_
  have b201:=(b131.ext hx182)
  refine F199.xw (.agg #[(vl A25 n26 c27),(vi 2),(vi (k:Nat))]) (fun F=>rb F rfl b201)<|Xm rfl<|Xm rfl<|Xm rfl<|fun _ F209=>?_;clear F199
  have d210:=(hf132.ext hx182)
  have d211:=(RLs.ext rIt hd164 hx182)
  have hv212:=version_good (sd:=[seed]) hk (n:=k) (by omega) hbf.1 hsx.1 (by have h5:=hbf.2.1;have h6:=hsx.2.1;omega)
  obtain ⟨vr213,hvr214⟩:∃ z,versionV ([seed]) 2 ((k:Nat):Int) k x154 (diffL bf x154)=z:=⟨_,rfl⟩
  rw [hvr214] at hv212
  refine wpl_op (i:=4) rfl (o_call F209 rfl rfl rfl rfl (rn_call (args4 (F209.get rfl) (F209.get rfl) (F209.get rfl) (F209.get rfl)) rfl (by kernel_rfl)) (version_at (S:=fun _=>True) Ap cp ([seed]) 2 ((k:Nat):Int) (k) x154 (diffL bf x154) _ (Fl.any d210) (RLs.sub (S':=fun _=>True) rIt d211 fun _ _=>trivial) (RLs.sub (S':=fun _=>True) rCg hl186 fun _ _=>trivial) hsx.2.2 (by have h6:=hsx.2.1;omega) (diff_sm hbf.2.2 hsx.2.2) (hG.ext (((Ext.refl w).trans hx125).trans hx182))) ?_)
  have hv2120:=hv212.1
  rw [hvr214,hv212.1,show keyS ([seed]) 2 ((k:Nat):Int) k x154 (diffL bf x154)=[seed] from if_pos hv2120,show keyM ([seed]) 2 ((k:Nat):Int) k x154 (diffL bf x154)=2 from if_pos hv2120,show keyU ([seed]) 2 ((k:Nat):Int) k x154 (diffL bf x154)=((k:Nat):Int)+1 from if_pos hv2120]
  rintro _ w216 ⟨c218,o219,e220,p221,A222,n223,c224,rfl,hR225,hK226,hS227,hq228,hx217⟩
  obtain ⟨rfl,hkk⟩:=hq228 rfl;obtain ⟨rfl,rfl,rfl⟩:=Value.slice.inj hkk.symm
  have hvc215:vr213.chs=diffL bf x154:=by rw [hv212.2.1]
  obtain ⟨A229,c230,rfl,z231,z232⟩:=Fl.form hS227.op
  obtain ⟨A233,c234,rfl,z235,z236⟩:=Fl.form hS227.cl
  obtain ⟨A237,c238,rfl,z239,z240⟩:=Fl.form hS227.path
  refine ⟨_,rfl,?_⟩;intro a241 F242;clear F209;have z243:=hx217.size
  have d244:=(RLs.ext rCg hl186 hx217)
  have hl245:RLs RCg 3 (Clip (fun z=>w123.heap.size≤z) w181) w216 (vl A178 ((diffL bf x154).length) c179) vr213.chs:=by rw [hvc215];exact d244
  have hf246:Fl (Clip (fun b=>w181.heap.size≤b) w216) _ _ _ _ _:=Fl.subB hS227.op (fun _ h1 h2=>⟨h2,h1⟩)
  have hf247:Fl (Clip (fun b=>w181.heap.size≤b) w216) _ _ _ _ _:=Fl.subB hS227.cl (fun _ h1 h2=>⟨h2,h1⟩)
  have hf248:Fl (Clip (fun b=>w181.heap.size≤b) w216) _ _ _ _ _:=Fl.subB hS227.path (fun _ h1 h2=>⟨h2,h1⟩)
  refine F242.xm rfl<|Xv (ag ((vi vr213.no)::dg vr213.state [(vl A178 ((diffL bf x154).length) c179),(vi vr213.sg.index),(vl A229 vr213.sg.op.length c230),(vl A233 vr213.sg.cl.length c234),(vl A237 vr213.sg.path.length c238)]))<|Xv (.agg #[(vl A25 n26 c27),(vi 2),(vi (k+1:Nat))])<|Xv (vi 0)<|fun _ F256=>?_;clear F242
  refine F256.xz vz 30 fun g257 w258 _ F264 z261 z262 b259 hx260=>?_;clear F256
  refine F264.xz [v0,(vi 0),(vi 0)] 56 fun g265 w266 _ F272 z269 z270 b267 hx268=>?_;clear F264
  have b273:=(b259.ext hx268)
  refine F272.xs rfl b273 (fun w274 b275 hg276=>?_) (hk:=len_dig1 hR225.st);have z277:=hg276.size
  have b281:=(b267.gn hg276)
  refine F272.xs rfl b281 (fun w278 b279 hg280=>?_);have z282:=hg280.size
  refine F272.xa rfl<|fun _ F284=>?_;clear F272
  refine wpList_nil (hK200 _ _ ?_);clear hK200
  have F285:=F284.k [0,1,4,5,6,7,8,9,34,10,37,38,39,40,12,13,14,15,16,17];clear F284
  refine wp_seq_k fun K286 hK286=>?_
  refine wr fun K287 hK287=>?_
  refine F285.xm rfl<|Xv (.bool false)<|Xm rfl<|Xg (vi 0)<|Xg (.bool false)<|Xv (.bool false)<|Xm rfl<|fun _ F301=>?_;clear F285
  have b302:=((((((b129.ext hx182).ext hx217).ext hx260).ext hx268).gn hg276).gn hg280)
  refine F301.xgw (.agg (byteVals (pubF ([seed]) 2 0)).toArray) (fun F=>rb F rfl b302 (hk:=byteVals_len (pubF_len _ _ _)))<|fun _ F304=>?_;clear F301
  have b305:=(b275.gn hg280)
  refine F304.xgw (ag ((vi vr213.no)::dg vr213.state [(vl A178 ((diffL bf x154).length) c179),(vi vr213.sg.index),(vl A229 vr213.sg.op.length c230),(vl A233 vr213.sg.cl.length c234),(vl A237 vr213.sg.path.length c238)])) (fun F=>rb F rfl b305 (hk:=len_dig1 hR225.st))<|fun _ F307=>?_;clear F304
  have d308:=(RLs.pres rCg hl245 (((((Pres.refl w216).ext hx260).ext hx268).gc hg276).gc hg280))
  have d309:=(hf246.pres (((((Pres.refl w216).ext hx260).ext hx268).gc hg276).gc hg280))
  have d310:=(hf247.pres (((((Pres.refl w216).ext hx260).ext hx268).gc hg276).gc hg280))
  have d311:=(hf248.pres (((((Pres.refl w216).ext hx260).ext hx268).gc hg276).gc hg280))
  refine wpl_op (i:=9) rfl (o_call F307 rfl (wanted_guard rfl rfl rfl F307 rfl rfl rfl) rfl rfl (rn_call (args3 (F307.get rfl) rfl (F307.get rfl)) rfl (by kernel_rfl)) (verifyv_at (pubF ([seed]) 2 0) 2 vr213 _ (⟨hR225.st,RLs.sub (S':=fun _=>True) rCg d308 fun _ _=>trivial,⟨Fl.any d309,Fl.any d310,Fl.any d311,hS227.o32,hS227.c32,hS227.p32⟩⟩:RVp (fun _=>True) _ _ _ _ _ vr213) (pubF_len _ _ _) (by rw [hv212.2.1];exact diff_sm hbf.2.2 hsx.2.2) (hG.ext ((((((((Ext.refl w).trans hx125).trans hx182).trans hx217).trans hx260).trans hx268).gn hg276).gn hg280))) ?_)
  rintro _ w312 ⟨rfl,hx313⟩
  refine ⟨_,rfl,?_⟩;intro a314 F315;clear F307;have z316:=hx313.size
  refine F315.xg (.bool (decide (((verifyE (pubF ([seed]) 2 0) 2 vr213):Int)≠(0:Int))))<|Xv (.bool (decide (((verifyE (pubF ([seed]) 2 0) 2 vr213):Int)≠(0:Int))))<|fun _ F320=>?_;clear F315
  refine wpList_nil (hK287 _ _ ?_);clear hK287
  have F321:=F320.k [0,1,4,5,6,7,8,9,34,10,37,38,39,40,12,13,14,15,16,17,69];clear F320
  refine wp_cond_false (c_false F321 rfl ((decide_eq_false (fun q=>q hv212.2.2)):decide (((verifyE (pubF ([seed]) 2 0) 2 vr213):Int)≠(0:Int))=false)) ?_
  refine wp_skip ?_
  refine hK286 _ _ ?_;clear hK286
  have hx324:∃ W,w312.drew=W∧Ext w312 W:=⟨_,rfl,(Ext.refl _).drew⟩
  obtain ⟨w323,e325,hx324⟩:=hx324
  have z326:=hx324.size
  refine any_start (fun W=>Ext w323 W∧Blk W g257 30 ((vi vr213.no)::dg vr213.state [(vl A178 ((diffL bf x154).length) c179),(vi vr213.sg.index),(vl A229 vr213.sg.op.length c230),(vl A233 vr213.sg.cl.length c234),(vl A237 vr213.sg.path.length c238)])∧Blk W g265 56 [(vl A25 n26 c27),(vi 2),(vi (k+1:Nat))]∧Blk W g43 56 [(vl A25 n26 c27),(vi 2),(vi (k:Nat))]) (fun i=>i==3||i==7) 9 (.replicate 9 false) rfl rfl rfl ?_
  rw [e325];clear e325
  refine F321.ym 0 rfl<|fun _ F328=>?_;clear F321
  have b330:=((b305.ext hx313).ext hx324)
  have b331:=((b279.ext hx313).ext hx324)
  have b332:=(((((((b201.ext hx217).ext hx260).ext hx268).gn hg276).gn hg280).ext hx313).ext hx324)
  have hS329:Ext w323 w323∧Blk w323 g257 30 ((vi vr213.no)::dg vr213.state [(vl A178 ((diffL bf x154).length) c179),(vi vr213.sg.index),(vl A229 vr213.sg.op.length c230),(vl A233 vr213.sg.cl.length c234),(vl A237 vr213.sg.path.length c238)])∧Blk w323 g265 56 [(vl A25 n26 c27),(vi 2),(vi (k+1:Nat))]∧Blk w323 g43 56 [(vl A25 n26 c27),(vi 2),(vi (k:Nat))]:=⟨(Ext.refl w323),b330,b331,b332⟩
  refine anyt_val (i:=1) (v:=(ag ((vi vr213.no)::dg vr213.state [(vl A178 ((diffL bf x154).length) c179),(vi vr213.sg.index),(vl A229 vr213.sg.op.length c230),(vl A233 vr213.sg.cl.length c234),(vl A237 vr213.sg.path.length c238)]))) [2,3,6,7] F328 (fun j hj=>by simp at hj;first | (subst hj;decide) | (rcases hj with rfl | rfl <;> decide)) (by decide +kernel) (by decide +kernel) rfl rfl rfl rfl (fun _ _ _ _ h=>h) rfl hS329 (fun W hW=>(rb F328 rfl hW.2.1 (hk:=len_dig1 hR225.st))) ?_
  intro a333 F334;clear F328
  refine F334.ym 5 rfl<|fun _ F336=>?_;clear F334
  refine any_two (i:=2) (k:=4) (by decide +kernel) rfl rfl ?_ ?_
  ·skip
   refine F336.on (fun g=>(vl (some ⟨g,0,none⟩) 1 1)) ((vi vr213.no)::dg vr213.state [(vl A178 ((diffL bf x154).length) c179),(vi vr213.sg.index),(vl A229 vr213.sg.op.length c230),(vl A233 vr213.sg.cl.length c234),(vl A237 vr213.sg.path.length c238)]) 30 rfl (fun F=>rn_buildSlice (parts1 (F.get rfl)) (build_wholeE (vs:=[(ag ((vi vr213.no)::dg vr213.state [(vl A178 ((diffL bf x154).length) c179),(vi vr213.sg.index),(vl A229 vr213.sg.op.length c230),(vl A233 vr213.sg.cl.length c234),(vl A237 vr213.sg.path.length c238)]))]) El36 rfl rfl (fun z0 hz0=>by rw [List.mem_singleton.1 hz0];exact (show List.length ((vi vr213.no)::dg vr213.state [(vl A178 ((diffL bf x154).length) c179),(vi vr213.sg.index),(vl A229 vr213.sg.op.length c230),(vl A233 vr213.sg.cl.length c234),(vl A237 vr213.sg.path.length c238)])=38 from (by simp [byteVals_len hR225.st]))) (by decide) (by decide) (by simp [Value.cells]))) fun g337 w338 _ F344 z341 z342 b339 hx340=>?_;clear F336
   have b345:=(b330.ext hx340)
   have b346:=(b331.ext hx340)
   have b347:=(b332.ext hx340)
   refine ⟨fun _ _=>⟨((Ext.refl w323).trans hx340),b345,b346,b347⟩,?_⟩
   refine any_two (i:=3) (k:=4) (by decide +kernel) rfl rfl ?_ ?_
   ·skip
    have hO348:=OwnL.near rVr hf133 ((((((((((Pres.refl w123).ext hx182).ext hx217).ext hx260).ext hx268).grownN hg276 (fun h=>by have h1:=h.1;have h2:=h.2;omega)).grownN hg280 (fun h=>by have h1:=h.1;have h2:=h.2;omega)).ext hx313).ext hx324).ext hx340)
    have d358:=(RLs.pres rCg hl245 ((((((((Pres.refl w216).ext hx260).ext hx268).gc hg276).gc hg280).ext hx313).ext hx324).ext hx340))
    have d359:=(hf246.pres ((((((((Pres.refl w216).ext hx260).ext hx268).gc hg276).gc hg280).ext hx313).ext hx324).ext hx340))
    have d360:=(hf247.pres ((((((((Pres.refl w216).ext hx260).ext hx268).gc hg276).gc hg280).ext hx313).ext hx324).ext hx340))
    have d361:=(hf248.pres ((((((((Pres.refl w216).ext hx260).ext hx268).gc hg276).gc hg280).ext hx313).ext hx324).ext hx340))
    refine o_appB (zs:=xp++((vi vr213.no)::dg vr213.state [(vl A178 ((diffL bf x154).length) c179),(vi vr213.sg.index),(vl A229 vr213.sg.op.length c230),(vl A233 vr213.sg.cl.length c234),(vl A237 vr213.sg.path.length c238)])) El36 F344 rfl rfl rfl rfl rfl (F344.get rfl) (F344.get rfl) hO348.1 (Fl.cel (Fl.blk (S:=fun _=>True) (k:=38) (n:=1) (c:=1) (cs:=((vi vr213.no)::dg vr213.state [(vl A178 ((diffL bf x154).length) c179),(vi vr213.sg.index),(vl A229 vr213.sg.op.length c230),(vl A233 vr213.sg.cl.length c234),(vl A237 vr213.sg.path.length c238)])) b339 (show List.length ((vi vr213.no)::dg vr213.state [(vl A178 ((diffL bf x154).length) c179),(vi vr213.sg.index),(vl A229 vr213.sg.op.length c230),(vl A233 vr213.sg.cl.length c234),(vl A237 vr213.sg.path.length c238)])=38 from (by simp [byteVals_len hR225.st])) (one_cons rfl (one_app (byteVals_one _) (one_cons rfl (one_cons rfl (one_cons rfl (one_cons rfl (one_cons rfl one_nil))))))) ⟨Nat.le_refl _,by omega⟩ trivial)).2.2 (by omega) (by omega) (by omega) rfl ?_
    intro A349 c350 w351 a362 F363 r352 hg353 z354 z355 hnb356;clear F344;have z364:=hg353.size
    have hO357:=OwnL.snoc (x:=vr213) rVr hO348 r352 hg353 hnb356 (show List.length ((vi vr213.no)::dg vr213.state [(vl A178 ((diffL bf x154).length) c179),(vi vr213.sg.index),(vl A229 vr213.sg.op.length c230),(vl A233 vr213.sg.cl.length c234),(vl A237 vr213.sg.path.length c238)])=38 from (by simp [byteVals_len hR225.st])) (one_cons rfl (one_app (byteVals_one _) (one_cons rfl (one_cons rfl (one_cons rfl (one_cons rfl (one_cons rfl one_nil))))))) ⟨_,_,_,_,rfl,(⟨hR225.st,RLs.sub rCg d358 (fun b hb=>by first | omega | (simp only [Clip] at hb;omega)),⟨Fl.sub d359 (fun b hb=>by first | omega | (simp only [Clip] at hb;omega)),Fl.sub d360 (fun b hb=>by first | omega | (simp only [Clip] at hb;omega)),Fl.sub d361 (fun b hb=>by first | omega | (simp only [Clip] at hb;omega)),hS227.o32,hS227.c32,hS227.p32⟩⟩:RVp (fun b=>w123.heap.size≤b) _ _ _ _ _ vr213)⟩ (fun b _ hb=>⟨by omega,fun e1=>by have h5:=own_blk_lt hf133.1 b e1;omega⟩)
    refine ⟨fun h=>absurd h (by decide),?_⟩
    refine F363.yv 6 (vl A349 (k+1) c350) rfl<|fun _ F366=>?_;clear F363
    have b367:=(grown_blk hO348.1 hg353 b346 (by decide))
    refine ao 4 rfl (F366.ow (.agg #[(vl A25 n26 c27),(vi 2),(vi (k+1:Nat))]) rfl (fun F=>rb F rfl b367) fun _ F369=>ap ?_);clear F366
    have b373:=(grown_blk hO348.1 hg353 b347 (by decide))
    refine ao 7 rfl (F369.os rfl b373 (fun w370 b371 hg372=>an ?_));have z374:=hg372.size
    refine F369.yv 8 (vl A162 x154.length c163) rfl<|fun _ F376=>?_;clear F369
    refine nn (hK149 _ _ ?_);clear hK149
    have F377:=F376.k [0,1,4,5,6,7,8,9,34,10,37,38,39,40,12,13,14,15,16,17,69];clear F376
    refine wp_region_lit ?_
    refine F377.xv (vi (k+1:Nat))<|Xm rfl<|fun _ F381=>?_;clear F377
    refine wpList_nil ?_
    have d382:=(hf132.pres ((Pres.row ((((((((((Pres.refl w123).ext hx182).ext hx217).ext hx260).ext hx268).gc hg276).gc hg280).ext hx313).ext hx324).ext hx340) hg353 hO348.1 (fun b hb h=>by simp only [Clip] at h;omega)).gc hg372))
    have hO383:=OwnL.near rVr hO357 ((Pres.refl w351).grownN hg372 (fun h=>by have h1:=h.1;have h2:=h.2;omega))
    have d384:=(RLs.pres rIt hd164 ((Pres.row ((((((((((Pres.refl w123).ext hx182).ext hx217).ext hx260).ext hx268).gc hg276).gc hg280).ext hx313).ext hx324).ext hx340) hg353 hO348.1 (fun b hb h=>by simp only [Clip] at h;omega)).gc hg372))
    have b385:=((grown_blk hO348.1 hg353 (((b302.ext hx313).ext hx324).ext hx340) (by decide)).gn hg372)
    have b386:=((grown_blk hO348.1 hg353 (((((((((b130.ext hx182).ext hx217).ext hx260).ext hx268).gn hg276).gn hg280).ext hx313).ext hx324).ext hx340) (by decide)).gn hg372)
    refine ⟨⟨(k+1),A349,c350,(xp++((vi vr213.no)::dg vr213.state [(vl A178 ((diffL bf x154).length) c179),(vi vr213.sg.index),(vl A229 vr213.sg.op.length c230),(vl A233 vr213.sg.cl.length c234),(vl A237 vr213.sg.path.length c238)])),(vs++[vr213]),x154,A162,c163,F381.j,(by omega),(chain_step hi157 hvr214 hp127),hsx,((ext_row (((((((((((Ext.refl w).trans hx125).trans hx182).trans hx217).trans hx260).trans hx268).gn hg276).gn hg280).trans hx313).trans hx324).trans hx340) hg353 hO348.1 (by omega)).gn hg372),b385,b386,b371,d382,hO383,(RLs.norm d384),(by omega)⟩,?_⟩
    rw [F381.get (t:=39) rfl,hL136.get (t:=39) rfl];simp [intOf] <;> omega
   refine F344.ow (.agg #[(vl A25 n26 c27),(vi 2),(vi (k+1:Nat))]) rfl (fun F=>rb F rfl b346) fun _ F388=>ap ?_;clear F344
   refine ao 3 rfl ?_
   have hO389:=OwnL.near rVr hf133 ((((((((((Pres.refl w123).ext hx182).ext hx217).ext hx260).ext hx268).grownN hg276 (fun h=>by have h1:=h.1;have h2:=h.2;omega)).grownN hg280 (fun h=>by have h1:=h.1;have h2:=h.2;omega)).ext hx313).ext hx324).ext hx340)
   have d399:=(RLs.pres rCg hl245 ((((((((Pres.refl w216).ext hx260).ext hx268).gc hg276).gc hg280).ext hx313).ext hx324).ext hx340))
   have d400:=(hf246.pres ((((((((Pres.refl w216).ext hx260).ext hx268).gc hg276).gc hg280).ext hx313).ext hx324).ext hx340))
   have d401:=(hf247.pres ((((((((Pres.refl w216).ext hx260).ext hx268).gc hg276).gc hg280).ext hx313).ext hx324).ext hx340))
   have d402:=(hf248.pres ((((((((Pres.refl w216).ext hx260).ext hx268).gc hg276).gc hg280).ext hx313).ext hx324).ext hx340))
   refine o_appB (zs:=xp++((vi vr213.no)::dg vr213.state [(vl A178 ((diffL bf x154).length) c179),(vi vr213.sg.index),(vl A229 vr213.sg.op.length c230),(vl A233 vr213.sg.cl.length c234),(vl A237 vr213.sg.path.length c238)])) El36 F388 rfl rfl rfl rfl rfl (F388.get rfl) (F388.get rfl) hO389.1 (Fl.cel (Fl.blk (S:=fun _=>True) (k:=38) (n:=1) (c:=1) (cs:=((vi vr213.no)::dg vr213.state [(vl A178 ((diffL bf x154).length) c179),(vi vr213.sg.index),(vl A229 vr213.sg.op.length c230),(vl A233 vr213.sg.cl.length c234),(vl A237 vr213.sg.path.length c238)])) b339 (show List.length ((vi vr213.no)::dg vr213.state [(vl A178 ((diffL bf x154).length) c179),(vi vr213.sg.index),(vl A229 vr213.sg.op.length c230),(vl A233 vr213.sg.cl.length c234),(vl A237 vr213.sg.path.length c238)])=38 from (by simp [byteVals_len hR225.st])) (one_cons rfl (one_app (byteVals_one _) (one_cons rfl (one_cons rfl (one_cons rfl (one_cons rfl (one_cons rfl one_nil))))))) ⟨Nat.le_refl _,by omega⟩ trivial)).2.2 (by omega) (by omega) (by omega) rfl ?_
   intro A390 c391 w392 a403 F404 r393 hg394 z395 z396 hnb397;clear F388;have z405:=hg394.size
   have hO398:=OwnL.snoc (x:=vr213) rVr hO389 r393 hg394 hnb397 (show List.length ((vi vr213.no)::dg vr213.state [(vl A178 ((diffL bf x154).length) c179),(vi vr213.sg.index),(vl A229 vr213.sg.op.length c230),(vl A233 vr213.sg.cl.length c234),(vl A237 vr213.sg.path.length c238)])=38 from (by simp [byteVals_len hR225.st])) (one_cons rfl (one_app (byteVals_one _) (one_cons rfl (one_cons rfl (one_cons rfl (one_cons rfl (one_cons rfl one_nil))))))) ⟨_,_,_,_,rfl,(⟨hR225.st,RLs.sub rCg d399 (fun b hb=>by first | omega | (simp only [Clip] at hb;omega)),⟨Fl.sub d400 (fun b hb=>by first | omega | (simp only [Clip] at hb;omega)),Fl.sub d401 (fun b hb=>by first | omega | (simp only [Clip] at hb;omega)),Fl.sub d402 (fun b hb=>by first | omega | (simp only [Clip] at hb;omega)),hS227.o32,hS227.c32,hS227.p32⟩⟩:RVp (fun b=>w123.heap.size≤b) _ _ _ _ _ vr213)⟩ (fun b _ hb=>⟨by omega,fun e1=>by have h5:=own_blk_lt hf133.1 b e1;omega⟩)
   refine ⟨fun h=>absurd h (by decide),?_⟩
   refine F404.yv 6 (vl A390 (k+1) c391) rfl<|fun _ F407=>?_;clear F404
   have b411:=(grown_blk hO389.1 hg394 b347 (by decide))
   refine ao 7 rfl (F407.os rfl b411 (fun w408 b409 hg410=>an ?_));have z412:=hg410.size
   refine F407.yv 8 (vl A162 x154.length c163) rfl<|fun _ F414=>?_;clear F407
   refine nn (hK149 _ _ ?_);clear hK149
   have F415:=F414.k [0,1,4,5,6,7,8,9,34,10,37,38,39,40,12,13,14,15,16,17,69];clear F414
   refine wp_region_lit ?_
   refine F415.xv (vi (k+1:Nat))<|Xm rfl<|fun _ F419=>?_;clear F415
   refine wpList_nil ?_
   have d420:=(hf132.pres ((Pres.row ((((((((((Pres.refl w123).ext hx182).ext hx217).ext hx260).ext hx268).gc hg276).gc hg280).ext hx313).ext hx324).ext hx340) hg394 hO389.1 (fun b hb h=>by simp only [Clip] at h;omega)).gc hg410))
   have hO421:=OwnL.near rVr hO398 ((Pres.refl w392).grownN hg410 (fun h=>by have h1:=h.1;have h2:=h.2;omega))
   have d422:=(RLs.pres rIt hd164 ((Pres.row ((((((((((Pres.refl w123).ext hx182).ext hx217).ext hx260).ext hx268).gc hg276).gc hg280).ext hx313).ext hx324).ext hx340) hg394 hO389.1 (fun b hb h=>by simp only [Clip] at h;omega)).gc hg410))
   have b423:=((grown_blk hO389.1 hg394 (((b302.ext hx313).ext hx324).ext hx340) (by decide)).gn hg410)
   have b424:=((grown_blk hO389.1 hg394 (((((((((b130.ext hx182).ext hx217).ext hx260).ext hx268).gn hg276).gn hg280).ext hx313).ext hx324).ext hx340) (by decide)).gn hg410)
   refine ⟨⟨(k+1),A390,c391,(xp++((vi vr213.no)::dg vr213.state [(vl A178 ((diffL bf x154).length) c179),(vi vr213.sg.index),(vl A229 vr213.sg.op.length c230),(vl A233 vr213.sg.cl.length c234),(vl A237 vr213.sg.path.length c238)])),(vs++[vr213]),x154,A162,c163,F419.j,(by omega),(chain_step hi157 hvr214 hp127),hsx,((ext_row (((((((((((Ext.refl w).trans hx125).trans hx182).trans hx217).trans hx260).trans hx268).gn hg276).gn hg280).trans hx313).trans hx324).trans hx340) hg394 hO389.1 (by omega)).gn hg410),b423,b424,b409,d420,hO421,(RLs.norm d422),(by omega)⟩,?_⟩
   rw [F419.get (t:=39) rfl,hL136.get (t:=39) rfl];simp [intOf] <;> omega
  refine F336.ow (.agg #[(vl A25 n26 c27),(vi 2),(vi (k+1:Nat))]) rfl (fun F=>rb F rfl b331) fun _ F426=>ap ?_;clear F336
  refine ao 2 rfl (F426.on (fun g=>(vl (some ⟨g,0,none⟩) 1 1)) ((vi vr213.no)::dg vr213.state [(vl A178 ((diffL bf x154).length) c179),(vi vr213.sg.index),(vl A229 vr213.sg.op.length c230),(vl A233 vr213.sg.cl.length c234),(vl A237 vr213.sg.path.length c238)]) 30 rfl (fun F=>rn_buildSlice (parts1 (F.get rfl)) (build_wholeE (vs:=[(ag ((vi vr213.no)::dg vr213.state [(vl A178 ((diffL bf x154).length) c179),(vi vr213.sg.index),(vl A229 vr213.sg.op.length c230),(vl A233 vr213.sg.cl.length c234),(vl A237 vr213.sg.path.length c238)]))]) El36 rfl rfl (fun z0 hz0=>by rw [List.mem_singleton.1 hz0];exact (show List.length ((vi vr213.no)::dg vr213.state [(vl A178 ((diffL bf x154).length) c179),(vi vr213.sg.index),(vl A229 vr213.sg.op.length c230),(vl A233 vr213.sg.cl.length c234),(vl A237 vr213.sg.path.length c238)])=38 from (by simp [byteVals_len hR225.st]))) (by decide) (by decide) (by simp [Value.cells]))) fun g427 w428 _ F434 z431 z432 b429 hx430=>?_);clear F426
  have b435:=(b330.ext hx430)
  have b436:=(b331.ext hx430)
  have b437:=(b332.ext hx430)
  refine ⟨fun _ _=>⟨((Ext.refl w323).trans hx430),b435,b436,b437⟩,?_⟩
  refine ao 3 rfl ?_
  have hO438:=OwnL.near rVr hf133 ((((((((((Pres.refl w123).ext hx182).ext hx217).ext hx260).ext hx268).grownN hg276 (fun h=>by have h1:=h.1;have h2:=h.2;omega)).grownN hg280 (fun h=>by have h1:=h.1;have h2:=h.2;omega)).ext hx313).ext hx324).ext hx430)
  have d448:=(RLs.pres rCg hl245 ((((((((Pres.refl w216).ext hx260).ext hx268).gc hg276).gc hg280).ext hx313).ext hx324).ext hx430))
  have d449:=(hf246.pres ((((((((Pres.refl w216).ext hx260).ext hx268).gc hg276).gc hg280).ext hx313).ext hx324).ext hx430))
  have d450:=(hf247.pres ((((((((Pres.refl w216).ext hx260).ext hx268).gc hg276).gc hg280).ext hx313).ext hx324).ext hx430))
  have d451:=(hf248.pres ((((((((Pres.refl w216).ext hx260).ext hx268).gc hg276).gc hg280).ext hx313).ext hx324).ext hx430))
  refine o_appB (zs:=xp++((vi vr213.no)::dg vr213.state [(vl A178 ((diffL bf x154).length) c179),(vi vr213.sg.index),(vl A229 vr213.sg.op.length c230),(vl A233 vr213.sg.cl.length c234),(vl A237 vr213.sg.path.length c238)])) El36 F434 rfl rfl rfl rfl rfl (F434.get rfl) (F434.get rfl) hO438.1 (Fl.cel (Fl.blk (S:=fun _=>True) (k:=38) (n:=1) (c:=1) (cs:=((vi vr213.no)::dg vr213.state [(vl A178 ((diffL bf x154).length) c179),(vi vr213.sg.index),(vl A229 vr213.sg.op.length c230),(vl A233 vr213.sg.cl.length c234),(vl A237 vr213.sg.path.length c238)])) b429 (show List.length ((vi vr213.no)::dg vr213.state [(vl A178 ((diffL bf x154).length) c179),(vi vr213.sg.index),(vl A229 vr213.sg.op.length c230),(vl A233 vr213.sg.cl.length c234),(vl A237 vr213.sg.path.length c238)])=38 from (by simp [byteVals_len hR225.st])) (one_cons rfl (one_app (byteVals_one _) (one_cons rfl (one_cons rfl (one_cons rfl (one_cons rfl (one_cons rfl one_nil))))))) ⟨Nat.le_refl _,by omega⟩ trivial)).2.2 (by omega) (by omega) (by omega) rfl ?_
  intro A439 c440 w441 a452 F453 r442 hg443 z444 z445 hnb446;clear F434;have z454:=hg443.size
  have hO447:=OwnL.snoc (x:=vr213) rVr hO438 r442 hg443 hnb446 (show List.length ((vi vr213.no)::dg vr213.state [(vl A178 ((diffL bf x154).length) c179),(vi vr213.sg.index),(vl A229 vr213.sg.op.length c230),(vl A233 vr213.sg.cl.length c234),(vl A237 vr213.sg.path.length c238)])=38 from (by simp [byteVals_len hR225.st])) (one_cons rfl (one_app (byteVals_one _) (one_cons rfl (one_cons rfl (one_cons rfl (one_cons rfl (one_cons rfl one_nil))))))) ⟨_,_,_,_,rfl,(⟨hR225.st,RLs.sub rCg d448 (fun b hb=>by first | omega | (simp only [Clip] at hb;omega)),⟨Fl.sub d449 (fun b hb=>by first | omega | (simp only [Clip] at hb;omega)),Fl.sub d450 (fun b hb=>by first | omega | (simp only [Clip] at hb;omega)),Fl.sub d451 (fun b hb=>by first | omega | (simp only [Clip] at hb;omega)),hS227.o32,hS227.c32,hS227.p32⟩⟩:RVp (fun b=>w123.heap.size≤b) _ _ _ _ _ vr213)⟩ (fun b _ hb=>⟨by omega,fun e1=>by have h5:=own_blk_lt hf133.1 b e1;omega⟩)
  refine ⟨fun h=>absurd h (by decide),?_⟩
  refine F453.yv 6 (vl A439 (k+1) c440) rfl<|fun _ F456=>?_;clear F453
  have b460:=(grown_blk hO438.1 hg443 b437 (by decide))
  refine ao 7 rfl (F456.os rfl b460 (fun w457 b458 hg459=>an ?_));have z461:=hg459.size
  refine F456.yv 8 (vl A162 x154.length c163) rfl<|fun _ F463=>?_;clear F456
  refine nn (hK149 _ _ ?_);clear hK149
  have F464:=F463.k [0,1,4,5,6,7,8,9,34,10,37,38,39,40,12,13,14,15,16,17,69];clear F463
  refine wp_region_lit ?_
  refine F464.xv (vi (k+1:Nat))<|Xm rfl<|fun _ F468=>?_;clear F464
  refine wpList_nil ?_
  have d469:=(hf132.pres ((Pres.row ((((((((((Pres.refl w123).ext hx182).ext hx217).ext hx260).ext hx268).gc hg276).gc hg280).ext hx313).ext hx324).ext hx430) hg443 hO438.1 (fun b hb h=>by simp only [Clip] at h;omega)).gc hg459))
  have hO470:=OwnL.near rVr hO447 ((Pres.refl w441).grownN hg459 (fun h=>by have h1:=h.1;have h2:=h.2;omega))
  have d471:=(RLs.pres rIt hd164 ((Pres.row ((((((((((Pres.refl w123).ext hx182).ext hx217).ext hx260).ext hx268).gc hg276).gc hg280).ext hx313).ext hx324).ext hx430) hg443 hO438.1 (fun b hb h=>by simp only [Clip] at h;omega)).gc hg459))
  have b472:=((grown_blk hO438.1 hg443 (((b302.ext hx313).ext hx324).ext hx430) (by decide)).gn hg459)
  have b473:=((grown_blk hO438.1 hg443 (((((((((b130.ext hx182).ext hx217).ext hx260).ext hx268).gn hg276).gn hg280).ext hx313).ext hx324).ext hx430) (by decide)).gn hg459)
  refine ⟨⟨(k+1),A439,c440,(xp++((vi vr213.no)::dg vr213.state [(vl A178 ((diffL bf x154).length) c179),(vi vr213.sg.index),(vl A229 vr213.sg.op.length c230),(vl A233 vr213.sg.cl.length c234),(vl A237 vr213.sg.path.length c238)])),(vs++[vr213]),x154,A162,c163,F468.j,(by omega),(chain_step hi157 hvr214 hp127),hsx,((ext_row (((((((((((Ext.refl w).trans hx125).trans hx182).trans hx217).trans hx260).trans hx268).gn hg276).gn hg280).trans hx313).trans hx324).trans hx430) hg443 hO438.1 (by omega)).gn hg459),b472,b473,b458,d469,hO470,(RLs.norm d471),(by omega)⟩,?_⟩
  rw [F468.get (t:=39) rfl,hL136.get (t:=39) rfl];simp [intOf] <;> omega
 refine F146.cf ?_
 refine wp_exit ?_
 refine exit_then ?_
 refine exit_then ?_
 refine exit_here ?_
 refine hK108 _ _ ?_;clear hK108
 refine wr fun K474 hK474=>?_
 refine F146.xw (.agg (byteVals (pubF ([seed]) 2 0)).toArray) (fun F=>rb F rfl b129 (hk:=byteVals_len (pubF_len _ _ _)))<|Xm rfl<|fun _ F478=>?_;clear F146
 refine F478.xs rfl b129 (fun w479 b480 hg481=>?_) (hk:=byteVals_len (pubF_len _ _ _)) (hl:=byteVals_len (pubF_len _ _ _));have z482:=hg481.size
 refine F478.xa rfl<|Xv (.bool true)<|fun _ F486=>?_;clear F478
 refine wpList_nil (hK474 _ _ ?_);clear hK474
 refine wp_ret ?_
 refine retC2 F486 rfl rfl rfl rfl b480 Tryd.underlying24 rfl (sk inf24 (byteVals_len (pubF_len _ _ _))) ?_
 have he:=chain_end (by omega) hp127
 subst he
 have hO487:=OwnL.near rVr hf133 ((Pres.refl w123).grownN hg481 (fun h=>by have h1:=h.1;have h2:=h.2;omega))
 obtain rfl:=hO487.2.1
 exact ⟨_,_,_,rfl,RLs.sub rVr (OwnL.rls rVr hO487) (fun b hb=>by omega),(((Ext.refl w).trans hx125).gn hg481)⟩

theorem chain_at {v:Value} (seed:UInt8) (ss:List (List It)) (w:World) (h:RLs RIs 1 S w v ss) (hss:∀ s∈ss,checkE s=0∧s.length≤12∧∀ x∈s,x.data.length≤4294967296) (hl2:ss.length≤2) (hG:Glob w) :
  Calls Tryd.prog 12 #[.int .u8 (seed.toNat:Nat),v] w (fun e w'=>∃ A n c,e=.returned (.tuple #[.agg (byteVals (pubF [seed] 2 0)).toArray,.slice A n c,.bool true])∧RLs RVr 38 (fun b=>w.heap.size≤b) w' (vl A n c) (chainL [seed] 0 [] ss)∧Ext w w'):=by
 obtain ⟨A,c,rfl,_⟩:=h.form
 exact chain_any seed A c ss w h hss hl2 hG

end Go.Proofs.YtihgmaoghbnnaaaDoor

namespace Go.Proofs.YtihgmaoghbnnaaaDoor
open Go.RowKit

variable {S S':Nat→Prop}

section
variable {S:Nat→Prop}
theorem join_ok (pub:List UInt8) (w:World) (hp:pub.length=32) :
  Calls Tryd.prog 13 #[.agg (byteVals pub).toArray,.int .i64 2] w (fun e w'=>e=.returned (.tuple #[ag (fcs pub 2 0 v0 v0),.int .i64 0])∧Ext w w'):=join_any pub 2 w hp
theorem join_no (pub:List UInt8) (w:World) (hp:pub.length=32) :
  Calls Tryd.prog 13 #[.agg (byteVals pub).toArray,.int .i64 0] w (fun e w'=>e=.returned (.tuple #[ag (fcs zero32 0 0 v0 v0),.int .i64 40])∧Ext w w'):=join_any pub 0 w hp
theorem recv_at {c e c1 o1 e1 p1:Value} (S:Nat→Prop) (pub:List UInt8) (n:Int) (L:List It) (E:List Vr) (v:Vr) (w:World) (p2:List UInt8) (m2 n2:Int) (L2:List It) (E2:List Vr) (z:Int) (hq:recE (fo pub n L E) v=z∧recF (fo pub n L E) v=⟨p2,m2,n2,L2,E2⟩)
  (hp:pub.length=32) (hL:RLs RIt 2 S w c L) (hE:RLs RVr 38 S w e E) (hv:RVp S w c1 o1 e1 p1 v) (hdi:∀ x∈L,x.data.length≤4294967296) (hde:∀ v∈E,∀ x∈v.chs,x.data.length≤4294967296) (hdv:∀ x∈v.chs,x.data.length≤4294967296) (hG:Glob w) :
  Calls Tryd.prog 14 #[ag (fcs pub 2 n c e),ag (vcs v.no v.state c1 v.sg.index o1 e1 p1)] w (fun en w'=>∃ c' e',en=.returned (.tuple #[ag (fcs p2 m2 n2 c' e'),.int .i64 z])∧RLs RIt 2 (Clip (fun b=>S b∨w.heap.size≤b) w') w' c' L2∧RLs RVr 38 (Clip (fun b=>S b∨w.heap.size≤b) w') w' e' E2∧p2.length=32∧Ext w w'):=by
 have h:=receive_at (S:=S) (c:=c) (e:=e) (fo pub n L E) v w ⟨hp,hL,hE⟩ hv hdi hde hdv hG
 rw [hq.1,hq.2] at h
 refine h.mono ?_
 rintro _ w' ⟨c',e',rfl,hR,hx⟩
 exact ⟨c',e',rfl,RLs.subB rIt hR.items (fun b hb h=>⟨h,hb⟩),RLs.subB rVr hR.early (fun b hb h=>⟨h,hb⟩),hR.pub,hx⟩
theorem wants_fo {S1 S2:Nat→Prop} {c e:Value} (pub:List UInt8) (n:Int) (L:List It) (E:List Vr) (w:World) (z:Int) (hz:n+1=z) (hp:pub.length=32) (hL:RLs RIt 2 S1 w c L) (hE:RLs RVr 38 S2 w e E) (h0:0≤n∧n≤4294967296) :
  Calls Tryd.prog 17 #[ag (fcs pub 2 n c e)] w (fun en w'=>en=.returned (vi z)∧Ext w w'):=by
 subst hz
 exact wants_at (S:=fun _=>True) (c:=c) (e:=e) (fo pub n L E) w ⟨hp,hL.sub rIt fun _ _=>trivial,hE.sub rVr fun _ _=>trivial⟩ h0
theorem samefo_fo {S1 S2 S3 S4:Nat→Prop} {c e c2 e2:Value} (p:List UInt8) (m n:Int) (L:List It) (E:List Vr) (w:World) (hp:p.length=32) (h1:RLs RIt 2 S1 w c L) (h2:RLs RVr 38 S2 w e E) (h3:RLs RIt 2 S3 w c2 L) (h4:RLs RVr 38 S4 w e2 E) :
  Calls Tryd.prog 16 #[ag (fcs p m n c e),ag (fcs p m n c2 e2)] w (fun en w'=>en=.returned (.bool true)∧Ext w w') :=
 samefo_at (S1:=fun _=>True) (S2:=fun _=>True) (⟨p,m,n,L,E⟩:Fo) w ⟨hp,h1.sub rIt fun _ _=>trivial,h2.sub rVr fun _ _=>trivial⟩ ⟨hp,h3.sub rIt fun _ _=>trivial,h4.sub rVr fun _ _=>trivial⟩
theorem verify_nil (pub:List UInt8) (w:World) (hp:pub.length=32) (hG:Glob w) :
  Calls Tryd.prog 22 #[.agg (byteVals pub).toArray,.int .i64 2,ag (vcs 0 zero32 v0 0 v0 v0 v0)] w (fun en w'=>en=.returned (vi 420)∧Ext w w') :=
 verifyv_at (S:=fun _=>True) pub 2 vrNil w ⟨zero32_len,RLs.nil _,⟨Fl.nil _,Fl.nil _,Fl.nil _,All32.nil,All32.nil,All32.nil⟩⟩ hp (fun x hx=>absurd hx (by simp [vrNil])) hG
end
theorem version_idx {sd:List UInt8} {a b:List It} (hs:1≤sd.length∧sd.length≤64) {n:Nat} (hn:n<2) {v:Vr} (hv:v=⟨(n+1:Nat),stateD b,diffL a b,signF sd 2 n n (msgV (n+1:Nat) (stateD b) (diffL a b))⟩):v.sg.index=n:=by
 have hm:(msgV (n+1:Nat) (stateD b) (diffL a b)).length=72:=msgV_len (stateD_len b)
 rw [hv]
 exact (sign_len ((sign_iff (kok hs (by omega) (by omega)) (by omega)).2 ⟨by omega,by omega⟩)).2.2
theorem duo_of {sd:List UInt8} {a b:List It} (hs:1≤sd.length∧sd.length≤64) (ha:checkE a=0) (hb:checkE b=0) (hl:a.length+b.length≤65536) {v1 v2:Vr} (h1:versionV sd 2 ((0:Nat):Int) 0 a (diffL [] a)=v1) (h2:versionV sd 2 ((1:Nat):Int) 1 b (diffL a b)=v2):Duo (pubF sd 2 0) a b v1 v2:=by
 obtain ⟨-,p2,p3⟩:=version_good (a:=[]) hs (n:=0) (by omega) check_nil ha (by simp;omega)
 obtain ⟨-,q2,q3⟩:=version_good (a:=a) hs (n:=1) (by omega) ha hb hl
 rw [h1] at p2 p3
 rw [h2] at q2 q3
 exact ⟨ha,hb,hl,by rw [p2];rfl,by rw [q2];rfl,by rw [p2],by rw [q2],by rw [p2],by rw [q2],p3,q3⟩
def oneL:List It:=[⟨[97],[120]⟩]
set_option maxRecDepth 100000 in
set_option maxHeartbeats 1000000 in
theorem sane42_any (w:World) (hG:Glob w) :
  Calls Tryd.prog 8 #[] w (fun en w'=>en=.returned (.bool true)∧Ext w w'):=by
 have hk:1≤([115,101,101,100]:List UInt8).length∧([115,101,101,100]:List UInt8).length≤64:=⟨by decide,by decide⟩
 refine calls_enter Tryd.func8 rfl rfl rfl fun _ hF=>?_
 refine wr fun K1 hK1=>?_
 refine hF.xv (.bool false)<|fun _ F3=>?_;clear hF
 refine wpList_nil (hK1 _ _ ?_);clear hK1
 refine wr fun K4 hK4=>?_
 refine F3.xn (fun g=>(vl (some ⟨g,0,none⟩) 4 4)) [(.int .u8 115),(.int .u8 101),(.int .u8 101),(.int .u8 100)] 5 (fun F=>rn_buildSlice (parts4 rfl rfl rfl rfl) (by kernel_rfl)) fun g5 w6 _ F12 z9 z10 b7 hx8=>?_;clear F3
 refine wpl_op (i:=1) rfl (o_mark (l:=[(115:UInt8),(101:UInt8),(101:UInt8),(100:UInt8)]) F12 rfl rfl rfl rfl rfl (F12.get rfl) Tryd.underlying52 Tryd.underlying5 b7 rfl (by omega) (by omega) ?_)
 intro w13 a16 F17 hf14 hg15;clear F12;have z18:=hg15.size
 refine wpl_op (i:=2) rfl (o_call F17 rfl rfl rfl rfl (rn_call (args2 (F17.get rfl) rfl) rfl (by kernel_rfl)) (new_at (v:=(vl (some ⟨g5,0,none⟩) 4 4)) (m:=4) ([(115:UInt8),(101:UInt8),(101:UInt8),(100:UInt8)]) 2 _ hf14 (by omega)) ?_)
 rw [(new_facts hk).1,(new_facts hk).2.1,(new_facts hk).2.2]
 rintro _ w23 ⟨A19,n20,c21,rfl,hf22,hx24⟩
 have z25:=(Fl.cel hf22).2.1;have z26:=Fl.blen hf22
 refine ⟨_,rfl,?_⟩;intro a27 F28;clear F17;have z29:=hx24.size
 have hf30:Fl (Clip (fun b=>w13.heap.size≤b) w23) w23 1 (vl A19 n20 c21) n20 (byteVals ([(115:UInt8),(101:UInt8),(101:UInt8),(100:UInt8)])):=hf22.clip
 refine F28.xm rfl<|Xv (.agg #[(vl A19 n20 c21),(vi 2),(vi 0)])<|Xv (vi 0)<|fun _ F36=>?_;clear F28
 refine F36.xz [v0,(vi 0),(vi 0)] 56 fun g37 w38 _ F44 z41 z42 b39 hx40=>?_;clear F36
 refine F44.xs rfl b39 (fun w45 b46 hg47=>?_);have z48:=hg47.size
 refine F44.xa rfl<|fun _ F50=>?_;clear F44
 refine wpList_nil (hK4 _ _ ?_);clear hK4
 have F51:=F50.k [0,1,2];clear F50
 refine wr fun K52 hK52=>?_
 refine F51.xw (.agg #[(vl A19 n20 c21),(vi 2),(vi 0)]) (fun F=>rb F rfl b46)<|fun _ F54=>?_;clear F51
 have d55:=(hf30.pres (((Pres.refl w23).ext hx40).gc hg47))
 refine F54.xc (pub_at (v:=(vl A19 n20 c21)) (m:=n20) ([(115:UInt8),(101:UInt8),(101:UInt8),(100:UInt8)]) 2 0 _ d55 (hG.ext ((((((Ext.refl w).trans hx8).gn hg15).trans hx24).trans hx40).gn hg47))) ?_
 rintro _ w56 ⟨rfl,hx57⟩
 refine ⟨_,rfl,?_⟩;intro a58 F59;clear F54;have z60:=hx57.size
 refine F59.xm rfl<|Xv (.agg (byteVals (pubF ([(115:UInt8),(101:UInt8),(101:UInt8),(100:UInt8)]) 2 0)).toArray)<|Xv (vi (pubE ([(115:UInt8),(101:UInt8),(101:UInt8),(100:UInt8)]) 2 0))<|fun _ F66=>?_;clear F59
 refine F66.xz (byteVals (List.replicate 32 0)) 24 fun g67 w68 _ F74 z71 z72 b69 hx70=>?_;clear F66
 refine F74.xs rfl b69 (fun w75 b76 hg77=>?_) (hk:=byteVals_len (pubF_len _ _ _));have z78:=hg77.size
 refine F74.xa rfl<|fun _ F80=>?_;clear F74
 refine wpList_nil (hK52 _ _ ?_);clear hK52
 have F81:=F80.k [0,1,2,3,4];clear F80
 refine wr fun K82 hK82=>?_
 refine F81.xn (fun g=>(vl (some ⟨g,0,none⟩) 1 1)) [(.int .u8 120)] 5 (fun F=>rn_buildSlice (parts1 rfl) (by kernel_rfl)) fun g83 w84 _ F90 z87 z88 b85 hx86=>?_;clear F81
 refine wpl_op (i:=1) rfl (o_mark (l:=[(120:UInt8)]) F90 rfl rfl rfl rfl rfl (F90.get rfl) Tryd.underlying52 Tryd.underlying5 b85 rfl (by omega) (by omega) ?_)
 intro w91 a94 F95 hf92 hg93;clear F90;have z96:=hg93.size
 refine F95.xw (.agg #[(strOf ([97])),(vl (some ⟨g83,0,none⟩) 1 1)]) (fun F=>rn_build (parts2 rfl (F.get rfl)) (by kernel_rfl))<|fun _ F98=>?_;clear F95
 refine F98.xn (fun g=>(vl (some ⟨g,0,none⟩) 1 1)) [(strOf ([97])),(vl (some ⟨g83,0,none⟩) 1 1)] 66 (fun F=>rn_buildSlice (parts1 (F.get rfl)) (build_wholeE (vs:=[(.agg #[(strOf ([97])),(vl (some ⟨g83,0,none⟩) 1 1)])]) El22 rfl rfl (fun z0 hz0=>by rw [List.mem_singleton.1 hz0];exact (show List.length [(strOf ([97])),(vl (some ⟨g83,0,none⟩) 1 1)]=2 from rfl)) (by decide) (by decide) (by simp [Value.cells]))) fun g99 w100 _ F106 z103 z104 b101 hx102=>?_;clear F98
 have d108:=(hf92.ext hx102)
 have hl107:RLs RIt 2 (Clip (fun _=>True) w100) w100 (vl (some ⟨g99,0,none⟩) 1 1) oneL:=RLs.clip rIt (RLs.one b101 (show List.length [(strOf ([97])),(vl (some ⟨g83,0,none⟩) 1 1)]=2 from rfl) (one_cons rfl (one_cons rfl one_nil)) trivial (⟨_,_,rfl,Fl.any d108⟩:RIt (fun _=>True) _ _ ⟨[97],[(120:UInt8)]⟩))
 refine F106.xa rfl<|fun _ F110=>?_;clear F106
 refine wpList_nil (hK82 _ _ ?_);clear hK82
 have F111:=F110.k [0,1,2,3,4,5];clear F110
 refine wr fun K112 hK112=>?_
 refine F111.xm rfl<|fun _ F114=>?_;clear F111
 refine wpl_op (i:=1) rfl (o_call F114 rfl rfl rfl rfl (rn_call (args2 rfl (F114.get rfl)) rfl (by kernel_rfl)) (diff_at (u:=v0) (v:=(vl (some ⟨g99,0,none⟩) 1 1)) ([]) oneL _ (RLs.nil _:RLs RIt 2 (fun _=>False) _ _ _) hl107 (show ∀ x∈([]:List It),x.data.length≤4294967296 from fun x hx=>absurd hx (by simp)) (show ∀ x∈oneL,x.data.length≤4294967296 by decide)) ?_)
 rw [(diffE_zero (show checkE []=0 from rfl) (show checkE oneL=0 by decide)).2,(diffE_zero (show checkE []=0 from rfl) (show checkE oneL=0 by decide)).1]
 rintro _ w118 ⟨A115,c116,rfl,hL117,hx119⟩
 refine ⟨_,rfl,?_⟩;intro a120 F121;clear F114;have z122:=hx119.size
 have hl123:RLs RCg 3 (Clip (fun z=>w100.heap.size≤z) w118) w118 (vl A115 ((diffL ([]) oneL).length) c116) (diffL ([]) oneL):=RLs.clip rCg hL117
 obtain ⟨-,z124,z125⟩:=RLs.at hL117
 refine F121.xm rfl<|Xv (vl A115 ((diffL ([]) oneL).length) c116)<|Xv (vi 0)<|Xa rfl<|Xa rfl<|fun _ F135=>?_;clear F121
 refine wpList_nil (hK112 _ _ ?_);clear hK112
 have F136:=F135.k [0,1,2,3,4,5,6,7];clear F135
 refine wr fun K137 hK137=>?_
 have b138:=(((((((b46.ext hx57).ext hx70).gn hg77).ext hx86).gn hg93).ext hx102).ext hx119)
 refine F136.xw (.agg #[(vl A19 n20 c21),(vi 2),(vi 0)]) (fun F=>rb F rfl b138)<|Xm rfl<|Xm rfl<|fun _ F144=>?_;clear F136
 have d145:=(hf30.pres ((((((((((Pres.refl w23).ext hx40).gc hg47).ext hx57).ext hx70).gc hg77).ext hx86).gc hg93).ext hx102).ext hx119))
 have d146:=(RLs.ext rIt hl107 hx119)
 have hv147:=version_good (sd:=[(115:UInt8),(101:UInt8),(101:UInt8),(100:UInt8)]) hk (n:=0) (by omega) (show checkE []=0 from rfl) (show checkE oneL=0 by decide) (by have h5:=(show ([]:List It).length≤12 by simp);have h6:=(show oneL.length≤12 by decide);omega)
 obtain ⟨vr148,hvr149⟩:∃ z,versionV ([(115:UInt8),(101:UInt8),(101:UInt8),(100:UInt8)]) 2 ((0:Nat):Int) 0 oneL (diffL ([]) oneL)=z:=⟨_,rfl⟩
 rw [hvr149] at hv147
 refine wpl_op (i:=3) rfl (o_call F144 rfl rfl rfl rfl (rn_call (args4 (F144.get rfl) rfl (F144.get rfl) (F144.get rfl)) rfl (by kernel_rfl)) (version_at (S:=fun _=>True) none 0 ([(115:UInt8),(101:UInt8),(101:UInt8),(100:UInt8)]) 2 ((0:Nat):Int) (0) oneL (diffL ([]) oneL) _ (Fl.any d145) (RLs.sub (S':=fun _=>True) rIt d146 fun _ _=>trivial) (RLs.sub (S':=fun _=>True) rCg hl123 fun _ _=>trivial) (show ∀ x∈oneL,x.data.length≤4294967296 by decide) (by have h6:=(show oneL.length≤12 by decide);omega) (diff_sm (show ∀ x∈([]:List It),x.data.length≤4294967296 from fun x hx=>absurd hx (by simp)) (show ∀ x∈oneL,x.data.length≤4294967296 by decide)) (hG.ext (((((((((((((Ext.refl w).trans hx8).gn hg15).trans hx24).trans hx40).gn hg47).trans hx57).trans hx70).gn hg77).trans hx86).gn hg93).trans hx102).trans hx119))) ?_)
 have hv1470:=hv147.1
 rw [hvr149,hv147.1,show keyS ([(115:UInt8),(101:UInt8),(101:UInt8),(100:UInt8)]) 2 ((0:Nat):Int) 0 oneL (diffL ([]) oneL)=[(115:UInt8),(101:UInt8),(101:UInt8),(100:UInt8)] from if_pos hv1470,show keyM ([(115:UInt8),(101:UInt8),(101:UInt8),(100:UInt8)]) 2 ((0:Nat):Int) 0 oneL (diffL ([]) oneL)=2 from if_pos hv1470,show keyU ([(115:UInt8),(101:UInt8),(101:UInt8),(100:UInt8)]) 2 ((0:Nat):Int) 0 oneL (diffL ([]) oneL)=((0:Nat):Int)+1 from if_pos hv1470]
 rintro _ w151 ⟨c153,o154,e155,p156,A157,n158,c159,rfl,hR160,hK161,hS162,hq163,hx152⟩
 obtain ⟨rfl,hkk⟩:=hq163 rfl;obtain ⟨rfl,rfl,rfl⟩:=Value.slice.inj hkk.symm
 have hvc150:vr148.chs=diffL ([]) oneL:=by rw [hv147.2.1]
 obtain ⟨A164,c165,rfl,z166,z167⟩:=Fl.form hS162.op
 obtain ⟨A168,c169,rfl,z170,z171⟩:=Fl.form hS162.cl
 obtain ⟨A172,c173,rfl,z174,z175⟩:=Fl.form hS162.path
 refine ⟨_,rfl,?_⟩;intro a176 F177;clear F144;have z178:=hx152.size
 have d179:=(RLs.ext rCg hl123 hx152)
 have hl180:RLs RCg 3 (Clip (fun z=>w100.heap.size≤z) w118) w151 (vl A115 ((diffL ([]) oneL).length) c116) vr148.chs:=by rw [hvc150];exact d179
 have hf181:Fl (Clip (fun b=>w118.heap.size≤b) w151) _ _ _ _ _:=Fl.subB hS162.op (fun _ h1 h2=>⟨h2,h1⟩)
 have hf182:Fl (Clip (fun b=>w118.heap.size≤b) w151) _ _ _ _ _:=Fl.subB hS162.cl (fun _ h1 h2=>⟨h2,h1⟩)
 have hf183:Fl (Clip (fun b=>w118.heap.size≤b) w151) _ _ _ _ _:=Fl.subB hS162.path (fun _ h1 h2=>⟨h2,h1⟩)
 refine F177.xm rfl<|Xv (ag ((vi vr148.no)::dg vr148.state [(vl A115 ((diffL ([]) oneL).length) c116),(vi vr148.sg.index),(vl A164 vr148.sg.op.length c165),(vl A168 vr148.sg.cl.length c169),(vl A172 vr148.sg.path.length c173)]))<|Xv (.agg #[(vl A19 n20 c21),(vi 2),(vi (1:Nat))])<|Xv (vi 0)<|fun _ F191=>?_;clear F177
 refine F191.xz vz 30 fun g192 w193 _ F199 z196 z197 b194 hx195=>?_;clear F191
 refine F199.xz [v0,(vi 0),(vi 0)] 56 fun g200 w201 _ F207 z204 z205 b202 hx203=>?_;clear F199
 have b208:=(b194.ext hx203)
 refine F207.xs rfl b208 (fun w209 b210 hg211=>?_) (hk:=len_dig1 hR160.st);have z212:=hg211.size
 have b216:=(b202.gn hg211)
 refine F207.xs rfl b216 (fun w213 b214 hg215=>?_);have z217:=hg215.size
 refine F207.xa rfl<|fun _ F219=>?_;clear F207
 refine wpList_nil (hK137 _ _ ?_);clear hK137
 have F220:=F219.k [0,1,2,3,4,5,6,7,8,9,10];clear F219
 refine wr fun K221 hK221=>?_
 refine F220.xm rfl<|fun _ F223=>?_;clear F220
 have d224:=(RLs.pres rIt hl107 (((((((Pres.refl w100).ext hx119).ext hx152).ext hx195).ext hx203).gc hg211).gc hg215))
 refine wpl_op (i:=1) rfl (o_call F223 rfl rfl rfl rfl (rn_call (args2 (F223.get rfl) rfl) rfl (by kernel_rfl)) (diff_at (u:=(vl (some ⟨g99,0,none⟩) 1 1)) (v:=v0) oneL ([]) _ d224 (RLs.nil _:RLs RIt 2 (fun _=>False) _ _ _) (show ∀ x∈oneL,x.data.length≤4294967296 by decide) (show ∀ x∈([]:List It),x.data.length≤4294967296 from fun x hx=>absurd hx (by simp))) ?_)
 rw [(diffE_zero (show checkE oneL=0 by decide) (show checkE []=0 from rfl)).2,(diffE_zero (show checkE oneL=0 by decide) (show checkE []=0 from rfl)).1]
 rintro _ w228 ⟨A225,c226,rfl,hL227,hx229⟩
 refine ⟨_,rfl,?_⟩;intro a230 F231;clear F223;have z232:=hx229.size
 have hl233:RLs RCg 3 (Clip (fun z=>w213.heap.size≤z) w228) w228 (vl A225 ((diffL oneL ([])).length) c226) (diffL oneL ([])):=RLs.clip rCg hL227
 obtain ⟨-,z234,z235⟩:=RLs.at hL227
 refine F231.xm rfl<|Xv (vl A225 ((diffL oneL ([])).length) c226)<|Xv (vi 0)<|Xa rfl<|Xa rfl<|fun _ F245=>?_;clear F231
 refine wpList_nil (hK221 _ _ ?_);clear hK221
 have F246:=F245.k [0,1,2,3,4,5,6,7,8,9,10,11,12];clear F245
 refine wr fun K247 hK247=>?_
 have b248:=(b214.ext hx229)
 refine F246.xw (.agg #[(vl A19 n20 c21),(vi 2),(vi (1:Nat))]) (fun F=>rb F rfl b248)<|fun _ F250=>?_;clear F246
 have b251:=((b210.gn hg215).ext hx229)
 refine F250.xw (ag ((vi vr148.no)::dg vr148.state [(vl A115 ((diffL ([]) oneL).length) c116),(vi vr148.sg.index),(vl A164 vr148.sg.op.length c165),(vl A168 vr148.sg.cl.length c169),(vl A172 vr148.sg.path.length c173)])) (fun F=>rb F rfl b251 (hk:=len_dig1 hR160.st))<|fun _ F253=>?_;clear F250
 refine F253.xn (fun g=>(vl (some ⟨g,0,none⟩) 1 1)) ((vi vr148.no)::dg vr148.state [(vl A115 ((diffL ([]) oneL).length) c116),(vi vr148.sg.index),(vl A164 vr148.sg.op.length c165),(vl A168 vr148.sg.cl.length c169),(vl A172 vr148.sg.path.length c173)]) 30 (fun F=>rn_buildSlice (parts1 (F.get rfl)) (build_wholeE (vs:=[(ag ((vi vr148.no)::dg vr148.state [(vl A115 ((diffL ([]) oneL).length) c116),(vi vr148.sg.index),(vl A164 vr148.sg.op.length c165),(vl A168 vr148.sg.cl.length c169),(vl A172 vr148.sg.path.length c173)]))]) El36 rfl rfl (fun z0 hz0=>by rw [List.mem_singleton.1 hz0];exact (show List.length ((vi vr148.no)::dg vr148.state [(vl A115 ((diffL ([]) oneL).length) c116),(vi vr148.sg.index),(vl A164 vr148.sg.op.length c165),(vl A168 vr148.sg.cl.length c169),(vl A172 vr148.sg.path.length c173)])=38 from (by simp [byteVals_len hR160.st]))) (by decide) (by decide) (by simp [Value.cells]))) fun g254 w255 _ F261 z258 z259 b256 hx257=>?_;clear F253
 have d263:=(RLs.pres rCg hl180 (((((((Pres.refl w151).ext hx195).ext hx203).gc hg211).gc hg215).ext hx229).ext hx257))
 have d264:=(hf181.pres (((((((Pres.refl w151).ext hx195).ext hx203).gc hg211).gc hg215).ext hx229).ext hx257))
 have d265:=(hf182.pres (((((((Pres.refl w151).ext hx195).ext hx203).gc hg211).gc hg215).ext hx229).ext hx257))
 have d266:=(hf183.pres (((((((Pres.refl w151).ext hx195).ext hx203).gc hg211).gc hg215).ext hx229).ext hx257))
 have hl262:RLs RVr 38 (Clip (fun _=>True) w255) w255 (vl (some ⟨g254,0,none⟩) 1 1) [vr148]:=RLs.clip rVr (RLs.one b256 (show List.length ((vi vr148.no)::dg vr148.state [(vl A115 ((diffL ([]) oneL).length) c116),(vi vr148.sg.index),(vl A164 vr148.sg.op.length c165),(vl A168 vr148.sg.cl.length c169),(vl A172 vr148.sg.path.length c173)])=38 from (by simp [byteVals_len hR160.st])) (one_cons rfl (one_app (byteVals_one _) (one_cons rfl (one_cons rfl (one_cons rfl (one_cons rfl (one_cons rfl one_nil))))))) trivial (⟨_,_,_,_,rfl,(⟨hR160.st,RLs.sub (S':=fun _=>True) rCg d263 fun _ _=>trivial,⟨Fl.any d264,Fl.any d265,Fl.any d266,hS162.o32,hS162.c32,hS162.p32⟩⟩:RVp (fun _=>True) _ _ _ _ _ vr148)⟩:RVr (fun _=>True) _ _ vr148))
 refine F261.xm rfl<|fun _ F268=>?_;clear F261
 have d269:=(hf30.pres (((((((((((((((((Pres.refl w23).ext hx40).gc hg47).ext hx57).ext hx70).gc hg77).ext hx86).gc hg93).ext hx102).ext hx119).ext hx152).ext hx195).ext hx203).gc hg211).gc hg215).ext hx229).ext hx257))
 have d270:=(RLs.ext rCg hl233 hx257)
 have hv271:=version_good (sd:=[(115:UInt8),(101:UInt8),(101:UInt8),(100:UInt8)]) hk (n:=1) (by omega) (show checkE oneL=0 by decide) (show checkE []=0 from rfl) (by have h5:=(show oneL.length≤12 by decide);have h6:=(show ([]:List It).length≤12 by simp);omega)
 obtain ⟨vr272,hvr273⟩:∃ z,versionV ([(115:UInt8),(101:UInt8),(101:UInt8),(100:UInt8)]) 2 ((1:Nat):Int) 1 ([]) (diffL oneL ([]))=z:=⟨_,rfl⟩
 rw [hvr273] at hv271
 refine wpl_op (i:=4) rfl (o_call F268 rfl rfl rfl rfl (rn_call (args4 (F268.get rfl) (F268.get rfl) rfl (F268.get rfl)) rfl (by kernel_rfl)) (version_at (S:=fun _=>True) (some ⟨g254,0,none⟩) 1 ([(115:UInt8),(101:UInt8),(101:UInt8),(100:UInt8)]) 2 ((1:Nat):Int) (1) ([]) (diffL oneL ([])) _ (Fl.any d269) (RLs.sub (S':=fun _=>True) rIt (RLs.nil _:RLs RIt 2 (fun _=>False) _ _ _) fun _ _=>trivial) (RLs.sub (S':=fun _=>True) rCg d270 fun _ _=>trivial) (show ∀ x∈([]:List It),x.data.length≤4294967296 from fun x hx=>absurd hx (by simp)) (by have h6:=(show ([]:List It).length≤12 by simp);omega) (diff_sm (show ∀ x∈oneL,x.data.length≤4294967296 by decide) (show ∀ x∈([]:List It),x.data.length≤4294967296 from fun x hx=>absurd hx (by simp))) (hG.ext ((((((((((((((((((((Ext.refl w).trans hx8).gn hg15).trans hx24).trans hx40).gn hg47).trans hx57).trans hx70).gn hg77).trans hx86).gn hg93).trans hx102).trans hx119).trans hx152).trans hx195).trans hx203).gn hg211).gn hg215).trans hx229).trans hx257))) ?_)
 have hv2710:=hv271.1
 rw [hvr273,hv271.1,show keyS ([(115:UInt8),(101:UInt8),(101:UInt8),(100:UInt8)]) 2 ((1:Nat):Int) 1 ([]) (diffL oneL ([]))=[(115:UInt8),(101:UInt8),(101:UInt8),(100:UInt8)] from if_pos hv2710,show keyM ([(115:UInt8),(101:UInt8),(101:UInt8),(100:UInt8)]) 2 ((1:Nat):Int) 1 ([]) (diffL oneL ([]))=2 from if_pos hv2710,show keyU ([(115:UInt8),(101:UInt8),(101:UInt8),(100:UInt8)]) 2 ((1:Nat):Int) 1 ([]) (diffL oneL ([]))=((1:Nat):Int)+1 from if_pos hv2710]
 rintro _ w275 ⟨c277,o278,e279,p280,A281,n282,c283,rfl,hR284,hK285,hS286,hq287,hx276⟩
 obtain ⟨rfl,hkk⟩:=hq287 rfl;obtain ⟨rfl,rfl,rfl⟩:=Value.slice.inj hkk.symm
 have hvc274:vr272.chs=diffL oneL ([]):=by rw [hv271.2.1]
 obtain ⟨A288,c289,rfl,z290,z291⟩:=Fl.form hS286.op
 obtain ⟨A292,c293,rfl,z294,z295⟩:=Fl.form hS286.cl
 obtain ⟨A296,c297,rfl,z298,z299⟩:=Fl.form hS286.path
 refine ⟨_,rfl,?_⟩;intro a300 F301;clear F268;have z302:=hx276.size
 have d303:=(RLs.ext rCg (RLs.ext rCg hl233 hx257) hx276)
 have hl304:RLs RCg 3 (Clip (fun z=>w213.heap.size≤z) w228) w275 (vl A225 ((diffL oneL ([])).length) c226) vr272.chs:=by rw [hvc274];exact d303
 have hf305:Fl (Clip (fun b=>w255.heap.size≤b) w275) _ _ _ _ _:=Fl.subB hS286.op (fun _ h1 h2=>⟨h2,h1⟩)
 have hf306:Fl (Clip (fun b=>w255.heap.size≤b) w275) _ _ _ _ _:=Fl.subB hS286.cl (fun _ h1 h2=>⟨h2,h1⟩)
 have hf307:Fl (Clip (fun b=>w255.heap.size≤b) w275) _ _ _ _ _:=Fl.subB hS286.path (fun _ h1 h2=>⟨h2,h1⟩)
 refine F301.xm rfl<|Xv (ag ((vi vr272.no)::dg vr272.state [(vl A225 ((diffL oneL ([])).length) c226),(vi vr272.sg.index),(vl A288 vr272.sg.op.length c289),(vl A292 vr272.sg.cl.length c293),(vl A296 vr272.sg.path.length c297)]))<|Xv (.agg #[(vl A19 n20 c21),(vi 2),(vi (2:Nat))])<|Xv (vi 0)<|fun _ F315=>?_;clear F301
 refine F315.xz vz 30 fun g316 w317 _ F323 z320 z321 b318 hx319=>?_;clear F315
 refine F323.xz [v0,(vi 0),(vi 0)] 56 fun g324 w325 _ F331 z328 z329 b326 hx327=>?_;clear F323
 have b332:=(b318.ext hx327)
 refine F331.xs rfl b332 (fun w333 b334 hg335=>?_) (hk:=len_dig1 hR284.st);have z336:=hg335.size
 have b340:=(b326.gn hg335)
 refine F331.xs rfl b340 (fun w337 b338 hg339=>?_);have z341:=hg339.size
 refine F331.xa rfl<|fun _ F343=>?_;clear F331
 refine wpList_nil (hK247 _ _ ?_);clear hK247
 have F344:=F343.k [0,1,2,3,4,5,6,7,8,9,10,11,12,13,15];clear F343
 refine wr fun K345 hK345=>?_
 have b346:=((((((((((((((((b76.ext hx86).gn hg93).ext hx102).ext hx119).ext hx152).ext hx195).ext hx203).gn hg211).gn hg215).ext hx229).ext hx257).ext hx276).ext hx319).ext hx327).gn hg335).gn hg339)
 refine F344.xw (.agg (byteVals (pubF ([(115:UInt8),(101:UInt8),(101:UInt8),(100:UInt8)]) 2 0)).toArray) (fun F=>rb F rfl b346 (hk:=byteVals_len (pubF_len _ _ _)))<|fun _ F348=>?_;clear F344
 refine F348.xc (join_ok (pubF ([(115:UInt8),(101:UInt8),(101:UInt8),(100:UInt8)]) 2 0) _ (pubF_len _ _ _)) ?_
 rintro _ w349 ⟨rfl,hx350⟩
 refine ⟨_,rfl,?_⟩;intro a351 F352;clear F348;have z353:=hx350.size
 refine F352.xm rfl<|Xv (ag (dg (pubF ([(115:UInt8),(101:UInt8),(101:UInt8),(100:UInt8)]) 2 0) [(vi 2),(vi 0),v0,v0]))<|Xv (vi 0)<|fun _ F359=>?_;clear F352
 refine F359.xz fz 41 fun g360 w361 _ F367 z364 z365 b362 hx363=>?_;clear F359
 refine F367.xs rfl b362 (fun w368 b369 hg370=>?_) (hk:=len_dig (pubF_len _ _ _));have z371:=hg370.size
 refine F367.xa rfl<|fun _ F373=>?_;clear F367
 refine wpList_nil (hK345 _ _ ?_);clear hK345
 have F374:=F373.k [0,1,2,3,4,5,6,7,8,9,10,11,12,13,15,16,17];clear F373
 refine wr fun K375 hK375=>?_
 have b376:=(((b346.ext hx350).ext hx363).gn hg370)
 refine F374.xw (.agg (byteVals (pubF ([(115:UInt8),(101:UInt8),(101:UInt8),(100:UInt8)]) 2 0)).toArray) (fun F=>rb F rfl b376 (hk:=byteVals_len (pubF_len _ _ _)))<|fun _ F378=>?_;clear F374
 refine F378.xc (join_no (pubF ([(115:UInt8),(101:UInt8),(101:UInt8),(100:UInt8)]) 2 0) _ (pubF_len _ _ _)) ?_
 rintro _ w379 ⟨rfl,hx380⟩
 refine ⟨_,rfl,?_⟩;intro a381 F382;clear F378;have z383:=hx380.size
 refine F382.xm rfl<|Xv (ag fz)<|Xv (vi 40)<|fun _ F389=>?_;clear F382
 refine F389.xz fz 41 fun g390 w391 _ F397 z394 z395 b392 hx393=>?_;clear F389
 refine F397.xs rfl b392 (fun w398 b399 hg400=>?_);have z401:=hg400.size
 refine F397.xa rfl<|fun _ F403=>?_;clear F397
 refine wpList_nil (hK375 _ _ ?_);clear hK375
 have F404:=F403.k [0,1,2,3,4,5,6,7,8,9,10,11,12,13,15,16,17,19];clear F403
 refine wr fun K405 hK405=>?_
 have b406:=(((b369.ext hx380).ext hx393).gn hg400)
 refine F404.xw (ag (dg (pubF ([(115:UInt8),(101:UInt8),(101:UInt8),(100:UInt8)]) 2 0) [(vi 2),(vi 0),v0,v0])) (fun F=>rb F rfl b406 (hk:=len_dig (pubF_len _ _ _)))<|fun _ F408=>?_;clear F404
 have b409:=(((((((b334.gn hg339).ext hx350).ext hx363).gn hg370).ext hx380).ext hx393).gn hg400)
 refine F408.xw (ag ((vi vr272.no)::dg vr272.state [(vl A225 ((diffL oneL ([])).length) c226),(vi vr272.sg.index),(vl A288 vr272.sg.op.length c289),(vl A292 vr272.sg.cl.length c293),(vl A296 vr272.sg.path.length c297)])) (fun F=>rb F rfl b409 (hk:=len_dig1 hR284.st))<|fun _ F411=>?_;clear F408
 have hD412:=duo_of hk (a:=oneL) (b:=[]) (by decide) rfl (by decide) hvr149 hvr273
 have d413:=(RLs.pres rCg hl304 (((((((((((Pres.refl w275).ext hx319).ext hx327).gc hg335).gc hg339).ext hx350).ext hx363).gc hg370).ext hx380).ext hx393).gc hg400))
 have d414:=(hf305.pres (((((((((((Pres.refl w275).ext hx319).ext hx327).gc hg335).gc hg339).ext hx350).ext hx363).gc hg370).ext hx380).ext hx393).gc hg400))
 have d415:=(hf306.pres (((((((((((Pres.refl w275).ext hx319).ext hx327).gc hg335).gc hg339).ext hx350).ext hx363).gc hg370).ext hx380).ext hx393).gc hg400))
 have d416:=(hf307.pres (((((((((((Pres.refl w275).ext hx319).ext hx327).gc hg335).gc hg339).ext hx350).ext hx363).gc hg370).ext hx380).ext hx393).gc hg400))
 refine wpl_op (i:=2) rfl (o_call F411 rfl rfl rfl rfl (rn_call (args2 (F411.get rfl) (F411.get rfl)) rfl (by kernel_rfl)) (recv_at (fun b=>b<w398.heap.size) (pubF ([(115:UInt8),(101:UInt8),(101:UInt8),(100:UInt8)]) 2 0) 0 ([]) ([]) vr272 _ (pubF [115,101,101,100] 2 0) 2 0 ([]) ([vr272]) 0 hD412.early (pubF_len _ _ _) (RLs.sub (S':=fun b=>b<w398.heap.size) rIt (RLs.nil _:RLs RIt 2 (fun _=>False) _ _ _) cb) (RLs.sub (S':=fun b=>b<w398.heap.size) rVr (RLs.nil _:RLs RVr 38 (fun _=>False) _ _ _) cb) (⟨hR284.st,(RLs.sub (S':=fun b=>b<w398.heap.size) rCg d413 cb),⟨Fl.sub (S':=fun b=>b<w398.heap.size) d414 cb,Fl.sub (S':=fun b=>b<w398.heap.size) d415 cb,Fl.sub (S':=fun b=>b<w398.heap.size) d416 cb,hS286.o32,hS286.c32,hS286.p32⟩⟩:RVp (fun b=>b<w398.heap.size) _ _ _ _ _ vr272) (show ∀ x∈([]:List It),x.data.length≤4294967296 from fun x hx=>absurd hx (by simp)) (fun v hv=>absurd hv (by simp)) (by rw [hv271.2.1];exact diff_sm (show ∀ x∈oneL,x.data.length≤4294967296 by decide) (show ∀ x∈([]:List It),x.data.length≤4294967296 from fun x hx=>absurd hx (by simp))) (hG.ext (((((((((((((((((((((((((((((((Ext.refl w).trans hx8).gn hg15).trans hx24).trans hx40).gn hg47).trans hx57).trans hx70).gn hg77).trans hx86).gn hg93).trans hx102).trans hx119).trans hx152).trans hx195).trans hx203).gn hg211).gn hg215).trans hx229).trans hx257).trans hx276).trans hx319).trans hx327).gn hg335).gn hg339).trans hx350).trans hx363).gn hg370).trans hx380).trans hx393).gn hg400))) ?_)
 rintro _ w417 ⟨c419,e420,rfl,hL421,hE422,hP423,hx418⟩
 obtain ⟨A424,k425,rfl,z426,z427⟩:∃ A k,c419=.slice A 0 k∧0≤k∧k≤9223372036854775807:=RLs.form hL421
 have hl428:RLs RIt 2 (Clip (fun b=>b<w398.heap.size∨w398.heap.size≤b) w417) w417 (vl A424 0 k425) ([]):=hL421
 obtain ⟨A429,k430,rfl,z431,z432⟩:∃ A k,e420=.slice A 1 k∧1≤k∧k≤9223372036854775807:=RLs.form hE422
 have hl433:RLs RVr 38 (Clip (fun b=>b<w398.heap.size∨w398.heap.size≤b) w417) w417 (vl A429 1 k430) ([vr272]):=hE422
 refine ⟨_,rfl,?_⟩;intro a434 F435;clear F411;have z436:=hx418.size
 refine F435.xm rfl<|Xv (ag (dg (pubF [115,101,101,100] 2 0) [(vi 2),(vi 0),(vl A424 0 k425),(vl A429 1 k430)]))<|Xv (vi 0)<|fun _ F442=>?_;clear F435
 refine F442.xz fz 41 fun g443 w444 _ F450 z447 z448 b445 hx446=>?_;clear F442
 refine F450.xs rfl b445 (fun w451 b452 hg453=>?_) (hk:=len_dig (pubF_len _ _ _));have z454:=hg453.size
 refine F450.xa rfl<|fun _ F456=>?_;clear F450
 refine wpList_nil (hK405 _ _ ?_);clear hK405
 have F457:=F456.k [0,1,2,3,4,5,6,7,8,9,10,11,12,13,15,16,17,19,20,21];clear F456
 refine wr fun K458 hK458=>?_
 refine F457.xw (ag (dg (pubF [115,101,101,100] 2 0) [(vi 2),(vi 0),(vl A424 0 k425),(vl A429 1 k430)])) (fun F=>rb F rfl b452 (hk:=len_dig (pubF_len _ _ _)))<|fun _ F460=>?_;clear F457
 have b461:=(((((((((((((((b251.ext hx257).ext hx276).ext hx319).ext hx327).gn hg335).gn hg339).ext hx350).ext hx363).gn hg370).ext hx380).ext hx393).gn hg400).ext hx418).ext hx446).gn hg453)
 refine F460.xw (ag ((vi vr148.no)::dg vr148.state [(vl A115 ((diffL ([]) oneL).length) c116),(vi vr148.sg.index),(vl A164 vr148.sg.op.length c165),(vl A168 vr148.sg.cl.length c169),(vl A172 vr148.sg.path.length c173)])) (fun F=>rb F rfl b461 (hk:=len_dig1 hR160.st))<|fun _ F463=>?_;clear F460
 have d464:=(RLs.pres rIt hl428 (((Pres.refl w417).ext hx446).gc hg453))
 have d465:=(RLs.pres rVr hl433 (((Pres.refl w417).ext hx446).gc hg453))
 have d466:=(RLs.pres rCg hl180 (((((((((((((((((((((Pres.refl w151).ext hx195).ext hx203).gc hg211).gc hg215).ext hx229).ext hx257).ext hx276).ext hx319).ext hx327).gc hg335).gc hg339).ext hx350).ext hx363).gc hg370).ext hx380).ext hx393).gc hg400).ext hx418).ext hx446).gc hg453))
 have d467:=(hf181.pres (((((((((((((((((((((Pres.refl w151).ext hx195).ext hx203).gc hg211).gc hg215).ext hx229).ext hx257).ext hx276).ext hx319).ext hx327).gc hg335).gc hg339).ext hx350).ext hx363).gc hg370).ext hx380).ext hx393).gc hg400).ext hx418).ext hx446).gc hg453))
 have d468:=(hf182.pres (((((((((((((((((((((Pres.refl w151).ext hx195).ext hx203).gc hg211).gc hg215).ext hx229).ext hx257).ext hx276).ext hx319).ext hx327).gc hg335).gc hg339).ext hx350).ext hx363).gc hg370).ext hx380).ext hx393).gc hg400).ext hx418).ext hx446).gc hg453))
 have d469:=(hf183.pres (((((((((((((((((((((Pres.refl w151).ext hx195).ext hx203).gc hg211).gc hg215).ext hx229).ext hx257).ext hx276).ext hx319).ext hx327).gc hg335).gc hg339).ext hx350).ext hx363).gc hg370).ext hx380).ext hx393).gc hg400).ext hx418).ext hx446).gc hg453))
 refine wpl_op (i:=2) rfl (o_call F463 rfl rfl rfl rfl (rn_call (args2 (F463.get rfl) (F463.get rfl)) rfl (by kernel_rfl)) (recv_at (fun b=>b<w451.heap.size) (pubF [115,101,101,100] 2 0) 0 ([]) ([vr272]) vr148 _ (pubF [115,101,101,100] 2 0) 2 2 ([]) ([]) 0 hD412.late (pubF_len _ _ _) (RLs.sub (S':=fun b=>b<w451.heap.size) rIt d464 cb) (RLs.sub (S':=fun b=>b<w451.heap.size) rVr d465 cb) (⟨hR160.st,(RLs.sub (S':=fun b=>b<w451.heap.size) rCg d466 cb),⟨Fl.sub (S':=fun b=>b<w451.heap.size) d467 cb,Fl.sub (S':=fun b=>b<w451.heap.size) d468 cb,Fl.sub (S':=fun b=>b<w451.heap.size) d469 cb,hS162.o32,hS162.c32,hS162.p32⟩⟩:RVp (fun b=>b<w451.heap.size) _ _ _ _ _ vr148) (show ∀ x∈([]:List It),x.data.length≤4294967296 from fun x hx=>absurd hx (by simp)) (fun v hv=>by rw [List.mem_singleton.1 hv];exact (by rw [hv271.2.1];exact diff_sm (show ∀ x∈oneL,x.data.length≤4294967296 by decide) (show ∀ x∈([]:List It),x.data.length≤4294967296 from fun x hx=>absurd hx (by simp)))) (by rw [hv147.2.1];exact diff_sm (show ∀ x∈([]:List It),x.data.length≤4294967296 from fun x hx=>absurd hx (by simp)) (show ∀ x∈oneL,x.data.length≤4294967296 by decide)) (hG.ext ((((((((((((((((((((((((((((((((((Ext.refl w).trans hx8).gn hg15).trans hx24).trans hx40).gn hg47).trans hx57).trans hx70).gn hg77).trans hx86).gn hg93).trans hx102).trans hx119).trans hx152).trans hx195).trans hx203).gn hg211).gn hg215).trans hx229).trans hx257).trans hx276).trans hx319).trans hx327).gn hg335).gn hg339).trans hx350).trans hx363).gn hg370).trans hx380).trans hx393).gn hg400).trans hx418).trans hx446).gn hg453))) ?_)
 rintro _ w470 ⟨c472,e473,rfl,hL474,hE475,hP476,hx471⟩
 obtain ⟨A477,k478,rfl,z479,z480⟩:∃ A k,c472=.slice A 0 k∧0≤k∧k≤9223372036854775807:=RLs.form hL474
 have hl481:RLs RIt 2 (Clip (fun b=>b<w451.heap.size∨w451.heap.size≤b) w470) w470 (vl A477 0 k478) ([]):=hL474
 obtain ⟨A482,k483,rfl,z484,z485⟩:∃ A k,e473=.slice A 0 k∧0≤k∧k≤9223372036854775807:=RLs.form hE475
 have hl486:RLs RVr 38 (Clip (fun b=>b<w451.heap.size∨w451.heap.size≤b) w470) w470 (vl A482 0 k483) ([]):=hE475
 refine ⟨_,rfl,?_⟩;intro a487 F488;clear F463;have z489:=hx471.size
 refine F488.xm rfl<|Xv (ag (dg (pubF [115,101,101,100] 2 0) [(vi 2),(vi 2),(vl A477 0 k478),(vl A482 0 k483)]))<|Xv (vi 0)<|fun _ F495=>?_;clear F488
 refine F495.xz fz 41 fun g496 w497 _ F503 z500 z501 b498 hx499=>?_;clear F495
 refine F503.xs rfl b498 (fun w504 b505 hg506=>?_) (hk:=len_dig (pubF_len _ _ _));have z507:=hg506.size
 refine F503.xa rfl<|fun _ F509=>?_;clear F503
 refine wpList_nil (hK458 _ _ ?_);clear hK458
 have F510:=F509.k [0,1,2,3,4,5,6,7,8,9,10,11,12,13,15,16,17,19,20,21,22,23];clear F509
 refine wr fun K511 hK511=>?_
 refine F510.xw (ag (dg (pubF [115,101,101,100] 2 0) [(vi 2),(vi 2),(vl A477 0 k478),(vl A482 0 k483)])) (fun F=>rb F rfl b505 (hk:=len_dig (pubF_len _ _ _)))<|fun _ F513=>?_;clear F510
 have b514:=(((b461.ext hx471).ext hx499).gn hg506)
 refine F513.xw (ag ((vi vr148.no)::dg vr148.state [(vl A115 ((diffL ([]) oneL).length) c116),(vi vr148.sg.index),(vl A164 vr148.sg.op.length c165),(vl A168 vr148.sg.cl.length c169),(vl A172 vr148.sg.path.length c173)])) (fun F=>rb F rfl b514 (hk:=len_dig1 hR160.st))<|fun _ F516=>?_;clear F513
 have d517:=(RLs.pres rIt hl481 (((Pres.refl w470).ext hx499).gc hg506))
 have d518:=(RLs.pres rVr hl486 (((Pres.refl w470).ext hx499).gc hg506))
 have d519:=(RLs.pres rCg hl180 ((((((((((((((((((((((((Pres.refl w151).ext hx195).ext hx203).gc hg211).gc hg215).ext hx229).ext hx257).ext hx276).ext hx319).ext hx327).gc hg335).gc hg339).ext hx350).ext hx363).gc hg370).ext hx380).ext hx393).gc hg400).ext hx418).ext hx446).gc hg453).ext hx471).ext hx499).gc hg506))
 have d520:=(hf181.pres ((((((((((((((((((((((((Pres.refl w151).ext hx195).ext hx203).gc hg211).gc hg215).ext hx229).ext hx257).ext hx276).ext hx319).ext hx327).gc hg335).gc hg339).ext hx350).ext hx363).gc hg370).ext hx380).ext hx393).gc hg400).ext hx418).ext hx446).gc hg453).ext hx471).ext hx499).gc hg506))
 have d521:=(hf182.pres ((((((((((((((((((((((((Pres.refl w151).ext hx195).ext hx203).gc hg211).gc hg215).ext hx229).ext hx257).ext hx276).ext hx319).ext hx327).gc hg335).gc hg339).ext hx350).ext hx363).gc hg370).ext hx380).ext hx393).gc hg400).ext hx418).ext hx446).gc hg453).ext hx471).ext hx499).gc hg506))
 have d522:=(hf183.pres ((((((((((((((((((((((((Pres.refl w151).ext hx195).ext hx203).gc hg211).gc hg215).ext hx229).ext hx257).ext hx276).ext hx319).ext hx327).gc hg335).gc hg339).ext hx350).ext hx363).gc hg370).ext hx380).ext hx393).gc hg400).ext hx418).ext hx446).gc hg453).ext hx471).ext hx499).gc hg506))
 refine wpl_op (i:=2) rfl (o_call F516 rfl rfl rfl rfl (rn_call (args2 (F516.get rfl) (F516.get rfl)) rfl (by kernel_rfl)) (recv_at (fun b=>b<w504.heap.size) (pubF [115,101,101,100] 2 0) 2 ([]) ([]) vr148 _ zero32 0 0 ([]) ([]) 420 hD412.again2.1 (pubF_len _ _ _) (RLs.sub (S':=fun b=>b<w504.heap.size) rIt d517 cb) (RLs.sub (S':=fun b=>b<w504.heap.size) rVr d518 cb) (⟨hR160.st,(RLs.sub (S':=fun b=>b<w504.heap.size) rCg d519 cb),⟨Fl.sub (S':=fun b=>b<w504.heap.size) d520 cb,Fl.sub (S':=fun b=>b<w504.heap.size) d521 cb,Fl.sub (S':=fun b=>b<w504.heap.size) d522 cb,hS162.o32,hS162.c32,hS162.p32⟩⟩:RVp (fun b=>b<w504.heap.size) _ _ _ _ _ vr148) (show ∀ x∈([]:List It),x.data.length≤4294967296 from fun x hx=>absurd hx (by simp)) (fun v hv=>absurd hv (by simp)) (by rw [hv147.2.1];exact diff_sm (show ∀ x∈([]:List It),x.data.length≤4294967296 from fun x hx=>absurd hx (by simp)) (show ∀ x∈oneL,x.data.length≤4294967296 by decide)) (hG.ext (((((((((((((((((((((((((((((((((((((Ext.refl w).trans hx8).gn hg15).trans hx24).trans hx40).gn hg47).trans hx57).trans hx70).gn hg77).trans hx86).gn hg93).trans hx102).trans hx119).trans hx152).trans hx195).trans hx203).gn hg211).gn hg215).trans hx229).trans hx257).trans hx276).trans hx319).trans hx327).gn hg335).gn hg339).trans hx350).trans hx363).gn hg370).trans hx380).trans hx393).gn hg400).trans hx418).trans hx446).gn hg453).trans hx471).trans hx499).gn hg506))) ?_)
 rintro _ w523 ⟨c525,e526,rfl,hL527,hE528,hP529,hx524⟩
 obtain ⟨A530,k531,rfl,z532,z533⟩:∃ A k,c525=.slice A 0 k∧0≤k∧k≤9223372036854775807:=RLs.form hL527
 have hl534:RLs RIt 2 (Clip (fun b=>b<w504.heap.size∨w504.heap.size≤b) w523) w523 (vl A530 0 k531) ([]):=hL527
 obtain ⟨A535,k536,rfl,z537,z538⟩:∃ A k,e526=.slice A 0 k∧0≤k∧k≤9223372036854775807:=RLs.form hE528
 have hl539:RLs RVr 38 (Clip (fun b=>b<w504.heap.size∨w504.heap.size≤b) w523) w523 (vl A535 0 k536) ([]):=hE528
 refine ⟨_,rfl,?_⟩;intro a540 F541;clear F516;have z542:=hx524.size
 refine F541.xm rfl<|Xv (ag (dg zero32 [(vi 0),(vi 0),(vl A530 0 k531),(vl A535 0 k536)]))<|Xv (vi 420)<|fun _ F548=>?_;clear F541
 refine F548.xz fz 41 fun g549 w550 _ F556 z553 z554 b551 hx552=>?_;clear F548
 refine F556.xs rfl b551 (fun w557 b558 hg559=>?_);have z560:=hg559.size
 refine F556.xa rfl<|fun _ F562=>?_;clear F556
 refine wpList_nil (hK511 _ _ ?_);clear hK511
 have F563:=F562.k [0,1,2,3,4,5,6,7,8,9,10,11,12,13,15,16,17,19,20,21,22,23,25];clear F562
 refine wr fun K564 hK564=>?_
 refine F563.xm rfl<|Xv (.bool true)<|Xm rfl<|Xg (vi (pubE ([(115:UInt8),(101:UInt8),(101:UInt8),(100:UInt8)]) 2 0))<|Xg (.bool (decide (((pubE ([(115:UInt8),(101:UInt8),(101:UInt8),(100:UInt8)]) 2 0):Int)=(0:Int))))<|Xv (.bool (decide (((pubE ([(115:UInt8),(101:UInt8),(101:UInt8),(100:UInt8)]) 2 0):Int)=(0:Int))))<|Xm rfl<|fun _ F578=>?_;clear F563
 refine qg 7 (vi 0) F578 ((decide_eq_true (pub_u hk (by decide) (by decide)).2):decide (((pubE ([(115:UInt8),(101:UInt8),(101:UInt8),(100:UInt8)]) 2 0):Int)=(0:Int))=true) (rn_move (F578.get rfl)) fun _ F581=>?_;clear F578
 refine qg 8 (.bool true) F581 ((decide_eq_true (pub_u hk (by decide) (by decide)).2):decide (((pubE ([(115:UInt8),(101:UInt8),(101:UInt8),(100:UInt8)]) 2 0):Int)=(0:Int))=true) (rn_eql' (F581.get rfl) rfl (by decide)) fun _ F583=>?_;clear F581
 refine F583.xw (.bool true) (fun F=>rn_pickT (c_true F rfl ((decide_eq_true (pub_u hk (by decide) (by decide)).2):decide (((pubE ([(115:UInt8),(101:UInt8),(101:UInt8),(100:UInt8)]) 2 0):Int)=(0:Int))=true)) (F.get rfl))<|Xm rfl<|Xg (vi 0)<|Xg (.bool true)<|Xv (.bool true)<|Xm rfl<|Xg (vp g192)<|fun _ F597=>?_;clear F583
 have b598:=(((b514.ext hx524).ext hx552).gn hg559)
 refine F597.xgw (vi vr148.no) (fun F=>rl F rfl ((b598.rule.1 0).trans rfl))<|Xg (.bool (decide ((vr148.no:Int)=(1:Int))))<|Xv (.bool (decide ((vr148.no:Int)=(1:Int))))<|Xm rfl<|fun _ F606=>?_;clear F597
 refine qg 20 (.pointer (some ⟨g192,34,none⟩)) F606 ((decide_eq_true (congrArg Vr.no hv147.2.1)):decide ((vr148.no:Int)=(1:Int))=true) (rn_field Tryd.underlying30 rfl (by kernel_rfl) (F606.get rfl) rfl) fun _ F609=>?_;clear F606
 refine qg 21 (.pointer (some ⟨g192,34,none⟩)) F609 ((decide_eq_true (congrArg Vr.no hv147.2.1)):decide ((vr148.no:Int)=(1:Int))=true) (rn_field Tryd.underlying28 rfl (by kernel_rfl) (F609.get rfl) rfl) fun _ F611=>?_;clear F609
 refine qg 22 (vi vr148.sg.index) F611 ((decide_eq_true (congrArg Vr.no hv147.2.1)):decide ((vr148.no:Int)=(1:Int))=true) (rl F611 rfl ((b598.rule.1 34).trans ((at_app (k:=1) (byteVals_len hR160.st)).trans rfl))) fun _ F613=>?_;clear F611
 refine qg 23 (.bool (decide ((vr148.sg.index:Int)=(0:Int)))) F613 ((decide_eq_true (congrArg Vr.no hv147.2.1)):decide ((vr148.no:Int)=(1:Int))=true) (rn_eql (F613.get rfl) rfl) fun _ F615=>?_;clear F613
 refine F615.xw (.bool (decide ((vr148.sg.index:Int)=(0:Int)))) (fun F=>rn_pickT (c_true F rfl ((decide_eq_true (congrArg Vr.no hv147.2.1)):decide ((vr148.no:Int)=(1:Int))=true)) (F.get rfl))<|Xm rfl<|fun _ F619=>?_;clear F615
 refine qg 26 (vi 0) F619 ((decide_eq_true (version_idx hk (n:=0) (by decide) hv147.2.1)):decide ((vr148.sg.index:Int)=(0:Int))=true) (rn_move (F619.get rfl)) fun _ F622=>?_;clear F619
 refine qg 27 (.bool true) F622 ((decide_eq_true (version_idx hk (n:=0) (by decide) hv147.2.1)):decide ((vr148.sg.index:Int)=(0:Int))=true) (rn_eql' (F622.get rfl) rfl (by decide)) fun _ F624=>?_;clear F622
 refine F624.xw (.bool true) (fun F=>rn_pickT (c_true F rfl ((decide_eq_true (version_idx hk (n:=0) (by decide) hv147.2.1)):decide ((vr148.sg.index:Int)=(0:Int))=true)) (F.get rfl))<|Xm rfl<|Xg (vi 0)<|Xg (.bool true)<|Xv (.bool true)<|Xm rfl<|Xg (vi 0)<|Xg (.bool true)<|Xv (.bool true)<|Xm rfl<|Xg (vi 40)<|Xg (.bool true)<|Xv (.bool true)<|Xm rfl<|fun _ F652=>?_;clear F624
 have b653:=(((((((((b406.ext hx418).ext hx446).gn hg453).ext hx471).ext hx499).gn hg506).ext hx524).ext hx552).gn hg559)
 refine F652.xgw (ag (dg (pubF ([(115:UInt8),(101:UInt8),(101:UInt8),(100:UInt8)]) 2 0) [(vi 2),(vi 0),v0,v0])) (fun F=>rb F rfl b653 (hk:=len_dig (pubF_len _ _ _)))<|fun _ F655=>?_;clear F652
 refine wpl_op (i:=43) rfl (o_call F655 rfl (wanted_guard rfl rfl rfl F655 rfl rfl rfl) rfl rfl (rn_call (args1 (F655.get rfl)) rfl (by kernel_rfl)) (wants_fo (pubF ([(115:UInt8),(101:UInt8),(101:UInt8),(100:UInt8)]) 2 0) 0 ([]) ([]) _ 1 rfl (pubF_len _ _ _) (RLs.nil _:RLs RIt 2 (fun _=>False) _ _ _) (RLs.nil _:RLs RVr 38 (fun _=>False) _ _ _) (by omega)) ?_)
 rintro _ w656 ⟨rfl,hx657⟩
 refine ⟨_,rfl,?_⟩;intro a658 F659;clear F655;have z660:=hx657.size
 refine F659.xg (.bool true)<|Xv (.bool true)<|Xa rfl<|fun _ F666=>?_;clear F659
 refine wpList_nil (hK564 _ _ ?_);clear hK564
 have F667:=F666.k [0,1,2,3,4,5,6,7,8,9,10,11,12,13,15,16,17,19,20,21,22,23,25,26];clear F666
 refine wr fun K668 hK668=>?_
 refine F667.xm rfl<|Xm rfl<|Xg (vi 0)<|Xg (.bool true)<|Xv (.bool true)<|Xm rfl<|Xg (.pointer (some ⟨g443,33,none⟩))<|fun _ F682=>?_;clear F667
 have b683:=(((((((b452.ext hx471).ext hx499).gn hg506).ext hx524).ext hx552).gn hg559).ext hx657)
 refine F682.xgw (vi 0) (fun F=>rl F rfl ((b683.rule.1 33).trans ((at_app (k:=1) (byteVals_len (pubF_len _ _ _))).trans rfl)))<|Xg (.bool true)<|Xv (.bool true)<|Xm rfl<|Xg (.pointer (some ⟨g443,35,none⟩))<|Xgw (vl A429 1 k430) (fun F=>rl F rfl ((b683.rule.1 35).trans ((at_app (k:=3) (byteVals_len (pubF_len _ _ _))).trans rfl)))<|Xg (vi 1)<|Xg (.bool true)<|Xv (.bool true)<|Xm rfl<|Xg (vi 0)<|Xg (.bool true)<|Xv (.bool true)<|Xm rfl<|Xg (.pointer (some ⟨g496,33,none⟩))<|fun _ F713=>?_;clear F682
 have b714:=((((b505.ext hx524).ext hx552).gn hg559).ext hx657)
 refine F713.xgw (vi 2) (fun F=>rl F rfl ((b714.rule.1 33).trans ((at_app (k:=1) (byteVals_len (pubF_len _ _ _))).trans rfl)))<|Xg (.bool true)<|Xv (.bool true)<|Xm rfl<|Xg (.pointer (some ⟨g496,34,none⟩))<|Xgw (vl A477 0 k478) (fun F=>rl F rfl ((b714.rule.1 34).trans ((at_app (k:=2) (byteVals_len (pubF_len _ _ _))).trans rfl)))<|Xg (vi 0)<|Xg (.bool true)<|Xv (.bool true)<|Xm rfl<|Xg (.pointer (some ⟨g496,35,none⟩))<|Xgw (vl A482 0 k483) (fun F=>rl F rfl ((b714.rule.1 35).trans ((at_app (k:=3) (byteVals_len (pubF_len _ _ _))).trans rfl)))<|Xg (vi 0)<|Xg (.bool true)<|Xv (.bool true)<|Xm rfl<|Xg (vi 420)<|Xg (.bool true)<|Xv (.bool true)<|Xm rfl<|fun _ F754=>?_;clear F713
 have b755:=(((((((((((((b376.ext hx380).ext hx393).gn hg400).ext hx418).ext hx446).gn hg453).ext hx471).ext hx499).gn hg506).ext hx524).ext hx552).gn hg559).ext hx657)
 refine F754.xgw (.agg (byteVals (pubF ([(115:UInt8),(101:UInt8),(101:UInt8),(100:UInt8)]) 2 0)).toArray) (fun F=>rb F rfl b755 (hk:=byteVals_len (pubF_len _ _ _)))<|Xgw (ag vz) (fun F=>rn_build (parts0 ) (by kernel_rfl))<|fun _ F759=>?_;clear F754
 refine wpl_op (i:=44) rfl (o_call F759 rfl (wanted_guard rfl rfl rfl F759 rfl rfl rfl) rfl rfl (rn_call (args3 (F759.get rfl) rfl (F759.get rfl)) rfl (by kernel_rfl)) (verify_nil (pubF ([(115:UInt8),(101:UInt8),(101:UInt8),(100:UInt8)]) 2 0) _ (pubF_len _ _ _) (hG.ext (((((((((((((((((((((((((((((((((((((((((Ext.refl w).trans hx8).gn hg15).trans hx24).trans hx40).gn hg47).trans hx57).trans hx70).gn hg77).trans hx86).gn hg93).trans hx102).trans hx119).trans hx152).trans hx195).trans hx203).gn hg211).gn hg215).trans hx229).trans hx257).trans hx276).trans hx319).trans hx327).gn hg335).gn hg339).trans hx350).trans hx363).gn hg370).trans hx380).trans hx393).gn hg400).trans hx418).trans hx446).gn hg453).trans hx471).trans hx499).gn hg506).trans hx524).trans hx552).gn hg559).trans hx657))) ?_)
 rintro _ w760 ⟨rfl,hx761⟩
 refine ⟨_,rfl,?_⟩;intro a762 F763;clear F759;have z764:=hx761.size
 refine F763.xg (.bool true)<|Xv (.bool true)<|Xa rfl<|fun _ F770=>?_;clear F763
 refine wpList_nil (hK668 _ _ ?_);clear hK668
 have F771:=F770.k [0,1,2,3,4,5,6,7,8,9,10,11,12,13,15,16,17,19,20,21,22,23,25,26];clear F770
 refine wp_ret ?_
 refine ret1 F771 rfl rfl ?_
 exact ⟨rfl,((((((((((((((((((((((((((((((((((((((((((Ext.refl w).trans hx8).gn hg15).trans hx24).trans hx40).gn hg47).trans hx57).trans hx70).gn hg77).trans hx86).gn hg93).trans hx102).trans hx119).trans hx152).trans hx195).trans hx203).gn hg211).gn hg215).trans hx229).trans hx257).trans hx276).trans hx319).trans hx327).gn hg335).gn hg339).trans hx350).trans hx363).gn hg370).trans hx380).trans hx393).gn hg400).trans hx418).trans hx446).gn hg453).trans hx471).trans hx499).gn hg506).trans hx524).trans hx552).gn hg559).trans hx657).trans hx761)⟩

end Go.Proofs.YtihgmaoghbnnaaaDoor

namespace Go.Proofs.YtihgmaoghbnnaaaDoor
open Go.RowKit

variable {S S':Nat→Prop}

theorem few_sm {l:List It} (h:fewI l):∀ x∈l,x.data.length≤4294967296:=fun x hx=>by have:=(h.2 x hx).2;omega
theorem is_two {S S':Nat→Prop} {w:World} {g:Nat} {t:TypeId} {u v:Value} {a b:List It} (h:Blk w g t [u,v]) (h1:u.oneCell'=true) (h2:v.oneCell'=true) (ha:RLs RIt 2 S w u a) (hb:RLs RIt 2 S' w v b):RLs RIs 1 (fun _=>True) w (vl (some ⟨g,0,none⟩) 2 2) [a,b]:=by
 refine ⟨some ⟨g,0,none⟩,2,[u,v],rfl,⟨Nat.le_refl _,by omega⟩,⟨rfl,fun z hz=>?_,fun _=>⟨g,0,rfl,h.lt,fun j z hz=>?_⟩⟩,fun i hi=>?_,fun _=>⟨g,0,rfl,trivial⟩⟩
 ·rcases List.mem_cons.1 hz with rfl | hz
  ·exact h1
  ·rw [List.mem_singleton.1 hz];exact h2
 ·rw [Nat.zero_add,h.rule.1];exact hz
 ·simp only [List.length_cons,List.length_nil] at hi
  rcases (by omega:i=0∨i=1) with rfl | rfl
  ·exact ⟨u,rfl,ha.sub rIt fun _ _=>trivial⟩
  ·exact ⟨v,rfl,hb.sub rIt fun _ _=>trivial⟩
theorem seed_ok (seed:UInt8):1≤[seed].length∧[seed].length≤64:=⟨by simp,by simp⟩
theorem chain_two (seed:UInt8) {a b:List It} (ha:checkE a=0) (hb:checkE b=0) (hl:a.length+b.length≤65536):∃ v1 v2,chainL [seed] 0 [] [a,b]=[v1,v2]∧Duo (pubF [seed] 2 0) a b v1 v2 :=
 ⟨_,_,rfl,duo_of (seed_ok seed) ha hb hl rfl rfl⟩
theorem hss_two {a b:List It} (ha:checkE a=0) (hf:fewI a) (hb:checkE b=0) (hg:fewI b):∀ s∈[a,b],checkE s=0∧s.length≤12∧∀ x∈s,x.data.length≤4294967296:=fun s hs=>by
 rcases List.mem_cons.1 hs with rfl | hs
 ·exact ⟨ha,hf.1,few_sm hf⟩
 ·rw [List.mem_singleton.1 hs];exact ⟨hb,hg.1,few_sm hg⟩
theorem El39:El Tryd.prog 39 22 v0 1 24:=⟨Tryd.underlying39,by kernel_rfl,rfl,by decide⟩
end Go.Proofs.YtihgmaoghbnnaaaDoor

namespace Go.Proofs.YtihgmaoghbnnaaaDoor
open Go.RowKit

variable {S S':Nat→Prop}

set_option maxRecDepth 100000 in
set_option maxHeartbeats 1000000 in
theorem order_any (seed:UInt8) (A:Option Addr) (c:Nat) (a:List It) (B:Option Addr) (d:Nat) (b:List It) (w:World) (h:RLs RIt 2 S w (vl A a.length c) a) (h2:RLs RIt 2 S w (vl B b.length d) b) (hG:Glob w) :
  Calls Tryd.prog 4 #[.int .u8 (seed.toNat:Nat),.slice A a.length c,.slice B b.length d] w (fun en w'=>en=.returned (.bool true)∧Ext w w'):=by
 have hc:RLs RIt 2 (Clip S w) w (vl A a.length c) a:=RLs.clip rIt h
 obtain ⟨-,hck,hcm⟩:=RLs.at h
 have h2c:RLs RIt 2 (Clip S w) w (vl B b.length d) b:=RLs.clip rIt h2
 obtain ⟨-,h2ck,h2cm⟩:=RLs.at h2
 refine calls_enter Tryd.func4 rfl rfl rfl fun _ hF=>?_
 refine wr fun K1 hK1=>?_
 refine hF.xv (.bool false)<|fun _ F3=>?_;clear hF
 refine wpList_nil (hK1 _ _ ?_);clear hK1
 refine wp_seq_k fun K4 hK4=>?_
 refine wr fun K5 hK5=>?_
 refine wpl_op (i:=0) rfl (o_call F3 rfl rfl rfl rfl (rn_call (args0 ) rfl (by kernel_rfl)) (sane42_any _ (hG.ext (Ext.refl w))) ?_)
 rintro _ w6 ⟨rfl,hx7⟩
 refine ⟨_,rfl,?_⟩;intro a8 F9;clear F3;have z10:=hx7.size
 refine F9.xw (.bool false) (fun F=>rn_not' (F.get rfl) rfl)<|fun _ F12=>?_;clear F9
 refine wpList_nil (hK5 _ _ ?_);clear hK5
 refine F12.cf ?_
 refine wp_skip ?_
 refine hK4 _ _ ?_;clear hK4
 refine wp_seq_k fun K13 hK13=>?_
 refine wr fun K14 hK14=>?_
 refine F12.xm rfl<|fun _ F16=>?_;clear F12
 have d17:=(RLs.ext rIt hc hx7)
 refine F16.xc (few40_at (v:=(vl A a.length c)) a _ d17) ?_
 rintro _ w18 ⟨rfl,hx19⟩
 refine ⟨_,rfl,?_⟩;intro a20 F21;clear F16;have z22:=hx19.size
 refine F21.xw (.bool (!(decide (fewI a)))) (fun F=>rn_not' (F.get rfl) rfl)<|Xm rfl<|fun _ F26=>?_;clear F21
 by_cases hc27:fewI a
 ·skip
  refine F26.xg (vl B b.length d)<|fun _ F29=>?_;clear F26
  have d30:=(RLs.ext rIt (RLs.ext rIt h2c hx7) hx19)
  refine wpl_op (i:=5) rfl (o_call F29 rfl (wanted_guard rfl rfl rfl F29 rfl (not_t (decide_eq_true hc27)) rfl) rfl rfl (rn_call (args1 (F29.get rfl)) rfl (by kernel_rfl)) (few40_at (v:=(vl B b.length d)) b _ d30) ?_)
  rintro _ w31 ⟨rfl,hx32⟩
  refine ⟨_,rfl,?_⟩;intro a33 F34;clear F29;have z35:=hx32.size
  refine F34.xgw (.bool (!(decide (fewI b)))) (fun F=>rn_not' (F.get rfl) rfl)<|Xv (.bool (!(decide (fewI b))))<|Xm rfl<|fun _ F41=>?_;clear F34
  by_cases hc42:fewI b
  ·skip
   refine F41.xg (vl A a.length c)<|fun _ F44=>?_;clear F41
   have d45:=(RLs.ext rIt (RLs.ext rIt (RLs.ext rIt hc hx7) hx19) hx32)
   refine wpl_op (i:=10) rfl (o_call F44 rfl (wanted_guard rfl rfl rfl F44 rfl (not_t (decide_eq_true hc42)) rfl) rfl rfl (rn_call (args1 (F44.get rfl)) rfl (by kernel_rfl)) (pcheck_at (v:=(vl A a.length c)) a _ d45) ?_)
   rintro _ w46 ⟨rfl,hx47⟩
   refine ⟨_,rfl,?_⟩;intro a48 F49;clear F44;have z50:=hx47.size
   refine F49.xg (.bool (decide (((checkE a):Int)≠(0:Int))))<|Xv (.bool (decide (((checkE a):Int)≠(0:Int))))<|Xm rfl<|fun _ F56=>?_;clear F49
   by_cases hc57:((checkE a):Int)≠(0:Int)
   ·skip
    refine F56.xu<|Xu<|Xu<|Xv (.bool true)<|fun _ F65=>?_;clear F56
    refine wpList_nil (hK14 _ _ ?_);clear hK14
    have F66:=F65.k [0,1,2,6,21,39];clear F65
    refine F66.ct ?_
    refine wr fun K67 hK67=>?_
    refine F66.xv (.bool true)<|fun _ F69=>?_;clear F66
    refine wpList_nil (hK67 _ _ ?_);clear hK67
    refine wp_ret (ret_then ?_)
    refine ret1 F69 rfl rfl ?_
    exact ⟨rfl,(((((Ext.refl w).trans hx7).trans hx19).trans hx32).trans hx47)⟩
   refine F56.xg (vl B b.length d)<|fun _ F71=>?_;clear F56
   have d72:=(RLs.ext rIt (RLs.ext rIt (RLs.ext rIt (RLs.ext rIt h2c hx7) hx19) hx32) hx47)
   refine wpl_op (i:=15) rfl (o_call F71 rfl (wanted_guard rfl rfl rfl F71 rfl (decide_eq_false hc57) rfl) rfl rfl (rn_call (args1 (F71.get rfl)) rfl (by kernel_rfl)) (pcheck_at (v:=(vl B b.length d)) b _ d72) ?_)
   rintro _ w73 ⟨rfl,hx74⟩
   refine ⟨_,rfl,?_⟩;intro a75 F76;clear F71;have z77:=hx74.size
   refine F76.xg (.bool (decide (((checkE b):Int)≠(0:Int))))<|Xv (.bool (decide (((checkE b):Int)≠(0:Int))))<|fun _ F81=>?_;clear F76
   refine wpList_nil (hK14 _ _ ?_);clear hK14
   have F82:=F81.k [0,1,2,6,21,39];clear F81
   by_cases hc83:((checkE b):Int)≠(0:Int)
   ·skip
    refine F82.ct ?_
    refine wr fun K84 hK84=>?_
    refine F82.xv (.bool true)<|fun _ F86=>?_;clear F82
    refine wpList_nil (hK84 _ _ ?_);clear hK84
    refine wp_ret (ret_then ?_)
    refine ret1 F86 rfl rfl ?_
    exact ⟨rfl,((((((Ext.refl w).trans hx7).trans hx19).trans hx32).trans hx47).trans hx74)⟩
   refine F82.cf ?_
   refine wp_skip ?_
   refine hK13 _ _ ?_;clear hK13
   refine wr fun K87 hK87=>?_
   refine F82.xm rfl<|Xm rfl<|Xm rfl<|fun _ F93=>?_;clear F82
   refine F93.xn (fun g=>(vl (some ⟨g,0,none⟩) 2 2)) [(vl A a.length c),(vl B b.length d)] 22 (fun F=>rn_buildSlice (parts2 (F.get rfl) (F.get rfl)) (build_wholeE (vs:=[(vl A a.length c),(vl B b.length d)]) El39 rfl rfl (fun z0 hz0=>by rcases List.mem_cons.1 hz0 with rfl | hz0 <;> first | rfl | (rw [List.mem_singleton.1 hz0];rfl)) (by decide) (by decide) (by simp [Value.cells]))) fun g94 w95 _ F101 z98 z99 b96 hx97=>?_;clear F93
   have d103:=(RLs.ext rIt (RLs.ext rIt (RLs.ext rIt (RLs.ext rIt (RLs.ext rIt (RLs.ext rIt hc hx7) hx19) hx32) hx47) hx74) hx97)
   have d104:=(RLs.ext rIt (RLs.ext rIt (RLs.ext rIt (RLs.ext rIt (RLs.ext rIt (RLs.ext rIt h2c hx7) hx19) hx32) hx47) hx74) hx97)
   have hl102:RLs RIs 1 (Clip (fun _=>True) w95) w95 (vl (some ⟨g94,0,none⟩) 2 2) [a,b]:=RLs.clip rIs (is_two b96 rfl rfl d103 d104)
   have hAa:checkE a=0:=Decidable.not_not.1 (of_decide_eq_false (decide_eq_false hc57))
   have hFa:fewI a:=of_decide_eq_true (decide_eq_true hc27);have hFan:=hFa.1
   have hAb:checkE b=0:=Decidable.not_not.1 (of_decide_eq_false (decide_eq_false hc83))
   have hFb:fewI b:=of_decide_eq_true (decide_eq_true hc42);have hFbn:=hFb.1
   obtain ⟨v1,v2,hcl,hD⟩:=chain_two seed hAa hAb (by omega)
   refine wpl_op (i:=4) rfl (o_call F101 rfl rfl rfl rfl (rn_call (args2 (F101.get rfl) (F101.get rfl)) rfl (by kernel_rfl)) (chain_at (v:=(vl (some ⟨g94,0,none⟩) 2 2)) seed [a,b] _ hl102 (hss_two hAa hFa hAb hFb) (by simp) (hG.ext (((((((Ext.refl w).trans hx7).trans hx19).trans hx32).trans hx47).trans hx74).trans hx97))) ?_)
   rw [hcl]
   rintro _ w105 ⟨A107,n109,c108,rfl,hL110,hx106⟩
   obtain ⟨rfl,z112,z113⟩:n109=2∧n109≤c108∧c108≤9223372036854775807:=RLs.at hL110
   refine ⟨_,rfl,?_⟩;intro a114 F115;clear F101;have z116:=hx106.size
   have hl111:RLs RVr 38 (Clip (fun _=>True) w105) w105 (vl A107 2 c108) [v1,v2]:=RLs.subB rVr hL110 (fun b hb _=>⟨trivial,hb⟩)
   refine F115.xm rfl<|Xv (.agg (byteVals (pubF [seed] 2 0)).toArray)<|Xv (vl A107 2 c108)<|Xv (.bool true)<|fun _ F124=>?_;clear F115
   refine F124.xz (byteVals (List.replicate 32 0)) 24 fun g125 w126 _ F132 z129 z130 b127 hx128=>?_;clear F124
   refine F132.xs rfl b127 (fun w133 b134 hg135=>?_) (hk:=byteVals_len (pubF_len _ _ _));have z136:=hg135.size
   refine F132.xa rfl<|Xa rfl<|fun _ F140=>?_;clear F132
   refine wpList_nil (hK87 _ _ ?_);clear hK87
   have F141:=F140.k [0,1,2,6,21,39,7,8,9];clear F140
   refine wr fun K142 hK142=>?_
   refine F141.xw (.agg (byteVals (pubF [seed] 2 0)).toArray) (fun F=>rb F rfl b134 (hk:=byteVals_len (pubF_len _ _ _)))<|fun _ F144=>?_;clear F141
   refine F144.xc (join_ok (pubF [seed] 2 0) _ (pubF_len _ _ _)) ?_
   rintro _ w145 ⟨rfl,hx146⟩
   refine ⟨_,rfl,?_⟩;intro a147 F148;clear F144;have z149:=hx146.size
   refine F148.xm rfl<|Xv (ag (dg (pubF [seed] 2 0) [(vi 2),(vi 0),v0,v0]))<|Xv (vi 0)<|fun _ F155=>?_;clear F148
   refine F155.xz fz 41 fun g156 w157 _ F163 z160 z161 b158 hx159=>?_;clear F155
   refine F163.xs rfl b158 (fun w164 b165 hg166=>?_) (hk:=len_dig (pubF_len _ _ _));have z167:=hg166.size
   refine F163.xa rfl<|fun _ F169=>?_;clear F163
   refine wpList_nil (hK142 _ _ ?_);clear hK142
   have F170:=F169.k [0,1,2,6,21,39,7,8,9,10,11];clear F169
   refine wp_seq_k fun K171 hK171=>?_
   refine wr fun K172 hK172=>?_
   refine F170.xm rfl<|Xw (.bool false) (fun F=>rn_not' (F.get rfl) rfl)<|Xm rfl<|Xg (vl A107 2 c108)<|Xg (vi 2)<|Xg (.bool false)<|Xv (.bool false)<|Xm rfl<|Xg (vi 0)<|Xg (.bool false)<|Xv (.bool false)<|fun _ F194=>?_;clear F170
   refine wpList_nil (hK172 _ _ ?_);clear hK172
   have F195:=F194.k [0,1,2,6,21,39,7,8,9,10,11,64];clear F194
   refine F195.cf ?_
   refine wp_skip ?_
   refine hK171 _ _ ?_;clear hK171
   refine wp_meet (fun a' W=>∃ (xg268:Nat) (xA248:Option Addr) (xk249:Nat) (xA253:Option Addr) (xk254:Nat),Sl 147 [(0,(.int .u8 (seed.toNat:Nat))),(1,(vl A a.length c)),(2,(vl B b.length d)),(6,(.bool false)),(21,(.bool false)),(39,(.bool (decide (((checkE b):Int)≠(0:Int))))),(7,(vp g125)),(8,(vl A107 2 c108)),(9,(.bool true)),(10,(vp g156)),(11,(vi 0)),(64,(.bool false)),(12,(.pointer (some ⟨xg268,0,none⟩))),(13,(vi 0))] a'∧Ext w164 W∧Blk W xg268 41 (dg (pubF [seed] 2 0) [(vi 2),(vi 1),(vl xA248 a.length xk249),(vl xA253 0 xk254)])∧w164.heap.size≤xg268∧RLs RIt 2 (Clip (fun _=>True) W) W (vl xA248 a.length xk249) a∧RLs RVr 38 (Clip (fun _=>True) W) W (vl xA253 0 xk254) ([])) ?_ ?_
   ·skip
    have hx197:∃ W,w164.drew=W∧Ext w164 W:=⟨_,rfl,(Ext.refl _).drew⟩
    obtain ⟨w196,e198,hx197⟩:=hx197
    have z199:=hx197.size
    refine any_start (fun W=>Ext w196 W∧Blk W g156 41 (dg (pubF [seed] 2 0) [(vi 2),(vi 0),v0,v0])) (fun i=>i==9) 11 (.replicate 11 false) rfl rfl rfl ?_
    rw [e198];clear e198
    have b201:=(b165.ext hx197)
    have hS200:Ext w196 w196∧Blk w196 g156 41 (dg (pubF [seed] 2 0) [(vi 2),(vi 0),v0,v0]):=⟨(Ext.refl w196),b201⟩
    refine F195.ys 0 (ag (dg (pubF [seed] 2 0) [(vi 2),(vi 0),v0,v0])) rfl hS200 (fun F W hW=>rb F rfl hW.2 (hk:=len_dig (pubF_len _ _ _)))<|Ym 1 rfl<|fun _ F205=>?_;clear F195
    have d206:=(RLs.pres rVr hl111 (((((((Pres.refl w105).ext hx128).gc hg135).ext hx146).ext hx159).gc hg166).ext hx197))
    obtain ⟨b207,o208,x209,cs210,hA211,hi212,hk213,hc214,hr215⟩:=RLs.get d206 (by omega:0<2)
    obtain rfl:v1=x209:=Option.some.inj ((rfl:([v1,v2]:List Vr)[0]?=some v1).symm.trans hi212)
    obtain ⟨v216,v217,v218,v219,rfl,hv220⟩:=hr215
    obtain ⟨A221,c222,rfl,z223,z224⟩:=RLs.form hv220.chs
    obtain ⟨A225,c226,rfl,z227,z228⟩:=Fl.form hv220.sg.op
    obtain ⟨A229,c230,rfl,z231,z232⟩:=Fl.form hv220.sg.cl
    obtain ⟨A233,c234,rfl,z235,z236⟩:=Fl.form hv220.sg.path
    refine F205.yw 2 (.pointer (some ⟨b207,o208+0*38,none⟩)) rfl (fun F W=>rn_indexE Tryd.underlying36 inf30 ((F.get rfl).trans (by rw [hA211])) rfl (by omega:(0:Int)≤0) (by omega:(0:Int)<((2:Nat):Int)) (by omega))<|Ys 3 (ag ((vi v1.no)::dg v1.state [(vl A221 v1.chs.length c222),(vi v1.sg.index),(vl A225 v1.sg.op.length c226),(vl A229 v1.sg.cl.length c230),(vl A233 v1.sg.path.length c234)])) rfl hS200 (fun F W hW=>rn_loadN (cs:=((vi v1.no)::dg v1.state [(vl A221 v1.chs.length c222),(vi v1.sg.index),(vl A225 v1.sg.op.length c226),(vl A229 v1.sg.cl.length c230),(vl A233 v1.sg.path.length c234)])) (F.get rfl) Tryd.underlying30 rfl (sk inf30 (len_dig1 hv220.st)) (fun j u hu=>Ext.keep ((Ext.refl w196).trans hW.1) (hc214 j u hu)))<|fun _ F240=>?_;clear F205
    refine any_two (i:=4) (k:=8) (by decide +kernel) rfl rfl ?_ ?_
    ·skip
     refine o_call F240 rfl rfl rfl rfl (rn_call (args2 (F240.get rfl) (F240.get rfl)) rfl (by kernel_rfl)) (recv_at (fun b=>b<w164.heap.size) (pubF [seed] 2 0) 0 ([]) ([]) v1 _ (pubF [seed] 2 0) 2 1 a ([]) 0 hD.r1 (pubF_len _ _ _) (RLs.sub (S':=fun b=>b<w164.heap.size) rIt (RLs.nil _:RLs RIt 2 (fun _=>False) _ _ _) cb) (RLs.sub (S':=fun b=>b<w164.heap.size) rVr (RLs.nil _:RLs RVr 38 (fun _=>False) _ _ _) cb) (⟨hv220.st,(RLs.sub (S':=fun b=>b<w164.heap.size) rCg hv220.chs cb),⟨Fl.sub (S':=fun b=>b<w164.heap.size) hv220.sg.op cb,Fl.sub (S':=fun b=>b<w164.heap.size) hv220.sg.cl cb,Fl.sub (S':=fun b=>b<w164.heap.size) hv220.sg.path cb,hv220.sg.o32,hv220.sg.c32,hv220.sg.p32⟩⟩:RVp (fun b=>b<w164.heap.size) _ _ _ _ _ v1) (show ∀ x∈([]:List It),x.data.length≤4294967296 from fun x hx=>absurd hx (by simp)) (fun v hv=>absurd hv (by simp)) (by rw [hD.c1];exact diff_sm (show ∀ x∈([]:List It),x.data.length≤4294967296 from fun x hx=>absurd hx (by simp)) (few_sm hFa)) (hG.ext ((((((((((((((Ext.refl w).trans hx7).trans hx19).trans hx32).trans hx47).trans hx74).trans hx97).trans hx106).trans hx128).gn hg135).trans hx146).trans hx159).gn hg166).trans hx197))) ?_
     rintro _ w241 ⟨c243,e244,rfl,hL245,hE246,hP247,hx242⟩
     obtain ⟨A248,k249,rfl,z250,z251⟩:∃ A k,c243=.slice A a.length k∧a.length≤k∧k≤9223372036854775807:=RLs.form hL245
     have hl252:RLs RIt 2 (Clip (fun b=>b<w164.heap.size∨w196.heap.size≤b) w241) w241 (vl A248 a.length k249) a:=hL245
     obtain ⟨A253,k254,rfl,z255,z256⟩:∃ A k,e244=.slice A 0 k∧0≤k∧k≤9223372036854775807:=RLs.form hE246
     have hl257:RLs RVr 38 (Clip (fun b=>b<w164.heap.size∨w196.heap.size≤b) w241) w241 (vl A253 0 k254) ([]):=hE246
     refine ⟨_,rfl,?_⟩;intro a258 F259;clear F240;have z260:=hx242.size
     have b261:=(b201.ext hx242)
     refine ⟨fun _ _=>⟨((Ext.refl w196).trans hx242),b261⟩,?_⟩
     refine F259.ym 5 rfl<|Yv 6 (ag (dg (pubF [seed] 2 0) [(vi 2),(vi 1),(vl A248 a.length k249),(vl A253 0 k254)])) rfl<|Yv 7 (vi 0) rfl<|fun _ F267=>?_;clear F259
     refine ao 8 rfl (F267.oz fz 41 rfl fun g268 w269 _ F275 z272 z273 b270 hx271=>?_);clear F267
     have b276:=(b261.ext hx271)
     refine ⟨fun _ _=>⟨(((Ext.refl w196).trans hx242).trans hx271),b276⟩,?_⟩
     refine ao 9 rfl (F275.os rfl b270 (fun w277 b278 hg279=>an ?_) (hk:=len_dig (pubF_len _ _ _)));have z280:=hg279.size
     refine F275.yv 10 (vi 0) rfl<|fun _ F282=>?_;clear F275
     refine nn ?_
     have d283:=(RLs.pres rIt hl252 (((Pres.refl w241).ext hx271).gc hg279))
     have d284:=(RLs.pres rVr hl257 (((Pres.refl w241).ext hx271).gc hg279))
     exact ⟨g268,A248,k249,A253,k254,((((((((((((((F282.nil.c F282 13 rfl).c F282 12 rfl).c F282 64 rfl).c F282 11 rfl).c F282 10 rfl).c F282 9 rfl).c F282 8 rfl).c F282 7 rfl).c F282 39 rfl).c F282 21 rfl).c F282 6 rfl).c F282 2 rfl).c F282 1 rfl).c F282 0 rfl),(((((Ext.refl w164).trans hx197).trans hx242).trans hx271).gn hg279),b278,(by omega),(RLs.subB rIt d283 (fun b hb _=>⟨trivial,hb⟩)),(RLs.subB rVr d284 (fun b hb _=>⟨trivial,hb⟩))⟩
    refine F240.oz fz 41 rfl fun g283 w284 _ F290 z287 z288 b285 hx286=>?_;clear F240
    have b291:=(b201.ext hx286)
    refine ⟨fun _ _=>⟨((Ext.refl w196).trans hx286),b291⟩,?_⟩
    refine ao 4 rfl ?_
    have d292:=(RLs.ext rCg hv220.chs hx286)
    have d293:=(hv220.sg.op.ext hx286)
    have d294:=(hv220.sg.cl.ext hx286)
    have d295:=(hv220.sg.path.ext hx286)
    refine o_call F290 rfl rfl rfl rfl (rn_call (args2 (F290.get rfl) (F290.get rfl)) rfl (by kernel_rfl)) (recv_at (fun b=>b<w164.heap.size) (pubF [seed] 2 0) 0 ([]) ([]) v1 _ (pubF [seed] 2 0) 2 1 a ([]) 0 hD.r1 (pubF_len _ _ _) (RLs.sub (S':=fun b=>b<w164.heap.size) rIt (RLs.nil _:RLs RIt 2 (fun _=>False) _ _ _) cb) (RLs.sub (S':=fun b=>b<w164.heap.size) rVr (RLs.nil _:RLs RVr 38 (fun _=>False) _ _ _) cb) (⟨hv220.st,(RLs.sub (S':=fun b=>b<w164.heap.size) rCg d292 cb),⟨Fl.sub (S':=fun b=>b<w164.heap.size) d293 cb,Fl.sub (S':=fun b=>b<w164.heap.size) d294 cb,Fl.sub (S':=fun b=>b<w164.heap.size) d295 cb,hv220.sg.o32,hv220.sg.c32,hv220.sg.p32⟩⟩:RVp (fun b=>b<w164.heap.size) _ _ _ _ _ v1) (show ∀ x∈([]:List It),x.data.length≤4294967296 from fun x hx=>absurd hx (by simp)) (fun v hv=>absurd hv (by simp)) (by rw [hD.c1];exact diff_sm (show ∀ x∈([]:List It),x.data.length≤4294967296 from fun x hx=>absurd hx (by simp)) (few_sm hFa)) (hG.ext (((((((((((((((Ext.refl w).trans hx7).trans hx19).trans hx32).trans hx47).trans hx74).trans hx97).trans hx106).trans hx128).gn hg135).trans hx146).trans hx159).gn hg166).trans hx197).trans hx286))) ?_
    rintro _ w296 ⟨c298,e299,rfl,hL300,hE301,hP302,hx297⟩
    obtain ⟨A303,k304,rfl,z305,z306⟩:∃ A k,c298=.slice A a.length k∧a.length≤k∧k≤9223372036854775807:=RLs.form hL300
    have hl307:RLs RIt 2 (Clip (fun b=>b<w164.heap.size∨w284.heap.size≤b) w296) w296 (vl A303 a.length k304) a:=hL300
    obtain ⟨A308,k309,rfl,z310,z311⟩:∃ A k,e299=.slice A 0 k∧0≤k∧k≤9223372036854775807:=RLs.form hE301
    have hl312:RLs RVr 38 (Clip (fun b=>b<w164.heap.size∨w284.heap.size≤b) w296) w296 (vl A308 0 k309) ([]):=hE301
    refine ⟨_,rfl,?_⟩;intro a313 F314;clear F290;have z315:=hx297.size
    have b316:=(b291.ext hx297)
    refine ⟨fun _ _=>⟨(((Ext.refl w196).trans hx286).trans hx297),b316⟩,?_⟩
    refine F314.ym 5 rfl<|Yv 6 (ag (dg (pubF [seed] 2 0) [(vi 2),(vi 1),(vl A303 a.length k304),(vl A308 0 k309)])) rfl<|Yv 7 (vi 0) rfl<|fun _ F322=>?_;clear F314
    have b323:=(b285.ext hx297)
    refine ao 9 rfl (F322.os rfl b323 (fun w324 b325 hg326=>an ?_) (hk:=len_dig (pubF_len _ _ _)));have z327:=hg326.size
    refine F322.yv 10 (vi 0) rfl<|fun _ F329=>?_;clear F322
    refine nn ?_
    have d330:=(RLs.pres rIt hl307 ((Pres.refl w296).gc hg326))
    have d331:=(RLs.pres rVr hl312 ((Pres.refl w296).gc hg326))
    exact ⟨g283,A303,k304,A308,k309,((((((((((((((F329.nil.c F329 13 rfl).c F329 12 rfl).c F329 64 rfl).c F329 11 rfl).c F329 10 rfl).c F329 9 rfl).c F329 8 rfl).c F329 7 rfl).c F329 39 rfl).c F329 21 rfl).c F329 6 rfl).c F329 2 rfl).c F329 1 rfl).c F329 0 rfl),(((((Ext.refl w164).trans hx197).trans hx286).trans hx297).gn hg326),b325,(by omega),(RLs.subB rIt d330 (fun b hb _=>⟨trivial,hb⟩)),(RLs.subB rVr d331 (fun b hb _=>⟨trivial,hb⟩))⟩
   ·rintro a332 w333 ⟨xg268,xA248,xk249,xA253,xk254,F334,hx335,b336,z339,f337,f338⟩
    have z340:=hx335.size
    clear F195
    have z341:=b336.lt
    obtain ⟨-,z342,z343⟩:=RLs.at f337
    obtain ⟨-,z344,z345⟩:=RLs.at f338
    refine wp_meet (fun a' W=>∃ (xg420:Nat) (xA400:Option Addr) (xk401:Nat) (xA405:Option Addr) (xk406:Nat),Sl 147 [(0,(.int .u8 (seed.toNat:Nat))),(1,(vl A a.length c)),(2,(vl B b.length d)),(6,(.bool false)),(21,(.bool false)),(39,(.bool (decide (((checkE b):Int)≠(0:Int))))),(7,(vp g125)),(8,(vl A107 2 c108)),(9,(.bool true)),(10,(vp g156)),(11,(vi 0)),(64,(.bool false)),(12,(.pointer (some ⟨xg268,0,none⟩))),(13,(vi 0)),(14,(.pointer (some ⟨xg420,0,none⟩))),(15,(vi 0))] a'∧Ext w333 W∧Blk W xg420 41 (dg (pubF [seed] 2 0) [(vi 2),(vi 2),(vl xA400 b.length xk401),(vl xA405 0 xk406)])∧w333.heap.size≤xg420∧RLs RIt 2 (Clip (fun _=>True) W) W (vl xA400 b.length xk401) b∧RLs RVr 38 (Clip (fun _=>True) W) W (vl xA405 0 xk406) ([])) ?_ ?_
    ·skip
     have hx347:∃ W,w333.drew=W∧Ext w333 W:=⟨_,rfl,(Ext.refl _).drew⟩
     obtain ⟨w346,e348,hx347⟩:=hx347
     have z349:=hx347.size
     refine any_start (fun W=>Ext w346 W∧Blk W xg268 41 (dg (pubF [seed] 2 0) [(vi 2),(vi 1),(vl xA248 a.length xk249),(vl xA253 0 xk254)])) (fun i=>i==9) 11 (.replicate 11 false) rfl rfl rfl ?_
     rw [e348];clear e348
     have b351:=(b336.ext hx347)
     have hS350:Ext w346 w346∧Blk w346 xg268 41 (dg (pubF [seed] 2 0) [(vi 2),(vi 1),(vl xA248 a.length xk249),(vl xA253 0 xk254)]):=⟨(Ext.refl w346),b351⟩
     refine F334.ys 0 (ag (dg (pubF [seed] 2 0) [(vi 2),(vi 1),(vl xA248 a.length xk249),(vl xA253 0 xk254)])) rfl hS350 (fun F W hW=>rb F rfl hW.2 (hk:=len_dig (pubF_len _ _ _)))<|Ym 1 rfl<|fun _ F355=>?_;clear F334
     have d356:=(RLs.pres rVr hl111 ((((((((Pres.refl w105).ext hx128).gc hg135).ext hx146).ext hx159).gc hg166).ext hx335).ext hx347))
     obtain ⟨b357,o358,x359,cs360,hA361,hi362,hk363,hc364,hr365⟩:=RLs.get d356 (by omega:1<2)
     obtain rfl:v2=x359:=Option.some.inj ((rfl:([v1,v2]:List Vr)[1]?=some v2).symm.trans hi362)
     obtain ⟨v366,v367,v368,v369,rfl,hv370⟩:=hr365
     obtain ⟨A371,c372,rfl,z373,z374⟩:=RLs.form hv370.chs
     obtain ⟨A375,c376,rfl,z377,z378⟩:=Fl.form hv370.sg.op
     obtain ⟨A379,c380,rfl,z381,z382⟩:=Fl.form hv370.sg.cl
     obtain ⟨A383,c384,rfl,z385,z386⟩:=Fl.form hv370.sg.path
     refine F355.yw 2 (.pointer (some ⟨b357,o358+1*38,none⟩)) rfl (fun F W=>rn_indexE Tryd.underlying36 inf30 ((F.get rfl).trans (by rw [hA361])) rfl (by omega:(0:Int)≤1) (by omega:(1:Int)<((2:Nat):Int)) (by omega))<|Ys 3 (ag ((vi v2.no)::dg v2.state [(vl A371 v2.chs.length c372),(vi v2.sg.index),(vl A375 v2.sg.op.length c376),(vl A379 v2.sg.cl.length c380),(vl A383 v2.sg.path.length c384)])) rfl hS350 (fun F W hW=>rn_loadN (cs:=((vi v2.no)::dg v2.state [(vl A371 v2.chs.length c372),(vi v2.sg.index),(vl A375 v2.sg.op.length c376),(vl A379 v2.sg.cl.length c380),(vl A383 v2.sg.path.length c384)])) (F.get rfl) Tryd.underlying30 rfl (sk inf30 (len_dig1 hv370.st)) (fun j u hu=>Ext.keep ((Ext.refl w346).trans hW.1) (hc364 j u hu)))<|fun _ F390=>?_;clear F355
     refine any_two (i:=4) (k:=8) (by decide +kernel) rfl rfl ?_ ?_
     ·skip
      have d391:=(RLs.ext rIt f337 hx347)
      have d392:=(RLs.ext rVr f338 hx347)
      refine o_call F390 rfl rfl rfl rfl (rn_call (args2 (F390.get rfl) (F390.get rfl)) rfl (by kernel_rfl)) (recv_at (fun b=>b<w333.heap.size) (pubF [seed] 2 0) 1 a ([]) v2 _ (pubF [seed] 2 0) 2 2 b ([]) 0 hD.r2 (pubF_len _ _ _) (RLs.sub (S':=fun b=>b<w333.heap.size) rIt d391 cb) (RLs.sub (S':=fun b=>b<w333.heap.size) rVr d392 cb) (⟨hv370.st,(RLs.sub (S':=fun b=>b<w333.heap.size) rCg hv370.chs cb),⟨Fl.sub (S':=fun b=>b<w333.heap.size) hv370.sg.op cb,Fl.sub (S':=fun b=>b<w333.heap.size) hv370.sg.cl cb,Fl.sub (S':=fun b=>b<w333.heap.size) hv370.sg.path cb,hv370.sg.o32,hv370.sg.c32,hv370.sg.p32⟩⟩:RVp (fun b=>b<w333.heap.size) _ _ _ _ _ v2) (few_sm hFa) (fun v hv=>absurd hv (by simp)) (by rw [hD.c2];exact diff_sm (few_sm hFa) (few_sm hFb)) (hG.ext (((((((((((((((Ext.refl w).trans hx7).trans hx19).trans hx32).trans hx47).trans hx74).trans hx97).trans hx106).trans hx128).gn hg135).trans hx146).trans hx159).gn hg166).trans hx335).trans hx347))) ?_
      rintro _ w393 ⟨c395,e396,rfl,hL397,hE398,hP399,hx394⟩
      obtain ⟨A400,k401,rfl,z402,z403⟩:∃ A k,c395=.slice A b.length k∧b.length≤k∧k≤9223372036854775807:=RLs.form hL397
      have hl404:RLs RIt 2 (Clip (fun b=>b<w333.heap.size∨w346.heap.size≤b) w393) w393 (vl A400 b.length k401) b:=hL397
      obtain ⟨A405,k406,rfl,z407,z408⟩:∃ A k,e396=.slice A 0 k∧0≤k∧k≤9223372036854775807:=RLs.form hE398
      have hl409:RLs RVr 38 (Clip (fun b=>b<w333.heap.size∨w346.heap.size≤b) w393) w393 (vl A405 0 k406) ([]):=hE398
      refine ⟨_,rfl,?_⟩;intro a410 F411;clear F390;have z412:=hx394.size
      have b413:=(b351.ext hx394)
      refine ⟨fun _ _=>⟨((Ext.refl w346).trans hx394),b413⟩,?_⟩
      refine F411.ym 5 rfl<|Yv 6 (ag (dg (pubF [seed] 2 0) [(vi 2),(vi 2),(vl A400 b.length k401),(vl A405 0 k406)])) rfl<|Yv 7 (vi 0) rfl<|fun _ F419=>?_;clear F411
      refine ao 8 rfl (F419.oz fz 41 rfl fun g420 w421 _ F427 z424 z425 b422 hx423=>?_);clear F419
      have b428:=(b413.ext hx423)
      refine ⟨fun _ _=>⟨(((Ext.refl w346).trans hx394).trans hx423),b428⟩,?_⟩
      refine ao 9 rfl (F427.os rfl b422 (fun w429 b430 hg431=>an ?_) (hk:=len_dig (pubF_len _ _ _)));have z432:=hg431.size
      refine F427.yv 10 (vi 0) rfl<|fun _ F434=>?_;clear F427
      refine nn ?_
      have d435:=(RLs.pres rIt hl404 (((Pres.refl w393).ext hx423).gc hg431))
      have d436:=(RLs.pres rVr hl409 (((Pres.refl w393).ext hx423).gc hg431))
      exact ⟨g420,A400,k401,A405,k406,((((((((((((((((F434.nil.c F434 15 rfl).c F434 14 rfl).c F434 13 rfl).c F434 12 rfl).c F434 64 rfl).c F434 11 rfl).c F434 10 rfl).c F434 9 rfl).c F434 8 rfl).c F434 7 rfl).c F434 39 rfl).c F434 21 rfl).c F434 6 rfl).c F434 2 rfl).c F434 1 rfl).c F434 0 rfl),(((((Ext.refl w333).trans hx347).trans hx394).trans hx423).gn hg431),b430,(by omega),(RLs.subB rIt d435 (fun b hb _=>⟨trivial,hb⟩)),(RLs.subB rVr d436 (fun b hb _=>⟨trivial,hb⟩))⟩
     refine F390.oz fz 41 rfl fun g435 w436 _ F442 z439 z440 b437 hx438=>?_;clear F390
     have b443:=(b351.ext hx438)
     refine ⟨fun _ _=>⟨((Ext.refl w346).trans hx438),b443⟩,?_⟩
     refine ao 4 rfl ?_
     have d444:=(RLs.ext rIt (RLs.ext rIt f337 hx347) hx438)
     have d445:=(RLs.ext rVr (RLs.ext rVr f338 hx347) hx438)
     have d446:=(RLs.ext rCg hv370.chs hx438)
     have d447:=(hv370.sg.op.ext hx438)
     have d448:=(hv370.sg.cl.ext hx438)
     have d449:=(hv370.sg.path.ext hx438)
     refine o_call F442 rfl rfl rfl rfl (rn_call (args2 (F442.get rfl) (F442.get rfl)) rfl (by kernel_rfl)) (recv_at (fun b=>b<w333.heap.size) (pubF [seed] 2 0) 1 a ([]) v2 _ (pubF [seed] 2 0) 2 2 b ([]) 0 hD.r2 (pubF_len _ _ _) (RLs.sub (S':=fun b=>b<w333.heap.size) rIt d444 cb) (RLs.sub (S':=fun b=>b<w333.heap.size) rVr d445 cb) (⟨hv370.st,(RLs.sub (S':=fun b=>b<w333.heap.size) rCg d446 cb),⟨Fl.sub (S':=fun b=>b<w333.heap.size) d447 cb,Fl.sub (S':=fun b=>b<w333.heap.size) d448 cb,Fl.sub (S':=fun b=>b<w333.heap.size) d449 cb,hv370.sg.o32,hv370.sg.c32,hv370.sg.p32⟩⟩:RVp (fun b=>b<w333.heap.size) _ _ _ _ _ v2) (few_sm hFa) (fun v hv=>absurd hv (by simp)) (by rw [hD.c2];exact diff_sm (few_sm hFa) (few_sm hFb)) (hG.ext ((((((((((((((((Ext.refl w).trans hx7).trans hx19).trans hx32).trans hx47).trans hx74).trans hx97).trans hx106).trans hx128).gn hg135).trans hx146).trans hx159).gn hg166).trans hx335).trans hx347).trans hx438))) ?_
     rintro _ w450 ⟨c452,e453,rfl,hL454,hE455,hP456,hx451⟩
     obtain ⟨A457,k458,rfl,z459,z460⟩:∃ A k,c452=.slice A b.length k∧b.length≤k∧k≤9223372036854775807:=RLs.form hL454
     have hl461:RLs RIt 2 (Clip (fun b=>b<w333.heap.size∨w436.heap.size≤b) w450) w450 (vl A457 b.length k458) b:=hL454
     obtain ⟨A462,k463,rfl,z464,z465⟩:∃ A k,e453=.slice A 0 k∧0≤k∧k≤9223372036854775807:=RLs.form hE455
     have hl466:RLs RVr 38 (Clip (fun b=>b<w333.heap.size∨w436.heap.size≤b) w450) w450 (vl A462 0 k463) ([]):=hE455
     refine ⟨_,rfl,?_⟩;intro a467 F468;clear F442;have z469:=hx451.size
     have b470:=(b443.ext hx451)
     refine ⟨fun _ _=>⟨(((Ext.refl w346).trans hx438).trans hx451),b470⟩,?_⟩
     refine F468.ym 5 rfl<|Yv 6 (ag (dg (pubF [seed] 2 0) [(vi 2),(vi 2),(vl A457 b.length k458),(vl A462 0 k463)])) rfl<|Yv 7 (vi 0) rfl<|fun _ F476=>?_;clear F468
     have b477:=(b437.ext hx451)
     refine ao 9 rfl (F476.os rfl b477 (fun w478 b479 hg480=>an ?_) (hk:=len_dig (pubF_len _ _ _)));have z481:=hg480.size
     refine F476.yv 10 (vi 0) rfl<|fun _ F483=>?_;clear F476
     refine nn ?_
     have d484:=(RLs.pres rIt hl461 ((Pres.refl w450).gc hg480))
     have d485:=(RLs.pres rVr hl466 ((Pres.refl w450).gc hg480))
     exact ⟨g435,A457,k458,A462,k463,((((((((((((((((F483.nil.c F483 15 rfl).c F483 14 rfl).c F483 13 rfl).c F483 12 rfl).c F483 64 rfl).c F483 11 rfl).c F483 10 rfl).c F483 9 rfl).c F483 8 rfl).c F483 7 rfl).c F483 39 rfl).c F483 21 rfl).c F483 6 rfl).c F483 2 rfl).c F483 1 rfl).c F483 0 rfl),(((((Ext.refl w333).trans hx347).trans hx438).trans hx451).gn hg480),b479,(by omega),(RLs.subB rIt d484 (fun b hb _=>⟨trivial,hb⟩)),(RLs.subB rVr d485 (fun b hb _=>⟨trivial,hb⟩))⟩
    ·rintro a486 w487 ⟨xg420,xA400,xk401,xA405,xk406,F488,hx489,b490,z493,f491,f492⟩
     have z494:=hx489.size
     clear F334
     have z495:=b490.lt
     obtain ⟨-,z496,z497⟩:=RLs.at f491
     obtain ⟨-,z498,z499⟩:=RLs.at f492
     refine wp_meet (fun a' W=>∃ (xg572:Nat) (xA552:Option Addr) (xk553:Nat) (xA557:Option Addr) (xk558:Nat),Sl 147 [(0,(.int .u8 (seed.toNat:Nat))),(1,(vl A a.length c)),(2,(vl B b.length d)),(6,(.bool false)),(21,(.bool false)),(39,(.bool (decide (((checkE b):Int)≠(0:Int))))),(7,(vp g125)),(8,(vl A107 2 c108)),(9,(.bool true)),(10,(vp g156)),(11,(vi 0)),(64,(.bool false)),(12,(.pointer (some ⟨xg268,0,none⟩))),(13,(vi 0)),(14,(.pointer (some ⟨xg420,0,none⟩))),(15,(vi 0)),(16,(.pointer (some ⟨xg572,0,none⟩))),(17,(vi 0))] a'∧Ext w487 W∧Blk W xg572 41 (dg (pubF [seed] 2 0) [(vi 2),(vi 0),(vl xA552 0 xk553),(vl xA557 1 xk558)])∧w487.heap.size≤xg572∧RLs RIt 2 (Clip (fun _=>True) W) W (vl xA552 0 xk553) ([])∧RLs RVr 38 (Clip (fun _=>True) W) W (vl xA557 1 xk558) ([v2])) ?_ ?_
     ·skip
      have hx501:∃ W,w487.drew=W∧Ext w487 W:=⟨_,rfl,(Ext.refl _).drew⟩
      obtain ⟨w500,e502,hx501⟩:=hx501
      have z503:=hx501.size
      refine any_start (fun W=>Ext w500 W∧Blk W g156 41 (dg (pubF [seed] 2 0) [(vi 2),(vi 0),v0,v0])) (fun i=>i==9) 11 (.replicate 11 false) rfl rfl rfl ?_
      rw [e502];clear e502
      have b505:=(((b165.ext hx335).ext hx489).ext hx501)
      have hS504:Ext w500 w500∧Blk w500 g156 41 (dg (pubF [seed] 2 0) [(vi 2),(vi 0),v0,v0]):=⟨(Ext.refl w500),b505⟩
      refine F488.ys 0 (ag (dg (pubF [seed] 2 0) [(vi 2),(vi 0),v0,v0])) rfl hS504 (fun F W hW=>rb F rfl hW.2 (hk:=len_dig (pubF_len _ _ _)))<|Ym 1 rfl<|fun _ F509=>?_;clear F488
      have d510:=(RLs.pres rVr hl111 (((((((((Pres.refl w105).ext hx128).gc hg135).ext hx146).ext hx159).gc hg166).ext hx335).ext hx489).ext hx501))
      obtain ⟨b511,o512,x513,cs514,hA515,hi516,hk517,hc518,hr519⟩:=RLs.get d510 (by omega:1<2)
      obtain rfl:v2=x513:=Option.some.inj ((rfl:([v1,v2]:List Vr)[1]?=some v2).symm.trans hi516)
      obtain ⟨v520,v521,v522,v523,rfl,hv524⟩:=hr519
      obtain ⟨A525,c526,rfl,z527,z528⟩:=RLs.form hv524.chs
      obtain ⟨A529,c530,rfl,z531,z532⟩:=Fl.form hv524.sg.op
      obtain ⟨A533,c534,rfl,z535,z536⟩:=Fl.form hv524.sg.cl
      obtain ⟨A537,c538,rfl,z539,z540⟩:=Fl.form hv524.sg.path
      refine F509.yw 2 (.pointer (some ⟨b511,o512+1*38,none⟩)) rfl (fun F W=>rn_indexE Tryd.underlying36 inf30 ((F.get rfl).trans (by rw [hA515])) rfl (by omega:(0:Int)≤1) (by omega:(1:Int)<((2:Nat):Int)) (by omega))<|Ys 3 (ag ((vi v2.no)::dg v2.state [(vl A525 v2.chs.length c526),(vi v2.sg.index),(vl A529 v2.sg.op.length c530),(vl A533 v2.sg.cl.length c534),(vl A537 v2.sg.path.length c538)])) rfl hS504 (fun F W hW=>rn_loadN (cs:=((vi v2.no)::dg v2.state [(vl A525 v2.chs.length c526),(vi v2.sg.index),(vl A529 v2.sg.op.length c530),(vl A533 v2.sg.cl.length c534),(vl A537 v2.sg.path.length c538)])) (F.get rfl) Tryd.underlying30 rfl (sk inf30 (len_dig1 hv524.st)) (fun j u hu=>Ext.keep ((Ext.refl w500).trans hW.1) (hc518 j u hu)))<|fun _ F544=>?_;clear F509
      refine any_two (i:=4) (k:=8) (by decide +kernel) rfl rfl ?_ ?_
      ·skip
       refine o_call F544 rfl rfl rfl rfl (rn_call (args2 (F544.get rfl) (F544.get rfl)) rfl (by kernel_rfl)) (recv_at (fun b=>b<w487.heap.size) (pubF [seed] 2 0) 0 ([]) ([]) v2 _ (pubF [seed] 2 0) 2 0 ([]) ([v2]) 0 hD.early (pubF_len _ _ _) (RLs.sub (S':=fun b=>b<w487.heap.size) rIt (RLs.nil _:RLs RIt 2 (fun _=>False) _ _ _) cb) (RLs.sub (S':=fun b=>b<w487.heap.size) rVr (RLs.nil _:RLs RVr 38 (fun _=>False) _ _ _) cb) (⟨hv524.st,(RLs.sub (S':=fun b=>b<w487.heap.size) rCg hv524.chs cb),⟨Fl.sub (S':=fun b=>b<w487.heap.size) hv524.sg.op cb,Fl.sub (S':=fun b=>b<w487.heap.size) hv524.sg.cl cb,Fl.sub (S':=fun b=>b<w487.heap.size) hv524.sg.path cb,hv524.sg.o32,hv524.sg.c32,hv524.sg.p32⟩⟩:RVp (fun b=>b<w487.heap.size) _ _ _ _ _ v2) (show ∀ x∈([]:List It),x.data.length≤4294967296 from fun x hx=>absurd hx (by simp)) (fun v hv=>absurd hv (by simp)) (by rw [hD.c2];exact diff_sm (few_sm hFa) (few_sm hFb)) (hG.ext ((((((((((((((((Ext.refl w).trans hx7).trans hx19).trans hx32).trans hx47).trans hx74).trans hx97).trans hx106).trans hx128).gn hg135).trans hx146).trans hx159).gn hg166).trans hx335).trans hx489).trans hx501))) ?_
       rintro _ w545 ⟨c547,e548,rfl,hL549,hE550,hP551,hx546⟩
       obtain ⟨A552,k553,rfl,z554,z555⟩:∃ A k,c547=.slice A 0 k∧0≤k∧k≤9223372036854775807:=RLs.form hL549
       have hl556:RLs RIt 2 (Clip (fun b=>b<w487.heap.size∨w500.heap.size≤b) w545) w545 (vl A552 0 k553) ([]):=hL549
       obtain ⟨A557,k558,rfl,z559,z560⟩:∃ A k,e548=.slice A 1 k∧1≤k∧k≤9223372036854775807:=RLs.form hE550
       have hl561:RLs RVr 38 (Clip (fun b=>b<w487.heap.size∨w500.heap.size≤b) w545) w545 (vl A557 1 k558) ([v2]):=hE550
       refine ⟨_,rfl,?_⟩;intro a562 F563;clear F544;have z564:=hx546.size
       have b565:=(b505.ext hx546)
       refine ⟨fun _ _=>⟨((Ext.refl w500).trans hx546),b565⟩,?_⟩
       refine F563.ym 5 rfl<|Yv 6 (ag (dg (pubF [seed] 2 0) [(vi 2),(vi 0),(vl A552 0 k553),(vl A557 1 k558)])) rfl<|Yv 7 (vi 0) rfl<|fun _ F571=>?_;clear F563
       refine ao 8 rfl (F571.oz fz 41 rfl fun g572 w573 _ F579 z576 z577 b574 hx575=>?_);clear F571
       have b580:=(b565.ext hx575)
       refine ⟨fun _ _=>⟨(((Ext.refl w500).trans hx546).trans hx575),b580⟩,?_⟩
       refine ao 9 rfl (F579.os rfl b574 (fun w581 b582 hg583=>an ?_) (hk:=len_dig (pubF_len _ _ _)));have z584:=hg583.size
       refine F579.yv 10 (vi 0) rfl<|fun _ F586=>?_;clear F579
       refine nn ?_
       have d587:=(RLs.pres rIt hl556 (((Pres.refl w545).ext hx575).gc hg583))
       have d588:=(RLs.pres rVr hl561 (((Pres.refl w545).ext hx575).gc hg583))
       exact ⟨g572,A552,k553,A557,k558,((((((((((((((((((F586.nil.c F586 17 rfl).c F586 16 rfl).c F586 15 rfl).c F586 14 rfl).c F586 13 rfl).c F586 12 rfl).c F586 64 rfl).c F586 11 rfl).c F586 10 rfl).c F586 9 rfl).c F586 8 rfl).c F586 7 rfl).c F586 39 rfl).c F586 21 rfl).c F586 6 rfl).c F586 2 rfl).c F586 1 rfl).c F586 0 rfl),(((((Ext.refl w487).trans hx501).trans hx546).trans hx575).gn hg583),b582,(by omega),(RLs.subB rIt d587 (fun b hb _=>⟨trivial,hb⟩)),(RLs.subB rVr d588 (fun b hb _=>⟨trivial,hb⟩))⟩
      refine F544.oz fz 41 rfl fun g587 w588 _ F594 z591 z592 b589 hx590=>?_;clear F544
      have b595:=(b505.ext hx590)
      refine ⟨fun _ _=>⟨((Ext.refl w500).trans hx590),b595⟩,?_⟩
      refine ao 4 rfl ?_
      have d596:=(RLs.ext rCg hv524.chs hx590)
      have d597:=(hv524.sg.op.ext hx590)
      have d598:=(hv524.sg.cl.ext hx590)
      have d599:=(hv524.sg.path.ext hx590)
      refine o_call F594 rfl rfl rfl rfl (rn_call (args2 (F594.get rfl) (F594.get rfl)) rfl (by kernel_rfl)) (recv_at (fun b=>b<w487.heap.size) (pubF [seed] 2 0) 0 ([]) ([]) v2 _ (pubF [seed] 2 0) 2 0 ([]) ([v2]) 0 hD.early (pubF_len _ _ _) (RLs.sub (S':=fun b=>b<w487.heap.size) rIt (RLs.nil _:RLs RIt 2 (fun _=>False) _ _ _) cb) (RLs.sub (S':=fun b=>b<w487.heap.size) rVr (RLs.nil _:RLs RVr 38 (fun _=>False) _ _ _) cb) (⟨hv524.st,(RLs.sub (S':=fun b=>b<w487.heap.size) rCg d596 cb),⟨Fl.sub (S':=fun b=>b<w487.heap.size) d597 cb,Fl.sub (S':=fun b=>b<w487.heap.size) d598 cb,Fl.sub (S':=fun b=>b<w487.heap.size) d599 cb,hv524.sg.o32,hv524.sg.c32,hv524.sg.p32⟩⟩:RVp (fun b=>b<w487.heap.size) _ _ _ _ _ v2) (show ∀ x∈([]:List It),x.data.length≤4294967296 from fun x hx=>absurd hx (by simp)) (fun v hv=>absurd hv (by simp)) (by rw [hD.c2];exact diff_sm (few_sm hFa) (few_sm hFb)) (hG.ext (((((((((((((((((Ext.refl w).trans hx7).trans hx19).trans hx32).trans hx47).trans hx74).trans hx97).trans hx106).trans hx128).gn hg135).trans hx146).trans hx159).gn hg166).trans hx335).trans hx489).trans hx501).trans hx590))) ?_
      rintro _ w600 ⟨c602,e603,rfl,hL604,hE605,hP606,hx601⟩
      obtain ⟨A607,k608,rfl,z609,z610⟩:∃ A k,c602=.slice A 0 k∧0≤k∧k≤9223372036854775807:=RLs.form hL604
      have hl611:RLs RIt 2 (Clip (fun b=>b<w487.heap.size∨w588.heap.size≤b) w600) w600 (vl A607 0 k608) ([]):=hL604
      obtain ⟨A612,k613,rfl,z614,z615⟩:∃ A k,e603=.slice A 1 k∧1≤k∧k≤9223372036854775807:=RLs.form hE605
      have hl616:RLs RVr 38 (Clip (fun b=>b<w487.heap.size∨w588.heap.size≤b) w600) w600 (vl A612 1 k613) ([v2]):=hE605
      refine ⟨_,rfl,?_⟩;intro a617 F618;clear F594;have z619:=hx601.size
      have b620:=(b595.ext hx601)
      refine ⟨fun _ _=>⟨(((Ext.refl w500).trans hx590).trans hx601),b620⟩,?_⟩
      refine F618.ym 5 rfl<|Yv 6 (ag (dg (pubF [seed] 2 0) [(vi 2),(vi 0),(vl A607 0 k608),(vl A612 1 k613)])) rfl<|Yv 7 (vi 0) rfl<|fun _ F626=>?_;clear F618
      have b627:=(b589.ext hx601)
      refine ao 9 rfl (F626.os rfl b627 (fun w628 b629 hg630=>an ?_) (hk:=len_dig (pubF_len _ _ _)));have z631:=hg630.size
      refine F626.yv 10 (vi 0) rfl<|fun _ F633=>?_;clear F626
      refine nn ?_
      have d634:=(RLs.pres rIt hl611 ((Pres.refl w600).gc hg630))
      have d635:=(RLs.pres rVr hl616 ((Pres.refl w600).gc hg630))
      exact ⟨g587,A607,k608,A612,k613,((((((((((((((((((F633.nil.c F633 17 rfl).c F633 16 rfl).c F633 15 rfl).c F633 14 rfl).c F633 13 rfl).c F633 12 rfl).c F633 64 rfl).c F633 11 rfl).c F633 10 rfl).c F633 9 rfl).c F633 8 rfl).c F633 7 rfl).c F633 39 rfl).c F633 21 rfl).c F633 6 rfl).c F633 2 rfl).c F633 1 rfl).c F633 0 rfl),(((((Ext.refl w487).trans hx501).trans hx590).trans hx601).gn hg630),b629,(by omega),(RLs.subB rIt d634 (fun b hb _=>⟨trivial,hb⟩)),(RLs.subB rVr d635 (fun b hb _=>⟨trivial,hb⟩))⟩
     ·rintro a636 w637 ⟨xg572,xA552,xk553,xA557,xk558,F638,hx639,b640,z643,f641,f642⟩
      have z644:=hx639.size
      clear F488
      have z645:=b640.lt
      obtain ⟨-,z646,z647⟩:=RLs.at f641
      obtain ⟨-,z648,z649⟩:=RLs.at f642
      refine wp_meet (fun a' W=>∃ (xg724:Nat) (xA704:Option Addr) (xk705:Nat) (xA709:Option Addr) (xk710:Nat),Sl 147 [(0,(.int .u8 (seed.toNat:Nat))),(1,(vl A a.length c)),(2,(vl B b.length d)),(6,(.bool false)),(21,(.bool false)),(39,(.bool (decide (((checkE b):Int)≠(0:Int))))),(7,(vp g125)),(8,(vl A107 2 c108)),(9,(.bool true)),(10,(vp g156)),(11,(vi 0)),(64,(.bool false)),(12,(.pointer (some ⟨xg268,0,none⟩))),(13,(vi 0)),(14,(.pointer (some ⟨xg420,0,none⟩))),(15,(vi 0)),(16,(.pointer (some ⟨xg572,0,none⟩))),(17,(vi 0)),(18,(.pointer (some ⟨xg724,0,none⟩))),(19,(vi 0))] a'∧Ext w637 W∧Blk W xg724 41 (dg (pubF [seed] 2 0) [(vi 2),(vi 2),(vl xA704 b.length xk705),(vl xA709 0 xk710)])∧w637.heap.size≤xg724∧RLs RIt 2 (Clip (fun _=>True) W) W (vl xA704 b.length xk705) b∧RLs RVr 38 (Clip (fun _=>True) W) W (vl xA709 0 xk710) ([])) ?_ ?_
      ·skip
       have hx651:∃ W,w637.drew=W∧Ext w637 W:=⟨_,rfl,(Ext.refl _).drew⟩
       obtain ⟨w650,e652,hx651⟩:=hx651
       have z653:=hx651.size
       refine any_start (fun W=>Ext w650 W∧Blk W xg572 41 (dg (pubF [seed] 2 0) [(vi 2),(vi 0),(vl xA552 0 xk553),(vl xA557 1 xk558)])) (fun i=>i==9) 11 (.replicate 11 false) rfl rfl rfl ?_
       rw [e652];clear e652
       have b655:=(b640.ext hx651)
       have hS654:Ext w650 w650∧Blk w650 xg572 41 (dg (pubF [seed] 2 0) [(vi 2),(vi 0),(vl xA552 0 xk553),(vl xA557 1 xk558)]):=⟨(Ext.refl w650),b655⟩
       refine F638.ys 0 (ag (dg (pubF [seed] 2 0) [(vi 2),(vi 0),(vl xA552 0 xk553),(vl xA557 1 xk558)])) rfl hS654 (fun F W hW=>rb F rfl hW.2 (hk:=len_dig (pubF_len _ _ _)))<|Ym 1 rfl<|fun _ F659=>?_;clear F638
       have d660:=(RLs.pres rVr hl111 ((((((((((Pres.refl w105).ext hx128).gc hg135).ext hx146).ext hx159).gc hg166).ext hx335).ext hx489).ext hx639).ext hx651))
       obtain ⟨b661,o662,x663,cs664,hA665,hi666,hk667,hc668,hr669⟩:=RLs.get d660 (by omega:0<2)
       obtain rfl:v1=x663:=Option.some.inj ((rfl:([v1,v2]:List Vr)[0]?=some v1).symm.trans hi666)
       obtain ⟨v670,v671,v672,v673,rfl,hv674⟩:=hr669
       obtain ⟨A675,c676,rfl,z677,z678⟩:=RLs.form hv674.chs
       obtain ⟨A679,c680,rfl,z681,z682⟩:=Fl.form hv674.sg.op
       obtain ⟨A683,c684,rfl,z685,z686⟩:=Fl.form hv674.sg.cl
       obtain ⟨A687,c688,rfl,z689,z690⟩:=Fl.form hv674.sg.path
       refine F659.yw 2 (.pointer (some ⟨b661,o662+0*38,none⟩)) rfl (fun F W=>rn_indexE Tryd.underlying36 inf30 ((F.get rfl).trans (by rw [hA665])) rfl (by omega:(0:Int)≤0) (by omega:(0:Int)<((2:Nat):Int)) (by omega))<|Ys 3 (ag ((vi v1.no)::dg v1.state [(vl A675 v1.chs.length c676),(vi v1.sg.index),(vl A679 v1.sg.op.length c680),(vl A683 v1.sg.cl.length c684),(vl A687 v1.sg.path.length c688)])) rfl hS654 (fun F W hW=>rn_loadN (cs:=((vi v1.no)::dg v1.state [(vl A675 v1.chs.length c676),(vi v1.sg.index),(vl A679 v1.sg.op.length c680),(vl A683 v1.sg.cl.length c684),(vl A687 v1.sg.path.length c688)])) (F.get rfl) Tryd.underlying30 rfl (sk inf30 (len_dig1 hv674.st)) (fun j u hu=>Ext.keep ((Ext.refl w650).trans hW.1) (hc668 j u hu)))<|fun _ F694=>?_;clear F659
       refine any_two (i:=4) (k:=8) (by decide +kernel) rfl rfl ?_ ?_
       ·skip
        have d695:=(RLs.ext rIt f641 hx651)
        have d696:=(RLs.ext rVr f642 hx651)
        refine o_call F694 rfl rfl rfl rfl (rn_call (args2 (F694.get rfl) (F694.get rfl)) rfl (by kernel_rfl)) (recv_at (fun b=>b<w637.heap.size) (pubF [seed] 2 0) 0 ([]) ([v2]) v1 _ (pubF [seed] 2 0) 2 2 b ([]) 0 hD.late (pubF_len _ _ _) (RLs.sub (S':=fun b=>b<w637.heap.size) rIt d695 cb) (RLs.sub (S':=fun b=>b<w637.heap.size) rVr d696 cb) (⟨hv674.st,(RLs.sub (S':=fun b=>b<w637.heap.size) rCg hv674.chs cb),⟨Fl.sub (S':=fun b=>b<w637.heap.size) hv674.sg.op cb,Fl.sub (S':=fun b=>b<w637.heap.size) hv674.sg.cl cb,Fl.sub (S':=fun b=>b<w637.heap.size) hv674.sg.path cb,hv674.sg.o32,hv674.sg.c32,hv674.sg.p32⟩⟩:RVp (fun b=>b<w637.heap.size) _ _ _ _ _ v1) (show ∀ x∈([]:List It),x.data.length≤4294967296 from fun x hx=>absurd hx (by simp)) (fun v hv=>by rw [List.mem_singleton.1 hv];exact (by rw [hD.c2];exact diff_sm (few_sm hFa) (few_sm hFb))) (by rw [hD.c1];exact diff_sm (show ∀ x∈([]:List It),x.data.length≤4294967296 from fun x hx=>absurd hx (by simp)) (few_sm hFa)) (hG.ext (((((((((((((((((Ext.refl w).trans hx7).trans hx19).trans hx32).trans hx47).trans hx74).trans hx97).trans hx106).trans hx128).gn hg135).trans hx146).trans hx159).gn hg166).trans hx335).trans hx489).trans hx639).trans hx651))) ?_
        rintro _ w697 ⟨c699,e700,rfl,hL701,hE702,hP703,hx698⟩
        obtain ⟨A704,k705,rfl,z706,z707⟩:∃ A k,c699=.slice A b.length k∧b.length≤k∧k≤9223372036854775807:=RLs.form hL701
        have hl708:RLs RIt 2 (Clip (fun b=>b<w637.heap.size∨w650.heap.size≤b) w697) w697 (vl A704 b.length k705) b:=hL701
        obtain ⟨A709,k710,rfl,z711,z712⟩:∃ A k,e700=.slice A 0 k∧0≤k∧k≤9223372036854775807:=RLs.form hE702
        have hl713:RLs RVr 38 (Clip (fun b=>b<w637.heap.size∨w650.heap.size≤b) w697) w697 (vl A709 0 k710) ([]):=hE702
        refine ⟨_,rfl,?_⟩;intro a714 F715;clear F694;have z716:=hx698.size
        have b717:=(b655.ext hx698)
        refine ⟨fun _ _=>⟨((Ext.refl w650).trans hx698),b717⟩,?_⟩
        refine F715.ym 5 rfl<|Yv 6 (ag (dg (pubF [seed] 2 0) [(vi 2),(vi 2),(vl A704 b.length k705),(vl A709 0 k710)])) rfl<|Yv 7 (vi 0) rfl<|fun _ F723=>?_;clear F715
        refine ao 8 rfl (F723.oz fz 41 rfl fun g724 w725 _ F731 z728 z729 b726 hx727=>?_);clear F723
        have b732:=(b717.ext hx727)
        refine ⟨fun _ _=>⟨(((Ext.refl w650).trans hx698).trans hx727),b732⟩,?_⟩
        refine ao 9 rfl (F731.os rfl b726 (fun w733 b734 hg735=>an ?_) (hk:=len_dig (pubF_len _ _ _)));have z736:=hg735.size
        refine F731.yv 10 (vi 0) rfl<|fun _ F738=>?_;clear F731
        refine nn ?_
        have d739:=(RLs.pres rIt hl708 (((Pres.refl w697).ext hx727).gc hg735))
        have d740:=(RLs.pres rVr hl713 (((Pres.refl w697).ext hx727).gc hg735))
        exact ⟨g724,A704,k705,A709,k710,((((((((((((((((((((F738.nil.c F738 19 rfl).c F738 18 rfl).c F738 17 rfl).c F738 16 rfl).c F738 15 rfl).c F738 14 rfl).c F738 13 rfl).c F738 12 rfl).c F738 64 rfl).c F738 11 rfl).c F738 10 rfl).c F738 9 rfl).c F738 8 rfl).c F738 7 rfl).c F738 39 rfl).c F738 21 rfl).c F738 6 rfl).c F738 2 rfl).c F738 1 rfl).c F738 0 rfl),(((((Ext.refl w637).trans hx651).trans hx698).trans hx727).gn hg735),b734,(by omega),(RLs.subB rIt d739 (fun b hb _=>⟨trivial,hb⟩)),(RLs.subB rVr d740 (fun b hb _=>⟨trivial,hb⟩))⟩
       refine F694.oz fz 41 rfl fun g739 w740 _ F746 z743 z744 b741 hx742=>?_;clear F694
       have b747:=(b655.ext hx742)
       refine ⟨fun _ _=>⟨((Ext.refl w650).trans hx742),b747⟩,?_⟩
       refine ao 4 rfl ?_
       have d748:=(RLs.ext rIt (RLs.ext rIt f641 hx651) hx742)
       have d749:=(RLs.ext rVr (RLs.ext rVr f642 hx651) hx742)
       have d750:=(RLs.ext rCg hv674.chs hx742)
       have d751:=(hv674.sg.op.ext hx742)
       have d752:=(hv674.sg.cl.ext hx742)
       have d753:=(hv674.sg.path.ext hx742)
       refine o_call F746 rfl rfl rfl rfl (rn_call (args2 (F746.get rfl) (F746.get rfl)) rfl (by kernel_rfl)) (recv_at (fun b=>b<w637.heap.size) (pubF [seed] 2 0) 0 ([]) ([v2]) v1 _ (pubF [seed] 2 0) 2 2 b ([]) 0 hD.late (pubF_len _ _ _) (RLs.sub (S':=fun b=>b<w637.heap.size) rIt d748 cb) (RLs.sub (S':=fun b=>b<w637.heap.size) rVr d749 cb) (⟨hv674.st,(RLs.sub (S':=fun b=>b<w637.heap.size) rCg d750 cb),⟨Fl.sub (S':=fun b=>b<w637.heap.size) d751 cb,Fl.sub (S':=fun b=>b<w637.heap.size) d752 cb,Fl.sub (S':=fun b=>b<w637.heap.size) d753 cb,hv674.sg.o32,hv674.sg.c32,hv674.sg.p32⟩⟩:RVp (fun b=>b<w637.heap.size) _ _ _ _ _ v1) (show ∀ x∈([]:List It),x.data.length≤4294967296 from fun x hx=>absurd hx (by simp)) (fun v hv=>by rw [List.mem_singleton.1 hv];exact (by rw [hD.c2];exact diff_sm (few_sm hFa) (few_sm hFb))) (by rw [hD.c1];exact diff_sm (show ∀ x∈([]:List It),x.data.length≤4294967296 from fun x hx=>absurd hx (by simp)) (few_sm hFa)) (hG.ext ((((((((((((((((((Ext.refl w).trans hx7).trans hx19).trans hx32).trans hx47).trans hx74).trans hx97).trans hx106).trans hx128).gn hg135).trans hx146).trans hx159).gn hg166).trans hx335).trans hx489).trans hx639).trans hx651).trans hx742))) ?_
       rintro _ w754 ⟨c756,e757,rfl,hL758,hE759,hP760,hx755⟩
       obtain ⟨A761,k762,rfl,z763,z764⟩:∃ A k,c756=.slice A b.length k∧b.length≤k∧k≤9223372036854775807:=RLs.form hL758
       have hl765:RLs RIt 2 (Clip (fun b=>b<w637.heap.size∨w740.heap.size≤b) w754) w754 (vl A761 b.length k762) b:=hL758
       obtain ⟨A766,k767,rfl,z768,z769⟩:∃ A k,e757=.slice A 0 k∧0≤k∧k≤9223372036854775807:=RLs.form hE759
       have hl770:RLs RVr 38 (Clip (fun b=>b<w637.heap.size∨w740.heap.size≤b) w754) w754 (vl A766 0 k767) ([]):=hE759
       refine ⟨_,rfl,?_⟩;intro a771 F772;clear F746;have z773:=hx755.size
       have b774:=(b747.ext hx755)
       refine ⟨fun _ _=>⟨(((Ext.refl w650).trans hx742).trans hx755),b774⟩,?_⟩
       refine F772.ym 5 rfl<|Yv 6 (ag (dg (pubF [seed] 2 0) [(vi 2),(vi 2),(vl A761 b.length k762),(vl A766 0 k767)])) rfl<|Yv 7 (vi 0) rfl<|fun _ F780=>?_;clear F772
       have b781:=(b741.ext hx755)
       refine ao 9 rfl (F780.os rfl b781 (fun w782 b783 hg784=>an ?_) (hk:=len_dig (pubF_len _ _ _)));have z785:=hg784.size
       refine F780.yv 10 (vi 0) rfl<|fun _ F787=>?_;clear F780
       refine nn ?_
       have d788:=(RLs.pres rIt hl765 ((Pres.refl w754).gc hg784))
       have d789:=(RLs.pres rVr hl770 ((Pres.refl w754).gc hg784))
       exact ⟨g739,A761,k762,A766,k767,((((((((((((((((((((F787.nil.c F787 19 rfl).c F787 18 rfl).c F787 17 rfl).c F787 16 rfl).c F787 15 rfl).c F787 14 rfl).c F787 13 rfl).c F787 12 rfl).c F787 64 rfl).c F787 11 rfl).c F787 10 rfl).c F787 9 rfl).c F787 8 rfl).c F787 7 rfl).c F787 39 rfl).c F787 21 rfl).c F787 6 rfl).c F787 2 rfl).c F787 1 rfl).c F787 0 rfl),(((((Ext.refl w637).trans hx651).trans hx742).trans hx755).gn hg784),b783,(by omega),(RLs.subB rIt d788 (fun b hb _=>⟨trivial,hb⟩)),(RLs.subB rVr d789 (fun b hb _=>⟨trivial,hb⟩))⟩
      ·rintro a790 w791 ⟨xg724,xA704,xk705,xA709,xk710,F792,hx793,b794,z797,f795,f796⟩
       have z798:=hx793.size
       clear F638
       have z799:=b794.lt
       obtain ⟨-,z800,z801⟩:=RLs.at f795
       obtain ⟨-,z802,z803⟩:=RLs.at f796
       refine wp_seq_k fun K804 hK804=>?_
       refine wr fun K805 hK805=>?_
       refine F792.xm rfl<|Xv (.bool false)<|Xm rfl<|Xg (vi 0)<|Xg (.bool false)<|Xv (.bool false)<|Xm rfl<|Xg (vi 0)<|Xg (.bool false)<|Xv (.bool false)<|Xm rfl<|Xg (vi 0)<|Xg (.bool false)<|Xv (.bool false)<|fun _ F833=>?_;clear F792
       refine wpList_nil (hK805 _ _ ?_);clear hK805
       have F834:=F833.k [0,1,2,6,21,39,7,8,9,10,11,64,12,13,14,15,16,17,18,19,110];clear F833
       refine F834.cf ?_
       refine wp_skip ?_
       refine hK804 _ _ ?_;clear hK804
       refine wr fun K835 hK835=>?_
       refine F834.xv (.pointer (some ⟨xg572,34,none⟩))<|fun _ F837=>?_;clear F834
       have b838:=(b640.ext hx793)
       refine F837.xw (vl xA552 0 xk553) (fun F=>rl F rfl ((b838.rule.1 34).trans ((at_app (k:=2) (byteVals_len (pubF_len _ _ _))).trans rfl)))<|Xv (vi 0)<|Xv (.bool true)<|Xm rfl<|Xg (.pointer (some ⟨xg572,33,none⟩))<|Xgw (vi 0) (fun F=>rl F rfl ((b838.rule.1 33).trans ((at_app (k:=1) (byteVals_len (pubF_len _ _ _))).trans rfl)))<|Xg (.bool true)<|Xv (.bool true)<|Xm rfl<|Xgw (ag (dg (pubF [seed] 2 0) [(vi 2),(vi 0),(vl xA552 0 xk553),(vl xA557 1 xk558)])) (fun F=>rb F rfl b838 (hk:=len_dig (pubF_len _ _ _)))<|fun _ F858=>?_;clear F837
       have d859:=(RLs.ext rIt f641 hx793)
       have d860:=(RLs.ext rVr f642 hx793)
       refine wpl_op (i:=11) rfl (o_call F858 rfl (wanted_guard rfl rfl rfl F858 rfl rfl rfl) rfl rfl (rn_call (args1 (F858.get rfl)) rfl (by kernel_rfl)) (wants_fo (pubF [seed] 2 0) 0 ([]) ([v2]) _ 1 rfl (pubF_len _ _ _) d859 d860 (by omega)) ?_)
       rintro _ w861 ⟨rfl,hx862⟩
       refine ⟨_,rfl,?_⟩;intro a863 F864;clear F858;have z865:=hx862.size
       refine F864.xg (.bool true)<|Xv (.bool true)<|Xm rfl<|Xg (.pointer (some ⟨xg572,35,none⟩))<|fun _ F873=>?_;clear F864
       have b874:=(b838.ext hx862)
       refine F873.xgw (vl xA557 1 xk558) (fun F=>rl F rfl ((b874.rule.1 35).trans ((at_app (k:=3) (byteVals_len (pubF_len _ _ _))).trans rfl)))<|Xg (vi 1)<|Xg (.bool true)<|Xv (.bool true)<|Xm rfl<|fun _ F884=>?_;clear F873
       have b885:=(((b490.ext hx639).ext hx793).ext hx862)
       refine F884.xgw (ag (dg (pubF [seed] 2 0) [(vi 2),(vi 2),(vl xA400 b.length xk401),(vl xA405 0 xk406)])) (fun F=>rb F rfl b885 (hk:=len_dig (pubF_len _ _ _)))<|fun _ F887=>?_;clear F884
       have b888:=(b794.ext hx862)
       refine F887.xgw (ag (dg (pubF [seed] 2 0) [(vi 2),(vi 2),(vl xA704 b.length xk705),(vl xA709 0 xk710)])) (fun F=>rb F rfl b888 (hk:=len_dig (pubF_len _ _ _)))<|fun _ F890=>?_;clear F887
       have d891:=(RLs.ext rIt (RLs.ext rIt (RLs.ext rIt f491 hx639) hx793) hx862)
       have d892:=(RLs.ext rVr (RLs.ext rVr (RLs.ext rVr f492 hx639) hx793) hx862)
       have d893:=(RLs.ext rIt f795 hx862)
       have d894:=(RLs.ext rVr f796 hx862)
       refine wpl_op (i:=23) rfl (o_call F890 rfl (wanted_guard rfl rfl rfl F890 rfl rfl rfl) rfl rfl (rn_call (args2 (F890.get rfl) (F890.get rfl)) rfl (by kernel_rfl)) (samefo_fo (pubF [seed] 2 0) 2 2 b ([]) _ (pubF_len _ _ _) d891 d892 d893 d894) ?_)
       rintro _ w895 ⟨rfl,hx896⟩
       refine ⟨_,rfl,?_⟩;intro a897 F898;clear F890;have z899:=hx896.size
       refine F898.xv (.bool true)<|Xm rfl<|Xg (.pointer (some ⟨xg420,33,none⟩))<|fun _ F905=>?_;clear F898
       have b906:=(b885.ext hx896)
       refine F905.xgw (vi 2) (fun F=>rl F rfl ((b906.rule.1 33).trans ((at_app (k:=1) (byteVals_len (pubF_len _ _ _))).trans rfl)))<|Xg (.bool true)<|Xv (.bool true)<|Xm rfl<|Xg (.pointer (some ⟨xg420,34,none⟩))<|Xgw (vl xA400 b.length xk401) (fun F=>rl F rfl ((b906.rule.1 34).trans ((at_app (k:=2) (byteVals_len (pubF_len _ _ _))).trans rfl)))<|Xg (vl B b.length d)<|fun _ F920=>?_;clear F905
       have d921:=(RLs.ext rIt (RLs.ext rIt (RLs.ext rIt (RLs.ext rIt f491 hx639) hx793) hx862) hx896)
       have d922:=(RLs.pres rIt h2c (((((((((((((((((((Pres.refl w).ext hx7).ext hx19).ext hx32).ext hx47).ext hx74).ext hx97).ext hx106).ext hx128).gc hg135).ext hx146).ext hx159).gc hg166).ext hx335).ext hx489).ext hx639).ext hx793).ext hx862).ext hx896))
       refine wpl_op (i:=34) rfl (o_call F920 rfl (wanted_guard rfl rfl rfl F920 rfl rfl rfl) rfl rfl (rn_call (args2 (F920.get rfl) (F920.get rfl)) rfl (by kernel_rfl)) (same40_at (u:=(vl xA400 b.length xk401)) (v:=(vl B b.length d)) b b _ d921 d922) ?_)
       rintro _ w923 ⟨rfl,hx924⟩
       refine ⟨_,rfl,?_⟩;intro a925 F926;clear F920;have z927:=hx924.size
       refine F926.xv (.bool (decide (b=b)))<|Xa rfl<|fun _ F931=>?_;clear F926
       refine wpList_nil (hK835 _ _ ?_);clear hK835
       have F932:=F931.k [0,1,2,6,21,39,7,8,9,10,11,64,12,13,14,15,16,17,18,19,110];clear F931
       refine wp_ret ?_
       refine ret1 F932 rfl rfl ?_
       exact ⟨congrArg (fun b=>Ending.returned (.bool b)) ((decide_eq_true rfl):decide (b=b)=true),((((((((((((((((((((Ext.refl w).trans hx7).trans hx19).trans hx32).trans hx47).trans hx74).trans hx97).trans hx106).trans hx128).gn hg135).trans hx146).trans hx159).gn hg166).trans hx335).trans hx489).trans hx639).trans hx793).trans hx862).trans hx896).trans hx924)⟩
  refine F41.xu<|Xu<|Xu<|Xv (.bool true)<|Xm rfl<|Xu<|Xu<|Xu<|Xv (.bool true)<|fun _ F950=>?_;clear F41
  refine wpList_nil (hK14 _ _ ?_);clear hK14
  have F951:=F950.k [0,1,2,6,21,39];clear F950
  refine F951.ct ?_
  refine wr fun K952 hK952=>?_
  refine F951.xv (.bool true)<|fun _ F954=>?_;clear F951
  refine wpList_nil (hK952 _ _ ?_);clear hK952
  refine wp_ret (ret_then ?_)
  refine ret1 F954 rfl rfl ?_
  exact ⟨rfl,((((Ext.refl w).trans hx7).trans hx19).trans hx32)⟩
 refine F26.xu<|Xu<|Xu<|Xv (.bool true)<|Xm rfl<|Xu<|Xu<|Xu<|Xv (.bool true)<|Xm rfl<|Xu<|Xu<|Xu<|Xv (.bool true)<|fun _ F982=>?_;clear F26
 refine wpList_nil (hK14 _ _ ?_);clear hK14
 have F983:=F982.k [0,1,2,6,21,39];clear F982
 refine F983.ct ?_
 refine wr fun K984 hK984=>?_
 refine F983.xv (.bool true)<|fun _ F986=>?_;clear F983
 refine wpList_nil (hK984 _ _ ?_);clear hK984
 refine wp_ret (ret_then ?_)
 refine ret1 F986 rfl rfl ?_
 exact ⟨rfl,(((Ext.refl w).trans hx7).trans hx19)⟩

end Go.Proofs.YtihgmaoghbnnaaaDoor
