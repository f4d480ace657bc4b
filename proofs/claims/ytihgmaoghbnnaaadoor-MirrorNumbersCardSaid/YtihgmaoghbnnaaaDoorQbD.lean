/- Several texts in one: SealI, SealJ, SealK, SealL, JrA, MrB, MrC, Open42, Glob3, MrD, MrE, MrF. -/
import Derived.Test.YtihgmaoghbnnaaaDoorProg
import Derived.Test.YtihgmaoghbnnaaaDoorQbC
import Derived.KernelRfl
import Derived.Test.YtihgmaoghbnnaaaDoorQbA
import Derived.Test.YtihgmaoghbnnaaaDoorQbB
import Derived.Test.YtihgmaoghbnnaaaDoorRows
import Derived.LaidMore
import Derived.MakeChecks
import Derived.LaidLaws
import Derived.LaidHandle
import Derived.WalkSpells
import Derived.Handy
set_option linter.unusedVariables false
set_option linter.unusedSimpArgs false
namespace Go.Proofs.YtihgmaoghbnnaaaDoor
open Go.RowKit

variable {S S':Nat→Prop}

set_option maxRecDepth 100000 in
set_option maxHeartbeats 1000000 in
theorem sign_any (A:Option Addr) (c:Nat) (sd:List UInt8) (many used idx:Int) (B:Option Addr) (cb:Nat) (msg:List UInt8) (w:World) (hf:Fl S w 1 (vl A sd.length c) sd.length (byteVals sd)) (hm:Fl S w 1 (vl B msg.length cb) msg.length (byteVals msg)) (hG:Glob w) :
  Calls Tryd.prog 39 #[.agg #[.slice A sd.length c,.int .i64 many,.int .i64 used],.int .i64 idx,.slice B msg.length cb] w (fun e w'=>∃ A1 n1 c1 A2 n2 c2 A3 n3 c3,e=.returned (.tuple #[.agg #[.int .i64 (signF sd many used idx msg).index,.slice A1 n1 c1,.slice A2 n2 c2,.slice A3 n3 c3],.int .i64 (signE sd many used idx msg)])∧Fl (fun b=>w.heap.size≤b) w' 32 (vl A1 n1 c1) n1 (digVals (signF sd many used idx msg).op)∧Fl (fun b=>w.heap.size≤b) w' 32 (vl A2 n2 c2) n2 (digVals (signF sd many used idx msg).cl)∧Fl (fun b=>w.heap.size≤b) w' 32 (vl A3 n3 c3) n3 (digVals (signF sd many used idx msg).path)∧Ext w w'):=by
 have hc:Fl (Clip S w) w 1 (vl A sd.length c) sd.length (byteVals sd):=hf.clip
 have hcc:=(Fl.cel hc).2.1
 have hb:Fl (Clip S w) w 1 (vl B msg.length cb) msg.length (byteVals msg):=hm.clip
 have hbc:=(Fl.cel hb).2.1
 refine calls_enter Tryd.func39 rfl rfl rfl fun _ hF=>?_
 refine wr fun K1 hK1=>?_
 refine hF.xb rfl fun g2 w3 _ F9 z6 z7 b4 hx5=>?_;clear hF
 refine F9.xz [(vi 0),v0,v0,v0] 28 fun g10 w11 _ F17 z14 z15 b12 hx13=>?_;clear F9
 refine F17.xv (vi 0)<|fun _ F19=>?_;clear F17
 refine wpList_nil (hK1 _ _ ?_);clear hK1
 refine wp_seq_k fun K20 hK20=>?_
 refine wp_block ?_
 refine wr fun K21 hK21=>?_
 have b22:=(b4.ext hx13)
 refine F19.xw (.agg #[(vl A sd.length c),(vi many),(vi used)]) (fun F=>rb F rfl b22)<|fun _ F24=>?_;clear F19
 have d25:=((hc.ext hx5).ext hx13)
 refine F24.xc (valid_at (v:=(vl A sd.length c)) (m:=sd.length) sd many used _ d25) ?_
 rintro _ w26 ⟨rfl,hx27⟩
 refine ⟨_,rfl,?_⟩;intro a28 F29;clear F24;have z30:=hx27.size
 refine F29.xw (.bool (!(kOk sd many used))) (fun F=>rn_not' (F.get rfl) rfl)<|Xa rfl<|fun _ F34=>?_;clear F29
 refine wpList_nil (hK21 _ _ ?_);clear hK21
 rcases Bool.eq_false_or_eq_true (kOk sd many used) with hc35 | hc35
 ·skip
  refine F34.cf ?_
  refine wr fun K36 hK36=>?_
  refine F34.xm rfl<|Xv (vi (msg.length:Nat))<|Xv (.bool (decide ((65536:Int)<((msg.length:Nat):Int))))<|Xa rfl<|fun _ F44=>?_;clear F34
  refine wpList_nil (hK36 _ _ ?_);clear hK36
  have F45:=F44.k [0,1,2,3,6,7,12,17];clear F44
  by_cases hc46:(65536:Int)<((msg.length:Nat):Int)
  ·skip
   refine F45.ct ?_
   refine wr fun K47 hK47=>?_
   have b48:=(b12.ext hx27)
   refine F45.xw (.agg #[(vi 0),v0,v0,v0]) (fun F=>rb F rfl b48)<|fun _ F50=>?_;clear F45
   refine F50.xs rfl b48 (fun w51 b52 hg53=>?_);have z54:=hg53.size
   refine F50.xv (vi 2)<|fun _ F56=>?_;clear F50
   refine wpList_nil (hK47 _ _ ?_);clear hK47
   refine wp_ret ?_
   refine ret_block ?_
   refine ret_then ?_
   refine retC1 F56 rfl rfl rfl b52 Tryd.underlying28 rfl inf28 ?_
   have he:signE sd many used idx msg=2:=signE2 hc35 (by omega)
   have hn:=signF_no he (by decide)
   exact ⟨none,0,0,none,0,0,none,0,0,by rw [he,hn];rfl,by rw [hn];exact Fl.nil _,by rw [hn];exact Fl.nil _,by rw [hn];exact Fl.nil _,(((((Ext.refl w).trans hx5).trans hx13).trans hx27).gn hg53)⟩
  refine F45.cf ?_
  refine wr fun K57 hK57=>?_
  refine F45.xm rfl<|Xv (.bool (decide ((idx:Int)<(0:Int))))<|Xm rfl<|fun _ F63=>?_;clear F45
  by_cases hc64:(idx:Int)<(0:Int)
  ·skip
   refine F63.xu<|Xu<|Xu<|Xu<|Xv (.bool true)<|Xa rfl<|fun _ F76=>?_;clear F63
   refine wpList_nil (hK57 _ _ ?_);clear hK57
   have F77:=F76.k [0,1,2,3,6,7,12,17,22];clear F76
   refine F77.ct ?_
   refine wr fun K78 hK78=>?_
   have b79:=(b12.ext hx27)
   refine F77.xw (.agg #[(vi 0),v0,v0,v0]) (fun F=>rb F rfl b79)<|fun _ F81=>?_;clear F77
   refine F81.xs rfl b79 (fun w82 b83 hg84=>?_);have z85:=hg84.size
   refine F81.xv (vi 40)<|fun _ F87=>?_;clear F81
   refine wpList_nil (hK78 _ _ ?_);clear hK78
   refine wp_ret ?_
   refine ret_block ?_
   refine ret_then ?_
   refine retC1 F87 rfl rfl rfl b83 Tryd.underlying28 rfl inf28 ?_
   have he:signE sd many used idx msg=40:=signE3 hc35 (by omega) (by omega)
   have hn:=signF_no he (by decide)
   exact ⟨none,0,0,none,0,0,none,0,0,by rw [he,hn];rfl,by rw [hn];exact Fl.nil _,by rw [hn];exact Fl.nil _,by rw [hn];exact Fl.nil _,(((((Ext.refl w).trans hx5).trans hx13).trans hx27).gn hg84)⟩
  refine F63.xg (vi idx)<|Xg (.pointer (some ⟨g2,1,none⟩))<|fun _ F91=>?_;clear F63
  have b92:=(b22.ext hx27)
  refine F91.xgw (vi many) (fun F=>rl F rfl (b92.rule.1 1))<|Xg (.bool (decide ((many:Int)≤(idx:Int))))<|Xv (.bool (decide ((many:Int)≤(idx:Int))))<|Xa rfl<|fun _ F100=>?_;clear F91
  refine wpList_nil (hK57 _ _ ?_);clear hK57
  have F101:=F100.k [0,1,2,3,6,7,12,17,22];clear F100
  by_cases hc102:(many:Int)≤(idx:Int)
  ·skip
   refine F101.ct ?_
   refine wr fun K103 hK103=>?_
   have b104:=(b12.ext hx27)
   refine F101.xw (.agg #[(vi 0),v0,v0,v0]) (fun F=>rb F rfl b104)<|fun _ F106=>?_;clear F101
   refine F106.xs rfl b104 (fun w107 b108 hg109=>?_);have z110:=hg109.size
   refine F106.xv (vi 40)<|fun _ F112=>?_;clear F106
   refine wpList_nil (hK103 _ _ ?_);clear hK103
   refine wp_ret ?_
   refine ret_block ?_
   refine ret_then ?_
   refine retC1 F112 rfl rfl rfl b108 Tryd.underlying28 rfl inf28 ?_
   have he:signE sd many used idx msg=40:=signE3 hc35 (by omega) (by omega)
   have hn:=signF_no he (by decide)
   exact ⟨none,0,0,none,0,0,none,0,0,by rw [he,hn];rfl,by rw [hn];exact Fl.nil _,by rw [hn];exact Fl.nil _,by rw [hn];exact Fl.nil _,(((((Ext.refl w).trans hx5).trans hx13).trans hx27).gn hg109)⟩
  refine F101.cf ?_
  refine wp_skip ?_
  refine hK20 _ _ ?_;clear hK20
  refine wp_seq_k fun K113 hK113=>?_
  have hko114:=kOk_iff.1 hc35
  refine wp_region_lit ?_
  refine F101.xw (.agg #[(vl A sd.length c),(vi many),(vi used)]) (fun F=>rb F rfl b92)<|fun _ F116=>?_;clear F101
  have d117:=(((hc.ext hx5).ext hx13).ext hx27)
  refine wpl_op (i:=1) rfl (o_call F116 rfl rfl rfl rfl (rn_call (args1 (F116.get rfl)) rfl (by kernel_rfl)) (publics_int (v:=(vl A sd.length c)) (m:=sd.length) sd many used _ d117 (hG.ext ((((Ext.refl w).trans hx5).trans hx13).trans hx27)) (by omega) (by omega) (by omega)) ?_)
  rintro _ w122 ⟨A118,c119,rfl,hf120,hx123⟩
  have z121:=(Fl.cel hf120).2.1
  refine ⟨_,rfl,?_⟩;intro a124 F125;clear F116;have z126:=hx123.size
  have hf127:Fl (Clip (fun b=>w26.heap.size≤b) w122) w122 32 (vl A118 ((many:Int).toNat) c119) ((many:Int).toNat) (digVals (pubsL sd ((many:Int).toNat))):=hf120.clip
  refine F125.xa rfl<|fun _ F129=>?_;clear F125
  refine wpList_nil (hK113 _ _ ?_);clear hK113
  refine wr fun K130 hK130=>?_
  refine F129.xm rfl<|Xv (vp g10)<|fun _ F134=>?_;clear F129
  have b138:=((b12.ext hx27).ext hx123)
  refine wpl_op (i:=2) rfl (o_store1 (new:=[(vi idx),v0,v0,v0]) F134 rfl rfl rfl rfl (F134.get rfl) (F134.get rfl) b138 inf3 (by simp) rfl rfl ?_)
  intro w135 b136 hg137;have z139:=hg137.size
  refine wpList_nil (hK130 _ _ ?_);clear hK130
  have F140:=F134.k [0,1,2,3,6,7,12,17,22,8];clear F134
  refine wr fun K141 hK141=>?_
  refine F140.xm rfl<|Xm rfl<|fun _ F145=>?_;clear F140
  have d146:=(hf127.pres ((Pres.refl w122).gc hg137))
  refine wpl_op (i:=2) rfl (o_call F145 rfl rfl rfl rfl (rn_call (args2 (F145.get rfl) (F145.get rfl)) rfl (by kernel_rfl)) (path_at (pubsL sd ((many:Int).toNat)) idx _ (v:=(vl A118 ((many:Int).toNat) c119)) (n:=(many:Int).toNat) (pubsL_32 _ _) d146 (hG.ext ((((((Ext.refl w).trans hx5).trans hx13).trans hx27).trans hx123).gn hg137)) (by omega)) ?_)
  rintro _ w154 ⟨A147,n148,c149,rfl,hf150,h32151,hx155⟩
  have z152:=(Fl.cel hf150).2.1
  have z153:=Fl.dlen hf150 h32151
  refine ⟨_,rfl,?_⟩;intro a156 F157;clear F145;have z158:=hx155.size
  have hf159:Fl (Clip (fun b=>w135.heap.size≤b) w154) w154 32 (vl A147 n148 c149) n148 (digVals ((pathF (pubsL sd ((many:Int).toNat)) idx).1)):=hf150.clip
  refine F157.xm rfl<|Xv (vl A147 n148 c149)<|Xv (vi ((pathF (pubsL sd ((many:Int).toNat)) idx).2))<|Xv (.pointer (some ⟨g10,3,none⟩))<|fun _ F167=>?_;clear F157
  have b171:=(b136.ext hx155)
  refine wpl_op (i:=7) rfl (o_store1 (new:=[(vi idx),v0,v0,(vl A147 n148 c149)]) F167 rfl rfl rfl rfl (F167.get rfl) (F167.get rfl) b171 inf26 (by simp) rfl rfl ?_)
  intro w168 b169 hg170;have z172:=hg170.size
  refine wpList_nil (hK141 _ _ ?_);clear hK141
  have F173:=F167.k [0,1,2,3,6,7,12,17,22,8];clear F167
  refine wr fun K174 hK174=>?_
  refine F173.xv (vp g2)<|fun _ F176=>?_;clear F173
  have b177:=((((b92.ext hx123).gn hg137).ext hx155).gn hg170)
  refine F176.xw (vl A sd.length c) (fun F=>rl F rfl (b177.rule.1 0))<|Xm rfl<|Xw (.agg #[(vl A sd.length c),(vi idx)]) (fun F=>rn_build (parts2 (F.get rfl) (F.get rfl)) (by kernel_rfl))<|fun _ F183=>?_;clear F176
  refine F183.xz [v0,(vi 0)] 112 fun g184 w185 _ F191 z188 z189 b186 hx187=>?_;clear F183
  refine F191.xs rfl b186 (fun w192 b193 hg194=>?_);have z195:=hg194.size
  refine wpList_nil (hK174 _ _ ?_);clear hK174
  have F196:=F191.k [0,1,2,3,6,7,12,17,22,8,9];clear F191
  refine wp_seq_k fun K197 hK197=>?_
  refine wr fun K198 hK198=>?_
  refine F196.xm rfl<|fun _ F200=>?_;clear F196
  have d201:=(hf127.pres ((((((Pres.refl w122).gc hg137).ext hx155).gc hg170).ext hx187).gc hg194))
  have hf202:=d201
  refine F200.xc (tree_at (pubsL sd ((many:Int).toNat)) _ (n:=(many:Int).toNat) (v:=(vl A118 ((many:Int).toNat) c119)) (pubsL_32 _ _) hf202 (hG.ext ((((((((((Ext.refl w).trans hx5).trans hx13).trans hx27).trans hx123).gn hg137).trans hx155).gn hg170).trans hx187).gn hg194))) ?_
  rintro _ w203 ⟨rfl,hx204⟩
  refine ⟨_,rfl,?_⟩;intro a205 F206;clear F200;have z207:=hx204.size
  refine F206.xm rfl<|Xm rfl<|fun _ F211=>?_;clear F206
  have d212:=(hb.pres (((((((((((Pres.refl w).ext hx5).ext hx13).ext hx27).ext hx123).gc hg137).ext hx155).gc hg170).ext hx187).gc hg194).ext hx204))
  have hi213:(((idx:Int).toNat:Nat):Int)=idx:=by omega
  refine wpl_op (i:=4) rfl (o_call F211 rfl rfl rfl rfl (rn_call (args3 (F211.get rfl) (F211.get rfl) (F211.get rfl)) rfl (by kernel_rfl)) (signed_int (v:=(vl B msg.length cb)) (m:=msg.length) (treeD (pubsL sd ((many:Int).toNat))) idx msg _ (treeD_len _) d212 (hG.ext (((((((((((Ext.refl w).trans hx5).trans hx13).trans hx27).trans hx123).gn hg137).trans hx155).gn hg170).trans hx187).gn hg194).trans hx204)) (by omega) (by omega) (by omega)) ?_)
  rintro _ w214 ⟨rfl,hx215⟩
  refine ⟨_,rfl,?_⟩;intro a216 F217;clear F211;have z218:=hx215.size
  refine F217.xv (vi 0)<|fun _ F220=>?_;clear F217
  refine wpList_nil (hK198 _ _ ?_);clear hK198
  have F221:=F220.k [0,1,2,3,6,7,12,17,22,8,9,51,52];clear F220
  refine wp_block ?_
  have d222:=(hf127.pres ((((((((Pres.refl w122).gc hg137).ext hx155).gc hg170).ext hx187).gc hg194).ext hx204).ext hx215))
  have d223:=(hf159.pres ((((((Pres.refl w154).gc hg170).ext hx187).gc hg194).ext hx204).ext hx215))
  have b224:=((((b177.ext hx187).gn hg194).ext hx204).ext hx215)
  have b225:=((((b169.ext hx187).gn hg194).ext hx204).ext hx215)
  have b226:=((b193.ext hx204).ext hx215)
  refine wp_loop (fun a' W=>∃ (k:Nat) (Ao:Option Addr) (no:Nat) (co:Nat) (lo:List (List UInt8)) (Ac:Option Addr) (nc:Nat) (cc:Nat) (lc:List (List UInt8)),Sl 77 [(0,(.agg #[(vl A sd.length c),(vi many),(vi used)])),(1,(vi idx)),(2,(vl B msg.length cb)),(3,(vp g2)),(6,(vp g10)),(7,(vi 0)),(12,(.bool (!(kOk sd many used)))),(17,(.bool (decide ((65536:Int)<((msg.length:Nat):Int))))),(22,(.bool (decide ((many:Int)≤(idx:Int))))),(8,(vl A118 ((many:Int).toNat) c119)),(9,(vp g184)),(51,(.agg (boolVals (bitsL (treeD (pubsL sd ((many:Int).toNat))) ((idx:Int).toNat) msg)).toArray)),(52,(vi (k:Nat)))] a'∧(k≤64∧no=k∧nc=k)∧lo=opTo sd (idx:Int).toNat (bitsL (treeD (pubsL sd ((many:Int).toNat))) (idx:Int).toNat msg) k∧lc=clTo sd (idx:Int).toNat (bitsL (treeD (pubsL sd ((many:Int).toNat))) (idx:Int).toNat msg) k∧Ext w W∧Blk W g2 56 [(vl A sd.length c),(vi many),(vi used)]∧Blk W g10 28 [(vi idx),(vl Ao no co),(vl Ac nc cc),(vl A147 n148 c149)]∧Blk W g184 112 [(vl A sd.length c),(vi idx)]∧W.ownsRow w214.heap.size 24 32 (vl Ao no co) no (digVals lo)∧W.ownsRow w214.heap.size 24 32 (vl Ac nc cc) nc (digVals lc)∧Fl (Clip (fun b=>w26.heap.size≤b) w122) W 32 (vl A118 ((many:Int).toNat) c119) ((many:Int).toNat) (digVals (pubsL sd ((many:Int).toNat)))∧Fl (Clip (fun b=>w135.heap.size≤b) w154) W 32 (vl A147 n148 c149) n148 (digVals ((pathF (pubsL sd ((many:Int).toNat)) idx).1))∧Apart (vl Ao no co) (vl Ac nc cc)∧w214.heap.size≤W.heap.size∧w214.heap.size≤W.heap.size∧w214.heap.size≤W.heap.size) (fun a' _=>64 - (intOf (a'.eval (.tmp 52))).toNat) ⟨0,none,0,0,[],none,0,0,[],F221.j,⟨by omega,by omega,by omega⟩,rfl,rfl,((((((((((((Ext.refl w).trans hx5).trans hx13).trans hx27).trans hx123).gn hg137).trans hx155).gn hg170).trans hx187).gn hg194).trans hx204).trans hx215),b224,b225,b226,(own_nil w214 w214.heap.size 24 32),(own_nil w214 w214.heap.size 24 32),d222,d223,(Apart.symm (Apart.nil v0 0 0)),(by omega),(by omega),(Nat.le_refl _)⟩ ?_
  clear F221
  rintro a227 w228 ⟨k,Ao,no,co,lo,Ac,nc,cc,lc,F229,hp231,hp232,hp233,hx230,b234,b235,b236,r237,r238,hf239,hf240,hf241,hf242,hf243,hf244⟩
  have hL245:=F229
  have z246:=hx230.size
  have z247:=b234.lt
  have z248:=b235.lt
  have z249:=b236.lt
  have z250:=own_form0 r237
  have z251:=own_form0 r238
  have hlo32:All32 lo:=by rw [hp232];exact opTo_32 _ _ _ _
  have hlc32:All32 lc:=by rw [hp233];exact clTo_32 _ _ _ _
  refine wr fun K252 hK252=>?_
  refine F229.xv (.bool (decide (((k:Nat):Int)<(64:Int))))<|fun _ F254=>?_;clear F229
  refine wpList_nil (hK252 _ _ ?_);clear hK252
  refine wp_seq_k fun K255 hK255=>?_
  by_cases hc256:((k:Nat):Int)<(64:Int)
  ·skip
   refine F254.ct ?_
   refine wp_skip ?_
   refine hK255 _ _ ?_;clear hK255
   refine wp_seq_k fun K257 hK257=>?_
   refine wp_block ?_
   refine wr fun K258 hK258=>?_
   refine F254.xm rfl<|Xw (.bool ((bitsL (treeD (pubsL sd ((many:Int).toNat))) ((idx:Int).toNat) msg).getD k false)) (fun F=>rn_indexA1 Tryd.underlying114 Tryd.underlying4 rfl inf4 (F.get rfl) (F.get rfl) (by omega:(0:Int)≤(k:Nat)) (by omega:((k:Nat):Int)<((64:Nat):Int)) (by rw [Int.toNat_natCast,List.getElem?_toArray];exact boolVals_at (l:=bitsL (treeD (pubsL sd ((many:Int).toNat))) ((idx:Int).toNat) msg) (i:=k) (by have:=(bitsL_len (treeD (pubsL sd ((many:Int).toNat))) ((idx:Int).toNat) msg);omega)))<|Xa rfl<|Xa rfl<|fun _ F266=>?_;clear F254
   refine wpList_nil (hK258 _ _ ?_);clear hK258
   refine wp_seq_k fun K267 hK267=>?_
   have hx269:∃ W,w228.drew=W∧Ext w228 W:=⟨_,rfl,(Ext.refl _).drew⟩
   obtain ⟨w268,e270,hx269⟩:=hx269
   have z271:=hx269.size
   refine any_start (fun W=>Ext w268 W∧Blk W g10 28 [(vi idx),(vl Ao no co),(vl Ac nc cc),(vl A147 n148 c149)]∧Blk W g184 112 [(vl A sd.length c),(vi idx)]) (fun i=>i==7||i==9) 10 (.replicate 10 false) rfl rfl rfl ?_
   rw [e270];clear e270
   refine F266.yv 0 (.pointer (some ⟨g10,1,none⟩)) rfl<|fun _ F273=>?_;clear F266
   have b275:=(b235.ext hx269)
   have b276:=(b236.ext hx269)
   have hS274:Ext w268 w268∧Blk w268 g10 28 [(vi idx),(vl Ao no co),(vl Ac nc cc),(vl A147 n148 c149)]∧Blk w268 g184 112 [(vl A sd.length c),(vi idx)]:=⟨(Ext.refl w268),b275,b276⟩
   refine F273.ys 1 (vl Ao no co) rfl hS274 (fun F W hW=>rl F rfl (hW.2.1.rule.1 1))<|fun _ F278=>?_;clear F273
   refine anyt_val (i:=2) (v:=(.agg #[(vl A sd.length c),(vi idx)])) [5,6,7,8,9] F278 (fun j hj=>by simp at hj;first | (subst hj;decide) | (rcases hj with rfl | rfl <;> decide)) (by decide +kernel) (by decide +kernel) rfl rfl rfl rfl (fun _ _ _ _ h=>h) rfl hS274 (fun W hW=>(rb F278 rfl hW.2.2)) ?_
   intro a279 F280;clear F278
   refine F280.ym 3 rfl<|Ym 4 rfl<|fun _ F284=>?_;clear F280
   refine ao 5 rfl ?_
   have d285:=((hc.ext hx230).ext hx269)
   refine o_call F284 rfl rfl rfl rfl (rn_call (args3 (F284.get rfl) (F284.get rfl) (F284.get rfl)) rfl (by kernel_rfl)) (secret_int (v:=(vl A sd.length c)) (m:=sd.length) sd idx k ((bitsL (treeD (pubsL sd ((many:Int).toNat))) ((idx:Int).toNat) msg).getD k false) _ d285 (hG.ext (((Ext.refl w).trans hx230).trans hx269)) (by omega) (by omega) (by omega) (by omega)) ?_
   rintro _ w286 ⟨rfl,hx287⟩
   refine ⟨_,rfl,?_⟩;intro a288 F289;clear F284;have z290:=hx287.size
   have b291:=(b275.ext hx287)
   have b292:=(b276.ext hx287)
   refine ⟨fun _ _=>⟨((Ext.refl w268).trans hx287),b291,b292⟩,?_⟩
   have r293:=(own_ext (own_ext r237 hx269) hx287)
   have hf294:=r293
   have r295:=(own_ext (own_ext r238 hx269) hx287)
   have hf296:=r295
   refine ao 6 rfl (F289.on (fun g=>(vl (some ⟨g,0,none⟩) 1 1)) (byteVals ((secretD sd (idx:Int).toNat k ((bitsL (treeD (pubsL sd ((many:Int).toNat))) ((idx:Int).toNat) msg).getD k false)))) 24 rfl (fun F=>rn_buildSlice (parts1 (F.get rfl)) (build_wholeE (vs:=[(.agg (byteVals (secretD sd (idx:Int).toNat k ((bitsL (treeD (pubsL sd ((many:Int).toNat))) ((idx:Int).toNat) msg).getD k false))).toArray)]) El26 rfl rfl (fun v hv=>by rw [List.mem_singleton.1 hv];exact (byteVals_len (secretD_len _ _ _ _))) (by decide) (by decide) (by simp [Value.cells,byteVals]))) fun g297 w298 _ F304 z301 z302 b299 hx300=>?_);clear F289
   have nb305:=own_new (g:=g297) hf294 (by omega)
   have nb306:=own_new (g:=g297) hf296 (by omega)
   have b307:=(b291.ext hx300)
   have b308:=(b292.ext hx300)
   refine ⟨fun _ _=>⟨(((Ext.refl w268).trans hx287).trans hx300),b307,b308⟩,?_⟩
   refine ao 7 rfl ?_
   have r309:=(own_ext r293 hx300)
   have hf318:=r309
   have nb319:some g297≠(Value.slice Ao no co).ownBlock:=nb305
   have z320:=b299.lt
   have r321:=(own_ext r295 hx300)
   have hf322:=r321
   have ap323:Apart (vl Ac nc cc) (vl Ao no co):=(Apart.symm hf241)
   refine o_appB (zs:=digVals (lo++([secretD sd (idx:Int).toNat k ((bitsL (treeD (pubsL sd ((many:Int).toNat))) ((idx:Int).toNat) msg).getD k false)]))) El26 F304 rfl rfl rfl rfl rfl (F304.get rfl) (F304.get rfl) hf318 (Fl.cel (Fl.digblk (S:=fun b=>b=g297) b299 (All32.sing (secretD_len _ _ _ _)) (by simp [digVals,byteVals]))).2.2 (by omega) (by omega) (by omega) (digVals_app _ _) ?_
   intro A310 c311 w312 a324 F325 r313 hg314 z315 z316 hnb317;clear F304;have z326:=hg314.size
   have nb327:=hnb317 g297 (by omega) nb319
   have ap328:=Apart.app hf322 ap323 hnb317
   refine ⟨fun h=>absurd h (by decide),?_⟩
   refine F325.yv 8 (.pointer (some ⟨g10,1,none⟩)) rfl<|fun _ F330=>?_;clear F325
   refine ao 9 rfl ?_
   have b334:=(grown_blk hf318 hg314 b307 (by decide))
   refine o_store1 (new:=[(vi idx),(vl A310 (no+1) c311),(vl Ac nc cc),(vl A147 n148 c149)]) F330 rfl rfl rfl rfl (F330.get rfl) (F330.get rfl) b334 inf26 (by simp) rfl rfl ?_
   intro w331 b332 hg333;have z335:=hg333.size
   refine ⟨fun h=>absurd h (by decide),?_⟩
   refine nn (hK267 _ _ ?_);clear hK267
   have F336:=F330.k [0,1,2,3,6,7,12,17,22,8,9,51,52,53,10,11];clear F330
   have hx338:∃ W,w331.drew=W∧Ext w331 W:=⟨_,rfl,(Ext.refl _).drew⟩
   obtain ⟨w337,e339,hx338⟩:=hx338
   have z340:=hx338.size
   refine any_start (fun W=>Ext w337 W∧Blk W g10 28 [(vi idx),(vl A310 (no+1) c311),(vl Ac nc cc),(vl A147 n148 c149)]∧Blk W g184 112 [(vl A sd.length c),(vi idx)]) (fun i=>i==8||i==10) 11 (.replicate 11 false) rfl rfl rfl ?_
   rw [e339];clear e339
   refine F336.yv 0 (.pointer (some ⟨g10,2,none⟩)) rfl<|fun _ F342=>?_;clear F336
   have b344:=(b332.ext hx338)
   have b345:=(((grown_blk hf318 hg314 b308 (by decide)).gn hg333).ext hx338)
   have hS343:Ext w337 w337∧Blk w337 g10 28 [(vi idx),(vl A310 (no+1) c311),(vl Ac nc cc),(vl A147 n148 c149)]∧Blk w337 g184 112 [(vl A sd.length c),(vi idx)]:=⟨(Ext.refl w337),b344,b345⟩
   refine F342.ys 1 (vl Ac nc cc) rfl hS343 (fun F W hW=>rl F rfl (hW.2.1.rule.1 2))<|fun _ F347=>?_;clear F342
   refine anyt_val (i:=2) (v:=(.agg #[(vl A sd.length c),(vi idx)])) [6,7,8,9,10] F347 (fun j hj=>by simp at hj;first | (subst hj;decide) | (rcases hj with rfl | rfl <;> decide)) (by decide +kernel) (by decide +kernel) rfl rfl rfl rfl (fun _ _ _ _ h=>h) rfl hS343 (fun W hW=>(rb F347 rfl hW.2.2)) ?_
   intro a348 F349;clear F347
   refine F349.ym 3 rfl<|Ym 4 rfl<|Yw 5 (.bool (!((bitsL (treeD (pubsL sd ((many:Int).toNat))) ((idx:Int).toNat) msg).getD k false))) rfl (fun F W=>rn_not' (F.get rfl) rfl)<|fun _ F355=>?_;clear F349
   refine ao 6 rfl ?_
   have d356:=(hc.pres (((Pres.row (((((Pres.refl w).ext hx230).ext hx269).ext hx287).ext hx300) hg314 hf318 (fun b hb h=>by simp only [Clip] at h;omega)).gc hg333).ext hx338))
   refine o_call F355 rfl rfl rfl rfl (rn_call (args3 (F355.get rfl) (F355.get rfl) (F355.get rfl)) rfl (by kernel_rfl)) (hash_int (v:=(vl A sd.length c)) (m:=sd.length) sd idx k (!((bitsL (treeD (pubsL sd ((many:Int).toNat))) ((idx:Int).toNat) msg).getD k false)) _ d356 (hG.ext (((ext_row (((((Ext.refl w).trans hx230).trans hx269).trans hx287).trans hx300) hg314 hf318 (by omega)).gn hg333).trans hx338)) (by omega) (by omega) (by omega) (by omega)) ?_
   rintro _ w357 ⟨rfl,hx358⟩
   refine ⟨_,rfl,?_⟩;intro a359 F360;clear F355;have z361:=hx358.size
   have b362:=(b344.ext hx358)
   have b363:=(b345.ext hx358)
   refine ⟨fun _ _=>⟨((Ext.refl w337).trans hx358),b362,b363⟩,?_⟩
   have r364:=(own_ext (own_ext (own_grownT r313 b334 hg333 (by decide)) hx338) hx358)
   have hf365:=r364
   have r366:=(own_ext (own_ext (own_grownT (own_grownR r321 hg314 ap323) b334 hg333 (by decide)) hx338) hx358)
   have hf367:=r366
   refine ao 7 rfl (F360.on (fun g=>(vl (some ⟨g,0,none⟩) 1 1)) (byteVals ((hashD sd (idx:Int).toNat k (!((bitsL (treeD (pubsL sd ((many:Int).toNat))) ((idx:Int).toNat) msg).getD k false))))) 24 rfl (fun F=>rn_buildSlice (parts1 (F.get rfl)) (build_wholeE (vs:=[(.agg (byteVals (hashD sd (idx:Int).toNat k (!((bitsL (treeD (pubsL sd ((many:Int).toNat))) ((idx:Int).toNat) msg).getD k false)))).toArray)]) El26 rfl rfl (fun v hv=>by rw [List.mem_singleton.1 hv];exact (byteVals_len (hashD_len _ _ _ _))) (by decide) (by decide) (by simp [Value.cells,byteVals]))) fun g368 w369 _ F375 z372 z373 b370 hx371=>?_);clear F360
   have nb376:=own_new (g:=g368) hf365 (by omega)
   have nb377:=own_new (g:=g368) hf367 (by omega)
   have b378:=(b362.ext hx371)
   have b379:=(b363.ext hx371)
   refine ⟨fun _ _=>⟨(((Ext.refl w337).trans hx358).trans hx371),b378,b379⟩,?_⟩
   refine ao 8 rfl ?_
   have r380:=(own_ext r366 hx371)
   have hf389:=r380
   have b390:=(((((b299.grown hg314 nb319).gn hg333).ext hx338).ext hx358).ext hx371)
   have nb391:some g297≠(Value.slice Ac nc cc).ownBlock:=nb306
   have z392:=b390.lt
   have nb393:some g368≠(Value.slice Ac nc cc).ownBlock:=nb377
   have z394:=b370.lt
   have r395:=(own_ext r364 hx371)
   have hf396:=r395
   have ap397:Apart (vl A310 (no+1) c311) (vl Ac nc cc):=(Apart.symm ap328)
   refine o_appB (zs:=digVals (lc++([hashD sd (idx:Int).toNat k (!((bitsL (treeD (pubsL sd ((many:Int).toNat))) ((idx:Int).toNat) msg).getD k false))]))) El26 F375 rfl rfl rfl rfl rfl (F375.get rfl) (F375.get rfl) hf389 (Fl.cel (Fl.digblk (S:=fun b=>b=g368) b370 (All32.sing (hashD_len _ _ _ _)) (by simp [digVals,byteVals]))).2.2 (by omega) (by omega) (by omega) (digVals_app _ _) ?_
   intro A381 c382 w383 a398 F399 r384 hg385 z386 z387 hnb388;clear F375;have z400:=hg385.size
   have nb401:=hnb388 g297 (by omega) nb391
   have nb402:=hnb388 g368 (by omega) nb393
   have ap403:=Apart.app hf396 ap397 hnb388
   refine ⟨fun h=>absurd h (by decide),?_⟩
   refine F399.yv 9 (.pointer (some ⟨g10,2,none⟩)) rfl<|fun _ F405=>?_;clear F399
   refine ao 10 rfl ?_
   have b409:=(grown_blk hf389 hg385 b378 (by decide))
   refine o_store1 (new:=[(vi idx),(vl A310 (no+1) c311),(vl A381 (nc+1) c382),(vl A147 n148 c149)]) F405 rfl rfl rfl rfl (F405.get rfl) (F405.get rfl) b409 inf26 (by simp) rfl rfl ?_
   intro w406 b407 hg408;have z410:=hg408.size
   refine ⟨fun h=>absurd h (by decide),?_⟩
   refine nn (hK257 _ _ ?_);clear hK257
   have F411:=F405.k [0,1,2,3,6,7,12,17,22,8,9,51,52,53,10,11];clear F405
   refine wp_region_lit ?_
   refine F411.xv (vi (k+1:Nat))<|Xm rfl<|fun _ F415=>?_;clear F411
   refine wpList_nil ?_
   have d416:=(hf239.pres ((Pres.row (((((Pres.row ((((Pres.refl w228).ext hx269).ext hx287).ext hx300) hg314 hf318 (fun b hb h=>by simp only [Clip] at h;omega)).gc hg333).ext hx338).ext hx358).ext hx371) hg385 hf389 (fun b hb h=>by simp only [Clip] at h;omega)).gc hg408))
   have d417:=(hf240.pres ((Pres.row (((((Pres.row ((((Pres.refl w228).ext hx269).ext hx287).ext hx300) hg314 hf318 (fun b hb h=>by simp only [Clip] at h;omega)).gc hg333).ext hx338).ext hx358).ext hx371) hg385 hf389 (fun b hb h=>by simp only [Clip] at h;omega)).gc hg408))
   have b418:=((grown_blk hf389 hg385 (((((grown_blk hf318 hg314 (((b234.ext hx269).ext hx287).ext hx300) (by decide)).gn hg333).ext hx338).ext hx358).ext hx371) (by decide)).gn hg408)
   have b419:=((grown_blk hf389 hg385 b379 (by decide)).gn hg408)
   have r420:=(own_grownT (own_grownR r395 hg385 ap397) b409 hg408 (by decide))
   have r421:=(own_grownT r384 b409 hg408 (by decide))
   refine ⟨⟨(k+1),A310,no+1,c311,lo++([secretD sd (idx:Int).toNat k ((bitsL (treeD (pubsL sd ((many:Int).toNat))) ((idx:Int).toNat) msg).getD k false)]),A381,nc+1,c382,lc++([hashD sd (idx:Int).toNat k (!((bitsL (treeD (pubsL sd ((many:Int).toNat))) ((idx:Int).toNat) msg).getD k false))]),F415.j,⟨by omega,by omega,by omega⟩,(opTo_step' hp232 rfl),(clTo_step' hp233 rfl rfl),((ext_row (((((ext_row (((((Ext.refl w).trans hx230).trans hx269).trans hx287).trans hx300) hg314 hf318 (by omega)).gn hg333).trans hx338).trans hx358).trans hx371) hg385 hf389 (by omega)).gn hg408),b418,b407,b419,r420,r421,d416,d417,ap403,(by omega),(by omega),(by omega)⟩,?_⟩
   rw [F415.get (t:=52) rfl,hL245.get (t:=52) rfl];simp [intOf] <;> omega
  refine F254.cf ?_
  refine wp_exit ?_
  refine exit_then ?_
  refine exit_then ?_
  refine exit_here ?_
  refine hK197 _ _ ?_;clear hK197
  refine wr fun K422 hK422=>?_
  refine F254.xw (.agg #[(vi idx),(vl Ao no co),(vl Ac nc cc),(vl A147 n148 c149)]) (fun F=>rb F rfl b235)<|fun _ F424=>?_;clear F254
  refine F424.xs rfl b235 (fun w425 b426 hg427=>?_);have z428:=hg427.size
  refine F424.xv (vi 0)<|fun _ F430=>?_;clear F424
  refine wpList_nil (hK422 _ _ ?_);clear hK422
  refine wp_ret ?_
  refine retC1 F430 rfl rfl rfl b426 Tryd.underlying28 rfl inf28 ?_
  have hk:k=64:=by omega
  have ho:=hp232
  have hcl:=hp233
  rw [hk] at ho hcl
  have he:=signE4 (idx:=idx) (msg:=msg) hc35 (by omega) (by omega)
  have hn:=signF_yes (idx:=idx) (msg:=msg) hc35 (by omega) (by omega)
  rw [← ho,← hcl] at hn
  have r431:=(own_grownT r237 b235 hg427 (by decide))
  have r432:=(own_grownT r238 b235 hg427 (by decide))
  have d433:=(hf240.pres ((Pres.refl w228).gc hg427))
  exact ⟨_,_,_,_,_,_,_,_,_,by rw [he,hn],by rw [hn];exact Fl.sub (Fl.own (S:=fun b=>w214.heap.size≤b) r431 (fun b hb=>hb) (digVals_one _)) (fun b hb=>by first | omega | (simp only [Clip] at hb;omega)),by rw [hn];exact Fl.sub (Fl.own (S:=fun b=>w214.heap.size≤b) r432 (fun b hb=>hb) (digVals_one _)) (fun b hb=>by first | omega | (simp only [Clip] at hb;omega)),by rw [hn];exact Fl.sub d433 (fun b hb=>by first | omega | (simp only [Clip] at hb;omega)),(((Ext.refl w).trans hx230).gn hg427)⟩
 refine F34.ct ?_
 refine wr fun K434 hK434=>?_
 have b435:=(b12.ext hx27)
 refine F34.xw (.agg #[(vi 0),v0,v0,v0]) (fun F=>rb F rfl b435)<|fun _ F437=>?_;clear F34
 refine F437.xs rfl b435 (fun w438 b439 hg440=>?_);have z441:=hg440.size
 refine F437.xv (vi 40)<|fun _ F443=>?_;clear F437
 refine wpList_nil (hK434 _ _ ?_);clear hK434
 have F444:=F443.k [0,1,2,3,6,7,12];clear F443
 refine wp_ret ?_
 refine ret_block ?_
 refine ret_then ?_
 refine retC1 F444 rfl rfl rfl b439 Tryd.underlying28 rfl inf28 ?_
 have he:signE sd many used idx msg=40:=signE1 hc35
 have hn:=signF_no he (by decide)
 exact ⟨none,0,0,none,0,0,none,0,0,by rw [he,hn];rfl,by rw [hn];exact Fl.nil _,by rw [hn];exact Fl.nil _,by rw [hn];exact Fl.nil _,(((((Ext.refl w).trans hx5).trans hx13).trans hx27).gn hg440)⟩

theorem sign_at {S2:Nat→Prop} {v u:Value} {m n:Nat} (sd:List UInt8) (many used idx:Int) (msg:List UInt8) (w:World) (hf:Fl S w 1 v m (byteVals sd)) (hm:Fl S2 w 1 u n (byteVals msg)) (hG:Glob w) :
  Calls Tryd.prog 39 #[.agg #[v,.int .i64 many,.int .i64 used],.int .i64 idx,u] w (fun e w'=>∃ A1 n1 c1 A2 n2 c2 A3 n3 c3,e=.returned (.tuple #[.agg #[.int .i64 (signF sd many used idx msg).index,.slice A1 n1 c1,.slice A2 n2 c2,.slice A3 n3 c3],.int .i64 (signE sd many used idx msg)])∧Fl (fun b=>w.heap.size≤b) w' 32 (vl A1 n1 c1) n1 (digVals (signF sd many used idx msg).op)∧Fl (fun b=>w.heap.size≤b) w' 32 (vl A2 n2 c2) n2 (digVals (signF sd many used idx msg).cl)∧Fl (fun b=>w.heap.size≤b) w' 32 (vl A3 n3 c3) n3 (digVals (signF sd many used idx msg).path)∧Ext w w'):=by
 have h1:=hf.blen
 have h2:=hm.blen
 subst h1
 subst h2
 obtain ⟨A,c,rfl,_⟩:=hf.form
 obtain ⟨B,cb,rfl,_⟩:=hm.form
 exact sign_any (S:=fun _=>True) A c sd many used idx B cb msg w (hf.sub fun _ _=>trivial) (hm.sub fun _ _=>trivial) hG

end Go.Proofs.YtihgmaoghbnnaaaDoor

namespace Go.Proofs.YtihgmaoghbnnaaaDoor
open Go.RowKit

variable {S S':Nat→Prop}

theorem shown_len {bs:List Bool} {s:Sg} {j:Nat} {b:Bool} (ho:All32 s.op) (hc:All32 s.cl) (h1:j<s.op.length) (h2:j<s.cl.length):(shown bs s j b).length=32:=by
 unfold shown
 split
 ·exact openD_len _
 ·exact dig_len hc j h2
set_option maxRecDepth 100000 in
set_option maxHeartbeats 1000000 in
theorem shown_any (j:Nat) (b:Bool) (gb gs:Nat) (bs:List Bool) (idx:Int) (O:Option Addr) (oc:Nat) (op:List (List UInt8)) (C:Option Addr) (ec:Nat) (cl pa:List (List UInt8)) (pv:Value) (w:World) (hb:Blk w gb 114 (boolVals bs)) (hs:Blk w gs 28 [.int .i64 idx,.slice O op.length oc,.slice C cl.length ec,pv]) (ho:Fl S w 32 (vl O op.length oc) op.length (digVals op)) (he:Fl S w 32 (vl C cl.length ec) cl.length (digVals cl)) (h32o:All32 op) (h32c:All32 cl) (hG:Glob w) (hbs:bs.length=64) (hj:j<64) (h1:op.length=64) (h2:cl.length=64) :
  Calls Tryd.prog 64 #[.int .i64 (j:Nat),.bool b,.pointer (some ⟨gb,0,none⟩),.pointer (some ⟨gs,0,none⟩)] w (fun e w'=>e=.returned (.agg (byteVals (shown bs ⟨idx,op,cl,pa⟩ j b)).toArray)∧Ext w w'):=by
 have hco:Fl (Clip S w) w 32 (vl O op.length oc) op.length (digVals op):=ho.clip
 have hcoc:=(Fl.cel hco).2.1
 have hce:Fl (Clip S w) w 32 (vl C cl.length ec) cl.length (digVals cl):=he.clip
 have hcec:=(Fl.cel hce).2.1
 have hgb:=hb.lt
 have hgs:=hs.lt
 refine calls_enter Tryd.func64 rfl rfl rfl fun _ hF=>?_
 refine wr fun K1 hK1=>?_
 refine hF.xz (byteVals (List.replicate 32 0)) 24 fun g2 w3 _ F9 z6 z7 b4 hx5=>?_;clear hF
 refine wpList_nil (hK1 _ _ ?_);clear hK1
 refine wp_seq_k fun K10 hK10=>?_
 refine wr fun K11 hK11=>?_
 refine F9.xm rfl<|Xw (.pointer (some ⟨gb,0+j,none⟩)) (fun F=>rn_indexArr Tryd.underlying114 inf4 (F.get rfl) (F.get rfl) (by omega:(0:Int)≤(j:Nat)) (by omega:((j:Nat):Int)<((64:Nat):Int)))<|fun _ F15=>?_;clear F9
 have b16:=(hb.ext hx5)
 refine F15.xw (.bool (bs.getD j false)) (fun F=>rl F rfl (blk_boolVals b16 (by omega) (by have:=(show List.length bs=_ from hbs);omega)))<|Xm rfl<|fun _ F20=>?_;clear F15
 rcases Bool.eq_false_or_eq_true (bs.getD j false) with hc21 | hc21
 ·skip
  rcases Bool.eq_false_or_eq_true b with hc22 | hc22
  ·skip
   refine F20.xw (.bool true) (fun F=>rn_eqB Tryd.underlying4 (F.get rfl) (F.get rfl) (show _=true from hc21) (show _=true from hc22) rfl)<|fun _ F24=>?_;clear F20
   refine wpList_nil (hK11 _ _ ?_);clear hK11
   have F25:=F24.k [0,1,2,3,6,11];clear F24
   refine F25.ct ?_
   refine wr fun K26 hK26=>?_
   refine F25.xv (.pointer (some ⟨gs,1,none⟩))<|fun _ F28=>?_;clear F25
   have b29:=(hs.ext hx5)
   refine F28.xw (vl O op.length oc) (fun F=>rl F rfl (b29.rule.1 1))<|Xm rfl<|fun _ F33=>?_;clear F28
   have d37:=(hco.ext hx5)
   obtain ⟨b34,o35,hA36,-⟩:=Fl.at d37 (by omega)
   refine F33.xw (.pointer (some ⟨b34,o35+j*32,none⟩)) (fun F=>rn_indexE Tryd.underlying26 inf24 ((F.get rfl).trans (by rw [hA36])) (F.get rfl) (by omega:(0:Int)≤(j:Nat)) (by omega:((j:Nat):Int)<((op.length:Nat):Int)) (by omega))<|Xw (.agg (byteVals (op.getD j [])).toArray) (fun F=>rn_loadN (cs:=byteVals (op.getD j [])) (F.get rfl) Tryd.underlying24 rfl (sk inf24 (byteVals_len (dig_len h32o j (by omega)))) (Fl.digAt d37 hA36 h32o (by omega)))<|fun _ F41=>?_;clear F33
   refine wpl_op (i:=5) rfl (o_call F41 rfl rfl rfl rfl (rn_call (args1 (F41.get rfl)) rfl (by kernel_rfl)) (open_any (op.getD j []) _ (dig_len h32o j (by omega)) (hG.ext ((Ext.refl w).trans hx5))) ?_)
   rintro _ w42 ⟨rfl,hx43⟩
   refine ⟨_,rfl,?_⟩;intro a44 F45;clear F41;have z46:=hx43.size
   have b50:=(b4.ext hx43)
   refine F45.xs rfl b50 (fun w47 b48 hg49=>?_) (hk:=byteVals_len (openD_len _));have z51:=hg49.size
   refine wpList_nil (hK26 _ _ ?_);clear hK26
   have F52:=F45.k [0,1,2,3,6,11];clear F45
   refine wp_ret (ret_then ?_)
   refine retC F52 rfl rfl b48 Tryd.underlying24 rfl (sk inf24 (byteVals_len (openD_len _))) ?_
   exact ⟨by rw [shown,if_pos (hc21.trans hc22.symm)],((((Ext.refl w).trans hx5).trans hx43).gn hg49)⟩
  refine F20.xw (.bool false) (fun F=>rn_eqB Tryd.underlying4 (F.get rfl) (F.get rfl) (show _=true from hc21) (show _=false from hc22) rfl)<|fun _ F54=>?_;clear F20
  refine wpList_nil (hK11 _ _ ?_);clear hK11
  have F55:=F54.k [0,1,2,3,6,11];clear F54
  refine F55.cf ?_
  refine wp_skip ?_
  refine hK10 _ _ ?_;clear hK10
  refine wr fun K56 hK56=>?_
  refine F55.xv (.pointer (some ⟨gs,2,none⟩))<|fun _ F58=>?_;clear F55
  have b59:=(hs.ext hx5)
  refine F58.xw (vl C cl.length ec) (fun F=>rl F rfl (b59.rule.1 2))<|Xm rfl<|fun _ F63=>?_;clear F58
  have d67:=(hce.ext hx5)
  obtain ⟨b64,o65,hA66,-⟩:=Fl.at d67 (by omega)
  refine F63.xw (.pointer (some ⟨b64,o65+j*32,none⟩)) (fun F=>rn_indexE Tryd.underlying26 inf24 ((F.get rfl).trans (by rw [hA66])) (F.get rfl) (by omega:(0:Int)≤(j:Nat)) (by omega:((j:Nat):Int)<((cl.length:Nat):Int)) (by omega))<|Xw (.agg (byteVals (cl.getD j [])).toArray) (fun F=>rn_loadN (cs:=byteVals (cl.getD j [])) (F.get rfl) Tryd.underlying24 rfl (sk inf24 (byteVals_len (dig_len h32c j (by omega)))) (Fl.digAt d67 hA66 h32c (by omega)))<|fun _ F71=>?_;clear F63
  refine F71.xs rfl b4 (fun w72 b73 hg74=>?_) (hk:=byteVals_len (dig_len h32c j (by omega)));have z75:=hg74.size
  refine wpList_nil (hK56 _ _ ?_);clear hK56
  have F76:=F71.k [0,1,2,3,6,11];clear F71
  refine wp_ret ?_
  refine retC F76 rfl rfl b73 Tryd.underlying24 rfl (sk inf24 (byteVals_len (dig_len h32c j (by omega)))) ?_
  exact ⟨by rw [shown,if_neg (by rw [hc21,hc22];decide)],(((Ext.refl w).trans hx5).gn hg74)⟩
 rcases Bool.eq_false_or_eq_true b with hc77 | hc77
 ·skip
  refine F20.xw (.bool false) (fun F=>rn_eqB Tryd.underlying4 (F.get rfl) (F.get rfl) (show _=false from hc21) (show _=true from hc77) rfl)<|fun _ F79=>?_;clear F20
  refine wpList_nil (hK11 _ _ ?_);clear hK11
  have F80:=F79.k [0,1,2,3,6,11];clear F79
  refine F80.cf ?_
  refine wp_skip ?_
  refine hK10 _ _ ?_;clear hK10
  refine wr fun K81 hK81=>?_
  refine F80.xv (.pointer (some ⟨gs,2,none⟩))<|fun _ F83=>?_;clear F80
  have b84:=(hs.ext hx5)
  refine F83.xw (vl C cl.length ec) (fun F=>rl F rfl (b84.rule.1 2))<|Xm rfl<|fun _ F88=>?_;clear F83
  have d92:=(hce.ext hx5)
  obtain ⟨b89,o90,hA91,-⟩:=Fl.at d92 (by omega)
  refine F88.xw (.pointer (some ⟨b89,o90+j*32,none⟩)) (fun F=>rn_indexE Tryd.underlying26 inf24 ((F.get rfl).trans (by rw [hA91])) (F.get rfl) (by omega:(0:Int)≤(j:Nat)) (by omega:((j:Nat):Int)<((cl.length:Nat):Int)) (by omega))<|Xw (.agg (byteVals (cl.getD j [])).toArray) (fun F=>rn_loadN (cs:=byteVals (cl.getD j [])) (F.get rfl) Tryd.underlying24 rfl (sk inf24 (byteVals_len (dig_len h32c j (by omega)))) (Fl.digAt d92 hA91 h32c (by omega)))<|fun _ F96=>?_;clear F88
  refine F96.xs rfl b4 (fun w97 b98 hg99=>?_) (hk:=byteVals_len (dig_len h32c j (by omega)));have z100:=hg99.size
  refine wpList_nil (hK81 _ _ ?_);clear hK81
  have F101:=F96.k [0,1,2,3,6,11];clear F96
  refine wp_ret ?_
  refine retC F101 rfl rfl b98 Tryd.underlying24 rfl (sk inf24 (byteVals_len (dig_len h32c j (by omega)))) ?_
  exact ⟨by rw [shown,if_neg (by rw [hc21,hc77];decide)],(((Ext.refl w).trans hx5).gn hg99)⟩
 refine F20.xw (.bool true) (fun F=>rn_eqB Tryd.underlying4 (F.get rfl) (F.get rfl) (show _=false from hc21) (show _=false from hc77) rfl)<|fun _ F103=>?_;clear F20
 refine wpList_nil (hK11 _ _ ?_);clear hK11
 have F104:=F103.k [0,1,2,3,6,11];clear F103
 refine F104.ct ?_
 refine wr fun K105 hK105=>?_
 refine F104.xv (.pointer (some ⟨gs,1,none⟩))<|fun _ F107=>?_;clear F104
 have b108:=(hs.ext hx5)
 refine F107.xw (vl O op.length oc) (fun F=>rl F rfl (b108.rule.1 1))<|Xm rfl<|fun _ F112=>?_;clear F107
 have d116:=(hco.ext hx5)
 obtain ⟨b113,o114,hA115,-⟩:=Fl.at d116 (by omega)
 refine F112.xw (.pointer (some ⟨b113,o114+j*32,none⟩)) (fun F=>rn_indexE Tryd.underlying26 inf24 ((F.get rfl).trans (by rw [hA115])) (F.get rfl) (by omega:(0:Int)≤(j:Nat)) (by omega:((j:Nat):Int)<((op.length:Nat):Int)) (by omega))<|Xw (.agg (byteVals (op.getD j [])).toArray) (fun F=>rn_loadN (cs:=byteVals (op.getD j [])) (F.get rfl) Tryd.underlying24 rfl (sk inf24 (byteVals_len (dig_len h32o j (by omega)))) (Fl.digAt d116 hA115 h32o (by omega)))<|fun _ F120=>?_;clear F112
 refine wpl_op (i:=5) rfl (o_call F120 rfl rfl rfl rfl (rn_call (args1 (F120.get rfl)) rfl (by kernel_rfl)) (open_any (op.getD j []) _ (dig_len h32o j (by omega)) (hG.ext ((Ext.refl w).trans hx5))) ?_)
 rintro _ w121 ⟨rfl,hx122⟩
 refine ⟨_,rfl,?_⟩;intro a123 F124;clear F120;have z125:=hx122.size
 have b129:=(b4.ext hx122)
 refine F124.xs rfl b129 (fun w126 b127 hg128=>?_) (hk:=byteVals_len (openD_len _));have z130:=hg128.size
 refine wpList_nil (hK105 _ _ ?_);clear hK105
 have F131:=F124.k [0,1,2,3,6,11];clear F124
 refine wp_ret (ret_then ?_)
 refine retC F131 rfl rfl b127 Tryd.underlying24 rfl (sk inf24 (byteVals_len (openD_len _))) ?_
 exact ⟨by rw [shown,if_pos (hc21.trans hc77.symm)],((((Ext.refl w).trans hx5).trans hx122).gn hg128)⟩

set_option maxRecDepth 100000 in
set_option maxHeartbeats 1000000 in
theorem verify_any (root:List UInt8) (n:Int) (B:Option Addr) (cb:Nat) (msg:List UInt8) (idx:Int) (O:Option Addr) (oc:Nat) (op:List (List UInt8)) (C:Option Addr) (ec:Nat) (cl:List (List UInt8)) (P:Option Addr) (pc:Nat) (pa:List (List UInt8)) (w:World) (hd:root.length=32) (hm:Fl S w 1 (vl B msg.length cb) msg.length (byteVals msg)) (ho:Fl S w 32 (vl O op.length oc) op.length (digVals op)) (he:Fl S w 32 (vl C cl.length ec) cl.length (digVals cl)) (hp:Fl S w 32 (vl P pa.length pc) pa.length (digVals pa)) (h32o:All32 op) (h32c:All32 cl) (h32p:All32 pa) (hG:Glob w) :
  Calls Tryd.prog 41 #[.agg (byteVals root).toArray,.int .i64 n,.slice B msg.length cb,.agg #[.int .i64 idx,.slice O op.length oc,.slice C cl.length ec,.slice P pa.length pc]] w (fun e w'=>e=.returned (.bool (verifyF root n msg ⟨idx,op,cl,pa⟩))∧Ext w w'):=by
 have hb:Fl (Clip S w) w 1 (vl B msg.length cb) msg.length (byteVals msg):=hm.clip
 have hbc:=(Fl.cel hb).2.1
 have hco:Fl (Clip S w) w 32 (vl O op.length oc) op.length (digVals op):=ho.clip
 have hcoc:=(Fl.cel hco).2.1
 have hce:Fl (Clip S w) w 32 (vl C cl.length ec) cl.length (digVals cl):=he.clip
 have hcec:=(Fl.cel hce).2.1
 have hcp:Fl (Clip S w) w 32 (vl P pa.length pc) pa.length (digVals pa):=hp.clip
 have hcpc:=(Fl.cel hcp).2.1
 refine calls_enter Tryd.func41 rfl rfl rfl fun _ hF=>?_
 refine wr fun K1 hK1=>?_
 refine hF.xb rfl fun g2 w3 _ F9 z6 z7 b4 hx5=>?_;clear hF
 refine F9.xb rfl fun g10 w11 _ F17 z14 z15 b12 hx13=>?_;clear F9
 refine F17.xv (.bool false)<|fun _ F19=>?_;clear F17
 refine wpList_nil (hK1 _ _ ?_);clear hK1
 refine wp_seq_k fun K20 hK20=>?_
 refine wr fun K21 hK21=>?_
 refine F19.xm rfl<|Xv (.bool (decide ((n:Int)<(1:Int))))<|Xm rfl<|fun _ F27=>?_;clear F19
 by_cases hc28:(n:Int)<(1:Int)
 ·skip
  refine F27.xu<|Xu<|Xv (.bool true)<|Xm rfl<|Xu<|Xu<|Xu<|Xv (.bool true)<|Xm rfl<|Xu<|Xu<|Xu<|Xu<|Xv (.bool true)<|Xm rfl<|Xu<|Xu<|Xu<|Xu<|Xv (.bool true)<|Xm rfl<|Xu<|Xu<|Xu<|Xu<|Xv (.bool true)<|Xm rfl<|Xu<|Xu<|Xu<|Xv (.bool true)<|fun _ F90=>?_;clear F27
  refine wpList_nil (hK21 _ _ ?_);clear hK21
  have F91:=F90.k [0,1,2,3,4,7,8,46];clear F90
  refine F91.ct ?_
  refine wr fun K92 hK92=>?_
  refine F91.xv (.bool false)<|fun _ F94=>?_;clear F91
  refine wpList_nil (hK92 _ _ ?_);clear hK92
  refine wp_ret (ret_then ?_)
  refine ret1 F94 rfl rfl ?_
  exact ⟨by rw [verify_not (s:=⟨idx,op,cl,pa⟩) (by unfold vShape;simp only;omega)],(((Ext.refl w).trans hx5).trans hx13)⟩
 refine F27.xg (vi n)<|Xg (.bool (decide ((4096:Int)<(n:Int))))<|Xv (.bool (decide ((4096:Int)<(n:Int))))<|Xm rfl<|fun _ F102=>?_;clear F27
 by_cases hc103:(4096:Int)<(n:Int)
 ·skip
  refine F102.xu<|Xu<|Xu<|Xv (.bool true)<|Xm rfl<|Xu<|Xu<|Xu<|Xu<|Xv (.bool true)<|Xm rfl<|Xu<|Xu<|Xu<|Xu<|Xv (.bool true)<|Xm rfl<|Xu<|Xu<|Xu<|Xu<|Xv (.bool true)<|Xm rfl<|Xu<|Xu<|Xu<|Xv (.bool true)<|fun _ F157=>?_;clear F102
  refine wpList_nil (hK21 _ _ ?_);clear hK21
  have F158:=F157.k [0,1,2,3,4,7,8,46];clear F157
  refine F158.ct ?_
  refine wr fun K159 hK159=>?_
  refine F158.xv (.bool false)<|fun _ F161=>?_;clear F158
  refine wpList_nil (hK159 _ _ ?_);clear hK159
  refine wp_ret (ret_then ?_)
  refine ret1 F161 rfl rfl ?_
  exact ⟨by rw [verify_not (s:=⟨idx,op,cl,pa⟩) (by unfold vShape;simp only;omega)],(((Ext.refl w).trans hx5).trans hx13)⟩
 refine F102.xg (vp g10)<|Xgw (vi idx) (fun F=>rl F rfl (b12.rule.1 0))<|Xg (.bool (decide ((idx:Int)<(0:Int))))<|Xv (.bool (decide ((idx:Int)<(0:Int))))<|Xm rfl<|fun _ F171=>?_;clear F102
 by_cases hc172:(idx:Int)<(0:Int)
 ·skip
  refine F171.xu<|Xu<|Xu<|Xu<|Xv (.bool true)<|Xm rfl<|Xu<|Xu<|Xu<|Xu<|Xv (.bool true)<|Xm rfl<|Xu<|Xu<|Xu<|Xu<|Xv (.bool true)<|Xm rfl<|Xu<|Xu<|Xu<|Xv (.bool true)<|fun _ F216=>?_;clear F171
  refine wpList_nil (hK21 _ _ ?_);clear hK21
  have F217:=F216.k [0,1,2,3,4,7,8,46];clear F216
  refine F217.ct ?_
  refine wr fun K218 hK218=>?_
  refine F217.xv (.bool false)<|fun _ F220=>?_;clear F217
  refine wpList_nil (hK218 _ _ ?_);clear hK218
  refine wp_ret (ret_then ?_)
  refine ret1 F220 rfl rfl ?_
  exact ⟨by rw [verify_not (s:=⟨idx,op,cl,pa⟩) (by unfold vShape;simp only;omega)],(((Ext.refl w).trans hx5).trans hx13)⟩
 refine F171.xg (vp g10)<|Xgw (vi idx) (fun F=>rl F rfl (b12.rule.1 0))<|Xg (vi n)<|Xg (.bool (decide ((n:Int)≤(idx:Int))))<|Xv (.bool (decide ((n:Int)≤(idx:Int))))<|Xm rfl<|fun _ F232=>?_;clear F171
 by_cases hc233:(n:Int)≤(idx:Int)
 ·skip
  refine F232.xu<|Xu<|Xu<|Xu<|Xv (.bool true)<|Xm rfl<|Xu<|Xu<|Xu<|Xu<|Xv (.bool true)<|Xm rfl<|Xu<|Xu<|Xu<|Xv (.bool true)<|fun _ F265=>?_;clear F232
  refine wpList_nil (hK21 _ _ ?_);clear hK21
  have F266:=F265.k [0,1,2,3,4,7,8,46];clear F265
  refine F266.ct ?_
  refine wr fun K267 hK267=>?_
  refine F266.xv (.bool false)<|fun _ F269=>?_;clear F266
  refine wpList_nil (hK267 _ _ ?_);clear hK267
  refine wp_ret (ret_then ?_)
  refine ret1 F269 rfl rfl ?_
  exact ⟨by rw [verify_not (s:=⟨idx,op,cl,pa⟩) (by unfold vShape;simp only;omega)],(((Ext.refl w).trans hx5).trans hx13)⟩
 refine F232.xg (.pointer (some ⟨g10,1,none⟩))<|Xgw (vl O op.length oc) (fun F=>rl F rfl (b12.rule.1 1))<|Xg (vi (op.length:Nat))<|Xg (.bool (decide (((op.length:Nat):Int)≠(64:Int))))<|Xv (.bool (decide (((op.length:Nat):Int)≠(64:Int))))<|Xm rfl<|fun _ F281=>?_;clear F232
 by_cases hc282:((op.length:Nat):Int)≠(64:Int)
 ·skip
  refine F281.xu<|Xu<|Xu<|Xu<|Xv (.bool true)<|Xm rfl<|Xu<|Xu<|Xu<|Xv (.bool true)<|fun _ F302=>?_;clear F281
  refine wpList_nil (hK21 _ _ ?_);clear hK21
  have F303:=F302.k [0,1,2,3,4,7,8,46];clear F302
  refine F303.ct ?_
  refine wr fun K304 hK304=>?_
  refine F303.xv (.bool false)<|fun _ F306=>?_;clear F303
  refine wpList_nil (hK304 _ _ ?_);clear hK304
  refine wp_ret (ret_then ?_)
  refine ret1 F306 rfl rfl ?_
  exact ⟨by rw [verify_not (s:=⟨idx,op,cl,pa⟩) (by unfold vShape;simp only;omega)],(((Ext.refl w).trans hx5).trans hx13)⟩
 refine F281.xg (.pointer (some ⟨g10,2,none⟩))<|Xgw (vl C cl.length ec) (fun F=>rl F rfl (b12.rule.1 2))<|Xg (vi (cl.length:Nat))<|Xg (.bool (decide (((cl.length:Nat):Int)≠(64:Int))))<|Xv (.bool (decide (((cl.length:Nat):Int)≠(64:Int))))<|Xm rfl<|fun _ F318=>?_;clear F281
 by_cases hc319:((cl.length:Nat):Int)≠(64:Int)
 ·skip
  refine F318.xu<|Xu<|Xu<|Xv (.bool true)<|fun _ F327=>?_;clear F318
  refine wpList_nil (hK21 _ _ ?_);clear hK21
  have F328:=F327.k [0,1,2,3,4,7,8,46];clear F327
  refine F328.ct ?_
  refine wr fun K329 hK329=>?_
  refine F328.xv (.bool false)<|fun _ F331=>?_;clear F328
  refine wpList_nil (hK329 _ _ ?_);clear hK329
  refine wp_ret (ret_then ?_)
  refine ret1 F331 rfl rfl ?_
  exact ⟨by rw [verify_not (s:=⟨idx,op,cl,pa⟩) (by unfold vShape;simp only;omega)],(((Ext.refl w).trans hx5).trans hx13)⟩
 refine F318.xg (vl B msg.length cb)<|Xg (vi (msg.length:Nat))<|Xg (.bool (decide ((65536:Int)<((msg.length:Nat):Int))))<|Xv (.bool (decide ((65536:Int)<((msg.length:Nat):Int))))<|fun _ F339=>?_;clear F318
 refine wpList_nil (hK21 _ _ ?_);clear hK21
 have F340:=F339.k [0,1,2,3,4,7,8,46];clear F339
 by_cases hc341:(65536:Int)<((msg.length:Nat):Int)
 ·skip
  refine F340.ct ?_
  refine wr fun K342 hK342=>?_
  refine F340.xv (.bool false)<|fun _ F344=>?_;clear F340
  refine wpList_nil (hK342 _ _ ?_);clear hK342
  refine wp_ret (ret_then ?_)
  refine ret1 F344 rfl rfl ?_
  exact ⟨by rw [verify_not (s:=⟨idx,op,cl,pa⟩) (by unfold vShape;simp only;omega)],(((Ext.refl w).trans hx5).trans hx13)⟩
 refine F340.cf ?_
 refine wp_skip ?_
 refine hK20 _ _ ?_;clear hK20
 refine wr fun K345 hK345=>?_
 have b346:=(b4.ext hx13)
 refine F340.xw (.agg (byteVals root).toArray) (fun F=>rb F rfl b346 (hk:=byteVals_len hd))<|Xv (vp g10)<|Xw (vi idx) (fun F=>rl F rfl (b12.rule.1 0))<|Xm rfl<|fun _ F354=>?_;clear F340
 have d355:=((hb.ext hx5).ext hx13)
 have hi356:(((idx:Int).toNat:Nat):Int)=idx:=by omega
 refine wpl_op (i:=4) rfl (o_call F354 rfl rfl rfl rfl (rn_call (args3 (F354.get rfl) (F354.get rfl) (F354.get rfl)) rfl (by kernel_rfl)) (signed_int (v:=(vl B msg.length cb)) (m:=msg.length) root idx msg _ hd d355 (hG.ext (((Ext.refl w).trans hx5).trans hx13)) (by omega) (by omega) (by omega)) ?_)
 rintro _ w357 ⟨rfl,hx358⟩
 refine ⟨_,rfl,?_⟩;intro a359 F360;clear F354;have z361:=hx358.size
 refine F360.xz (boolVals (List.replicate 64 false)) 114 fun g362 w363 _ F369 z366 z367 b364 hx365=>?_;clear F360
 refine F369.xs rfl b364 (fun w370 b371 hg372=>?_) (hk:=boolVals_len (bitsL_len root ((idx:Int).toNat) msg)) (hl:=boolVals_len (show List.length (List.replicate 64 false)=_ from List.length_replicate));have z373:=hg372.size
 refine wpList_nil (hK345 _ _ ?_);clear hK345
 have F374:=F369.k [0,1,2,3,4,7,8,46,9];clear F369
 refine wr fun K375 hK375=>?_
 refine F374.xw (.func (.func 64) #[] #[(vp g362),(vp g10)]) (fun F=>rn_makeFunc (args0 ) (args2 (F.get rfl) (F.get rfl)))<|Xa rfl<|fun _ F379=>?_;clear F374
 refine wpList_nil (hK375 _ _ ?_);clear hK375
 refine wp_seq_k fun K380 hK380=>?_
 have hx382:∃ W,w370.drew=W∧Ext w370 W:=⟨_,rfl,(Ext.refl _).drew⟩
 obtain ⟨w381,e383,hx382⟩:=hx382
 have z384:=hx382.size
 refine any_start (fun W=>Ext w381 W∧Blk W g10 28 [(vi idx),(vl O op.length oc),(vl C cl.length ec),(vl P pa.length pc)]) (fun i=>i==12) 14 (.replicate 14 false) rfl rfl rfl ?_
 rw [e383];clear e383
 refine any_have (n1:=2) (L1:=#[true,true,true,true,true,true,true,true,true,true,true,true,false,false]) (fun a' W=>∃ (g449:Nat),Sl 71 [(0,(.agg (byteVals root).toArray)),(1,(vi n)),(2,(vl B msg.length cb)),(3,(.agg #[(vi idx),(vl O op.length oc),(vl C cl.length ec),(vl P pa.length pc)])),(4,(vp g2)),(7,(vp g10)),(8,(.bool false)),(9,(vp g362)),(10,(.func (.func 64) #[] #[(vp g362),(vp g10)])),(11,(vp g449)),(46,(.bool (decide ((65536:Int)<((msg.length:Nat):Int))))),(62,(.agg (byteVals ((climbF (publicD (shown (bitsL root ((idx:Int).toNat) msg) ⟨idx,op,cl,pa⟩)) idx n pa).1)).toArray)),(63,(vi ((climbF (publicD (shown (bitsL root ((idx:Int).toNat) msg) ⟨idx,op,cl,pa⟩)) idx n pa).2)))] a'∧Ext w381 W∧Blk W g449 24 (byteVals (List.replicate 32 0))∧w381.heap.size≤g449) ?_ (fun st464=>?_)
 ·skip
  rintro a465 w466 ⟨g449,F467,hx468,b469,z470⟩
  clear F379
  have z471:=hx468.size
  have z472:=b469.lt
  refine ao 12 rfl (F467.os rfl b469 (fun w473 b474 hg475=>an ?_) (hk:=byteVals_len (climbF_len _ _ _ _)));have z476:=hg475.size
  refine F467.yv 13 (vi ((climbF (publicD (shown (bitsL root ((idx:Int).toNat) msg) ⟨idx,op,cl,pa⟩)) idx n pa).2)) rfl<|fun _ F478=>?_;clear F467
  refine nn (hK380 _ _ ?_);clear hK380
  refine wr fun K479 hK479=>?_
  refine F478.xm rfl<|Xv (.bool (decide (((climbF (publicD (shown (bitsL root ((idx:Int).toNat) msg) ⟨idx,op,cl,pa⟩)) idx n pa).2:Int)=(0:Int))))<|Xm rfl<|fun _ F485=>?_;clear F478
  by_cases hc486:((climbF (publicD (shown (bitsL root ((idx:Int).toNat) msg) ⟨idx,op,cl,pa⟩)) idx n pa).2:Int)=(0:Int)
  ·skip
   refine F485.xgw (.agg (byteVals ((climbF (publicD (shown (bitsL root ((idx:Int).toNat) msg) ⟨idx,op,cl,pa⟩)) idx n pa).1)).toArray) (fun F=>rb F rfl b474 (hk:=byteVals_len (climbF_len _ _ _ _)))<|fun _ F488=>?_;clear F485
   have b489:=((((((b346.ext hx358).ext hx365).gn hg372).ext hx382).ext hx468).gn hg475)
   refine F488.xgw (.agg (byteVals root).toArray) (fun F=>rb F rfl b489 (hk:=byteVals_len hd))<|Xgw (.bool (decide ((climbF (publicD (shown (bitsL root ((idx:Int).toNat) msg) ⟨idx,op,cl,pa⟩)) idx n pa).1=root))) (fun F=>rn_eqA Tryd.underlying24 Tryd.underlying5 inf5 (by kernel_rfl) (F.get rfl) (F.get rfl) (climbF_len _ _ _ _) hd)<|Xv (.bool (decide ((climbF (publicD (shown (bitsL root ((idx:Int).toNat) msg) ⟨idx,op,cl,pa⟩)) idx n pa).1=root)))<|Xa rfl<|fun _ F497=>?_;clear F488
   refine wpList_nil (hK479 _ _ ?_);clear hK479
   have F498:=F497.k [0,1,2,3,4,7,8,9,10,11,46,12];clear F497
   refine wp_ret ?_
   refine ret1 F498 rfl rfl ?_
   have hv:vShape n msg ⟨idx,op,cl,pa⟩:=by unfold vShape;simp only;omega
   have hcs:climbS root n msg ⟨idx,op,cl,pa⟩=climbF (publicD (shown (bitsL root ((idx:Int).toNat) msg) ⟨idx,op,cl,pa⟩)) idx n pa:=rfl
   exact ⟨by rw [verify_yes hv,hcs,show decide (_=(0:Int))=true from (decide_eq_true hc486),Bool.true_and],(((((((((Ext.refl w).trans hx5).trans hx13).trans hx358).trans hx365).gn hg372).trans hx382).trans hx468).gn hg475)⟩
  refine F485.xu<|Xu<|Xu<|Xv (.bool false)<|Xa rfl<|fun _ F508=>?_;clear F485
  refine wpList_nil (hK479 _ _ ?_);clear hK479
  have F509:=F508.k [0,1,2,3,4,7,8,9,10,11,46,12];clear F508
  refine wp_ret ?_
  refine ret1 F509 rfl rfl ?_
  have hv:vShape n msg ⟨idx,op,cl,pa⟩:=by unfold vShape;simp only;omega
  have hcs:climbS root n msg ⟨idx,op,cl,pa⟩=climbF (publicD (shown (bitsL root ((idx:Int).toNat) msg) ⟨idx,op,cl,pa⟩)) idx n pa:=rfl
  exact ⟨by rw [verify_yes hv,hcs,show decide (_=(0:Int))=false from (decide_eq_false hc486)];rfl,(((((((((Ext.refl w).trans hx5).trans hx13).trans hx358).trans hx365).gn hg372).trans hx382).trans hx468).gn hg475)⟩
 refine any_have (n1:=6) (L1:=#[true,true,true,true,true,true,true,false,false,false,false,true,false,false]) (fun a' W=>∃ (g413:Nat),Sl 71 [(0,(.agg (byteVals root).toArray)),(1,(vi n)),(2,(vl B msg.length cb)),(3,(.agg #[(vi idx),(vl O op.length oc),(vl C cl.length ec),(vl P pa.length pc)])),(4,(vp g2)),(7,(vp g10)),(8,(.bool false)),(9,(vp g362)),(10,(.func (.func 64) #[] #[(vp g362),(vp g10)])),(11,(vp g413)),(46,(.bool (decide ((65536:Int)<((msg.length:Nat):Int))))),(55,(.agg (byteVals (publicD (shown (bitsL root ((idx:Int).toNat) msg) ⟨idx,op,cl,pa⟩))).toArray)),(57,(vi idx)),(58,(vi n)),(60,(vl P pa.length pc))] a'∧Ext w381 W∧Blk W g413 24 (byteVals (List.replicate 32 0))∧w381.heap.size≤g413) ?_ (fun st510=>?_)
 ·skip
  rintro a511 w512 ⟨g413,F513,hx514,b515,z516⟩
  clear F379
  have z517:=hx514.size
  have z518:=b515.lt
  refine ao 7 rfl ?_
  have d519:=(hcp.pres ((((((((Pres.refl w).ext hx5).ext hx13).ext hx358).ext hx365).gc hg372).ext hx382).ext hx514))
  refine F513.oc (climb_at (publicD (shown (bitsL root ((idx:Int).toNat) msg) ⟨idx,op,cl,pa⟩)) idx n pa _ (v:=(vl P pa.length pc)) (m:=pa.length) (publicD_len _) h32p d519 (hG.ext ((((((((Ext.refl w).trans hx5).trans hx13).trans hx358).trans hx365).gn hg372).trans hx382).trans hx514))) ?_
  rintro _ w520 ⟨rfl,hx521⟩
  refine ⟨_,rfl,?_⟩;intro a522 F523;clear F513;have z524:=hx521.size
  have b525:=((((((b12.ext hx358).ext hx365).gn hg372).ext hx382).ext hx514).ext hx521)
  refine ⟨fun _ _=>⟨(((Ext.refl w381).trans hx514).trans hx521),b525⟩,?_⟩
  refine F523.ym 8 rfl<|Yv 9 (.agg (byteVals ((climbF (publicD (shown (bitsL root ((idx:Int).toNat) msg) ⟨idx,op,cl,pa⟩)) idx n pa).1)).toArray) rfl<|Yv 10 (vi ((climbF (publicD (shown (bitsL root ((idx:Int).toNat) msg) ⟨idx,op,cl,pa⟩)) idx n pa).2)) rfl<|fun _ F531=>?_;clear F523
  have b532:=(b515.ext hx521)
  exact st464 _ _ ⟨g413,(((((((((((((F531.nil.c F531 63 rfl).c F531 62 rfl).c F531 46 rfl).c F531 11 rfl).c F531 10 rfl).c F531 9 rfl).c F531 8 rfl).c F531 7 rfl).c F531 4 rfl).c F531 3 rfl).c F531 2 rfl).c F531 1 rfl).c F531 0 rfl),(((Ext.refl w381).trans hx514).trans hx521),b532,(by omega)⟩
 refine F379.ym 0 rfl<|Yv 2 (vp g10) rfl<|fun _ F536=>?_;clear F379
 have b538:=((((b12.ext hx358).ext hx365).gn hg372).ext hx382)
 have hS537:Ext w381 w381∧Blk w381 g10 28 [(vi idx),(vl O op.length oc),(vl C cl.length ec),(vl P pa.length pc)]:=⟨(Ext.refl w381),b538⟩
 refine F536.ys 3 (vi idx) rfl hS537 (fun F W hW=>rl F rfl (hW.2.rule.1 0))<|Ym 4 rfl<|Yv 5 (.pointer (some ⟨g10,3,none⟩)) rfl<|Ys 6 (vl P pa.length pc) rfl hS537 (fun F W hW=>rl F rfl (hW.2.rule.1 3))<|fun _ F546=>?_;clear F536
 refine any_two (i:=1) (k:=11) (by decide +kernel) rfl rfl ?_ ?_
 ·skip
  have b547:=(b371.ext hx382)
  have hf548:=b547
  have hf549:=b538
  have d550:=(hco.pres (((((((Pres.refl w).ext hx5).ext hx13).ext hx358).ext hx365).gc hg372).ext hx382))
  have hf551:=d550
  have d552:=(hce.pres (((((((Pres.refl w).ext hx5).ext hx13).ext hx358).ext hx365).gc hg372).ext hx382))
  have hf553:=d552
  have hf554:=(hG.ext (((((((Ext.refl w).trans hx5).trans hx13).trans hx358).trans hx365).gn hg372).trans hx382))
  refine o_call F546 rfl rfl rfl rfl (rn_call (args1 (F546.get rfl)) rfl (by kernel_rfl)) (public_any 64 #[] #[(vp g362),(vp g10)] (shown (bitsL root ((idx:Int).toNat) msg) ⟨idx,op,cl,pa⟩) _ (fun _ _=>by kernel_rfl) (fun u v=>#[u,v,(vp g362),(vp g10)]) (fun u v=>by simp) (fun j b W hj hx=>shown_any j b g362 g10 (bitsL root ((idx:Int).toNat) msg) idx O oc op C ec cl pa _ W (hf548.ext hx) (hf549.ext hx) (hf551.ext hx) (hf553.ext hx) h32o h32c (hf554.ext hx) (bitsL_len root ((idx:Int).toNat) msg) hj (by omega) (by omega)) (fun j b hj=>shown_len h32o h32c (show j<op.length by omega) (show j<cl.length by omega)) hf554) ?_
  rintro _ w555 ⟨rfl,hx556⟩
  refine ⟨_,rfl,?_⟩;intro a557 F558;clear F546;have z559:=hx556.size
  have b560:=(b538.ext hx556)
  refine ⟨fun _ _=>⟨((Ext.refl w381).trans hx556),b560⟩,?_⟩
  refine any_two (i:=7) (k:=11) (by decide +kernel) rfl rfl ?_ ?_
  ·skip
   have d561:=(hcp.pres ((((((((Pres.refl w).ext hx5).ext hx13).ext hx358).ext hx365).gc hg372).ext hx382).ext hx556))
   refine F558.oc (climb_at (publicD (shown (bitsL root ((idx:Int).toNat) msg) ⟨idx,op,cl,pa⟩)) idx n pa _ (v:=(vl P pa.length pc)) (m:=pa.length) (publicD_len _) h32p d561 (hG.ext ((((((((Ext.refl w).trans hx5).trans hx13).trans hx358).trans hx365).gn hg372).trans hx382).trans hx556))) ?_
   rintro _ w562 ⟨rfl,hx563⟩
   refine ⟨_,rfl,?_⟩;intro a564 F565;clear F558;have z566:=hx563.size
   have b567:=(b560.ext hx563)
   refine ⟨fun _ _=>⟨(((Ext.refl w381).trans hx556).trans hx563),b567⟩,?_⟩
   refine F565.ym 8 rfl<|Yv 9 (.agg (byteVals ((climbF (publicD (shown (bitsL root ((idx:Int).toNat) msg) ⟨idx,op,cl,pa⟩)) idx n pa).1)).toArray) rfl<|Yv 10 (vi ((climbF (publicD (shown (bitsL root ((idx:Int).toNat) msg) ⟨idx,op,cl,pa⟩)) idx n pa).2)) rfl<|fun _ F573=>?_;clear F565
   refine ao 11 rfl (F573.oz (byteVals (List.replicate 32 0)) 24 rfl fun g574 w575 _ F581 z578 z579 b576 hx577=>?_);clear F573
   have b582:=(b567.ext hx577)
   refine ⟨fun _ _=>⟨((((Ext.refl w381).trans hx556).trans hx563).trans hx577),b582⟩,?_⟩
   exact st464 _ _ ⟨g574,(((((((((((((F581.nil.c F581 63 rfl).c F581 62 rfl).c F581 46 rfl).c F581 11 rfl).c F581 10 rfl).c F581 9 rfl).c F581 8 rfl).c F581 7 rfl).c F581 4 rfl).c F581 3 rfl).c F581 2 rfl).c F581 1 rfl).c F581 0 rfl),((((Ext.refl w381).trans hx556).trans hx563).trans hx577),b576,(by omega)⟩
  refine F558.oz (byteVals (List.replicate 32 0)) 24 rfl fun g583 w584 _ F590 z587 z588 b585 hx586=>?_;clear F558
  have b591:=(b560.ext hx586)
  refine ⟨fun _ _=>⟨(((Ext.refl w381).trans hx556).trans hx586),b591⟩,?_⟩
  exact st510 _ _ ⟨g583,(((((((((((((((F590.nil.c F590 60 rfl).c F590 58 rfl).c F590 57 rfl).c F590 55 rfl).c F590 46 rfl).c F590 11 rfl).c F590 10 rfl).c F590 9 rfl).c F590 8 rfl).c F590 7 rfl).c F590 4 rfl).c F590 3 rfl).c F590 2 rfl).c F590 1 rfl).c F590 0 rfl),(((Ext.refl w381).trans hx556).trans hx586),b585,(by omega)⟩
 refine F546.oz (byteVals (List.replicate 32 0)) 24 rfl fun g592 w593 _ F599 z596 z597 b594 hx595=>?_;clear F546
 have b600:=(b538.ext hx595)
 refine ⟨fun _ _=>⟨((Ext.refl w381).trans hx595),b600⟩,?_⟩
 refine ao 1 rfl ?_
 have b601:=((b371.ext hx382).ext hx595)
 have hf602:=b601
 have hf603:=b600
 have d604:=(hco.pres ((((((((Pres.refl w).ext hx5).ext hx13).ext hx358).ext hx365).gc hg372).ext hx382).ext hx595))
 have hf605:=d604
 have d606:=(hce.pres ((((((((Pres.refl w).ext hx5).ext hx13).ext hx358).ext hx365).gc hg372).ext hx382).ext hx595))
 have hf607:=d606
 have hf608:=(hG.ext ((((((((Ext.refl w).trans hx5).trans hx13).trans hx358).trans hx365).gn hg372).trans hx382).trans hx595))
 refine o_call F599 rfl rfl rfl rfl (rn_call (args1 (F599.get rfl)) rfl (by kernel_rfl)) (public_any 64 #[] #[(vp g362),(vp g10)] (shown (bitsL root ((idx:Int).toNat) msg) ⟨idx,op,cl,pa⟩) _ (fun _ _=>by kernel_rfl) (fun u v=>#[u,v,(vp g362),(vp g10)]) (fun u v=>by simp) (fun j b W hj hx=>shown_any j b g362 g10 (bitsL root ((idx:Int).toNat) msg) idx O oc op C ec cl pa _ W (hf602.ext hx) (hf603.ext hx) (hf605.ext hx) (hf607.ext hx) h32o h32c (hf608.ext hx) (bitsL_len root ((idx:Int).toNat) msg) hj (by omega) (by omega)) (fun j b hj=>shown_len h32o h32c (show j<op.length by omega) (show j<cl.length by omega)) hf608) ?_
 rintro _ w609 ⟨rfl,hx610⟩
 refine ⟨_,rfl,?_⟩;intro a611 F612;clear F599;have z613:=hx610.size
 have b614:=(b600.ext hx610)
 refine ⟨fun _ _=>⟨(((Ext.refl w381).trans hx595).trans hx610),b614⟩,?_⟩
 have b615:=(b594.ext hx610)
 exact st510 _ _ ⟨g592,(((((((((((((((F612.nil.c F612 60 rfl).c F612 58 rfl).c F612 57 rfl).c F612 55 rfl).c F612 46 rfl).c F612 11 rfl).c F612 10 rfl).c F612 9 rfl).c F612 8 rfl).c F612 7 rfl).c F612 4 rfl).c F612 3 rfl).c F612 2 rfl).c F612 1 rfl).c F612 0 rfl),(((Ext.refl w381).trans hx595).trans hx610),b615,(by omega)⟩

end Go.Proofs.YtihgmaoghbnnaaaDoor

namespace Go.Proofs.YtihgmaoghbnnaaaDoor
open Go.RowKit

variable {S S':Nat→Prop}

theorem verify_at {v u1 u2 u3:Value} {m n1 n2 n3:Nat} {S1 S2 S3:Nat→Prop} (root:List UInt8) (n:Int) (msg:List UInt8) (sg:Sg) (w:World) (hd:root.length=32) (hm:Fl S w 1 v m (byteVals msg)) (ho:Fl S1 w 32 u1 n1 (digVals sg.op)) (he:Fl S2 w 32 u2 n2 (digVals sg.cl)) (hp:Fl S3 w 32 u3 n3 (digVals sg.path)) (h32o:All32 sg.op) (h32c:All32 sg.cl) (h32p:All32 sg.path) (hG:Glob w) :
  Calls Tryd.prog 41 #[.agg (byteVals root).toArray,.int .i64 n,v,.agg #[.int .i64 sg.index,u1,u2,u3]] w (fun e w'=>e=.returned (.bool (verifyF root n msg sg))∧Ext w w'):=by
 have h1:=hm.blen
 have h2:=Fl.dlen ho h32o
 have h3:=Fl.dlen he h32c
 have h4:=Fl.dlen hp h32p
 subst h1 h2 h3 h4
 obtain ⟨B,cb,rfl,_⟩:=hm.form
 obtain ⟨O,oc,rfl,_⟩:=ho.form
 obtain ⟨C,ec,rfl,_⟩:=he.form
 obtain ⟨P,pc,rfl,_⟩:=hp.form
 exact verify_any (S:=fun _=>True) root n B cb msg sg.index O oc sg.op C ec sg.cl P pc sg.path w hd (hm.sub fun _ _=>trivial) (ho.sub fun _ _=>trivial) (he.sub fun _ _=>trivial) (hp.sub fun _ _=>trivial) h32o h32c h32p hG

end Go.Proofs.YtihgmaoghbnnaaaDoor

namespace Go.Proofs.YtihgmaoghbnnaaaDoor
open Go.RowKit

variable {sd:List UInt8} {many used idx:Int} {msg other:List UInt8}
theorem sign_zero (h:signE sd many used idx msg=0):kOk sd many used=true∧¬ 65536<msg.length∧¬ (idx<0∨many≤idx):=by
  unfold signE at h
  split at h
  · cases h
  · rename_i h1
    split at h
    · cases h
    · rename_i h2
      split at h
      · cases h
      · rename_i h3
        exact ⟨by simpa using h1,h2,h3⟩
theorem sign_of (h:signE sd many used idx msg=0):signF sd many used idx msg=sgOf sd many.toNat idx.toNat msg:=by rw [signF,if_pos h]
theorem signF_o (sd:List UInt8) (many used idx:Int) (msg:List UInt8):All32 (signF sd many used idx msg).op:=by
  unfold signF;split
  · exact opTo_32 _ _ _ _
  · exact All32.nil
theorem signF_c (sd:List UInt8) (many used idx:Int) (msg:List UInt8):All32 (signF sd many used idx msg).cl:=by
  unfold signF;split
  · exact clTo_32 _ _ _ _
  · exact All32.nil
theorem signF_p (sd:List UInt8) (many used idx:Int) (msg:List UInt8):All32 (signF sd many used idx msg).path:=by
  unfold signF;split
  · exact pathD_32 _ _ _ (Nat.le_refl _)
  · exact All32.nil
theorem sign_len (h:signE sd many used idx msg=0):(signF sd many used idx msg).op.length=64∧(signF sd many used idx msg).cl.length=64∧(signF sd many used idx msg).index=idx:=by
  obtain ⟨h1,_,h3⟩:=sign_zero h
  rw [sign_of h]
  exact ⟨opTo_len _ _ _ _,clTo_len _ _ _ _,by simp only [sgOf];omega⟩
theorem sign_iff (h:kOk sd many used=true) (hm:msg.length≤65536):signE sd many used idx msg=0↔0≤idx∧idx<many:=by
  constructor
  · intro he;have:=sign_zero he;omega
  · intro he;exact signE4 h (by omega) (by omega)
theorem pub_zero (h:pubE sd many used=0):kOk sd many used=true:=by
  unfold pubE at h
  split at h
  · assumption
  · cases h
theorem pub_of (h:kOk sd many used=true):pubF sd many used=pubD sd many.toNat∧pubE sd many used=0:=by rw [pubF,pubE,if_pos h,if_pos h];exact ⟨rfl,rfl⟩
theorem verifies (h:signE sd many used idx msg=0) (ho:other.length≤65536) (hb:bitsR (pubF sd many used) (signF sd many used idx msg).index msg=bitsR (pubF sd many used) (signF sd many used idx msg).index other) :
    verifyF (pubF sd many used) many other (signF sd many used idx msg)=true:=by
  obtain ⟨h1,h2,h3⟩:=sign_zero h
  obtain ⟨h4,h5,h6,h7⟩:=kOk_iff.1 h1
  obtain ⟨k,rfl⟩:∃ k:Nat,many=(k:Int):=⟨many.toNat,by omega⟩
  obtain ⟨i,rfl⟩:∃ i:Nat,idx=(i:Int):=⟨idx.toNat,by omega⟩
  rw [(sign_len h).2.2,(pub_of h1).1,bitsR_in (by omega),bitsR_in (by omega)] at hb
  rw [(pub_of h1).1,sign_of h]
  simp only [Int.toNat_natCast] at hb ⊢
  exact verify_sg (by omega) (by omega) ho hb
theorem verifies1 (h:signE sd many used idx msg=0) (ho:msg.length≤65536):verifyF (pubF sd many used) many msg (signF sd many used idx msg)=true:=verifies h ho rfl
end Go.Proofs.YtihgmaoghbnnaaaDoor

namespace Go.Proofs.YtihgmaoghbnnaaaDoor

def numL (n:Nat):Nat→List UInt8
  | 0=>[]
  | k+1=>numL (n / 256) k++[UInt8.ofNat n]
theorem numL_len (n:Nat):∀ k,(numL n k).length=k
  | 0=>rfl
  | k+1=>by rw [numL,List.length_append,numL_len _ k];rfl
theorem numL_getD (n:Nat):∀ (k i:Nat),i<k→(numL n k).getD (k - 1 - i) 0=UInt8.ofNat (n / 256 ^ i)
  | 0,i,h=>absurd h (by omega)
  | k+1,0,_=>by rw [numL,List.getD_eq_getElem?_getD,List.getElem?_append_right (by rw [numL_len];omega),numL_len];simp
  | k+1,i+1,h=>by
    have:=numL_getD (n / 256) k i (by omega)
    rw [List.getD_eq_getElem?_getD] at this
    rw [numL,List.getD_eq_getElem?_getD,List.getElem?_append_left (by rw [numL_len];omega),show k+1 - 1 - (i+1)=k - 1 - i by omega,this,Nat.div_div_eq_div_mul,Nat.pow_succ,Nat.mul_comm]

def kd (s:List UInt8):UInt8:=s.getD 10 0
def kindOk (n:Nat) (q:UInt8):Prop:=n≤112∧q.toNat≤3∧(q.toNat<2→n=112)∧(q.toNat % 2=0→n≠0)
instance (n:Nat) (q:UInt8):Decidable (kindOk n q):=by unfold kindOk;infer_instance
end Go.Proofs.YtihgmaoghbnnaaaDoor

namespace Go.Proofs.YtihgmaoghbnnaaaDoor
open Go.RowKit

def lenB (s:List UInt8):UInt8:=UInt8.ofNat s.length
def itLeaf (x:It):List UInt8:=tagged [105,116,101,109] ([lenB x.name]++x.name++x.data)
def cgLeaf (c:Cg):List UInt8:=tagged [99,104,97,110,103,101] ([bitB c.gone,lenB c.name]++c.name++c.data)
def stateD (l:List It):List UInt8:=if checkE l=0 then treeD (l.map itLeaf) else zero32
structure Vr where
  no:Int
  state:List UInt8
  chs:List Cg
  sg:Sg
structure Fo where
  pub:List UInt8
  many:Int
  no:Int
  items:List It
  early:List Vr
def vrNil:Vr:=⟨0,zero32,[],sgNil⟩
def foNil:Fo:=⟨zero32,0,0,[],[]⟩
instance:Inhabited Vr:=⟨vrNil⟩
def chD (l:List Cg):List UInt8:=treeD (l.map cgLeaf)
def msgV (no:Int) (state:List UInt8) (l:List Cg):List UInt8:=numL no.toNat 8++state++chD l
def Vr.msg (v:Vr):List UInt8:=msgV v.no v.state v.chs
def verifyE (pub:List UInt8) (many:Int) (v:Vr):Int :=
  if v.no<1∨4096<v.no then 420 else if ¬ validC v.chs then 400 else if v.sg.index≠v.no - 1∨verifyF pub many v.msg v.sg=false then 131 else 0
def versionE (sd:List UInt8) (many used:Int) (n:Nat) (a:List It) (l:List Cg):Int :=
  if pubE sd many used≠0 then pubE sd many used else if used≠(n:Int) then 420 else if checkE a≠0 then checkE a else if ¬ validC l then 400 else signE sd many used used (msgV (n+1:Nat) (stateD a) l)
def versionV (sd:List UInt8) (many used:Int) (n:Nat) (a:List It) (l:List Cg):Vr :=
  if versionE sd many used n a l=0 then ⟨(n+1:Nat),stateD a,l,signF sd many used used (msgV (n+1:Nat) (stateD a) l)⟩ else vrNil
def applyE (a:List It) (l:List Cg):Int :=
  if checkE a≠0 then checkE a else if ¬ validC l then 400 else if appOk a l=false then 400 else if 65536<(appL a l).length then 2 else 0
def applyV (a:List It) (l:List Cg):List It:=if applyE a l=0 then appL a l else []
def fits (f:Fo) (v:Vr):Prop:=applyE f.items v.chs=0∧checkE (appL f.items v.chs)=0∧stateD (appL f.items v.chs)=v.state
instance (f:Fo) (v:Vr):Decidable (fits f v):=inferInstanceAs (Decidable (_∧_∧_))
def stepF (f:Fo) (v:Vr):Fo:=if fits f v then { f with no:=v.no,items:=appL f.items v.chs } else f
/-- the numbers go up, from one greater than the given one -/
def asc (n:Int) (l:List Vr):Prop:=∀ i,i<l.length→(if i=0 then n else (l.getD (i - 1) default).no)<(l.getD i default).no
instance (n:Int) (l:List Vr):Decidable (asc n l):=inferInstanceAs (Decidable (∀ i,i<l.length→_))
def firstE (g:Vr→Int):List Vr→Int
  | []=>0
  | v::l=>if g v≠0 then g v else firstE g l
def checkFE (f:Fo):Int :=
  if f.many<1∨4096<f.many then 40 else if f.no<0∨4096<f.no then 420 else if checkE f.items≠0 then checkE f.items else if f.no=0∧0<f.items.length then 400 else if 64<f.early.length then 2
  else if ¬ asc (f.no+1) f.early then 420 else firstE (verifyE f.pub f.many) f.early
/-- the versions that came too early, as_ far as_ they follow -/
def drain (f:Fo):List Vr→Fo
  | []=>{ f with early:=[] }
  | v::l=>if v.no=f.no+1 then drain (stepF f v) l else { f with early:=v::l }
def below (t:Int) (l:List Vr):Nat:=(l.takeWhile fun w=>decide (w.no<t)).length
def recE (f:Fo) (v:Vr):Int :=
  if checkFE f≠0 then checkFE f else if verifyE f.pub f.many v≠0 then verifyE f.pub f.many v
  else if (∃ w∈f.early,w.no=v.no)∨v.no≤f.no then 420
  else if f.no+1<v.no then (if f.early.length=64 then 2 else 0)
  else if fits f v then 0 else 400
def recF (f:Fo) (v:Vr):Fo :=
  if recE f v≠0 then foNil
  else if f.no+1<v.no then { f with early:=f.early.take (below v.no f.early)++[v]++f.early.drop (below v.no f.early) }
  else drain (stepF f v) f.early
def joinE (many:Int):Int:=if many<1∨4096<many then 40 else 0
def joinF (pub:List UInt8) (many:Int):Fo:=if joinE many=0 then ⟨pub,many,0,[],[]⟩ else foNil

theorem itLeaf_len (x:It):(itLeaf x).length=32:=tagged_len _ _
theorem cgLeaf_len (x:Cg):(cgLeaf x).length=32:=tagged_len _ _
theorem stateD_len (l:List It):(stateD l).length=32:=by
  unfold stateD
  split
  · exact treeD_len _
  · rfl
theorem chD_len (l:List Cg):(chD l).length=32:=treeD_len _
theorem msgV_len {no:Int} {state:List UInt8} {l:List Cg} (h:state.length=32):(msgV no state l).length=72:=by
  simp [msgV,numL_len,h,chD_len]
end Go.Proofs.YtihgmaoghbnnaaaDoor

namespace Go.Proofs.YtihgmaoghbnnaaaDoor
open Go.RowKit

abbrev RelT (α:Type):=(Nat→Prop)→World→List Value→α→Prop
/-- what is read stays so while the blocks of its footprint do -/
structure Rel {α:Type} (R:RelT α):Prop where
  pres:∀ {S:Nat→Prop} {w w':World} {cs:List Value} {x:α},R S w cs x→Pres S w w'→R S w' cs x
  subB:∀ {S S':Nat→Prop} {w:World} {cs:List Value} {x:α},R S w cs x→(∀ b,b<w.heap.size→S b→S' b)→R S' w cs x
variable {S S':Nat→Prop} {α:Type} {R:RelT α} {k:Nat}
theorem Rel.ext (hR:Rel R) {w w':World} {cs:List Value} {x:α} (h:R S w cs x) (he:Ext w w'):R S w' cs x:=hR.pres h (Pres.of_ext he)
theorem Rel.sub (hR:Rel R) {w:World} {cs:List Value} {x:α} (h:R S w cs x) (hs:∀ b,S b→S' b):R S' w cs x:=hR.subB h fun b _=>hs b
def RLs (R:RelT α) (k:Nat) (S:Nat→Prop) (w:World) (v:Value) (l:List α):Prop:=RSl S k (R S) w v l
theorem RLs.pres (hR:Rel R) {w w':World} {v:Value} {l:List α} (h:RLs R k S w v l) (hp:Pres S w w'):RLs R k S w' v l:=RSl.keep h hp.1 hp.2 fun _ _ h=>hR.pres h hp
theorem RLs.ext (hR:Rel R) {w w':World} {v:Value} {l:List α} (h:RLs R k S w v l) (he:Ext w w'):RLs R k S w' v l:=h.pres hR (Pres.of_ext he)
theorem RLs.subB (hR:Rel R) {w:World} {v:Value} {l:List α} (h:RLs R k S w v l) (hs:∀ b,b<w.heap.size→S b→S' b):RLs R k S' w v l:=RSl.subB h hs fun _ _ h=>hR.subB h hs
theorem RLs.sub (hR:Rel R) {w:World} {v:Value} {l:List α} (h:RLs R k S w v l) (hs:∀ b,S b→S' b):RLs R k S' w v l:=h.subB hR fun b _=>hs b
theorem RLs.clip (hR:Rel R) {w:World} {v:Value} {l:List α} (h:RLs R k S w v l):RLs R k (Clip S w) w v l:=h.subB hR fun _ hb hs=>⟨hs,hb⟩
theorem RLs.nil (w:World):RLs R k S w (.slice none 0 0) []:=RSl.nil w
theorem RLs.form {w:World} {v:Value} {l:List α} (h:RLs R k S w v l):∃ A c,v=.slice A l.length c∧l.length≤c∧c≤9223372036854775807:=RSl.form h
theorem RLs.at {w:World} {A:Option Addr} {n c:Nat} {l:List α} (h:RLs R k S w (.slice A n c) l):n=l.length∧n≤c∧c≤9223372036854775807:=by
  obtain ⟨h1,h2,_⟩:=RSl.cel h;exact ⟨h1,h2⟩
/-- where an element lies -/
theorem RLs.get {w:World} {A:Option Addr} {n c:Nat} {l:List α} (h:RLs R k S w (.slice A n c) l) {i:Nat} (hi:i<n) :
    ∃ b off x cs,A=some ⟨b,off,none⟩∧l[i]?=some x∧cs.length=k∧(∀ j u,cs[j]?=some u→w.cell? ⟨b,off+i*k+j,none⟩=some u)∧R S w cs x:=by
  obtain ⟨hn,_,hx⟩:=RSl.elem h
  obtain ⟨b,off,ha,_,hc⟩:=hx (by omega)
  have hi':i<l.length:=by omega
  obtain ⟨cs,h1,h2,h3⟩:=hc i hi'
  exact ⟨b,off,l[i],cs,ha,List.getElem?_eq_getElem hi',h1,h2,h3⟩
theorem RLs.take {w:World} {A:Option Addr} {n c:Nat} {l:List α} (h:RLs R k S w (.slice A n c) l) {m:Nat} (hm:m≤n):RLs R k S w (.slice A m c) (l.take m):=by
  have:=h.at
  exact RSl.take h hm (by omega) (by omega)
/-- a part, from a known place on -/
theorem RLs.dropAt {w:World} {b off n c j:Nat} {A:Option Addr} {l:List α} (h:RLs R k S w (.slice A n c) l) (hA:A=some ⟨b,off,none⟩) (hj:j≤n):RLs R k S w (.slice (some ⟨b,off+j*k,none⟩) (n - j) (c - j)) (l.drop j):=by
  subst hA
  obtain ⟨hn,hc,xs,⟨h1,h2,h3⟩,hr⟩:=RSl.cel h
  subst hn
  refine ⟨some ⟨b,off+j*k,none⟩,c - j,xs.drop (j*k),by rw [List.length_drop],by rw [List.length_drop];omega,⟨by rw [List.length_drop,List.length_drop,h1,Nat.sub_mul],fun u hu=>h2 u (List.mem_of_mem_drop hu),fun h0=>?_⟩,fun i hi=>?_,fun h0=>?_⟩
  · rw [List.length_drop] at h0
    obtain ⟨b',off',ha,hb,hx⟩:=h3 (by omega)
    cases ha
    refine ⟨b,off+j*k,rfl,hb,fun i u hu=>?_⟩
    rw [List.getElem?_drop] at hu
    rw [Nat.add_assoc]
    exact hx _ u hu
  · rw [List.length_drop] at hi
    have:=hr (j+i) (by omega)
    rw [List.getElem_drop]
    unfold chunk at this ⊢
    rw [List.drop_drop,← Nat.add_mul]
    exact this
  · rw [List.length_drop] at h0
    obtain ⟨b',off',ha,hS⟩:=RSl.inS h (by omega)
    cases ha
    exact ⟨b,_,rfl,hS⟩
theorem RLs.cut {w:World} {A:Option Addr} {n c j:Nat} {l:List α} (h:RLs R k S w (.slice A n c) l) (hj:j≤n):RLs R k S w (.slice (cutA A c j k) (n - j) (c - j)) (l.drop j):=by
  have h0:=h.at
  by_cases hn:n=j
  · subst hn
    obtain ⟨e1,_⟩:=h0
    have e:l.drop n=[]:=List.drop_eq_nil_of_le (by omega)
    rw [e]
    exact ⟨cutA A c n k,c - n,[],by simp,by simp;omega,Cel.none _ _ _,fun i hi=>absurd hi (by simp),fun hi=>absurd hi (by simp)⟩
  · obtain ⟨b,off,ha,_⟩:=RSl.inS h (by omega)
    rw [cutA_eq ha (by omega)]
    exact h.dropAt ha hj
/-- a list of nothing reads whatever is behind it -/
theorem RLs.empty {w:World} {A:Option Addr} {c:Nat} (hc:c≤9223372036854775807):RLs R k S w (.slice A 0 c) ([]:List α) :=
  ⟨A,c,[],rfl,⟨Nat.zero_le _,hc⟩,Cel.none _ _ _,fun i h=>absurd h (by simp),fun h=>absurd h (by simp)⟩
/-- a list of one, out of its cells -/
theorem RLs.one {w:World} {g:Nat} {t:TypeId} {cs:List Value} {x:α} (h:Blk w g t cs) (hk:cs.length=k) (h1:∀ u∈cs,u.oneCell'=true) (hS:S g) (hx:R S w cs x):RLs R k S w (.slice (some ⟨g,0,none⟩) 1 1) [x]:=by
  refine ⟨some ⟨g,0,none⟩,1,cs,rfl,⟨Nat.le_refl _,by omega⟩,⟨by simp [hk],h1,fun _=>⟨g,0,rfl,h.lt,fun j u hu=>?_⟩⟩,fun i hi=>?_,fun _=>⟨g,0,rfl,hS⟩⟩
  · rw [Nat.zero_add,h.rule.1];exact hu
  · simp only [List.length_singleton] at hi
    obtain rfl:i=0:=by omega
    rw [chunk_self hk];exact hx

/-! a list of the call's own: its row's block and the blocks that its elements lead to lie from base on, and are apart -/
def OwnL (R:RelT α) (k:Nat) (e:TypeId) (base:Nat) (w:World) (v:Value) (n:Nat) (xs:List Value) (l:List α):Prop :=
  w.ownsRow base e k v n xs∧n=l.length∧(∀ u∈xs,u.oneCell'=true)∧∀ i (h:i<l.length),R (fun b=>base≤b∧some b≠v.ownBlock) w (chunk k xs i) l[i]
variable {e:TypeId} {base:Nat}
theorem OwnL.nil (w:World) (hb:base≤w.heap.size):OwnL R k e base w (.slice none 0 0) 0 [] [] :=
  ⟨own_nil w base e k,rfl,fun u h=>absurd h (by simp),fun i h=>absurd h (by simp)⟩
theorem OwnL.pres (hR:Rel R) {w w':World} {v:Value} {n:Nat} {xs:List Value} {l:List α} (h:OwnL R k e base w v n xs l) (hp:Pres (fun b=>base≤b) w w'):OwnL R k e base w' v n xs l:=by
  obtain ⟨h1,h2,h3,h4⟩:=h
  refine ⟨?_,h2,h3,fun i hi=>hR.pres (h4 i hi) ⟨hp.1,fun b hb=>hp.2 b hb.1⟩⟩
  refine ⟨h1.1,?_⟩
  rcases h1.2 with h5 | ⟨g,cap,cur,hv,hb,hg,h6⟩
  · exact .inl h5
  · exact .inr ⟨g,cap,cur,hv,hb,(hp.2 g hb (Array.getElem?_eq_some_iff.1 hg).1).trans hg,h6⟩
theorem OwnL.ext (hR:Rel R) {w w':World} {v:Value} {n:Nat} {xs:List Value} {l:List α} (h:OwnL R k e base w v n xs l) (he:Ext w w'):OwnL R k e base w' v n xs l:=h.pres hR (Pres.of_ext he)
theorem OwnL.rls (hR:Rel R) {w:World} {v:Value} {n:Nat} {xs:List Value} {l:List α} (h:OwnL R k e base w v n xs l):RLs R k (fun b=>base≤b) w v l:=by
  obtain ⟨h1,h2,h3,h4⟩:=h
  exact RSl.own h1 (fun b hb=>hb) h2 h3 fun i hi=>hR.sub (h4 i hi) fun b hb=>hb.1
/-- one more behind it (what an append leaves) -/
theorem OwnL.snoc (hR:Rel R) {w w':World} {v v':Value} {n:Nat} {xs cs:List Value} {l:List α} {x:α} (h:OwnL R k e base w v n xs l) (hr:w'.ownsRow base e k v' (n+1) (xs++cs)) (hg:w.grownBy w' v.ownBlock) (hn:∀ g,g<w.heap.size→some g≠v.ownBlock→some g≠v'.ownBlock)
    (hk:cs.length=k) (h1:∀ u∈cs,u.oneCell'=true) (hx:R S w cs x) (hS:∀ b,b<w.heap.size→S b→base≤b∧some b≠v.ownBlock):OwnL R k e base w' v' (n+1) (xs++cs) (l++[x]):=by
  obtain ⟨q1,q2,q3,q4⟩:=h
  have mv:∀ {cs:List Value} {x:α},R (fun b=>base≤b∧some b≠v.ownBlock) w cs x→R (fun b=>base≤b∧some b≠v'.ownBlock) w' cs x:=fun {cs x} hq =>
    hR.sub (hR.pres (hR.subB (S':=fun b=>(base≤b∧some b≠v'.ownBlock)∧some b≠v.ownBlock) hq fun b hlt hb=>⟨⟨hb.1,hn b hlt hb.2⟩,hb.2⟩) ⟨hg.size,fun b hb hlt=>hg.block b hlt hb.2⟩) fun b hb=>hb.1
  have hxl:xs.length=n*k:=q1.1
  refine ⟨hr,by simp [q2],fun u hu=>?_,fun i hi=>?_⟩
  · rcases List.mem_append.1 hu with hu | hu
    · exact q3 u hu
    · exact h1 u hu
  · by_cases hi2:i<l.length
    · rw [List.getElem_append_left hi2,chunk_append_left hxl (by omega)]
      exact mv (q4 i hi2)
    · simp only [List.length_append,List.length_singleton] at hi
      obtain rfl:i=l.length:=by omega
      have e1:chunk k (xs++cs) l.length=cs:=by rw [chunk_append_right hxl (by omega),q2,Nat.sub_self,chunk_self hk]
      rw [e1,List.getElem_concat_length rfl]
      exact mv (hR.subB hx hS)

/-! the relations -/
def RIt (S:Nat→Prop) (w:World) (cs:List Value) (x:It):Prop:=∃ A c,cs=[strOf x.name,.slice A x.data.length c]∧Fl S w 1 (.slice A x.data.length c) x.data.length (byteVals x.data)
def RCg (S:Nat→Prop) (w:World) (cs:List Value) (x:Cg):Prop:=∃ A c,cs=[strOf x.name,.slice A x.data.length c,.bool x.gone]∧Fl S w 1 (.slice A x.data.length c) x.data.length (byteVals x.data)
theorem rIt:Rel RIt:=⟨fun ⟨A,c,h1,h2⟩ hp=>⟨A,c,h1,h2.pres hp⟩,fun ⟨A,c,h1,h2⟩ hs=>⟨A,c,h1,h2.subB hs⟩⟩
theorem rCg:Rel RCg:=⟨fun ⟨A,c,h1,h2⟩ hp=>⟨A,c,h1,h2.pres hp⟩,fun ⟨A,c,h1,h2⟩ hs=>⟨A,c,h1,h2.subB hs⟩⟩
abbrev RIts (S:Nat→Prop) (w:World) (v:Value) (l:List It):Prop:=RLs RIt 2 S w v l
abbrev RCgs (S:Nat→Prop) (w:World) (v:Value) (l:List Cg):Prop:=RLs RCg 3 S w v l
/-- cells with a digest in front; a struct of such cells -/
abbrev dg (st:List UInt8) (l:List Value):List Value:=byteVals st++l
abbrev ag (l:List Value):Value:=.agg l.toArray
/-- the cells of a version -/
abbrev vcs (no:Int) (st:List UInt8) (c:Value) (i:Int) (o e p:Value):List Value:=.int .i64 no::dg st [c,.int .i64 i,o,e,p]
abbrev fcs (pub:List UInt8) (many no:Int) (c e:Value):List Value:=dg pub [.int .i64 many,.int .i64 no,c,e]
structure RSg (S:Nat→Prop) (w:World) (o e p:Value) (g:Sg):Prop where
  op:Fl S w 32 o g.op.length (digVals g.op)
  cl:Fl S w 32 e g.cl.length (digVals g.cl)
  path:Fl S w 32 p g.path.length (digVals g.path)
  o32:All32 g.op
  c32:All32 g.cl
  p32:All32 g.path
theorem RSg.pres {w w':World} {o e p:Value} {g:Sg} (h:RSg S w o e p g) (hp:Pres S w w'):RSg S w' o e p g:=⟨h.op.pres hp,h.cl.pres hp,h.path.pres hp,h.o32,h.c32,h.p32⟩
theorem RSg.subB {w:World} {o e p:Value} {g:Sg} (h:RSg S w o e p g) (hs:∀ b,b<w.heap.size→S b→S' b):RSg S' w o e p g:=⟨h.op.subB hs,h.cl.subB hs,h.path.subB hs,h.o32,h.c32,h.p32⟩
/-- a version, by the values of its cells -/
structure RVp (S:Nat→Prop) (w:World) (c o e p:Value) (v:Vr):Prop where
  st:v.state.length=32
  chs:RCgs S w c v.chs
  sg:RSg S w o e p v.sg
theorem RVp.pres {w w':World} {c o e p:Value} {v:Vr} (h:RVp S w c o e p v) (hp:Pres S w w'):RVp S w' c o e p v:=⟨h.st,h.chs.pres rCg hp,h.sg.pres hp⟩
theorem RVp.subB {w:World} {c o e p:Value} {v:Vr} (h:RVp S w c o e p v) (hs:∀ b,b<w.heap.size→S b→S' b):RVp S' w c o e p v:=⟨h.st,h.chs.subB rCg hs,h.sg.subB hs⟩
def RVr (S:Nat→Prop) (w:World) (cs:List Value) (v:Vr):Prop:=∃ c o e p,cs=vcs v.no v.state c v.sg.index o e p∧RVp S w c o e p v
theorem rVr:Rel RVr:=⟨fun ⟨c,o,e,p,h1,h2⟩ hp=>⟨c,o,e,p,h1,h2.pres hp⟩,fun ⟨c,o,e,p,h1,h2⟩ hs=>⟨c,o,e,p,h1,h2.subB hs⟩⟩
abbrev RVrs (S:Nat→Prop) (w:World) (v:Value) (l:List Vr):Prop:=RLs RVr 38 S w v l
structure RFo (S:Nat→Prop) (w:World) (c e:Value) (f:Fo):Prop where
  pub:f.pub.length=32
  items:RIts S w c f.items
  early:RVrs S w e f.early
theorem RFo.pres {w w':World} {c e:Value} {f:Fo} (h:RFo S w c e f) (hp:Pres S w w'):RFo S w' c e f:=⟨h.pub,h.items.pres rIt hp,h.early.pres rVr hp⟩
theorem RFo.subB {w:World} {c e:Value} {f:Fo} (h:RFo S w c e f) (hs:∀ b,b<w.heap.size→S b→S' b):RFo S' w c e f:=⟨h.pub,h.items.subB rIt hs,h.early.subB rVr hs⟩
theorem sgNil_at (w:World):RSg S w (.slice none 0 0) (.slice none 0 0) (.slice none 0 0) sgNil:=⟨Fl.nil w,Fl.nil w,Fl.nil w,All32.nil,All32.nil,All32.nil⟩
theorem vrNil_at (w:World):RVp S w (.slice none 0 0) (.slice none 0 0) (.slice none 0 0) (.slice none 0 0) vrNil:=⟨rfl,RLs.nil w,sgNil_at w⟩
theorem foNil_at (w:World):RFo S w (.slice none 0 0) (.slice none 0 0) foNil:=⟨rfl,RLs.nil w,RLs.nil w⟩
end Go.Proofs.YtihgmaoghbnnaaaDoor

namespace Go.Proofs.YtihgmaoghbnnaaaDoor
open Go.RowKit Go.ChangeShapes Go.WideShapes Go.ChangeAt Go.Deep Go.Joins
set_option maxRecDepth 100000
section
variable {H:Type} {enc:TypeId × Value→H} {W:World}
theorem open_str1 {n:Nat} {c:Value} {y:DataW H × List MemPlace} (h:DataW.trod enc Tryd.prog W 0 (fun _=>true) true n 9 [c]=some y):∃ s:List UInt8,c=strOf s:=by
  obtain ⟨s,hs,_,_⟩:=DataW.trod_string Tryd.underlying9 h
  injection hs with hs
  subst hs
  exact ⟨s.data.toList,by simp [strOf]⟩
theorem open_it (n:Nat) (cs':List Value) (y:DataW H × List MemPlace) (h:DataW.trod enc Tryd.prog W 0 (fun _=>true) true n 66 cs'=some y) (hr:Reach Tryd.prog 66 y.1) :
    ∃ x:It,RIt (Old W) W cs' x∧True∧OneC cs':=by
  obtain ⟨xs,m,_,hx,hlen,hl,hg⟩:=DataW.trod_struct Tryd.underlying66 h
  have hC:Tryd.prog.cellsOf 66=2:=by kernel_rfl
  rw [hC] at hlen
  match cs',hlen with
  | [c0,c1],_ =>
    match xs,hl with
    | [y0,y1],_ =>
      have g0:DataW.trod enc Tryd.prog W 0 (fun _=>true) true m 9 [c0]=some y0:=hg 0 _ rfl
      have g1:DataW.trod enc Tryd.prog W 0 (fun _=>true) true m 52 [c1]=some y1:=hg 1 _ rfl
      obtain ⟨s,rfl⟩:=open_str1 g0
      have hy:y.1=DataW.agg [y0.1,y1.1]:=congrArg Prod.fst hx
      rw [hy] at hr
      obtain ⟨A,c,l,rfl,h1,_⟩:=open_bytes1 g1 (hr.field (j:=1) Tryd.underlying66 rfl rfl)
      refine ⟨⟨s,l⟩,⟨A,c,rfl,h1⟩,trivial,fun u hu=>?_⟩
      simp at hu
      rcases hu with rfl | rfl <;> rfl
theorem open_items {n:Nat} {v:Value} {y:DataW H × List MemPlace} (h:DataW.trod enc Tryd.prog W 0 (fun _=>true) true n 22 [v]=some y) (hr:Reach Tryd.prog 22 y.1) :
    ∃ A c l,v=.slice A (List.length (α:=It) l) c∧RLs RIt 2 (Old W) W (.slice A l.length c) l:=by
  obtain ⟨u,l,hu,h1,_,_,_⟩:=open_rsl (k:=2) (R:=RIt (Old W)) (B:=fun _=>True) Tryd.underlying22 (by kernel_rfl) (by omega) h hr open_it
  injection hu with hu
  subst hu
  have h2:RLs RIt 2 (Old W) W v l:=h1
  obtain ⟨A,c,rfl,_,_⟩:=h2.form
  exact ⟨A,c,l,rfl,h2⟩
theorem cs38 {l:List Value} (h:l.length=38):∃ c0 s c1 r,l=c0::(s++c1::r)∧s=(l.drop 1).take 32∧[c0]=(l.drop 0).take 1∧[c1]=(l.drop 33).take 1∧r=(l.drop 34).take 4:=by
  match l,h with
  | a::l,h =>
    have h1:l.length=37:=by simpa using h
    have h2:l=l.take 32++l.drop 32:=(List.take_append_drop 32 l).symm
    have h3:(l.drop 32).length=5:=by rw [List.length_drop,h1]
    match hd:l.drop 32,h3 with
    | [b,r0,r1,r2,r3],_ =>
      refine ⟨a,l.take 32,b,[r0,r1,r2,r3],?_,by simp,by simp,?_,?_⟩
      · exact congrArg (a::·) (h2.trans (congrArg (l.take 32++·) hd))
      · rfl
      · show _=(l.drop 33).take 4
        rw [show l.drop 33=(l.drop 32).drop 1 by rw [List.drop_drop],hd];rfl
theorem open_iarg {b0:Nat} {v:Value} {dd:DataW H} {p:List MemPlace} (hv:Value.okWide Tryd.prog W .any b0 22 v) (h:DataW.Trod enc Tryd.prog W 0 (fun _=>true) true 22 v dd p) (hr:Reach Tryd.prog 22 dd) :
    ∃ A c l,v=.slice A (List.length (α:=It) l) c∧RLs RIt 2 (Old W) W (.slice A l.length c) l:=by
  obtain ⟨C,n,c,rfl⟩:=okWide_slice Tryd.underlying22 hv
  obtain ⟨fuel,hf⟩:=h
  exact open_items hf hr
end
end Go.Proofs.YtihgmaoghbnnaaaDoor

namespace Go.Proofs.YtihgmaoghbnnaaaDoor
open Go.RowKit Go.ChangeShapes Go.WideShapes

def laid3 : List (String × DataW Unit) := [("stopwatch/digest.start", Rows.laid_stopwatch_digest_start), ("stopwatch/digest.permutations", Rows.laid_stopwatch_digest_permutations)]
theorem cells_of {W:World} {g:Nat} {cs:List Value} (h:∀ j,W.cell? ⟨g,j,none⟩=cs[j]?) (hlt:0<cs.length) (h1:∀ u∈cs,u.oneCell'=true):Cel W 1 (some ⟨g,0,none⟩) cs.length cs:=by
  refine ⟨by omega,h1,fun _=>⟨g,0,rfl,?_,fun j u hu=>by rw [Nat.zero_add,h j];exact hu⟩⟩
  have h0:=h 0
  rw [List.getElem?_eq_getElem hlt] at h0
  exact World.block_lt_of_cell? W ⟨g,0,none⟩ h0
theorem glob_of_laid {W:World} (h:laidMetH Tryd.prog laid3 W):Glob W:=by
  rw [MakeChecks.laidMetH_plain _ _ _ (by kernel_rfl)] at h
  obtain ⟨ps,⟨g0,t0,cs0,f0,p0,q0,hg0,ht0,hv0,hd0,⟨g1,t1,cs1,f1,p1,q1,hg1,ht1,hv1,hd1,_,_⟩,_⟩,_,_⟩:=h
  obtain rfl := Option.some.inj ((show Tryd.prog.globalNamed "stopwatch/digest.start" = some 0 by kernel_rfl).symm.trans hg0)
  obtain rfl := Option.some.inj ((show Tryd.prog.globalNamed "stopwatch/digest.permutations" = some 1 by kernel_rfl).symm.trans hg1)
  obtain rfl:=Option.some.inj ((show (Tryd.prog.globals[0]?).map (·.type)=some 141 by kernel_rfl).symm.trans ht0)
  obtain rfl:=Option.some.inj ((show (Tryd.prog.globals[1]?).map (·.type)=some 151 by kernel_rfl).symm.trans ht1)
  have e0:cs0.toList=u32Vals iv:=(trod_nums (k:=.u32) (n:=8) (l:=iv.map fun c=>((c.toNat:Nat):Int)) Tryd.underlying141 Tryd.underlying140 (by kernel_rfl) (by kernel_rfl) hd0).trans rfl
  have e1:cs1.toList=byteVals permB:=(trod_rows (k:=.u8) (n:=10) (m:=16) (l:=perms.map fun r=>r.map fun (c:Nat)=>(c:Int)) Tryd.underlying151 Tryd.underlying150 Tryd.underlying5 (by kernel_rfl) (by kernel_rfl) (by kernel_rfl) hd1).trans (by kernel_rfl)
  constructor
  · have h0:=cells_of (W:=W) (g:=0) (cs:=cs0.toList) (fun j=>by rw [World.var?_cell hg0 hv0 j];simp) (by rw [e0];decide) (by rw [e0];exact u32Vals_one _)
    rw [e0] at h0
    exact h0
  · have h1:=cells_of (W:=W) (g:=1) (cs:=cs1.toList) (fun j=>by rw [World.var?_cell hg1 hv1 j];simp) (by rw [e1,byteVals_len permB_len];decide) (by rw [e1];exact byteVals_one _)
    rw [e1,byteVals_len permB_len] at h1
    exact h1
/-- The door's own heap meets the condition. -/
theorem door_met (os:Os) (args:Array Value):laidMetH Tryd.prog laid3 ((World.doorLaid Tryd.prog 400 os).forCall (fun _ _=>0) ⟨#[],args,[]⟩).memory :=
  laidMetH_of_parts (laidMet_of_run' 8 (by kernel_rfl) (by kernel_rfl)) (by kernel_rfl)
theorem own3:ownKnob Tryd.prog.godebug=none:=by kernel_rfl

end Go.Proofs.YtihgmaoghbnnaaaDoor

namespace Go.Proofs.YtihgmaoghbnnaaaDoor
open Go.RowKit

/-! lists of cells with a digest among them -/
theorem at_app {A B:List Value} {n k:Nat} (h:A.length=n):(A++B)[n+k]?=B[k]?:=by
  rw [List.getElem?_append_right (by omega)];congr 1;omega
theorem set_app {A B:List Value} {n k:Nat} {u:Value} (h:A.length=n):(A++B).set (n+k) u=A++B.set k u:=by
  rw [List.set_append_right _ _ (by omega)];congr 2;omega
theorem one_nil:∀ u∈([]:List Value),u.oneCell'=true:=fun _ h=>absurd h (by simp)
theorem one_cons {u:Value} {l:List Value} (h:u.oneCell'=true) (k:∀ v∈l,v.oneCell'=true):∀ v∈u::l,v.oneCell'=true:=fun v hv=>by
  rcases List.mem_cons.1 hv with rfl | hv
  · exact h
  · exact k v hv
theorem one_app {A B:List Value} (h:∀ v∈A,v.oneCell'=true) (k:∀ v∈B,v.oneCell'=true):∀ v∈A++B,v.oneCell'=true:=fun v hv=>by
  rcases List.mem_append.1 hv with hv | hv
  · exact h v hv
  · exact k v hv
theorem len_dig {st:List UInt8} {B:List Value} (h:st.length=32):(byteVals st++B).length=32+B.length:=by rw [List.length_append,byteVals_len h]
/-- a part of a block's cells -/
theorem Blk.part {w:World} {g:Nat} {t:TypeId} {cs:List Value} (h:Blk w g t cs) {A M B:List Value} {o:Nat} (e:cs=A++(M++B)) (ho:A.length=o):∀ j v,M[j]?=some v→w.cell? ⟨g,o+j,none⟩=some v:=by
  intro j v hv
  subst ho
  rw [h.rule.1,e,at_app rfl,List.getElem?_append_left (List.getElem?_eq_some_iff.1 hv).1]
  exact hv
theorem list32 {l:List UInt8} (h:l.length=32):∃ a0 a1 a2 a3 a4 a5 a6 a7 a8 a9 b0 b1 b2 b3 b4 b5 b6 b7 b8 b9 c0 c1 c2 c3 c4 c5 c6 c7 c8 c9 d0 d1,l=[a0,a1,a2,a3,a4,a5,a6,a7,a8,a9,b0,b1,b2,b3,b4,b5,b6,b7,b8,b9,c0,c1,c2,c3,c4,c5,c6,c7,c8,c9,d0,d1]:=by
  refine ⟨l[0],l[1],l[2],l[3],l[4],l[5],l[6],l[7],l[8],l[9],l[10],l[11],l[12],l[13],l[14],l[15],l[16],l[17],l[18],l[19],l[20],l[21],l[22],l[23],l[24],l[25],l[26],l[27],l[28],l[29],l[30],l[31],?_⟩
  refine List.ext_getElem (by simp [h]) fun i hi _=>?_
  have:i=0∨i=1∨i=2∨i=3∨i=4∨i=5∨i=6∨i=7∨i=8∨i=9∨i=10∨i=11∨i=12∨i=13∨i=14∨i=15∨i=16∨i=17∨i=18∨i=19∨i=20∨i=21∨i=22∨i=23∨i=24∨i=25∨i=26∨i=27∨i=28∨i=29∨i=30∨i=31:=by omega
  rcases this with rfl | rfl | rfl | rfl | rfl | rfl | rfl | rfl | rfl | rfl | rfl | rfl | rfl | rfl | rfl | rfl | rfl | rfl | rfl | rfl | rfl | rfl | rfl | rfl | rfl | rfl | rfl | rfl | rfl | rfl | rfl | rfl <;> rfl
/-- a follower is built of its public key and its number -/
theorem build_fo {w:World} {pub:List UInt8} {many:Int} (h:pub.length=32):(Instr.build 41 #[(0,.agg (byteVals pub).toArray),(1,.int .i64 many)]).run Tryd.prog w=.ok (ag (dg pub [.int .i64 many,.int .i64 0,.slice none 0 0,.slice none 0 0])) w:=by
  obtain ⟨a0,a1,a2,a3,a4,a5,a6,a7,a8,a9,b0,b1,b2,b3,b4,b5,b6,b7,b8,b9,c0,c1,c2,c3,c4,c5,c6,c7,c8,c9,d0,d1,rfl⟩:=list32 h
  kernel_rfl
theorem build_vr {w:World} {st:List UInt8} {no:Int} {A:Option Addr} {n c:Nat} (h:st.length=32):(Instr.build 30 #[(0,.int .i64 no),(1,.agg (byteVals st).toArray),(2,.slice A n c)]).run Tryd.prog w=.ok (ag (.int .i64 no::dg st [.slice A n c,.int .i64 0,.slice none 0 0,.slice none 0 0,.slice none 0 0])) w:=by
  obtain ⟨a0,a1,a2,a3,a4,a5,a6,a7,a8,a9,b0,b1,b2,b3,b4,b5,b6,b7,b8,b9,c0,c1,c2,c3,c4,c5,c6,c7,c8,c9,d0,d1,rfl⟩:=list32 h
  kernel_rfl

theorem args0_1 {ρ:Operand→Value} {x0:Operand} {v0:Value} (h0:ρ x0=v0):#[]++#[x0].map ρ=#[v0]:=by simp [h0]
theorem args0_2 {ρ:Operand→Value} {x0 x1:Operand} {v0 v1:Value} (h0:ρ x0=v0) (h1:ρ x1=v1):#[]++#[x0,x1].map ρ=#[v0,v1]:=by simp [h0,h1]
theorem all_succ {p:Nat→Prop} {k:Nat} (h:∀ j,j<k→p j) (hk:p k):∀ j,j<k+1→p j:=fun j hj=>by
  by_cases e:j<k
  · exact h j e
  · obtain rfl:j=k:=by omega
    exact hk
theorem fl_none {S:Nat→Prop} {w:World} {A:Option Addr} {n m c:Nat} {l:List UInt8} (h:Fl S w 1 (.slice A n c) m (byteVals l)) (hA:A.isNone=true):n=0∧l=[]:=by
  obtain ⟨h1,_,h2⟩:=h.cel
  have hb:=h.blen
  have h0:m=0:=by
    rcases Nat.eq_zero_or_pos m with e | e
    · exact e
    · obtain ⟨b,o,ha,_⟩:=h2.2.2 e
      rw [ha] at hA;cases hA
  exact ⟨by omega,List.eq_nil_of_length_eq_zero (by omega)⟩
theorem RLs.norm {α:Type} {R:RelT α} {k:Nat} {S:Nat→Prop} {w:World} {A:Option Addr} {n c:Nat} {l:List α} (h:RLs R k S w (.slice A n c) l):RLs R k S w (.slice A l.length c) l:=by
  obtain ⟨e,_⟩:=h.at
  rw [← e];exact h
theorem head_at {α:Type} {l:List α} {x:α} (h:l[0]?=some x):l.head?=some x:=by rw [List.head?_eq_getElem?];exact h
theorem head_no {α:Type} {l:List α} (h:l.length=0):l.head?=none:=by rw [List.eq_nil_of_length_eq_zero h];rfl
/-- the blocks of S are as_ they were, and so is all that is outside memory -/
def FarX (S:Nat→Prop) (w w':World):Prop:=Pres S w w'∧w'.os=w.os∧w'.tape=w.tape∧w'.output=w.output
section
variable {S S':Nat→Prop} {a b w w':World}
theorem FarX.refl (w:World):FarX S w w:=⟨Pres.refl w,rfl,rfl,rfl⟩
theorem FarX.trans (h:FarX S a b) (k:FarX S b w):FarX S a w:=⟨h.1.trans k.1,k.2.1.trans h.2.1,k.2.2.1.trans h.2.2.1,k.2.2.2.trans h.2.2.2⟩
theorem FarX.of_ext (h:Ext a w):FarX S a w:=⟨Pres.of_ext h,h.os,h.tape,h.output⟩
theorem FarX.ext (h:FarX S a w) (k:Ext w w'):FarX S a w':=h.trans (FarX.of_ext k)
theorem FarX.of_pres {r:Option Nat} (h:FarX S a w) (hg:w.grownBy w' r) (hp:Pres S w w'):FarX S a w':=h.trans ⟨hp,hg.os,hg.tape,hg.output⟩
theorem FarX.grownN {n:Nat} (h:FarX S a w) (hg:w.grownBy w' (some n)) (hn:¬ S n):FarX S a w':=h.of_pres hg ((Pres.refl w).grownN hg hn)
theorem FarX.gn {n:Nat} (h:FarX S a w) (hg:w.grownBy w' (some n)) (hn:¬ S n:=by first | omega | (intro h;simp at h;omega)):FarX S a w':=h.grownN hg hn
theorem FarX.gc {n:Nat} (h:FarX S a w) (hg:w.grownBy w' (some n)) (hn:¬ S n:=by exact fun h=>by first | (simp only [Clip] at h;omega) | exact h.1 rfl | exact h.2 rfl | exact h.2.1 rfl | exact h.2.2 rfl | exact h.2.2.1 rfl | exact h.2.2.2 rfl | omega):FarX S a w':=h.grownN hg hn
theorem FarX.row {base:Nat} {e:TypeId} {k n:Nat} {v:Value} {xs:List Value} (h:FarX S a w) (hg:w.grownBy w' v.ownBlock) (ho:w.ownsRow base e k v n xs) (hn:∀ b,base≤b→¬ S b):FarX S a w':=h.of_pres hg ((Pres.refl w).row hg ho hn)
theorem FarX.sub (h:FarX S' a w) (hs:∀ b,S b→S' b):FarX S a w:=⟨⟨h.1.1,fun b hb hl=>h.1.2 b (hs b hb) hl⟩,h.2⟩
theorem FarX.toExt (h:FarX S a w) (hs:∀ b,b<a.heap.size→S b):Ext a w:=⟨h.2.1,h.2.2.1,h.2.2.2,h.1.1,fun b hb=>h.1.2 b (hs b hb) hb⟩
end
theorem dstep_x {x y:List It} {a:It} (hx:x[0]?=some a) (hy:y.length=0):dstep (x.head?,y.head?)=[⟨a.name,[],true⟩]:=by rw [head_at hx,head_no hy];rfl
theorem dstep_y {x y:List It} {b:It} (hy:y[0]?=some b) (hx:x.length=0):dstep (x.head?,y.head?)=[⟨b.name,b.data,false⟩]:=by rw [head_at hy,head_no hx];rfl
theorem dstep_ne {x y:List It} {a b:It} (hx:x[0]?=some a) (hy:y[0]?=some b) (h:¬ a.data=b.data):dstep (x.head?,y.head?)=[⟨b.name,b.data,false⟩]:=by rw [head_at hy,head_at hx];exact if_neg h
theorem dstep_eq {x y:List It} {a b:It} (hx:x[0]?=some a) (hy:y[0]?=some b) (h:a.data=b.data):dstep (x.head?,y.head?)=[]:=by rw [head_at hy,head_at hx];exact if_pos h
def astepX (p:Option It × Option Cg):List It:=if aok p then astep p else []
theorem astep_x {x:List It} {y:List Cg} {a:It} (hx:x[0]?=some a) (hy:y.length=0):astepX (x.head?,y.head?)=[a]∧aok (x.head?,y.head?)=true:=by rw [head_at hx,head_no hy];exact ⟨rfl,rfl⟩
theorem astep_gone {x:List It} {y:List Cg} {b:Cg} (hy:y[0]?=some b) (h:b.gone=true):astepX (x.head?,y.head?)=[]∧aok (x.head?,y.head?)=decide ((0:Int)<((x.length:Nat):Int)):=by
  rw [head_at hy]
  cases x with
  | nil=>simp [astepX,aok,h]
  | cons a x=>simp [astepX,aok,astep,h] <;> omega
theorem astep_same {x:List It} {y:List Cg} {a:It} {b:Cg} (hx:x[0]?=some a) (hy:y[0]?=some b) (hg:b.gone=false) (h:a.data=b.data):astepX (x.head?,y.head?)=[]∧aok (x.head?,y.head?)=false:=by
  rw [head_at hy,head_at hx];simp [astepX,aok,hg,h]
theorem astep_ne {x:List It} {y:List Cg} {a:It} {b:Cg} (hx:x[0]?=some a) (hy:y[0]?=some b) (hg:b.gone=false) (h:¬ a.data=b.data):astepX (x.head?,y.head?)=[⟨b.name,b.data⟩]∧aok (x.head?,y.head?)=true:=by
  rw [head_at hy,head_at hx];simp [astepX,aok,astep,hg,h]
theorem astep_y {x:List It} {y:List Cg} {b:Cg} (hy:y[0]?=some b) (hg:b.gone=false) (hx:x.length=0):astepX (x.head?,y.head?)=[⟨b.name,b.data⟩]∧aok (x.head?,y.head?)=true:=by
  rw [head_at hy,head_no hx];simp [astepX,aok,astep,hg]
theorem blk_normal {id:Nat} {Q:Exit→Act→World→Prop} {a:Act} {w:World} (h:Q .normal a w):Exit.inBlock id Q .normal a w:=h
/-- a digest in the middle of a block, as_ bytes -/
theorem Fl.digB {w:World} {g:Nat} {t:TypeId} {cs A B:List Value} {st:List UInt8} {o:Nat} (h:Blk w g t cs) (e:cs=A++(byteVals st++B)) (ho:A.length=o) (hst:st.length=32):Fl (fun b=>b=g) w 1 (.slice (some ⟨g,o,none⟩) 32 32) 32 (byteVals st) :=
  ⟨some ⟨g,o,none⟩,32,rfl,⟨Nat.le_refl _,by omega⟩,⟨by rw [byteVals_len hst],byteVals_one _,fun _=>⟨g,o,rfl,h.lt,Blk.part h e ho⟩⟩,fun _=>⟨g,o,rfl,rfl⟩⟩
theorem num_step {n k e:Nat} {bb:List UInt8} (hk:k<8) (hl:bb.length=8) (h:∀ j,j<k→bb.getD j 0=(numL n 8).getD j 0) (he:e=8*(7 - k)):∀ j,j<k+1→(bb.set k (UInt8.ofNat (n / 2 ^ e))).getD j 0=(numL n 8).getD j 0:=by
  intro j hj
  by_cases ej:j=k
  · subst ej
    subst he
    have h1:=numL_getD n 8 (7 - j) (by omega)
    rw [show 8 - 1 - (7 - j)=j by omega] at h1
    rw [h1,List.getD_eq_getElem?_getD,List.getElem?_set_self (by omega),Option.getD_some,Nat.pow_mul]
  · rw [List.getD_eq_getElem?_getD,List.getElem?_set_ne (by omega),← List.getD_eq_getElem?_getD]
    exact h j (by omega)
theorem num_all {n:Nat} {bb:List UInt8} (hl:bb.length=8) (h:∀ j,j<8→bb.getD j 0=(numL n 8).getD j 0):bb=numL n 8:=by
  refine List.ext_getElem (by rw [hl,numL_len]) fun i h1 h2=>?_
  have:=h i (by omega)
  rw [List.getD_eq_getElem?_getD,List.getD_eq_getElem?_getD,List.getElem?_eq_getElem h1,List.getElem?_eq_getElem h2] at this
  exact this
theorem cgleaf_step {l:List Cg} {k:Nat} {x:Cg} {b:UInt8} (hx:l[k]?=some x) (hb:b=bitB x.gone):(l.take k).map cgLeaf++[tagged [99,104,97,110,103,101] ([b,UInt8.ofNat x.name.length]++x.name++x.data)]=(l.take (k+1)).map cgLeaf:=by
  subst hb
  rw [List.take_add_one,hx,List.map_append];rfl
theorem cgleaves_32 (l:List Cg):All32 (l.map cgLeaf):=fun x hx=>by
  obtain ⟨y,_,rfl⟩:=List.mem_map.1 hx
  exact cgLeaf_len y
theorem valid_name {l:List Cg} {i:Nat} {x:Cg} (h:validC l) (hx:l[i]?=some x):1≤x.name.length∧x.name.length≤64:=named_ok h.2.1 _ (List.mem_map.2 ⟨x,List.mem_of_getElem? hx,rfl⟩)
theorem splice_mid {old A M B cells new:List Value} {o:Nat} (e:old=A++(M++B)) (ho:A.length=o) (hm:M.length=cells.length) (e2:A++(cells++B)=new):splice old o cells=new:=by
  subst e
  subst e2
  subst ho
  unfold splice
  rw [List.take_left,List.drop_append,List.drop_of_length_le (by omega),List.nil_append,Nat.add_sub_cancel_left,← hm,List.drop_left]
theorem first_all {g:Vr→Int} {l:List Vr} {k:Nat} (h:∀ j,j<k→∀ x,l[j]?=some x→g x=0) (hk:l.length≤k):firstE g l=0:=by
  induction l generalizing k with
  | nil=>rfl
  | cons x l ih =>
    simp only [List.length_cons] at hk
    have h0:g x=0:=h 0 (by omega) x rfl
    rw [firstE,if_neg (fun q=>q h0)]
    exact ih (k:=k - 1) (fun j hj y hy=>h (j+1) (by omega) y (by simpa using hy)) (by omega)
theorem first_at {g:Vr→Int} {l:List Vr} {k:Nat} {x:Vr} (h:∀ j,j<k→∀ x,l[j]?=some x→g x=0) (hx:l[k]?=some x) (hg:g x≠0):firstE g l=g x:=by
  induction l generalizing k with
  | nil=>simp at hx
  | cons y l ih =>
    cases k with
    | zero=>simp at hx;subst hx;rw [firstE,if_pos hg]
    | succ k =>
      have h0:g y=0:=h 0 (by omega) y rfl
      rw [firstE,if_neg (fun q=>q h0)]
      exact ih (k:=k) (fun j hj z hz=>h (j+1) (by omega) z (by simpa using hz)) (by simpa using hx)
/-- the number that the i-th early version must pass -/
def lastN (n:Int) (l:List Vr) (i:Nat):Int:=if i=0 then n else (l.getD (i - 1) default).no
theorem lastN_succ {n:Int} {l:List Vr} {i:Nat} {x:Vr} (h:l[i]?=some x):x.no=lastN n l (i+1):=by simp [lastN,List.getD_eq_getElem?_getD,h]
theorem asc_no {n:Int} {l:List Vr} {k:Nat} {x:Vr} (hx:l[k]?=some x) (h:x.no≤lastN n l k):¬ asc n l:=fun q=>by
  have hk:k<l.length:=(List.getElem?_eq_some_iff.1 hx).1
  have h1:lastN n l k<(l.getD k default).no:=q k hk
  rw [List.getD_eq_getElem?_getD,hx,Option.getD_some] at h1
  omega
theorem asc_step {n:Int} {l:List Vr} {k:Nat} {x:Vr} (hx:l[k]?=some x) (h:¬ x.no≤lastN n l k):lastN n l k<(l.getD k default).no:=by
  rw [List.getD_eq_getElem?_getD,hx,Option.getD_some];omega
theorem asc_of {n:Int} {l:List Vr} {k:Nat} (h:∀ j,j<k→lastN n l j<(l.getD j default).no) (hk:l.length≤k):asc n l:=fun i hi=>h i (by omega)
theorem le_mid {a b x y o:Nat} (h:a=x) (k:b=y) (e:o+y≤x):o+b≤a:=by omega
theorem dec_ne0 {x:Int} (h:decide ((x:Int)≠(0:Int))=false):x=0:=Decidable.not_not.1 (of_decide_eq_false h)
theorem zero32_len:zero32.length=32:=rfl
abbrev vz:List Value:=(.int .i64 0)::dg zero32 [(.slice none 0 0),(.int .i64 0),(.slice none 0 0),(.slice none 0 0),(.slice none 0 0)]
abbrev fz:List Value:=dg zero32 [(.int .i64 0),(.int .i64 0),(.slice none 0 0),(.slice none 0 0)]
/-! strings compared -/
section
variable {ρ:Operand→Value} {W:World} {d:Option Tmp} {t:TypeId} {p:String} {af:Array Edge} {g:Option (Nat × Bool)} {x y:Operand} {xt yt:TypeId} {l m:List UInt8}
theorem lt_str (w:World) (a b:List UInt8):(binOp .lss 9 (strOf a) (strOf b)).run Tryd.prog w=.ok (.bool (ltS a b)) w:=by
  show Sem.run Tryd.prog (Op.stringOp .lss ⟨a.toArray⟩ ⟨b.toArray⟩) w=_
  simp [Op.stringOp,go_sem]
theorem ge_str (w:World) (a b:List UInt8):(binOp .geq 9 (strOf a) (strOf b)).run Tryd.prog w=.ok (.bool (!ltS a b)) w:=by
  show Sem.run Tryd.prog (Op.stringOp .geq ⟨a.toArray⟩ ⟨b.toArray⟩) w=_
  simp [Op.stringOp,go_sem]
theorem gt_str (w:World) (a b:List UInt8):(binOp .gtr 9 (strOf a) (strOf b)).run Tryd.prog w=.ok (.bool (ltS b a)) w:=by
  have h:(binOp .gtr 9 (.string ⟨a.toArray⟩) (.string ⟨b.toArray⟩)).run Tryd.prog w=.ok (.bool (!(Op.bytesLess a b||a==b))) w:=by
    show Sem.run Tryd.prog (Op.stringOp .gtr ⟨a.toArray⟩ ⟨b.toArray⟩) w=_
    simp [Op.stringOp,go_sem]
  unfold strOf
  rw [h]
  congr 2
  cases h1:ltS a b
  · have h1':Op.bytesLess a b=false:=h1
    rw [h1',Bool.false_or]
    by_cases h2:a=b
    · subst h2;rw [lt_irr];simp
    · cases h3:ltS b a
      · exact absurd (lt_conn h1 h3) h2
      · simp [h2]
  · have h1':Op.bytesLess a b=true:=h1
    rw [h1',lt_asym h1];rfl
theorem rn_lss_s (hx:ρ x=strOf l) (hy:ρ y=strOf m) (hu:xt=9):(execOp ρ ⟨d,.binOp .lss xt x y yt,t,p,af,g⟩).run Tryd.prog W=.ok (.value (.bool (ltS l m))) W:=by
  subst hu;exact rn_bin hx hy guard_str (lt_str W l m)
theorem rn_geq_s (hx:ρ x=strOf l) (hy:ρ y=strOf m) (hu:xt=9):(execOp ρ ⟨d,.binOp .geq xt x y yt,t,p,af,g⟩).run Tryd.prog W=.ok (.value (.bool (!ltS l m))) W:=by
  subst hu;exact rn_bin hx hy guard_str (ge_str W l m)
theorem rn_gtr_s (hx:ρ x=strOf l) (hy:ρ y=strOf m) (hu:xt=9):(execOp ρ ⟨d,.binOp .gtr xt x y yt,t,p,af,g⟩).run Tryd.prog W=.ok (.value (.bool (ltS m l))) W:=by
  subst hu;exact rn_bin hx hy guard_str (gt_str W l m)
end
/-- two structs in blocks, and a slot -/
theorem retCC1 {N:Nat} {m:List (Nat × Value)} {a:Act} {P:Program} {fn:Func} {R:Ending→World→Prop} {w:World} {t s u b g:Nat} {ty tt ty2 tt2:TypeId} {cs cs2:List Value} {v2:Value} {td td2:TypeDesc} (hF:Sl N m a) (hr:fn.results=#[.cell t ty,.cell s ty2,.tmp u]) (hv:look m t=some (.pointer (some ⟨b,0,none⟩))) (hw:look m s=some (.pointer (some ⟨g,0,none⟩))) (hu:look m u=some v2)
    (hB:Blk w b tt cs) (hty:P.underlying ty=some td) (hd:aggTy td=true) (hi:(P.info? ty).map (·.size)=some cs.length)
    (hB2:Blk w g tt2 cs2) (hty2:P.underlying ty2=some td2) (hd2:aggTy td2=true) (hi2:(P.info? ty2).map (·.size)=some cs2.length) (h:R (.returned (.tuple #[.agg cs.toArray,.agg cs2.toArray,v2])) w):bodyPost P fn R .ret a w:=by
  have h1:=hF.get hv
  have h2:=hF.get hu
  have h3:=hF.get hw
  simp only [Act.eval] at h1 h2 h3
  refine bodyPost_ret ?_ hF.2.1 h
  have e1:=run_loadVar_row (P:=P) w b tt ty cs.toArray (0,0) td hB hty (by cases td <;> simp_all [aggTy]) (by simpa using hi)
  have e2:=run_loadVar_row (P:=P) w g tt2 ty2 cs2.toArray (0,0) td2 hB2 hty2 (by cases td2 <;> simp_all [aggTy]) (by simpa using hi2)
  rw [Array.getD_eq_getD_getElem?] at h1 h2 h3
  simp [results,hr,h1,h2,h3,asAddr,e1,e2]
/-- a slice in a block, and a slot -/
theorem retS1 {N:Nat} {m:List (Nat × Value)} {a:Act} {P:Program} {fn:Func} {R:Ending→World→Prop} {w:World} {t u b:Nat} {ty tt:TypeId} {v1 v2:Value} {td:TypeDesc} (hF:Sl N m a) (hr:fn.results=#[.cell t ty,.tmp u]) (hv:look m t=some (.pointer (some ⟨b,0,none⟩))) (hu:look m u=some v2)
    (hB:Blk w b tt [v1]) (hty:P.underlying ty=some td) (hd:aggTy td=false) (h:R (.returned (.tuple #[v1,v2])) w):bodyPost P fn R .ret a w:=by
  have h1:=hF.get hv
  have h2:=hF.get hu
  simp only [Act.eval] at h1 h2
  refine bodyPost_ret ?_ hF.2.1 h
  have e0:(isAgg ty).run P w=.ok false w:=by cases td <;> simp_all [isAgg,run_underlying hty,aggTy]
  have e1:(loadVar ty ⟨b,0,none⟩).run P w=.ok v1 w:=by
    have hc:w.cell? ⟨b,0,none⟩=some v1:=by rw [hB.rule.1];rfl
    simp [loadVar,go_sem,e0,hc]
  rw [Array.getD_eq_getD_getElem?] at h1 h2
  simp [results,hr,h1,h2,asAddr,e1]
section
variable {P:Program} {ρ:Operand→Value} {W:World} {d:Option Tmp} {t:TypeId} {p:String} {af:Array Edge} {g:Option (Nat × Bool)} {x y:Operand}
theorem rn_eqnil {xt yt e:TypeId} {A:Option Addr} {n c:Nat} (hu:P.underlying xt=some (.slice e)) (hx:ρ x=.slice A n c) (hy:ρ y=.slice none 0 0):(execOp ρ ⟨d,.binOp .eql xt x y yt,t,p,af,g⟩).run P W=.ok (.value (.bool A.isNone)) W :=
  rn_bin hx hy (by unfold eqGuard;simp <;> rfl) (Lib.run_eql_slice_nil W _ _ A n c 0 0 hu)
end
end Go.Proofs.YtihgmaoghbnnaaaDoor

namespace Go.Proofs.YtihgmaoghbnnaaaDoor
open Go.RowKit

variable {S S':Nat→Prop}

theorem getIt {l:List It} {i:Nat} {x:It} (h:l[i]?=some x):(itNames l).getD i []=x.name:=by simp [itNames,List.getD_eq_getElem?_getD,h]
theorem getCg {l:List Cg} {i:Nat} {x:Cg} (h:l[i]?=some x):(cgNames l).getD i []=x.name:=by simp [cgNames,List.getD_eq_getElem?_getD,h]
theorem name_yes {l:List (List UInt8)} {i:Nat} {s:List UInt8} (h:l.getD i []=s) (ho:okN s) (hp:0<i→ltS (l.getD (i - 1) []) (l.getD i [])=true):nameAt l i:=⟨by rw [h];exact ho,hp⟩
theorem named_no {l:List (List UInt8)} {k:Nat} (hk:k<l.length) (h:¬ nameAt l k):¬ named l:=fun q=>h (q k hk)

set_option maxRecDepth 100000 in
set_option maxHeartbeats 1000000 in
theorem itemName_any (n:List UInt8) (d:Value) (w:World) :
  Calls Tryd.prog 26 #[.agg #[strOf n,d]] w (fun e w'=>e=.returned (strOf n)∧Ext w w'):=by
 refine calls_enter Tryd.func26 rfl rfl rfl fun _ hF=>?_
 refine wr fun K1 hK1=>?_
 refine hF.xb rfl fun g2 w3 _ F9 z6 z7 b4 hx5=>?_;clear hF
 refine F9.xv (strOf ([]))<|fun _ F11=>?_;clear F9
 refine wpList_nil (hK1 _ _ ?_);clear hK1
 refine wr fun K12 hK12=>?_
 refine F11.xv (vp g2)<|Xw (strOf n) (fun F=>rl F rfl (b4.rule.1 0))<|Xa rfl<|fun _ F18=>?_;clear F11
 refine wpList_nil (hK12 _ _ ?_);clear hK12
 refine wp_ret ?_
 refine ret1 F18 rfl rfl ?_
 exact ⟨rfl,((Ext.refl w).trans hx5)⟩

set_option maxRecDepth 100000 in
set_option maxHeartbeats 1000000 in
theorem changeName_b (n:List UInt8) (d:Value) (g:Bool) (w:World) :
  Calls Tryd.prog 74 #[.agg #[strOf n,d,.bool g]] w (fun e w'=>e=.returned (strOf n)∧Ext w w'):=by
 refine calls_enter Tryd.func74 rfl rfl rfl fun _ hF=>?_
 refine wr fun K1 hK1=>?_
 refine hF.xb rfl fun g2 w3 _ F9 z6 z7 b4 hx5=>?_;clear hF
 refine F9.xv (strOf ([]))<|fun _ F11=>?_;clear F9
 refine wpList_nil (hK1 _ _ ?_);clear hK1
 refine wr fun K12 hK12=>?_
 refine F11.xv (vp g2)<|Xv (vp g2)<|Xw (strOf n) (fun F=>rl F rfl (b4.rule.1 0))<|Xa rfl<|fun _ F20=>?_;clear F11
 refine wpList_nil (hK12 _ _ ?_);clear hK12
 refine wp_ret ?_
 refine ret1 F20 rfl rfl ?_
 exact ⟨rfl,((Ext.refl w).trans hx5)⟩

theorem changeName_any (n:List UInt8) (d:Value) {g:Bool} (v:Value) (w:World) (hv:v=.bool g:=by rfl):Calls Tryd.prog 74 #[.agg #[strOf n,d,v]] w (fun e w'=>e=.returned (strOf n)∧Ext w w'):=by
 subst hv
 exact changeName_b n d g w

set_option maxRecDepth 100000 in
set_option maxHeartbeats 1000000 in
theorem namedIt_any (A:Option Addr) (c:Nat) (l:List It) (w:World) (h:RLs RIt 2 S w (vl A l.length c) l) :
  Calls Tryd.prog 25 #[.slice A l.length c,.func (.func 26) #[] #[]] w (fun e w'=>e=.returned (.bool (decide (named (itNames l))))∧Ext w w'):=by
 have hc:RLs RIt 2 (Clip S w) w (vl A l.length c) l:=RLs.clip rIt h
 obtain ⟨-,hck,hcm⟩:=RLs.at h
 refine calls_enter Tryd.func25 rfl rfl rfl fun _ hF=>?_
 refine wr fun K1 hK1=>?_
 refine hF.xv (.bool false)<|fun _ F3=>?_;clear hF
 refine wpList_nil (hK1 _ _ ?_);clear hK1
 refine wp_seq_k fun K4 hK4=>?_
 refine wr fun K5 hK5=>?_
 refine F3.xm rfl<|Xv (vi (l.length:Nat))<|Xv (vi 0)<|fun _ F11=>?_;clear F3
 refine wpList_nil (hK5 _ _ ?_);clear hK5
 refine wp_block ?_
 refine wp_loop (fun a' W=>∃ (k:Nat),Sl 43 [(0,(vl A l.length c)),(1,(.func (.func 26) #[] #[])),(4,(.bool false)),(8,(vl A l.length c)),(9,(vi (l.length:Nat))),(10,(vi (k:Nat)))] a'∧k≤l.length∧(∀ j,j<k→nameAt (itNames l) j)∧Ext w W∧w.heap.size≤W.heap.size) (fun a' _=>l.length - (intOf (a'.eval (.tmp 10))).toNat) ⟨0,F11.j,(by omega),(fun j hj=>absurd hj (by omega)),(Ext.refl w),(Nat.le_refl _)⟩ ?_
 clear F11
 rintro a12 w13 ⟨k,F14,hp16,hp17,hx15,hf18⟩
 have hL19:=F14
 have z20:=hx15.size
 refine wr fun K21 hK21=>?_
 refine F14.xv (.bool (decide (((k:Nat):Int)<((l.length:Nat):Int))))<|fun _ F23=>?_;clear F14
 refine wpList_nil (hK21 _ _ ?_);clear hK21
 refine wp_seq_k fun K24 hK24=>?_
 by_cases hc25:((k:Nat):Int)<((l.length:Nat):Int)
 ·skip
  refine F23.ct ?_
  refine wp_skip ?_
  refine hK24 _ _ ?_;clear hK24
  refine wp_seq_k fun K26 hK26=>?_
  refine wp_block ?_
  refine wr fun K27 hK27=>?_
  refine F23.xm rfl<|fun _ F29=>?_;clear F23
  have d30:=(RLs.ext rIt hc hx15)
  obtain ⟨b31,o32,x33,cs34,hA35,hi36,hk37,hc38,hr39⟩:=RLs.get d30 (by omega:k<l.length)
  obtain ⟨A40,c41,rfl,hd42⟩:=hr39
  have z43:=(Fl.cel hd42).2.1
  refine F29.xw (.pointer (some ⟨b31,o32+k*2,none⟩)) (fun F=>rn_indexE Tryd.underlying22 inf66 ((F.get rfl).trans (by rw [hA35])) (F.get rfl) (by omega:(0:Int)≤(k:Nat)) (by omega:((k:Nat):Int)<((l.length:Nat):Int)) (by omega))<|Xw (.agg #[(strOf x33.name),(vl A40 x33.data.length c41)]) (fun F=>rn_loadN (cs:=[(strOf x33.name),(vl A40 x33.data.length c41)]) (F.get rfl) Tryd.underlying66 rfl inf66 hc38)<|fun _ F47=>?_;clear F29
  refine F47.xz [(strOf ([])),v0] 66 fun g48 w49 _ F55 z52 z53 b50 hx51=>?_;clear F47
  refine F55.xa rfl<|fun _ F57=>?_;clear F55
  refine F57.xs rfl b50 (fun w58 b59 hg60=>?_);have z61:=hg60.size
  refine wpList_nil (hK27 _ _ ?_);clear hK27
  refine wr fun K62 hK62=>?_
  refine F57.xm rfl<|Xw (.agg #[(strOf x33.name),(vl A40 x33.data.length c41)]) (fun F=>rb F rfl b59)<|fun _ F66=>?_;clear F57
  refine wpl_op (i:=2) rfl (o_call F66 rfl rfl rfl rfl (rn_callv (F66.get rfl) (args0_1 (F66.get rfl)) (by kernel_rfl)) (itemName_any x33.name (vl A40 x33.data.length c41) _) ?_)
  rintro _ w67 ⟨rfl,hx68⟩
  refine ⟨_,rfl,?_⟩;intro a69 F70;clear F66;have z71:=hx68.size
  refine F70.xw (vi (x33.name.length:Nat)) (fun F=>rn_lenS Tryd.underlying9 (F.get rfl))<|Xa rfl<|fun _ F75=>?_;clear F70
  refine wpList_nil (hK62 _ _ ?_);clear hK62
  have F76:=F75.k [0,1,4,8,9,10,11,6,5,7];clear F75
  refine wp_seq_k fun K77 hK77=>?_
  have hx79:∃ W,w67.drew=W∧Ext w67 W:=⟨_,rfl,(Ext.refl _).drew⟩
  obtain ⟨w78,e80,hx79⟩:=hx79
  have z81:=hx79.size
  refine any_start (fun W=>Ext w78 W∧Blk W g48 66 [(strOf x33.name),(vl A40 x33.data.length c41)]) (fun i=>false) 23 (.replicate 23 false) rfl rfl rfl ?_
  rw [e80];clear e80
  refine F76.ym 0 rfl<|Yv 1 (.bool (decide (((x33.name.length:Nat):Int)<(1:Int)))) rfl<|Ym 2 rfl<|fun _ F87=>?_;clear F76
  by_cases hc88:((x33.name.length:Nat):Int)<(1:Int)
  ·skip
   refine F87.yu 3 rfl<|Yu 4 rfl<|Yv 5 (.bool true) rfl<|Ym 6 rfl<|Yu 7 rfl<|Yu 8 rfl<|Yu 9 rfl<|Yn 10 rfl<|Yn 11 rfl<|Yn 12 rfl<|Yn 13 rfl<|Yn 14 rfl<|Yn 15 rfl<|Yn 17 rfl<|Yn 18 rfl<|fun _ F118=>?_;clear F87
   refine ao 16 rfl ?_
   refine o_skip F118 rfl (unwanted_undef rfl rfl rfl F118 rfl) rfl rfl ?_
   intro a119 F120;clear F118
   have b121:=((b59.ext hx68).ext hx79)
   refine ⟨fun _ _=>⟨(Ext.refl w78),b121⟩,?_⟩
   refine ao 19 rfl ?_
   refine o_skip F120 rfl (unwanted_undef rfl rfl rfl F120 rfl) rfl rfl ?_
   intro a122 F123;clear F120
   refine ⟨fun _ _=>⟨(Ext.refl w78),b121⟩,?_⟩
   refine F123.yn 20 rfl<|Yu 21 rfl<|Yv 22 (.bool true) rfl<|fun _ F129=>?_;clear F123
   refine nn (hK77 _ _ ?_);clear hK77
   have F130:=F129.k [0,1,4,8,9,10,11,6,5,7,41];clear F129
   refine F130.ct ?_
   refine wr fun K131 hK131=>?_
   refine F130.xv (.bool false)<|fun _ F133=>?_;clear F130
   refine wpList_nil (hK131 _ _ ?_);clear hK131
   refine wp_ret ?_
   refine ret_block ?_
   refine ret_then ?_
   refine ret_then ?_
   refine ret_block ?_
   refine ret_then ?_
   refine ret1 F133 rfl rfl ?_
   exact ⟨ret_bool (decide_eq_false (named_no (k:=k) (by simp [itNames];omega) (fun hq=>by have h1:=hq.1;rw [getIt hi36,okN] at h1;omega))).symm,((((((Ext.refl w).trans hx15).trans hx51).gn hg60).trans hx68).trans hx79)⟩
  refine F87.yg 3 (vi (x33.name.length:Nat)) rfl<|Yg 4 (.bool (decide ((64:Int)<((x33.name.length:Nat):Int)))) rfl<|Yv 5 (.bool (decide ((64:Int)<((x33.name.length:Nat):Int)))) rfl<|Ym 6 rfl<|fun _ F141=>?_;clear F87
  by_cases hc142:(64:Int)<((x33.name.length:Nat):Int)
  ·skip
   refine F141.yu 7 rfl<|Yu 8 rfl<|Yu 9 rfl<|Yn 10 rfl<|Yn 11 rfl<|Yn 12 rfl<|Yn 13 rfl<|Yn 14 rfl<|Yn 15 rfl<|Yn 17 rfl<|Yn 18 rfl<|fun _ F164=>?_;clear F141
   refine ao 16 rfl ?_
   refine o_skip F164 rfl (unwanted_undef rfl rfl rfl F164 rfl) rfl rfl ?_
   intro a165 F166;clear F164
   have b167:=((b59.ext hx68).ext hx79)
   refine ⟨fun _ _=>⟨(Ext.refl w78),b167⟩,?_⟩
   refine ao 19 rfl ?_
   refine o_skip F166 rfl (unwanted_undef rfl rfl rfl F166 rfl) rfl rfl ?_
   intro a168 F169;clear F166
   refine ⟨fun _ _=>⟨(Ext.refl w78),b167⟩,?_⟩
   refine F169.yn 20 rfl<|Yu 21 rfl<|Yv 22 (.bool true) rfl<|fun _ F175=>?_;clear F169
   refine nn (hK77 _ _ ?_);clear hK77
   have F176:=F175.k [0,1,4,8,9,10,11,6,5,7,41];clear F175
   refine F176.ct ?_
   refine wr fun K177 hK177=>?_
   refine F176.xv (.bool false)<|fun _ F179=>?_;clear F176
   refine wpList_nil (hK177 _ _ ?_);clear hK177
   refine wp_ret ?_
   refine ret_block ?_
   refine ret_then ?_
   refine ret_then ?_
   refine ret_block ?_
   refine ret_then ?_
   refine ret1 F179 rfl rfl ?_
   exact ⟨ret_bool (decide_eq_false (named_no (k:=k) (by simp [itNames];omega) (fun hq=>by have h1:=hq.1;rw [getIt hi36,okN] at h1;omega))).symm,((((((Ext.refl w).trans hx15).trans hx51).gn hg60).trans hx68).trans hx79)⟩
  refine F141.yg 7 (vi (k:Nat)) rfl<|Yg 8 (.bool (decide ((0:Int)<((k:Nat):Int)))) rfl<|Yg 9 (.bool (decide ((0:Int)<((k:Nat):Int)))) rfl<|fun _ F185=>?_;clear F141
  by_cases hc186:(0:Int)<((k:Nat):Int)
  ·skip
   refine F185.yg 10 (.func (.func 26) #[] #[]) rfl<|Yg 11 (vl A l.length c) rfl<|Yg 12 (vi (k:Nat)) rfl<|Ygw 13 (vi (k - 1:Nat)) rfl (fun F W=>rn_subN (a:=k) (b:=1) (F.get rfl) rfl (by omega) (by omega))<|fun _ F194=>?_;clear F185
   have d195:=(RLs.pres rIt hc ((((((Pres.refl w).ext hx15).ext hx51).gc hg60).ext hx68).ext hx79))
   obtain ⟨b196,o197,x198,cs199,hA200,hi201,hk202,hc203,hr204⟩:=RLs.get d195 (by omega:(k - 1)<l.length)
   obtain ⟨A205,c206,rfl,hd207⟩:=hr204
   have z208:=(Fl.cel hd207).2.1
   refine F194.ygw 14 (.pointer (some ⟨b196,o197+(k - 1)*2,none⟩)) rfl (fun F W=>rn_indexE Tryd.underlying22 inf66 ((F.get rfl).trans (by rw [hA200])) (F.get rfl) (by omega:(0:Int)≤(k - 1:Nat)) (by omega:((k - 1:Nat):Int)<((l.length:Nat):Int)) (by omega))<|fun _ F210=>?_;clear F194
   have b212:=((b59.ext hx68).ext hx79)
   have hS211:Ext w78 w78∧Blk w78 g48 66 [(strOf x33.name),(vl A40 x33.data.length c41)]:=⟨(Ext.refl w78),b212⟩
   refine F210.ysg 15 (.agg #[(strOf x198.name),(vl A205 x198.data.length c206)]) rfl hS211 (fun F W hW=>rn_loadN (cs:=[(strOf x198.name),(vl A205 x198.data.length c206)]) (F.get rfl) Tryd.underlying66 rfl inf66 (fun j u hu=>Ext.keep ((Ext.refl w78).trans hW.1) (hc203 j u hu)))<|Yg 17 (.func (.func 26) #[] #[]) rfl<|Ysg 18 (.agg #[(strOf x33.name),(vl A40 x33.data.length c41)]) rfl hS211 (fun F W hW=>rb F rfl hW.2)<|fun _ F218=>?_;clear F210
   refine ao 16 rfl ?_
   refine o_call F218 rfl (wanted_guard rfl rfl rfl F218 rfl (decide_eq_true hc186) rfl) rfl rfl (rn_callv (F218.get rfl) (args0_1 (F218.get rfl)) (by kernel_rfl)) (itemName_any x198.name (vl A205 x198.data.length c206) _) ?_
   rintro _ w219 ⟨rfl,hx220⟩
   refine ⟨_,rfl,?_⟩;intro a221 F222;clear F218;have z223:=hx220.size
   have b224:=(b212.ext hx220)
   refine ⟨fun _ _=>⟨((Ext.refl w78).trans hx220),b224⟩,?_⟩
   refine ao 19 rfl ?_
   refine o_call F222 rfl (wanted_guard rfl rfl rfl F222 rfl (decide_eq_true hc186) rfl) rfl rfl (rn_callv (F222.get rfl) (args0_1 (F222.get rfl)) (by kernel_rfl)) (itemName_any x33.name (vl A40 x33.data.length c41) _) ?_
   rintro _ w225 ⟨rfl,hx226⟩
   refine ⟨_,rfl,?_⟩;intro a227 F228;clear F222;have z229:=hx226.size
   have b230:=(b224.ext hx226)
   refine ⟨fun _ _=>⟨(((Ext.refl w78).trans hx220).trans hx226),b230⟩,?_⟩
   refine F228.ygw 20 (.bool (!ltS x198.name x33.name)) rfl (fun F W=>rn_geq_s (F.get rfl) (F.get rfl) rfl)<|Yg 21 (.bool (!ltS x198.name x33.name)) rfl<|Yv 22 (.bool (!ltS x198.name x33.name)) rfl<|fun _ F236=>?_;clear F228
   refine nn (hK77 _ _ ?_);clear hK77
   have F237:=F236.k [0,1,4,8,9,10,11,6,5,7,41];clear F236
   rcases Bool.eq_false_or_eq_true (ltS x198.name x33.name) with hc238 | hc238
   ·skip
    refine F237.cf ?_
    refine wp_skip ?_
    refine hK26 _ _ ?_;clear hK26
    refine wp_region_lit ?_
    refine F237.xv (vi (k+1:Nat))<|Xm rfl<|fun _ F242=>?_;clear F237
    refine wpList_nil ?_
    refine ⟨⟨(k+1),F242.j,(by omega),(all_succ hp17 (name_yes (getIt hi36) ⟨by omega,by omega⟩ (fun _=>by rw [getIt (show l[k - 1]?=_ from (congrArg (fun z=>l[z]?) (by omega:k - 1=(k - 1))).trans hi201),getIt hi36];exact hc238))),((((((((Ext.refl w).trans hx15).trans hx51).gn hg60).trans hx68).trans hx79).trans hx220).trans hx226),(by omega)⟩,?_⟩
    rw [F242.get (t:=10) rfl,hL19.get (t:=10) rfl];simp [intOf] <;> omega
   refine F237.ct ?_
   refine wr fun K243 hK243=>?_
   refine F237.xv (.bool false)<|fun _ F245=>?_;clear F237
   refine wpList_nil (hK243 _ _ ?_);clear hK243
   refine wp_ret ?_
   refine ret_block ?_
   refine ret_then ?_
   refine ret_then ?_
   refine ret_block ?_
   refine ret_then ?_
   refine ret1 F245 rfl rfl ?_
   exact ⟨ret_bool (decide_eq_false (named_no (k:=k) (by simp [itNames];omega) (fun hq=>by have h1:=hq.2 (by omega);rw [getIt (show l[k - 1]?=_ from (congrArg (fun z=>l[z]?) (by omega:k - 1=(k - 1))).trans hi201),getIt hi36,hc238] at h1;cases h1))).symm,((((((((Ext.refl w).trans hx15).trans hx51).gn hg60).trans hx68).trans hx79).trans hx220).trans hx226)⟩
  refine F185.yu 10 rfl<|Yu 11 rfl<|Yu 12 rfl<|Yu 13 rfl<|Yu 14 rfl<|Yu 15 rfl<|Yu 17 rfl<|Yu 18 rfl<|fun _ F261=>?_;clear F185
  refine ao 16 rfl ?_
  refine o_skip F261 rfl (unwanted_guard rfl rfl rfl F261 rfl (decide_eq_false hc186) rfl) rfl rfl ?_
  intro a262 F263;clear F261
  have b264:=((b59.ext hx68).ext hx79)
  refine ⟨fun _ _=>⟨(Ext.refl w78),b264⟩,?_⟩
  refine ao 19 rfl ?_
  refine o_skip F263 rfl (unwanted_guard rfl rfl rfl F263 rfl (decide_eq_false hc186) rfl) rfl rfl ?_
  intro a265 F266;clear F263
  refine ⟨fun _ _=>⟨(Ext.refl w78),b264⟩,?_⟩
  refine F266.yu 20 rfl<|Yg 21 (.bool false) rfl<|Yv 22 (.bool false) rfl<|fun _ F272=>?_;clear F266
  refine nn (hK77 _ _ ?_);clear hK77
  have F273:=F272.k [0,1,4,8,9,10,11,6,5,7,41];clear F272
  refine F273.cf ?_
  refine wp_skip ?_
  refine hK26 _ _ ?_;clear hK26
  refine wp_region_lit ?_
  refine F273.xv (vi (k+1:Nat))<|Xm rfl<|fun _ F277=>?_;clear F273
  refine wpList_nil ?_
  refine ⟨⟨(k+1),F277.j,(by omega),(all_succ hp17 (name_yes (getIt hi36) ⟨by omega,by omega⟩ (fun h0=>absurd h0 (by omega)))),((((((Ext.refl w).trans hx15).trans hx51).gn hg60).trans hx68).trans hx79),(by omega)⟩,?_⟩
  rw [F277.get (t:=10) rfl,hL19.get (t:=10) rfl];simp [intOf] <;> omega
 refine F23.cf ?_
 refine wp_exit ?_
 refine exit_then ?_
 refine exit_then ?_
 refine exit_here ?_
 refine hK4 _ _ ?_;clear hK4
 refine wr fun K278 hK278=>?_
 refine F23.xv (.bool true)<|fun _ F280=>?_;clear F23
 refine wpList_nil (hK278 _ _ ?_);clear hK278
 refine wp_ret ?_
 refine ret1 F280 rfl rfl ?_
 exact ⟨ret_bool (decide_eq_true (fun j hj=>hp17 j (by simp [itNames] at hj;omega))).symm,((Ext.refl w).trans hx15)⟩

theorem namedIt_at {v:Value} (l:List It) (w:World) (h:RLs RIt 2 S w v l) :
  Calls Tryd.prog 25 #[v,.func (.func 26) #[] #[]] w (fun e w'=>e=.returned (.bool (decide (named (itNames l))))∧Ext w w'):=by
 obtain ⟨A,c,rfl,_⟩:=h.form
 exact namedIt_any A c l w h

set_option maxRecDepth 100000 in
set_option maxHeartbeats 1000000 in
theorem namedCg_any (A:Option Addr) (c:Nat) (l:List Cg) (w:World) (h:RLs RCg 3 S w (vl A l.length c) l) :
  Calls Tryd.prog 73 #[.slice A l.length c,.func (.func 74) #[] #[]] w (fun e w'=>e=.returned (.bool (decide (named (cgNames l))))∧Ext w w'):=by
 have hc:RLs RCg 3 (Clip S w) w (vl A l.length c) l:=RLs.clip rCg h
 obtain ⟨-,hck,hcm⟩:=RLs.at h
 refine calls_enter Tryd.func73 rfl rfl rfl fun _ hF=>?_
 refine wr fun K1 hK1=>?_
 refine hF.xv (.bool false)<|fun _ F3=>?_;clear hF
 refine wpList_nil (hK1 _ _ ?_);clear hK1
 refine wp_seq_k fun K4 hK4=>?_
 refine wr fun K5 hK5=>?_
 refine F3.xm rfl<|Xv (vi (l.length:Nat))<|Xv (vi 0)<|fun _ F11=>?_;clear F3
 refine wpList_nil (hK5 _ _ ?_);clear hK5
 refine wp_block ?_
 refine wp_loop (fun a' W=>∃ (k:Nat),Sl 43 [(0,(vl A l.length c)),(1,(.func (.func 74) #[] #[])),(4,(.bool false)),(8,(vl A l.length c)),(9,(vi (l.length:Nat))),(10,(vi (k:Nat)))] a'∧k≤l.length∧(∀ j,j<k→nameAt (cgNames l) j)∧Ext w W∧w.heap.size≤W.heap.size) (fun a' _=>l.length - (intOf (a'.eval (.tmp 10))).toNat) ⟨0,F11.j,(by omega),(fun j hj=>absurd hj (by omega)),(Ext.refl w),(Nat.le_refl _)⟩ ?_
 clear F11
 rintro a12 w13 ⟨k,F14,hp16,hp17,hx15,hf18⟩
 have hL19:=F14
 have z20:=hx15.size
 refine wr fun K21 hK21=>?_
 refine F14.xv (.bool (decide (((k:Nat):Int)<((l.length:Nat):Int))))<|fun _ F23=>?_;clear F14
 refine wpList_nil (hK21 _ _ ?_);clear hK21
 refine wp_seq_k fun K24 hK24=>?_
 by_cases hc25:((k:Nat):Int)<((l.length:Nat):Int)
 ·skip
  refine F23.ct ?_
  refine wp_skip ?_
  refine hK24 _ _ ?_;clear hK24
  refine wp_seq_k fun K26 hK26=>?_
  refine wp_block ?_
  refine wr fun K27 hK27=>?_
  refine F23.xm rfl<|fun _ F29=>?_;clear F23
  have d30:=(RLs.ext rCg hc hx15)
  obtain ⟨b31,o32,x33,cs34,hA35,hi36,hk37,hc38,hr39⟩:=RLs.get d30 (by omega:k<l.length)
  obtain ⟨A40,c41,rfl,hd42⟩:=hr39
  have z43:=(Fl.cel hd42).2.1
  refine F29.xw (.pointer (some ⟨b31,o32+k*3,none⟩)) (fun F=>rn_indexE Tryd.underlying25 inf92 ((F.get rfl).trans (by rw [hA35])) (F.get rfl) (by omega:(0:Int)≤(k:Nat)) (by omega:((k:Nat):Int)<((l.length:Nat):Int)) (by omega))<|Xw (.agg #[(strOf x33.name),(vl A40 x33.data.length c41),(.bool x33.gone)]) (fun F=>rn_loadN (cs:=[(strOf x33.name),(vl A40 x33.data.length c41),(.bool x33.gone)]) (F.get rfl) Tryd.underlying92 rfl inf92 hc38)<|fun _ F47=>?_;clear F29
  refine F47.xz [(strOf ([])),v0,(.bool false)] 92 fun g48 w49 _ F55 z52 z53 b50 hx51=>?_;clear F47
  refine F55.xa rfl<|fun _ F57=>?_;clear F55
  refine F57.xs rfl b50 (fun w58 b59 hg60=>?_);have z61:=hg60.size
  refine wpList_nil (hK27 _ _ ?_);clear hK27
  refine wr fun K62 hK62=>?_
  refine F57.xm rfl<|Xw (.agg #[(strOf x33.name),(vl A40 x33.data.length c41),(.bool x33.gone)]) (fun F=>rb F rfl b59)<|fun _ F66=>?_;clear F57
  refine wpl_op (i:=2) rfl (o_call F66 rfl rfl rfl rfl (rn_callv (F66.get rfl) (args0_1 (F66.get rfl)) (by kernel_rfl)) (changeName_any x33.name (vl A40 x33.data.length c41) (.bool x33.gone) _) ?_)
  rintro _ w67 ⟨rfl,hx68⟩
  refine ⟨_,rfl,?_⟩;intro a69 F70;clear F66;have z71:=hx68.size
  refine F70.xw (vi (x33.name.length:Nat)) (fun F=>rn_lenS Tryd.underlying9 (F.get rfl))<|Xa rfl<|fun _ F75=>?_;clear F70
  refine wpList_nil (hK62 _ _ ?_);clear hK62
  have F76:=F75.k [0,1,4,8,9,10,11,6,5,7];clear F75
  refine wp_seq_k fun K77 hK77=>?_
  have hx79:∃ W,w67.drew=W∧Ext w67 W:=⟨_,rfl,(Ext.refl _).drew⟩
  obtain ⟨w78,e80,hx79⟩:=hx79
  have z81:=hx79.size
  refine any_start (fun W=>Ext w78 W∧Blk W g48 92 [(strOf x33.name),(vl A40 x33.data.length c41),(.bool x33.gone)]) (fun i=>false) 23 (.replicate 23 false) rfl rfl rfl ?_
  rw [e80];clear e80
  refine F76.ym 0 rfl<|Yv 1 (.bool (decide (((x33.name.length:Nat):Int)<(1:Int)))) rfl<|Ym 2 rfl<|fun _ F87=>?_;clear F76
  by_cases hc88:((x33.name.length:Nat):Int)<(1:Int)
  ·skip
   refine F87.yu 3 rfl<|Yu 4 rfl<|Yv 5 (.bool true) rfl<|Ym 6 rfl<|Yu 7 rfl<|Yu 8 rfl<|Yu 9 rfl<|Yn 10 rfl<|Yn 11 rfl<|Yn 12 rfl<|Yn 13 rfl<|Yn 14 rfl<|Yn 15 rfl<|Yn 17 rfl<|Yn 18 rfl<|fun _ F118=>?_;clear F87
   refine ao 16 rfl ?_
   refine o_skip F118 rfl (unwanted_undef rfl rfl rfl F118 rfl) rfl rfl ?_
   intro a119 F120;clear F118
   have b121:=((b59.ext hx68).ext hx79)
   refine ⟨fun _ _=>⟨(Ext.refl w78),b121⟩,?_⟩
   refine ao 19 rfl ?_
   refine o_skip F120 rfl (unwanted_undef rfl rfl rfl F120 rfl) rfl rfl ?_
   intro a122 F123;clear F120
   refine ⟨fun _ _=>⟨(Ext.refl w78),b121⟩,?_⟩
   refine F123.yn 20 rfl<|Yu 21 rfl<|Yv 22 (.bool true) rfl<|fun _ F129=>?_;clear F123
   refine nn (hK77 _ _ ?_);clear hK77
   have F130:=F129.k [0,1,4,8,9,10,11,6,5,7,41];clear F129
   refine F130.ct ?_
   refine wr fun K131 hK131=>?_
   refine F130.xv (.bool false)<|fun _ F133=>?_;clear F130
   refine wpList_nil (hK131 _ _ ?_);clear hK131
   refine wp_ret ?_
   refine ret_block ?_
   refine ret_then ?_
   refine ret_then ?_
   refine ret_block ?_
   refine ret_then ?_
   refine ret1 F133 rfl rfl ?_
   exact ⟨ret_bool (decide_eq_false (named_no (k:=k) (by simp [cgNames];omega) (fun hq=>by have h1:=hq.1;rw [getCg hi36,okN] at h1;omega))).symm,((((((Ext.refl w).trans hx15).trans hx51).gn hg60).trans hx68).trans hx79)⟩
  refine F87.yg 3 (vi (x33.name.length:Nat)) rfl<|Yg 4 (.bool (decide ((64:Int)<((x33.name.length:Nat):Int)))) rfl<|Yv 5 (.bool (decide ((64:Int)<((x33.name.length:Nat):Int)))) rfl<|Ym 6 rfl<|fun _ F141=>?_;clear F87
  by_cases hc142:(64:Int)<((x33.name.length:Nat):Int)
  ·skip
   refine F141.yu 7 rfl<|Yu 8 rfl<|Yu 9 rfl<|Yn 10 rfl<|Yn 11 rfl<|Yn 12 rfl<|Yn 13 rfl<|Yn 14 rfl<|Yn 15 rfl<|Yn 17 rfl<|Yn 18 rfl<|fun _ F164=>?_;clear F141
   refine ao 16 rfl ?_
   refine o_skip F164 rfl (unwanted_undef rfl rfl rfl F164 rfl) rfl rfl ?_
   intro a165 F166;clear F164
   have b167:=((b59.ext hx68).ext hx79)
   refine ⟨fun _ _=>⟨(Ext.refl w78),b167⟩,?_⟩
   refine ao 19 rfl ?_
   refine o_skip F166 rfl (unwanted_undef rfl rfl rfl F166 rfl) rfl rfl ?_
   intro a168 F169;clear F166
   refine ⟨fun _ _=>⟨(Ext.refl w78),b167⟩,?_⟩
   refine F169.yn 20 rfl<|Yu 21 rfl<|Yv 22 (.bool true) rfl<|fun _ F175=>?_;clear F169
   refine nn (hK77 _ _ ?_);clear hK77
   have F176:=F175.k [0,1,4,8,9,10,11,6,5,7,41];clear F175
   refine F176.ct ?_
   refine wr fun K177 hK177=>?_
   refine F176.xv (.bool false)<|fun _ F179=>?_;clear F176
   refine wpList_nil (hK177 _ _ ?_);clear hK177
   refine wp_ret ?_
   refine ret_block ?_
   refine ret_then ?_
   refine ret_then ?_
   refine ret_block ?_
   refine ret_then ?_
   refine ret1 F179 rfl rfl ?_
   exact ⟨ret_bool (decide_eq_false (named_no (k:=k) (by simp [cgNames];omega) (fun hq=>by have h1:=hq.1;rw [getCg hi36,okN] at h1;omega))).symm,((((((Ext.refl w).trans hx15).trans hx51).gn hg60).trans hx68).trans hx79)⟩
  refine F141.yg 7 (vi (k:Nat)) rfl<|Yg 8 (.bool (decide ((0:Int)<((k:Nat):Int)))) rfl<|Yg 9 (.bool (decide ((0:Int)<((k:Nat):Int)))) rfl<|fun _ F185=>?_;clear F141
  by_cases hc186:(0:Int)<((k:Nat):Int)
  ·skip
   refine F185.yg 10 (.func (.func 74) #[] #[]) rfl<|Yg 11 (vl A l.length c) rfl<|Yg 12 (vi (k:Nat)) rfl<|Ygw 13 (vi (k - 1:Nat)) rfl (fun F W=>rn_subN (a:=k) (b:=1) (F.get rfl) rfl (by omega) (by omega))<|fun _ F194=>?_;clear F185
   have d195:=(RLs.pres rCg hc ((((((Pres.refl w).ext hx15).ext hx51).gc hg60).ext hx68).ext hx79))
   obtain ⟨b196,o197,x198,cs199,hA200,hi201,hk202,hc203,hr204⟩:=RLs.get d195 (by omega:(k - 1)<l.length)
   obtain ⟨A205,c206,rfl,hd207⟩:=hr204
   have z208:=(Fl.cel hd207).2.1
   refine F194.ygw 14 (.pointer (some ⟨b196,o197+(k - 1)*3,none⟩)) rfl (fun F W=>rn_indexE Tryd.underlying25 inf92 ((F.get rfl).trans (by rw [hA200])) (F.get rfl) (by omega:(0:Int)≤(k - 1:Nat)) (by omega:((k - 1:Nat):Int)<((l.length:Nat):Int)) (by omega))<|fun _ F210=>?_;clear F194
   have b212:=((b59.ext hx68).ext hx79)
   have hS211:Ext w78 w78∧Blk w78 g48 92 [(strOf x33.name),(vl A40 x33.data.length c41),(.bool x33.gone)]:=⟨(Ext.refl w78),b212⟩
   refine F210.ysg 15 (.agg #[(strOf x198.name),(vl A205 x198.data.length c206),(.bool x198.gone)]) rfl hS211 (fun F W hW=>rn_loadN (cs:=[(strOf x198.name),(vl A205 x198.data.length c206),(.bool x198.gone)]) (F.get rfl) Tryd.underlying92 rfl inf92 (fun j u hu=>Ext.keep ((Ext.refl w78).trans hW.1) (hc203 j u hu)))<|Yg 17 (.func (.func 74) #[] #[]) rfl<|Ysg 18 (.agg #[(strOf x33.name),(vl A40 x33.data.length c41),(.bool x33.gone)]) rfl hS211 (fun F W hW=>rb F rfl hW.2)<|fun _ F218=>?_;clear F210
   refine ao 16 rfl ?_
   refine o_call F218 rfl (wanted_guard rfl rfl rfl F218 rfl (decide_eq_true hc186) rfl) rfl rfl (rn_callv (F218.get rfl) (args0_1 (F218.get rfl)) (by kernel_rfl)) (changeName_any x198.name (vl A205 x198.data.length c206) (.bool x198.gone) _) ?_
   rintro _ w219 ⟨rfl,hx220⟩
   refine ⟨_,rfl,?_⟩;intro a221 F222;clear F218;have z223:=hx220.size
   have b224:=(b212.ext hx220)
   refine ⟨fun _ _=>⟨((Ext.refl w78).trans hx220),b224⟩,?_⟩
   refine ao 19 rfl ?_
   refine o_call F222 rfl (wanted_guard rfl rfl rfl F222 rfl (decide_eq_true hc186) rfl) rfl rfl (rn_callv (F222.get rfl) (args0_1 (F222.get rfl)) (by kernel_rfl)) (changeName_any x33.name (vl A40 x33.data.length c41) (.bool x33.gone) _) ?_
   rintro _ w225 ⟨rfl,hx226⟩
   refine ⟨_,rfl,?_⟩;intro a227 F228;clear F222;have z229:=hx226.size
   have b230:=(b224.ext hx226)
   refine ⟨fun _ _=>⟨(((Ext.refl w78).trans hx220).trans hx226),b230⟩,?_⟩
   refine F228.ygw 20 (.bool (!ltS x198.name x33.name)) rfl (fun F W=>rn_geq_s (F.get rfl) (F.get rfl) rfl)<|Yg 21 (.bool (!ltS x198.name x33.name)) rfl<|Yv 22 (.bool (!ltS x198.name x33.name)) rfl<|fun _ F236=>?_;clear F228
   refine nn (hK77 _ _ ?_);clear hK77
   have F237:=F236.k [0,1,4,8,9,10,11,6,5,7,41];clear F236
   rcases Bool.eq_false_or_eq_true (ltS x198.name x33.name) with hc238 | hc238
   ·skip
    refine F237.cf ?_
    refine wp_skip ?_
    refine hK26 _ _ ?_;clear hK26
    refine wp_region_lit ?_
    refine F237.xv (vi (k+1:Nat))<|Xm rfl<|fun _ F242=>?_;clear F237
    refine wpList_nil ?_
    refine ⟨⟨(k+1),F242.j,(by omega),(all_succ hp17 (name_yes (getCg hi36) ⟨by omega,by omega⟩ (fun _=>by rw [getCg (show l[k - 1]?=_ from (congrArg (fun z=>l[z]?) (by omega:k - 1=(k - 1))).trans hi201),getCg hi36];exact hc238))),((((((((Ext.refl w).trans hx15).trans hx51).gn hg60).trans hx68).trans hx79).trans hx220).trans hx226),(by omega)⟩,?_⟩
    rw [F242.get (t:=10) rfl,hL19.get (t:=10) rfl];simp [intOf] <;> omega
   refine F237.ct ?_
   refine wr fun K243 hK243=>?_
   refine F237.xv (.bool false)<|fun _ F245=>?_;clear F237
   refine wpList_nil (hK243 _ _ ?_);clear hK243
   refine wp_ret ?_
   refine ret_block ?_
   refine ret_then ?_
   refine ret_then ?_
   refine ret_block ?_
   refine ret_then ?_
   refine ret1 F245 rfl rfl ?_
   exact ⟨ret_bool (decide_eq_false (named_no (k:=k) (by simp [cgNames];omega) (fun hq=>by have h1:=hq.2 (by omega);rw [getCg (show l[k - 1]?=_ from (congrArg (fun z=>l[z]?) (by omega:k - 1=(k - 1))).trans hi201),getCg hi36,hc238] at h1;cases h1))).symm,((((((((Ext.refl w).trans hx15).trans hx51).gn hg60).trans hx68).trans hx79).trans hx220).trans hx226)⟩
  refine F185.yu 10 rfl<|Yu 11 rfl<|Yu 12 rfl<|Yu 13 rfl<|Yu 14 rfl<|Yu 15 rfl<|Yu 17 rfl<|Yu 18 rfl<|fun _ F261=>?_;clear F185
  refine ao 16 rfl ?_
  refine o_skip F261 rfl (unwanted_guard rfl rfl rfl F261 rfl (decide_eq_false hc186) rfl) rfl rfl ?_
  intro a262 F263;clear F261
  have b264:=((b59.ext hx68).ext hx79)
  refine ⟨fun _ _=>⟨(Ext.refl w78),b264⟩,?_⟩
  refine ao 19 rfl ?_
  refine o_skip F263 rfl (unwanted_guard rfl rfl rfl F263 rfl (decide_eq_false hc186) rfl) rfl rfl ?_
  intro a265 F266;clear F263
  refine ⟨fun _ _=>⟨(Ext.refl w78),b264⟩,?_⟩
  refine F266.yu 20 rfl<|Yg 21 (.bool false) rfl<|Yv 22 (.bool false) rfl<|fun _ F272=>?_;clear F266
  refine nn (hK77 _ _ ?_);clear hK77
  have F273:=F272.k [0,1,4,8,9,10,11,6,5,7,41];clear F272
  refine F273.cf ?_
  refine wp_skip ?_
  refine hK26 _ _ ?_;clear hK26
  refine wp_region_lit ?_
  refine F273.xv (vi (k+1:Nat))<|Xm rfl<|fun _ F277=>?_;clear F273
  refine wpList_nil ?_
  refine ⟨⟨(k+1),F277.j,(by omega),(all_succ hp17 (name_yes (getCg hi36) ⟨by omega,by omega⟩ (fun h0=>absurd h0 (by omega)))),((((((Ext.refl w).trans hx15).trans hx51).gn hg60).trans hx68).trans hx79),(by omega)⟩,?_⟩
  rw [F277.get (t:=10) rfl,hL19.get (t:=10) rfl];simp [intOf] <;> omega
 refine F23.cf ?_
 refine wp_exit ?_
 refine exit_then ?_
 refine exit_then ?_
 refine exit_here ?_
 refine hK4 _ _ ?_;clear hK4
 refine wr fun K278 hK278=>?_
 refine F23.xv (.bool true)<|fun _ F280=>?_;clear F23
 refine wpList_nil (hK278 _ _ ?_);clear hK278
 refine wp_ret ?_
 refine ret1 F280 rfl rfl ?_
 exact ⟨ret_bool (decide_eq_true (fun j hj=>hp17 j (by simp [cgNames] at hj;omega))).symm,((Ext.refl w).trans hx15)⟩

theorem namedCg_at {v:Value} (l:List Cg) (w:World) (h:RLs RCg 3 S w v l) :
  Calls Tryd.prog 73 #[v,.func (.func 74) #[] #[]] w (fun e w'=>e=.returned (.bool (decide (named (cgNames l))))∧Ext w w'):=by
 obtain ⟨A,c,rfl,_⟩:=h.form
 exact namedCg_any A c l w h

set_option maxRecDepth 100000 in
set_option maxHeartbeats 1000000 in
theorem pcheck_any (A:Option Addr) (c:Nat) (l:List It) (w:World) (h:RLs RIt 2 S w (vl A l.length c) l) :
  Calls Tryd.prog 10 #[.slice A l.length c] w (fun e w'=>e=.returned (vi (checkE l))∧Ext w w'):=by
 have hc:RLs RIt 2 (Clip S w) w (vl A l.length c) l:=RLs.clip rIt h
 obtain ⟨-,hck,hcm⟩:=RLs.at h
 refine calls_enter Tryd.func10 rfl rfl rfl fun _ hF=>?_
 refine wr fun K1 hK1=>?_
 refine hF.xv (vi 0)<|fun _ F3=>?_;clear hF
 refine wpList_nil (hK1 _ _ ?_);clear hK1
 refine wp_seq_k fun K4 hK4=>?_
 refine wr fun K5 hK5=>?_
 refine F3.xm rfl<|Xv (vi (l.length:Nat))<|Xv (.bool (decide ((65536:Int)<((l.length:Nat):Int))))<|fun _ F11=>?_;clear F3
 refine wpList_nil (hK5 _ _ ?_);clear hK5
 by_cases hc12:(65536:Int)<((l.length:Nat):Int)
 ·skip
  refine F11.ct ?_
  refine wr fun K13 hK13=>?_
  refine F11.xv (vi 2)<|fun _ F15=>?_;clear F11
  refine wpList_nil (hK13 _ _ ?_);clear hK13
  refine wp_ret (ret_then ?_)
  refine ret1 F15 rfl rfl ?_
  exact ⟨ret_int (show checkE l=2 from if_pos (by omega)).symm,(Ext.refl w)⟩
 refine F11.cf ?_
 refine wp_skip ?_
 refine hK4 _ _ ?_;clear hK4
 refine wp_seq_k fun K16 hK16=>?_
 refine wr fun K17 hK17=>?_
 refine F11.xm rfl<|fun _ F19=>?_;clear F11
 refine F19.xc (namedIt_at (v:=(vl A l.length c)) l _ hc) ?_
 rintro _ w20 ⟨rfl,hx21⟩
 refine ⟨_,rfl,?_⟩;intro a22 F23;clear F19;have z24:=hx21.size
 refine F23.xw (.bool (!(decide (named (itNames l))))) (fun F=>rn_not' (F.get rfl) rfl)<|fun _ F26=>?_;clear F23
 refine wpList_nil (hK17 _ _ ?_);clear hK17
 have F27:=F26.k [0,2,5,8];clear F26
 by_cases hc28:named (itNames l)
 ·skip
  refine F27.cf ?_
  refine wp_skip ?_
  refine hK16 _ _ ?_;clear hK16
  refine wr fun K29 hK29=>?_
  refine F27.xv (vi 0)<|fun _ F31=>?_;clear F27
  refine wpList_nil (hK29 _ _ ?_);clear hK29
  refine wp_ret ?_
  refine ret1 F31 rfl rfl ?_
  exact ⟨ret_int (show checkE l=0 from (if_neg (by omega)).trans (if_pos (of_decide_eq_true (decide_eq_true hc28)))).symm,((Ext.refl w).trans hx21)⟩
 refine F27.ct ?_
 refine wr fun K32 hK32=>?_
 refine F27.xv (vi 400)<|fun _ F34=>?_;clear F27
 refine wpList_nil (hK32 _ _ ?_);clear hK32
 refine wp_ret (ret_then ?_)
 refine ret1 F34 rfl rfl ?_
 exact ⟨ret_int (show checkE l=400 from (if_neg (by omega)).trans (if_neg (of_decide_eq_false (decide_eq_false hc28)))).symm,((Ext.refl w).trans hx21)⟩

theorem pcheck_at {v:Value} (l:List It) (w:World) (h:RLs RIt 2 S w v l) :
  Calls Tryd.prog 10 #[v] w (fun e w'=>e=.returned (vi (checkE l))∧Ext w w'):=by
 obtain ⟨A,c,rfl,_⟩:=h.form
 exact pcheck_any A c l w h

end Go.Proofs.YtihgmaoghbnnaaaDoor

namespace Go.Proofs.YtihgmaoghbnnaaaDoor
open Go.RowKit

variable {S S':Nat→Prop}

theorem nofull {l:List Cg} {k:Nat} {x:Cg} (hx:l[k]?=some x) (h:(x.gone&&decide (0<((x.data.length:Nat):Int)))=false):∀ y,l[k]?=some y→¬ fullC y:=fun y hy hq=>by
 rw [hx] at hy;injection hy with hy;subst hy
 rw [hq.1,decide_eq_true (show 0<((x.data.length:Nat):Int) by have:=hq.2;omega)] at h;cases h
theorem isfull {x:Cg} (h:(x.gone&&decide (0<((x.data.length:Nat):Int)))=true):fullC x:=by
 rw [Bool.and_eq_true] at h
 exact ⟨h.1,by have:=of_decide_eq_true h.2;omega⟩
theorem all_mem {l:List Cg} {k:Nat} {p:Cg→Prop} (h:∀ j,j<k→∀ x,l[j]?=some x→p x) (hk:l.length≤k):∀ c∈l,p c:=fun c hc=>by
 obtain ⟨i,hi,rfl⟩:=List.getElem_of_mem hc
 exact h i (by omega) _ (List.getElem?_eq_getElem hi)
theorem contains_eq {l:List Cg} {r:Int} (h:0≤r↔¬ ∀ c∈l,¬ fullC c):decide ((0:Int)≤(r:Int))=(!decide (∀ c∈l,¬ fullC c)):=by
 by_cases q:∀ c∈l,¬ fullC c
 ·rw [decide_eq_true q,decide_eq_false (fun e=>h.1 e q)];rfl
 ·rw [decide_eq_false q,decide_eq_true (h.2 q)];rfl
theorem check_named {l:List It} (h:checkE l=0):l.length≤65536∧named (itNames l):=by
 unfold checkE at h
 split at h
 ·cases h
 ·split at h
  ·rename_i h1 h2;exact ⟨by omega,h2⟩
  ·cases h
theorem nm_ok {l:List It} {i:Nat} {x:It} (h:checkE l=0) (hx:l[i]?=some x):1≤x.name.length∧x.name.length≤64:=named_ok (check_named h).2 _ (List.mem_map.2 ⟨x,List.mem_of_getElem? hx,rfl⟩)
theorem leaves_step {l:List It} {k:Nat} {x:It} (hx:l[k]?=some x):(l.take k).map itLeaf++[itLeaf x]=(l.take (k+1)).map itLeaf:=by rw [List.take_add_one,hx,List.map_append];rfl
theorem leaves_32 (l:List It):All32 (l.map itLeaf):=fun x hx=>by
 obtain ⟨y,_,rfl⟩:=List.mem_map.1 hx
 exact itLeaf_len y

set_option maxRecDepth 100000 in
set_option maxHeartbeats 1000000 in
theorem bclone_any (A:Option Addr) (c:Nat) (l:List UInt8) (w:World) (hf:Fl S w 1 (vl A l.length c) l.length (byteVals l)) (hl:l.length≤140737488355328) :
  Calls Tryd.prog 47 #[.slice A l.length c] w (fun e w'=>∃ A c,e=.returned (vl A l.length c)∧Fl (fun b=>w.heap.size≤b) w' 1 (vl A l.length c) l.length (byteVals l)∧Ext w w'):=by
 have hc:Fl (Clip S w) w 1 (vl A l.length c) l.length (byteVals l):=hf.clip
 have hcc:=(Fl.cel hc).2.1
 refine calls_enter Tryd.func47 rfl rfl rfl fun _ hF=>?_
 refine wr fun K1 hK1=>?_
 refine hF.xv v0<|fun _ F3=>?_;clear hF
 refine wpList_nil (hK1 _ _ ?_);clear hK1
 refine wp_seq_k fun K4 hK4=>?_
 refine wr fun K5 hK5=>?_
 refine F3.xm rfl<|Xw (.bool A.isNone) (fun F=>rn_eqnil Tryd.underlying52 (F.get rfl) rfl)<|fun _ F9=>?_;clear F3
 refine wpList_nil (hK5 _ _ ?_);clear hK5
 rcases Bool.eq_false_or_eq_true A.isNone with hc10 | hc10
 ·skip
  refine F9.ct ?_
  refine wr fun K11 hK11=>?_
  refine F9.xv v0<|fun _ F13=>?_;clear F9
  refine wpList_nil (hK11 _ _ ?_);clear hK11
  refine wp_ret (ret_then ?_)
  refine ret1 F13 rfl rfl ?_
  obtain ⟨h1,h2⟩:=fl_none hf hc10
  subst h2;exact ⟨none,0,rfl,Fl.nil _,(Ext.refl w)⟩
 refine F9.cf ?_
 refine wp_skip ?_
 refine hK4 _ _ ?_;clear hK4
 refine wr fun K14 hK14=>?_
 refine F9.xn (fun g=>(vl (some ⟨g,0,none⟩) 0 0)) [] 5 (fun F=>rn_buildSlice (parts0 ) (by kernel_rfl)) fun g15 w16 _ F22 z19 z20 b17 hx18=>?_;clear F9
 refine F22.xm rfl<|fun _ F24=>?_;clear F22
 have d26:=(hc.ext hx18)
 have hf35:=(own_blk0 (k:=1) b17)
 refine wpl_op (i:=2) rfl (o_appB (zs:=byteVals l) El52 F24 rfl rfl rfl rfl rfl (F24.get rfl) (F24.get rfl) hf35 (Fl.cel d26).2.2 (by omega) (by omega) (by omega) (List.nil_append _) ?_)
 intro A27 c28 w29 a36 F37 r30 hg31 z32 z33 hnb34;clear F24;have z38:=hg31.size
 have hg39:w16.grownBy w29 (some g15):=hg31
 refine F37.xa rfl<|fun _ F41=>?_;clear F37
 refine wpList_nil (hK14 _ _ ?_);clear hK14
 have F42:=F41.k [0,2,4];clear F41
 refine wp_ret ?_
 refine ret1 F42 rfl rfl ?_
 have hrow:=Fl.own (S:=fun b=>w.heap.size≤b) r30 (fun b hb=>by omega) (byteVals_one _)
 have hzz:0+l.length=l.length:=Nat.zero_add _
 rw [hzz] at hrow ⊢
 exact ⟨_,_,rfl,hrow,(((Ext.refl w).trans hx18).gn hg39)⟩

theorem bclone_at {v:Value} {n:Nat} (l:List UInt8) (w:World) (hf:Fl S w 1 v n (byteVals l)) (hl:n≤140737488355328) :
  Calls Tryd.prog 47 #[v] w (fun e w'=>∃ A c,e=.returned (vl A n c)∧Fl (fun b=>w.heap.size≤b) w' 1 (vl A n c) n (byteVals l)∧Ext w w'):=by
 have hm:=hf.blen
 subst hm
 obtain ⟨A,c,rfl,_⟩:=hf.form
 exact bclone_any A c l w hf hl

set_option maxRecDepth 100000 in
set_option maxHeartbeats 1000000 in
theorem isNaNs_any (a:List UInt8) (w:World) :
  Calls Tryd.prog 84 #[strOf a] w (fun e w'=>e=.returned (.bool false)∧Ext w w'):=by
 refine calls_enter Tryd.func84 rfl rfl rfl fun _ hF=>?_
 refine wr fun K1 hK1=>?_
 refine hF.xv (.bool false)<|fun _ F3=>?_;clear hF
 refine wpList_nil (hK1 _ _ ?_);clear hK1
 refine wr fun K4 hK4=>?_
 refine F3.xm rfl<|Xm rfl<|Xw (.bool (!decide (a=a))) (fun F=>rn_nes (F.get rfl) (F.get rfl) rfl)<|Xa rfl<|fun _ F12=>?_;clear F3
 refine wpList_nil (hK4 _ _ ?_);clear hK4
 refine wp_ret ?_
 refine ret1 F12 rfl rfl ?_
 exact ⟨ret_bool (by simp),(Ext.refl w)⟩

set_option maxRecDepth 100000 in
set_option maxHeartbeats 1000000 in
theorem isNaNi_any (a:Int) (w:World) :
  Calls Tryd.prog 48 #[.int .i64 a] w (fun e w'=>e=.returned (.bool false)∧Ext w w'):=by
 refine calls_enter Tryd.func48 rfl rfl rfl fun _ hF=>?_
 refine wr fun K1 hK1=>?_
 refine hF.xv (.bool false)<|fun _ F3=>?_;clear hF
 refine wpList_nil (hK1 _ _ ?_);clear hK1
 refine wr fun K4 hK4=>?_
 refine F3.xm rfl<|Xm rfl<|Xv (.bool (decide ((a:Int)≠(a:Int))))<|Xa rfl<|fun _ F12=>?_;clear F3
 refine wpList_nil (hK4 _ _ ?_);clear hK4
 refine wp_ret ?_
 refine ret1 F12 rfl rfl ?_
 exact ⟨ret_bool (by simp),(Ext.refl w)⟩

set_option maxRecDepth 100000 in
set_option maxHeartbeats 1000000 in
theorem cmps_lt (a b:List UInt8) (w:World) (h:ltS a b=true) :
  Calls Tryd.prog 71 #[strOf a,strOf b] w (fun e w'=>e=.returned (vi (-1))∧Ext w w'):=by
 refine calls_enter Tryd.func71 rfl rfl rfl fun _ hF=>?_
 refine wr fun K1 hK1=>?_
 refine hF.xv (vi 0)<|fun _ F3=>?_;clear hF
 refine wpList_nil (hK1 _ _ ?_);clear hK1
 refine wr fun K4 hK4=>?_
 refine F3.xm rfl<|fun _ F6=>?_;clear F3
 refine F6.xc (isNaNs_any a _) ?_
 rintro _ w7 ⟨rfl,hx8⟩
 refine ⟨_,rfl,?_⟩;intro a9 F10;clear F6;have z11:=hx8.size
 refine F10.xa rfl<|fun _ F13=>?_;clear F10
 refine wpList_nil (hK4 _ _ ?_);clear hK4
 refine wr fun K14 hK14=>?_
 refine F13.xm rfl<|fun _ F16=>?_;clear F13
 refine F16.xc (isNaNs_any b _) ?_
 rintro _ w17 ⟨rfl,hx18⟩
 refine ⟨_,rfl,?_⟩;intro a19 F20;clear F16;have z21:=hx18.size
 refine F20.xa rfl<|fun _ F23=>?_;clear F20
 refine wpList_nil (hK14 _ _ ?_);clear hK14
 have F24:=F23.k [0,1,4,5,6];clear F23
 refine wp_seq_k fun K25 hK25=>?_
 refine wr fun K26 hK26=>?_
 refine F24.xm rfl<|fun _ F28=>?_;clear F24
 refine wpList_nil (hK26 _ _ ?_);clear hK26
 refine F28.cf ?_
 refine wp_skip ?_
 refine hK25 _ _ ?_;clear hK25
 refine wp_seq_k fun K29 hK29=>?_
 refine wr fun K30 hK30=>?_
 refine F28.xm rfl<|fun _ F32=>?_;clear F28
 refine wpList_nil (hK30 _ _ ?_);clear hK30
 refine F32.cf ?_
 refine wp_skip ?_
 refine hK29 _ _ ?_;clear hK29
 refine wp_seq_k fun K33 hK33=>?_
 refine wr fun K34 hK34=>?_
 refine F32.xm rfl<|Xm rfl<|Xw (.bool (ltS a b)) (fun F=>rn_lss_s (F.get rfl) (F.get rfl) rfl)<|fun _ F40=>?_;clear F32
 refine wpList_nil (hK34 _ _ ?_);clear hK34
 refine F40.ct ?_
 refine wr fun K41 hK41=>?_
 refine F40.xv (vi (-1))<|fun _ F43=>?_;clear F40
 refine wpList_nil (hK41 _ _ ?_);clear hK41
 refine wp_ret (ret_then ?_)
 refine ret1 F43 rfl rfl ?_
 exact ⟨rfl,(((Ext.refl w).trans hx8).trans hx18)⟩

set_option maxRecDepth 100000 in
set_option maxHeartbeats 1000000 in
theorem cmps_gt (a b:List UInt8) (w:World) (h1:ltS a b=false) (h:ltS b a=true) :
  Calls Tryd.prog 71 #[strOf a,strOf b] w (fun e w'=>e=.returned (vi 1)∧Ext w w'):=by
 refine calls_enter Tryd.func71 rfl rfl rfl fun _ hF=>?_
 refine wr fun K1 hK1=>?_
 refine hF.xv (vi 0)<|fun _ F3=>?_;clear hF
 refine wpList_nil (hK1 _ _ ?_);clear hK1
 refine wr fun K4 hK4=>?_
 refine F3.xm rfl<|fun _ F6=>?_;clear F3
 refine F6.xc (isNaNs_any a _) ?_
 rintro _ w7 ⟨rfl,hx8⟩
 refine ⟨_,rfl,?_⟩;intro a9 F10;clear F6;have z11:=hx8.size
 refine F10.xa rfl<|fun _ F13=>?_;clear F10
 refine wpList_nil (hK4 _ _ ?_);clear hK4
 refine wr fun K14 hK14=>?_
 refine F13.xm rfl<|fun _ F16=>?_;clear F13
 refine F16.xc (isNaNs_any b _) ?_
 rintro _ w17 ⟨rfl,hx18⟩
 refine ⟨_,rfl,?_⟩;intro a19 F20;clear F16;have z21:=hx18.size
 refine F20.xa rfl<|fun _ F23=>?_;clear F20
 refine wpList_nil (hK14 _ _ ?_);clear hK14
 have F24:=F23.k [0,1,4,5,6];clear F23
 refine wp_seq_k fun K25 hK25=>?_
 refine wr fun K26 hK26=>?_
 refine F24.xm rfl<|fun _ F28=>?_;clear F24
 refine wpList_nil (hK26 _ _ ?_);clear hK26
 refine F28.cf ?_
 refine wp_skip ?_
 refine hK25 _ _ ?_;clear hK25
 refine wp_seq_k fun K29 hK29=>?_
 refine wr fun K30 hK30=>?_
 refine F28.xm rfl<|fun _ F32=>?_;clear F28
 refine wpList_nil (hK30 _ _ ?_);clear hK30
 refine F32.cf ?_
 refine wp_skip ?_
 refine hK29 _ _ ?_;clear hK29
 refine wp_seq_k fun K33 hK33=>?_
 refine wr fun K34 hK34=>?_
 refine F32.xm rfl<|Xm rfl<|Xw (.bool (ltS a b)) (fun F=>rn_lss_s (F.get rfl) (F.get rfl) rfl)<|fun _ F40=>?_;clear F32
 refine wpList_nil (hK34 _ _ ?_);clear hK34
 refine F40.cf ?_
 refine wp_skip ?_
 refine hK33 _ _ ?_;clear hK33
 refine wp_seq_k fun K41 hK41=>?_
 refine wr fun K42 hK42=>?_
 refine F40.xm rfl<|Xm rfl<|Xw (.bool (ltS b a)) (fun F=>rn_gtr_s (F.get rfl) (F.get rfl) rfl)<|fun _ F48=>?_;clear F40
 refine wpList_nil (hK42 _ _ ?_);clear hK42
 have F49:=F48.k [0,1,4,5,6,11,13,16,19];clear F48
 refine F49.ct ?_
 refine wr fun K50 hK50=>?_
 refine F49.xv (vi 1)<|fun _ F52=>?_;clear F49
 refine wpList_nil (hK50 _ _ ?_);clear hK50
 refine wp_ret (ret_then ?_)
 refine ret1 F52 rfl rfl ?_
 exact ⟨rfl,(((Ext.refl w).trans hx8).trans hx18)⟩

set_option maxRecDepth 100000 in
set_option maxHeartbeats 1000000 in
theorem cmps_eq (a b:List UInt8) (w:World) (h1:ltS a b=false) (h:ltS b a=false) :
  Calls Tryd.prog 71 #[strOf a,strOf b] w (fun e w'=>e=.returned (vi 0)∧Ext w w'):=by
 refine calls_enter Tryd.func71 rfl rfl rfl fun _ hF=>?_
 refine wr fun K1 hK1=>?_
 refine hF.xv (vi 0)<|fun _ F3=>?_;clear hF
 refine wpList_nil (hK1 _ _ ?_);clear hK1
 refine wr fun K4 hK4=>?_
 refine F3.xm rfl<|fun _ F6=>?_;clear F3
 refine F6.xc (isNaNs_any a _) ?_
 rintro _ w7 ⟨rfl,hx8⟩
 refine ⟨_,rfl,?_⟩;intro a9 F10;clear F6;have z11:=hx8.size
 refine F10.xa rfl<|fun _ F13=>?_;clear F10
 refine wpList_nil (hK4 _ _ ?_);clear hK4
 refine wr fun K14 hK14=>?_
 refine F13.xm rfl<|fun _ F16=>?_;clear F13
 refine F16.xc (isNaNs_any b _) ?_
 rintro _ w17 ⟨rfl,hx18⟩
 refine ⟨_,rfl,?_⟩;intro a19 F20;clear F16;have z21:=hx18.size
 refine F20.xa rfl<|fun _ F23=>?_;clear F20
 refine wpList_nil (hK14 _ _ ?_);clear hK14
 have F24:=F23.k [0,1,4,5,6];clear F23
 refine wp_seq_k fun K25 hK25=>?_
 refine wr fun K26 hK26=>?_
 refine F24.xm rfl<|fun _ F28=>?_;clear F24
 refine wpList_nil (hK26 _ _ ?_);clear hK26
 refine F28.cf ?_
 refine wp_skip ?_
 refine hK25 _ _ ?_;clear hK25
 refine wp_seq_k fun K29 hK29=>?_
 refine wr fun K30 hK30=>?_
 refine F28.xm rfl<|fun _ F32=>?_;clear F28
 refine wpList_nil (hK30 _ _ ?_);clear hK30
 refine F32.cf ?_
 refine wp_skip ?_
 refine hK29 _ _ ?_;clear hK29
 refine wp_seq_k fun K33 hK33=>?_
 refine wr fun K34 hK34=>?_
 refine F32.xm rfl<|Xm rfl<|Xw (.bool (ltS a b)) (fun F=>rn_lss_s (F.get rfl) (F.get rfl) rfl)<|fun _ F40=>?_;clear F32
 refine wpList_nil (hK34 _ _ ?_);clear hK34
 refine F40.cf ?_
 refine wp_skip ?_
 refine hK33 _ _ ?_;clear hK33
 refine wp_seq_k fun K41 hK41=>?_
 refine wr fun K42 hK42=>?_
 refine F40.xm rfl<|Xm rfl<|Xw (.bool (ltS b a)) (fun F=>rn_gtr_s (F.get rfl) (F.get rfl) rfl)<|fun _ F48=>?_;clear F40
 refine wpList_nil (hK42 _ _ ?_);clear hK42
 have F49:=F48.k [0,1,4,5,6,11,13,16,19];clear F48
 refine F49.cf ?_
 refine wp_skip ?_
 refine hK41 _ _ ?_;clear hK41
 refine wr fun K50 hK50=>?_
 refine F49.xv (vi 0)<|fun _ F52=>?_;clear F49
 refine wpList_nil (hK50 _ _ ?_);clear hK50
 refine wp_ret ?_
 refine ret1 F52 rfl rfl ?_
 exact ⟨rfl,(((Ext.refl w).trans hx8).trans hx18)⟩

def cmpI (a b:Int):Int:=if a<b then -1 else if b<a then 1 else 0
set_option maxRecDepth 100000 in
set_option maxHeartbeats 1000000 in
theorem cmpi_any (a b:Int) (w:World) :
  Calls Tryd.prog 31 #[.int .i64 a,.int .i64 b] w (fun e w'=>e=.returned (vi (cmpI a b))∧Ext w w'):=by
 refine calls_enter Tryd.func31 rfl rfl rfl fun _ hF=>?_
 refine wr fun K1 hK1=>?_
 refine hF.xv (vi 0)<|fun _ F3=>?_;clear hF
 refine wpList_nil (hK1 _ _ ?_);clear hK1
 refine wr fun K4 hK4=>?_
 refine F3.xm rfl<|fun _ F6=>?_;clear F3
 refine F6.xc (isNaNi_any a _) ?_
 rintro _ w7 ⟨rfl,hx8⟩
 refine ⟨_,rfl,?_⟩;intro a9 F10;clear F6;have z11:=hx8.size
 refine F10.xa rfl<|fun _ F13=>?_;clear F10
 refine wpList_nil (hK4 _ _ ?_);clear hK4
 refine wr fun K14 hK14=>?_
 refine F13.xm rfl<|fun _ F16=>?_;clear F13
 refine F16.xc (isNaNi_any b _) ?_
 rintro _ w17 ⟨rfl,hx18⟩
 refine ⟨_,rfl,?_⟩;intro a19 F20;clear F16;have z21:=hx18.size
 refine F20.xa rfl<|fun _ F23=>?_;clear F20
 refine wpList_nil (hK14 _ _ ?_);clear hK14
 have F24:=F23.k [0,1,4,5,6];clear F23
 refine wp_seq_k fun K25 hK25=>?_
 refine wr fun K26 hK26=>?_
 refine F24.xm rfl<|fun _ F28=>?_;clear F24
 refine wpList_nil (hK26 _ _ ?_);clear hK26
 refine F28.cf ?_
 refine wp_skip ?_
 refine hK25 _ _ ?_;clear hK25
 refine wp_seq_k fun K29 hK29=>?_
 refine wr fun K30 hK30=>?_
 refine F28.xm rfl<|fun _ F32=>?_;clear F28
 refine wpList_nil (hK30 _ _ ?_);clear hK30
 refine F32.cf ?_
 refine wp_skip ?_
 refine hK29 _ _ ?_;clear hK29
 refine wp_seq_k fun K33 hK33=>?_
 refine wr fun K34 hK34=>?_
 refine F32.xm rfl<|Xm rfl<|Xv (.bool (decide ((a:Int)<(b:Int))))<|fun _ F40=>?_;clear F32
 refine wpList_nil (hK34 _ _ ?_);clear hK34
 by_cases hc41:(a:Int)<(b:Int)
 ·skip
  refine F40.ct ?_
  refine wr fun K42 hK42=>?_
  refine F40.xv (vi (-1))<|fun _ F44=>?_;clear F40
  refine wpList_nil (hK42 _ _ ?_);clear hK42
  refine wp_ret (ret_then ?_)
  refine ret1 F44 rfl rfl ?_
  exact ⟨ret_int (show -1=cmpI a b by unfold cmpI;split <;> (try split) <;> omega),(((Ext.refl w).trans hx8).trans hx18)⟩
 refine F40.cf ?_
 refine wp_skip ?_
 refine hK33 _ _ ?_;clear hK33
 refine wp_seq_k fun K45 hK45=>?_
 refine wr fun K46 hK46=>?_
 refine F40.xm rfl<|Xm rfl<|Xv (.bool (decide ((b:Int)<(a:Int))))<|fun _ F52=>?_;clear F40
 refine wpList_nil (hK46 _ _ ?_);clear hK46
 have F53:=F52.k [0,1,4,5,6,11,13,16,19];clear F52
 by_cases hc54:(b:Int)<(a:Int)
 ·skip
  refine F53.ct ?_
  refine wr fun K55 hK55=>?_
  refine F53.xv (vi 1)<|fun _ F57=>?_;clear F53
  refine wpList_nil (hK55 _ _ ?_);clear hK55
  refine wp_ret (ret_then ?_)
  refine ret1 F57 rfl rfl ?_
  exact ⟨ret_int (show 1=cmpI a b by unfold cmpI;split <;> (try split) <;> omega),(((Ext.refl w).trans hx8).trans hx18)⟩
 refine F53.cf ?_
 refine wp_skip ?_
 refine hK45 _ _ ?_;clear hK45
 refine wr fun K58 hK58=>?_
 refine F53.xv (vi 0)<|fun _ F60=>?_;clear F53
 refine wpList_nil (hK58 _ _ ?_);clear hK58
 refine wp_ret ?_
 refine ret1 F60 rfl rfl ?_
 exact ⟨ret_int (show 0=cmpI a b by unfold cmpI;split <;> (try split) <;> omega),(((Ext.refl w).trans hx8).trans hx18)⟩

set_option maxRecDepth 100000 in
set_option maxHeartbeats 1000000 in
theorem full_any (a:List UInt8) (A:Option Addr) (n c:Nat) (g:Bool) (w:World) :
  Calls Tryd.prog 72 #[.agg #[strOf a,.slice A n c,.bool g]] w (fun e w'=>e=.returned (.bool (g&&decide (0<((n:Nat):Int))))∧Ext w w'):=by
 refine calls_enter Tryd.func72 rfl rfl rfl fun _ hF=>?_
 refine wr fun K1 hK1=>?_
 refine hF.xb rfl fun g2 w3 _ F9 z6 z7 b4 hx5=>?_;clear hF
 refine F9.xv (.bool false)<|fun _ F11=>?_;clear F9
 refine wpList_nil (hK1 _ _ ?_);clear hK1
 refine wr fun K12 hK12=>?_
 refine F11.xv (.pointer (some ⟨g2,2,none⟩))<|Xw (.bool g) (fun F=>rl F rfl (b4.rule.1 2))<|Xm rfl<|fun _ F18=>?_;clear F11
 rcases Bool.eq_false_or_eq_true g with hc19 | hc19
 ·skip
  refine F18.xg (vp g2)<|Xg (.pointer (some ⟨g2,1,none⟩))<|Xgw (vl A n c) (fun F=>rl F rfl (b4.rule.1 1))<|Xg (vi (n:Nat))<|Xg (.bool (decide ((0:Int)<((n:Nat):Int))))<|Xv (.bool (decide ((0:Int)<((n:Nat):Int))))<|Xa rfl<|fun _ F33=>?_;clear F18
  refine wpList_nil (hK12 _ _ ?_);clear hK12
  have F34:=F33.k [0,1,2];clear F33
  refine wp_ret ?_
  refine ret1 F34 rfl rfl ?_
  exact ⟨ret_bool (show (decide ((0:Int)<((n:Nat):Int)))=(g&&decide (0<((n:Nat):Int))) by simp_all),((Ext.refl w).trans hx5)⟩
 refine F18.xu<|Xu<|Xu<|Xu<|Xu<|Xv (.bool false)<|Xa rfl<|fun _ F48=>?_;clear F18
 refine wpList_nil (hK12 _ _ ?_);clear hK12
 have F49:=F48.k [0,1,2];clear F48
 refine wp_ret ?_
 refine ret1 F49 rfl rfl ?_
 exact ⟨ret_bool (show false=(g&&decide (0<((n:Nat):Int))) by simp_all),((Ext.refl w).trans hx5)⟩

set_option maxRecDepth 100000 in
set_option maxHeartbeats 1000000 in
theorem index_any (A:Option Addr) (c:Nat) (l:List Cg) (w:World) (h:RLs RCg 3 S w (vl A l.length c) l) :
  Calls Tryd.prog 85 #[.slice A l.length c,.func (.func 72) #[] #[]] w (fun e w'=>∃ r,e=.returned (vi r)∧(0≤r↔¬ ∀ c∈l,¬ fullC c)∧Ext w w'):=by
 have hc:RLs RCg 3 (Clip S w) w (vl A l.length c) l:=RLs.clip rCg h
 obtain ⟨-,hck,hcm⟩:=RLs.at h
 refine calls_enter Tryd.func85 rfl rfl rfl fun _ hF=>?_
 refine wr fun K1 hK1=>?_
 refine hF.xv (vi 0)<|fun _ F3=>?_;clear hF
 refine wpList_nil (hK1 _ _ ?_);clear hK1
 refine wp_seq_k fun K4 hK4=>?_
 refine wr fun K5 hK5=>?_
 refine F3.xm rfl<|Xv (vi (l.length:Nat))<|Xv (vi 0)<|fun _ F11=>?_;clear F3
 refine wpList_nil (hK5 _ _ ?_);clear hK5
 refine wp_block ?_
 refine wp_loop (fun a' W=>∃ (k:Nat),Sl 19 [(0,(vl A l.length c)),(1,(.func (.func 72) #[] #[])),(4,(vi 0)),(7,(vi (l.length:Nat))),(8,(vi (k:Nat)))] a'∧k≤l.length∧(∀ j,j<k→∀ x,l[j]?=some x→¬ fullC x)∧Ext w W∧w.heap.size≤W.heap.size) (fun a' _=>l.length - (intOf (a'.eval (.tmp 8))).toNat) ⟨0,F11.j,(by omega),(fun j hj=>absurd hj (by omega)),(Ext.refl w),(Nat.le_refl _)⟩ ?_
 clear F11
 rintro a12 w13 ⟨k,F14,hp16,hp17,hx15,hf18⟩
 have hL19:=F14
 have z20:=hx15.size
 refine wr fun K21 hK21=>?_
 refine F14.xv (.bool (decide (((k:Nat):Int)<((l.length:Nat):Int))))<|fun _ F23=>?_;clear F14
 refine wpList_nil (hK21 _ _ ?_);clear hK21
 refine wp_seq_k fun K24 hK24=>?_
 by_cases hc25:((k:Nat):Int)<((l.length:Nat):Int)
 ·skip
  refine F23.ct ?_
  refine wp_skip ?_
  refine hK24 _ _ ?_;clear hK24
  refine wp_seq_k fun K26 hK26=>?_
  refine wp_block ?_
  refine wr fun K27 hK27=>?_
  refine F23.xm rfl<|Xa rfl<|fun _ F31=>?_;clear F23
  refine wpList_nil (hK27 _ _ ?_);clear hK27
  refine wr fun K32 hK32=>?_
  refine F31.xm rfl<|Xm rfl<|Xm rfl<|fun _ F38=>?_;clear F31
  have d39:=(RLs.ext rCg hc hx15)
  obtain ⟨b40,o41,x42,cs43,hA44,hi45,hk46,hc47,hr48⟩:=RLs.get d39 (by omega:k<l.length)
  obtain ⟨A49,c50,rfl,hd51⟩:=hr48
  have z52:=(Fl.cel hd51).2.1
  refine F38.xw (.pointer (some ⟨b40,o41+k*3,none⟩)) (fun F=>rn_indexE Tryd.underlying25 inf92 ((F.get rfl).trans (by rw [hA44])) (F.get rfl) (by omega:(0:Int)≤(k:Nat)) (by omega:((k:Nat):Int)<((l.length:Nat):Int)) (by omega))<|Xw (.agg #[(strOf x42.name),(vl A49 x42.data.length c50),(.bool x42.gone)]) (fun F=>rn_loadN (cs:=[(strOf x42.name),(vl A49 x42.data.length c50),(.bool x42.gone)]) (F.get rfl) Tryd.underlying92 rfl inf92 hc47)<|fun _ F56=>?_;clear F38
  refine wpl_op (i:=5) rfl (o_call F56 rfl rfl rfl rfl (rn_callv (F56.get rfl) (args0_1 (F56.get rfl)) (by kernel_rfl)) (full_any x42.name A49 x42.data.length c50 x42.gone _) ?_)
  rintro _ w57 ⟨rfl,hx58⟩
  refine ⟨_,rfl,?_⟩;intro a59 F60;clear F56;have z61:=hx58.size
  refine wpList_nil (hK32 _ _ ?_);clear hK32
  have F62:=F60.k [0,1,4,7,8,9,5,16];clear F60
  rcases Bool.eq_false_or_eq_true (x42.gone&&decide (0<((x42.data.length:Nat):Int))) with hc63 | hc63
  ·skip
   refine F62.ct ?_
   refine wr fun K64 hK64=>?_
   refine F62.xm rfl<|Xa rfl<|fun _ F68=>?_;clear F62
   refine wpList_nil (hK64 _ _ ?_);clear hK64
   refine wp_ret ?_
   refine ret_block ?_
   refine ret_then ?_
   refine ret_then ?_
   refine ret_block ?_
   refine ret_then ?_
   refine ret1 F68 rfl rfl ?_
   exact ⟨_,rfl,⟨fun _ hq=>hq x42 (List.mem_of_getElem? hi45) (isfull hc63),fun _=>by omega⟩,(((Ext.refl w).trans hx15).trans hx58)⟩
  refine F62.cf ?_
  refine wp_skip ?_
  refine hK26 _ _ ?_;clear hK26
  refine wp_region_lit ?_
  refine F62.xv (vi (k+1:Nat))<|Xm rfl<|fun _ F72=>?_;clear F62
  refine wpList_nil ?_
  refine ⟨⟨(k+1),F72.j,(by omega),(all_succ hp17 (nofull hi45 hc63)),(((Ext.refl w).trans hx15).trans hx58),(by omega)⟩,?_⟩
  rw [F72.get (t:=8) rfl,hL19.get (t:=8) rfl];simp [intOf] <;> omega
 refine F23.cf ?_
 refine wp_exit ?_
 refine exit_then ?_
 refine exit_then ?_
 refine exit_here ?_
 refine hK4 _ _ ?_;clear hK4
 refine wr fun K73 hK73=>?_
 refine F23.xv (vi (-1))<|fun _ F75=>?_;clear F23
 refine wpList_nil (hK73 _ _ ?_);clear hK73
 refine wp_ret ?_
 refine ret1 F75 rfl rfl ?_
 exact ⟨_,rfl,⟨fun hq=>absurd hq (by omega),fun hq=>absurd (all_mem hp17 (by omega)) hq⟩,((Ext.refl w).trans hx15)⟩

theorem index_at {v:Value} (l:List Cg) (w:World) (h:RLs RCg 3 S w v l) :
  Calls Tryd.prog 85 #[v,.func (.func 72) #[] #[]] w (fun e w'=>∃ r,e=.returned (vi r)∧(0≤r↔¬ ∀ c∈l,¬ fullC c)∧Ext w w'):=by
 obtain ⟨A,c,rfl,_⟩:=h.form
 exact index_any A c l w h

set_option maxRecDepth 100000 in
set_option maxHeartbeats 1000000 in
theorem contains_any (A:Option Addr) (c:Nat) (l:List Cg) (w:World) (h:RLs RCg 3 S w (vl A l.length c) l) :
  Calls Tryd.prog 75 #[.slice A l.length c,.func (.func 72) #[] #[]] w (fun e w'=>e=.returned (.bool (!decide (∀ c∈l,¬ fullC c)))∧Ext w w'):=by
 have hc:RLs RCg 3 (Clip S w) w (vl A l.length c) l:=RLs.clip rCg h
 obtain ⟨-,hck,hcm⟩:=RLs.at h
 refine calls_enter Tryd.func75 rfl rfl rfl fun _ hF=>?_
 refine wr fun K1 hK1=>?_
 refine hF.xv (.bool false)<|fun _ F3=>?_;clear hF
 refine wpList_nil (hK1 _ _ ?_);clear hK1
 refine wr fun K4 hK4=>?_
 refine F3.xm rfl<|Xm rfl<|fun _ F8=>?_;clear F3
 refine F8.xc (index_at (v:=(vl A l.length c)) l _ hc) ?_
 rintro _ w11 ⟨r9,rfl,hq10,hx12⟩
 refine ⟨_,rfl,?_⟩;intro a13 F14;clear F8;have z15:=hx12.size
 refine F14.xv (.bool (decide ((0:Int)≤(r9:Int))))<|Xa rfl<|fun _ F19=>?_;clear F14
 refine wpList_nil (hK4 _ _ ?_);clear hK4
 have F20:=F19.k [0,1,4];clear F19
 refine wp_ret ?_
 refine ret1 F20 rfl rfl ?_
 exact ⟨ret_bool (contains_eq hq10),((Ext.refl w).trans hx12)⟩

theorem contains_at {v:Value} (l:List Cg) (w:World) (h:RLs RCg 3 S w v l) :
  Calls Tryd.prog 75 #[v,.func (.func 72) #[] #[]] w (fun e w'=>e=.returned (.bool (!decide (∀ c∈l,¬ fullC c)))∧Ext w w'):=by
 obtain ⟨A,c,rfl,_⟩:=h.form
 exact contains_any A c l w h

set_option maxRecDepth 100000 in
set_option maxHeartbeats 1000000 in
theorem state_any (A:Option Addr) (c:Nat) (l:List It) (w:World) (h:RLs RIt 2 S w (vl A l.length c) l) (hs:∀ x∈l,x.data.length≤4294967296) (hl:l.length≤4294967296) (hG:Glob w) :
  Calls Tryd.prog 37 #[.slice A l.length c] w (fun e w'=>e=.returned (.tuple #[.agg (byteVals (stateD l)).toArray,.int .i64 (checkE l)])∧Ext w w'):=by
 have hc:RLs RIt 2 (Clip S w) w (vl A l.length c) l:=RLs.clip rIt h
 obtain ⟨-,hck,hcm⟩:=RLs.at h
 refine calls_enter Tryd.func37 rfl rfl rfl fun _ hF=>?_
 refine wr fun K1 hK1=>?_
 refine hF.xz (byteVals (List.replicate 32 0)) 24 fun g2 w3 _ F9 z6 z7 b4 hx5=>?_;clear hF
 refine F9.xv (vi 0)<|fun _ F11=>?_;clear F9
 refine wpList_nil (hK1 _ _ ?_);clear hK1
 refine wp_seq_k fun K12 hK12=>?_
 refine wr fun K13 hK13=>?_
 refine F11.xm rfl<|fun _ F15=>?_;clear F11
 have d16:=(RLs.ext rIt hc hx5)
 refine F15.xc (pcheck_at (v:=(vl A l.length c)) l _ d16) ?_
 rintro _ w17 ⟨rfl,hx18⟩
 refine ⟨_,rfl,?_⟩;intro a19 F20;clear F15;have z21:=hx18.size
 refine F20.xa rfl<|fun _ F23=>?_;clear F20
 refine wpList_nil (hK13 _ _ ?_);clear hK13
 refine wr fun K24 hK24=>?_
 refine F23.xm rfl<|Xv (.bool (decide (((checkE l):Int)≠(0:Int))))<|fun _ F28=>?_;clear F23
 refine wpList_nil (hK24 _ _ ?_);clear hK24
 by_cases hc29:((checkE l):Int)≠(0:Int)
 ·skip
  refine F28.ct ?_
  refine wr fun K30 hK30=>?_
  have b31:=(b4.ext hx18)
  refine F28.xw (.agg (byteVals (List.replicate 32 0)).toArray) (fun F=>rb F rfl b31 (hk:=byteVals_len (show List.length (List.replicate 32 0)=_ from List.length_replicate)))<|Xm rfl<|fun _ F35=>?_;clear F28
  refine F35.xs rfl b31 (fun w36 b37 hg38=>?_) (hk:=byteVals_len (show List.length (List.replicate 32 0)=_ from List.length_replicate));have z39:=hg38.size
  refine F35.xa rfl<|fun _ F41=>?_;clear F35
  refine wpList_nil (hK30 _ _ ?_);clear hK30
  have F42:=F41.k [0,2,3,4,11];clear F41
  refine wp_ret (ret_then ?_)
  refine retC1 F42 rfl rfl rfl b37 Tryd.underlying24 rfl (sk inf24 (byteVals_len (show List.length (List.replicate 32 0)=_ from List.length_replicate))) ?_
  exact ⟨by rw [show stateD l=List.replicate 32 0 from if_neg hc29],((((Ext.refl w).trans hx5).trans hx18).gn hg38)⟩
 refine F28.cf ?_
 refine wp_skip ?_
 refine hK12 _ _ ?_;clear hK12
 refine wr fun K43 hK43=>?_
 refine F28.xv v0<|fun _ F45=>?_;clear F28
 refine wpList_nil (hK43 _ _ ?_);clear hK43
 refine wp_seq_k fun K46 hK46=>?_
 refine wr fun K47 hK47=>?_
 refine F45.xm rfl<|Xv (vi (l.length:Nat))<|Xv (vi 0)<|fun _ F53=>?_;clear F45
 refine wpList_nil (hK47 _ _ ?_);clear hK47
 refine wp_block ?_
 have b54:=(b4.ext hx18)
 refine wp_loop (fun a' W=>∃ (k:Nat) (Ap:Option Addr) (np:Nat) (cp:Nat) (ls:List (List UInt8)),Sl 39 [(0,(vl A l.length c)),(2,(vp g2)),(3,(vi 0)),(4,(vi (checkE l))),(11,(.bool (decide (((checkE l):Int)≠(0:Int))))),(5,(vl Ap np cp)),(14,(vl A l.length c)),(15,(vi (l.length:Nat))),(16,(vi (k:Nat)))] a'∧(k≤l.length∧np=k)∧ls=(l.take k).map itLeaf∧Ext w W∧Blk W g2 24 (byteVals (List.replicate 32 0))∧W.ownsRow w17.heap.size 24 32 (vl Ap np cp) np (digVals ls)∧w17.heap.size≤W.heap.size∧w17.heap.size≤W.heap.size) (fun a' _=>l.length - (intOf (a'.eval (.tmp 16))).toNat) ⟨0,none,0,0,[],F53.j,⟨by omega,by omega⟩,rfl,(((Ext.refl w).trans hx5).trans hx18),b54,(own_nil w17 w17.heap.size 24 32),(by omega),(Nat.le_refl _)⟩ ?_
 clear F53
 rintro a55 w56 ⟨k,Ap,np,cp,ls,F57,hp59,hp60,hx58,b61,r62,hf63,hf64⟩
 have hL65:=F57
 have z66:=hx58.size
 have z67:=b61.lt
 have z68:=own_form0 r62
 have hl32:All32 ls:=by rw [hp60];exact leaves_32 _
 refine wr fun K69 hK69=>?_
 refine F57.xv (.bool (decide (((k:Nat):Int)<((l.length:Nat):Int))))<|fun _ F71=>?_;clear F57
 refine wpList_nil (hK69 _ _ ?_);clear hK69
 refine wp_seq_k fun K72 hK72=>?_
 by_cases hc73:((k:Nat):Int)<((l.length:Nat):Int)
 ·skip
  refine F71.ct ?_
  refine wp_skip ?_
  refine hK72 _ _ ?_;clear hK72
  refine wp_seq_k fun K74 hK74=>?_
  refine wp_block ?_
  refine wr fun K75 hK75=>?_
  have d76:=(RLs.ext rIt hc hx58)
  obtain ⟨b77,o78,x79,cs80,hA81,hi82,hk83,hc84,hr85⟩:=RLs.get d76 (by omega:k<l.length)
  obtain ⟨A86,c87,rfl,hd88⟩:=hr85
  have z89:=(Fl.cel hd88).2.1
  obtain ⟨z90,z91⟩:=nm_ok (Decidable.not_not.1 hc29) hi82;have z92:=hs x79 (List.mem_of_getElem? hi82)
  refine F71.xw (.pointer (some ⟨b77,o78+k*2,none⟩)) (fun F=>rn_indexE Tryd.underlying22 inf66 ((F.get rfl).trans (by rw [hA81])) (F.get rfl) (by omega:(0:Int)≤(k:Nat)) (by omega:((k:Nat):Int)<((l.length:Nat):Int)) (by omega))<|Xw (.agg #[(strOf x79.name),(vl A86 x79.data.length c87)]) (fun F=>rn_loadN (cs:=[(strOf x79.name),(vl A86 x79.data.length c87)]) (F.get rfl) Tryd.underlying66 rfl inf66 hc84)<|fun _ F96=>?_;clear F71
  refine F96.xz [(strOf ([])),v0] 66 fun g97 w98 _ F104 z101 z102 b99 hx100=>?_;clear F96
  refine F104.xs rfl b99 (fun w105 b106 hg107=>?_);have z108:=hg107.size
  refine wpList_nil (hK75 _ _ ?_);clear hK75
  refine wp_region_lit ?_
  refine F104.xm rfl<|Xv (vp g97)<|Xw (strOf x79.name) (fun F=>rl F rfl (b106.rule.1 0))<|Xw (vi (x79.name.length:Nat)) (fun F=>rn_lenS Tryd.underlying9 (F.get rfl))<|Xw (.int .u8 ((UInt8.ofNat x79.name.length).toNat:Nat)) (fun F=>rn_convW Tryd.underlying3 Tryd.underlying5 (F.get rfl) (cvi_8 x79.name.length))<|fun _ F118=>?_;clear F104
  refine F118.xn (fun g=>(vl (some ⟨g,0,none⟩) 1 1)) [(.int .u8 ((UInt8.ofNat x79.name.length).toNat:Nat))] 5 (fun F=>rn_buildSlice (parts1 (F.get rfl)) (by kernel_rfl)) fun g119 w120 _ F126 z123 z124 b121 hx122=>?_;clear F118
  refine F126.xv (vp g97)<|fun _ F128=>?_;clear F126
  have b129:=(b106.ext hx122)
  refine F128.xw (strOf x79.name) (fun F=>rl F rfl (b129.rule.1 0))<|fun _ F131=>?_;clear F128
  refine wpl_op (i:=8) rfl (o_strB (l:=x79.name) F131 rfl rfl rfl rfl rfl (F131.get rfl) Tryd.underlying9 Tryd.underlying52 Tryd.underlying5 (by omega) ?_)
  intro g132 c133 w134 a140 F141 z137 z138 z139 hf135 hx136;clear F131
  refine F141.xv (.pointer (some ⟨g97,1,none⟩))<|fun _ F143=>?_;clear F141
  have b144:=(b129.ext hx136)
  refine F143.xw (vl A86 x79.data.length c87) (fun F=>rl F rfl (b144.rule.1 1))<|fun _ F146=>?_;clear F143
  refine F146.xn (fun g=>(vl (some ⟨g,0,none⟩) 3 3)) [(vl (some ⟨g119,0,none⟩) 1 1),(vl (some ⟨g132,0,none⟩) x79.name.length c133),(vl A86 x79.data.length c87)] 52 (fun F=>rn_buildSlice (parts3 (F.get rfl) (F.get rfl) (F.get rfl)) (by kernel_rfl)) fun g147 w148 _ F154 z151 z152 b149 hx150=>?_;clear F146
  have b155:=((b121.ext hx136).ext hx150)
  have d156:=(hf135.ext hx150)
  have d157:=(hd88.pres ((((((Pres.refl w56).ext hx100).gc hg107).ext hx122).ext hx136).ext hx150))
  have hn161:=Fl.blen (Fl.blk (S:=fun b=>b=g119) (k:=1) (n:=1) (c:=1) (cs:=byteVals [(UInt8.ofNat x79.name.length)]) b155 rfl (byteVals_one _) (by omega) rfl)
  have hn162:=Fl.blen d156
  have hn163:=Fl.blen d157
  have hn164:([[(UInt8.ofNat x79.name.length)],x79.name,x79.data]).flatten.length=1+x79.name.length+x79.data.length:=by simp only [List.flatten_cons,List.flatten_nil,List.length_append,List.length_nil];omega
  refine wpl_op (i:=12) rfl (o_call F154 rfl rfl rfl rfl (rn_call (args1 (F154.get rfl)) rfl (by kernel_rfl)) (concat_at [[(UInt8.ofNat x79.name.length)],x79.name,x79.data] _ (RBss.three b149 (Fl.blk (S:=fun b=>b=g119) (k:=1) (n:=1) (c:=1) (cs:=byteVals [(UInt8.ofNat x79.name.length)]) b155 rfl (byteVals_one _) (by omega) rfl) d156 d157) hn164 (by omega)) ?_)
  rintro _ w165 ⟨A158,c159,rfl,hf160,hx166⟩
  rw [show ([[(UInt8.ofNat x79.name.length)],x79.name,x79.data]).flatten=([(UInt8.ofNat x79.name.length)])++x79.name++x79.data from by simp] at hf160
  refine ⟨_,rfl,?_⟩;intro a167 F168;clear F154;have z169:=hx166.size
  refine wpl_op (i:=13) rfl (o_call F168 rfl rfl rfl rfl (rn_call (args2 rfl (F168.get rfl)) rfl (by kernel_rfl)) (tagged_at ([105,116,101,109]) (v:=(vl A158 (1+x79.name.length+x79.data.length) c159)) (n:=(1+x79.name.length+x79.data.length)) (([(UInt8.ofNat x79.name.length)])++x79.name++x79.data) _ hf160 (hG.ext ((((((((Ext.refl w).trans hx58).trans hx100).gn hg107).trans hx122).trans hx136).trans hx150).trans hx166)) (by simp <;> omega) (by omega)) ?_)
  rintro _ w170 ⟨rfl,hx171⟩
  refine ⟨_,rfl,?_⟩;intro a172 F173;clear F168;have z174:=hx171.size
  have r175:=(own_ext (own_ext (own_ext (own_ext (own_ext (own_grownT (own_ext r62 hx100) b99 hg107 (by decide)) hx122) hx136) hx150) hx166) hx171)
  have hf176:=r175
  refine F173.xn (fun g=>(vl (some ⟨g,0,none⟩) 1 1)) (byteVals ((tagged ([105,116,101,109]) (([(UInt8.ofNat x79.name.length)])++x79.name++x79.data)))) 24 (fun F=>rn_buildSlice (parts1 (F.get rfl)) (build_wholeE (vs:=[(.agg (byteVals (tagged ([105,116,101,109]) (([(UInt8.ofNat x79.name.length)])++x79.name++x79.data))).toArray)]) El26 rfl rfl (fun v hv=>by rw [List.mem_singleton.1 hv];exact (byteVals_len (tagged_len _ _))) (by decide) (by decide) (by simp [Value.cells,byteVals]))) fun g177 w178 _ F184 z181 z182 b179 hx180=>?_;clear F173
  have nb185:=own_new (g:=g177) hf176 (by omega)
  have r186:=(own_ext r175 hx180)
  have hf195:=r186
  have b196:=((((((((b61.ext hx100).gn hg107).ext hx122).ext hx136).ext hx150).ext hx166).ext hx171).ext hx180)
  have nb197:some g2≠(Value.slice Ap np cp).ownBlock:=(own_ne r186 (by omega:g2<w17.heap.size))
  have z198:=b196.lt
  have nb199:some g177≠(Value.slice Ap np cp).ownBlock:=nb185
  have z200:=b179.lt
  refine wpl_op (i:=15) rfl (o_appB (zs:=digVals (ls++([tagged ([105,116,101,109]) (([(UInt8.ofNat x79.name.length)])++x79.name++x79.data)]))) El26 F184 rfl rfl rfl rfl rfl (F184.get rfl) (F184.get rfl) hf195 (Fl.cel (Fl.digblk (S:=fun b=>b=g177) b179 (All32.sing (tagged_len _ _)) (by simp [digVals,byteVals]))).2.2 (by omega) (by omega) (by omega) (digVals_app _ _) ?_)
  intro A187 c188 w189 a201 F202 r190 hg191 z192 z193 hnb194;clear F184;have z203:=hg191.size
  have nb204:=hnb194 g2 (by omega) nb197
  have nb205:=hnb194 g177 (by omega) nb199
  refine F202.xa rfl<|fun _ F207=>?_;clear F202
  refine wpList_nil (hK74 _ _ ?_);clear hK74
  have F208:=F207.k [0,2,3,4,11,5,14,15,16,17,7];clear F207
  refine wp_region_lit ?_
  refine F208.xv (vi (k+1:Nat))<|Xm rfl<|fun _ F212=>?_;clear F208
  refine wpList_nil ?_
  have b213:=(b196.grown hg191 nb197)
  refine ⟨⟨(k+1),A187,np+1,c188,ls++([tagged ([105,116,101,109]) (([(UInt8.ofNat x79.name.length)])++x79.name++x79.data)]),F212.j,⟨by omega,by omega⟩,(by rw [hp60];exact leaves_step hi82),(ext_row ((((((((((Ext.refl w).trans hx58).trans hx100).gn hg107).trans hx122).trans hx136).trans hx150).trans hx166).trans hx171).trans hx180) hg191 hf195 (by omega)),b213,r190,(by omega),(by omega)⟩,?_⟩
  rw [F212.get (t:=16) rfl,hL65.get (t:=16) rfl];simp [intOf] <;> omega
 refine F71.cf ?_
 refine wp_exit ?_
 refine exit_then ?_
 refine exit_then ?_
 refine exit_here ?_
 refine hK46 _ _ ?_;clear hK46
 refine wr fun K214 hK214=>?_
 refine F71.xm rfl<|fun _ F216=>?_;clear F71
 have hf217:=(Fl.own (S:=fun b=>w17.heap.size≤b) r62 (fun b hb=>hb) (digVals_one _))
 refine F216.xc (tree_at ls _ (n:=np) (v:=(vl Ap np cp)) hl32 hf217 (hG.ext ((Ext.refl w).trans hx58))) ?_
 rintro _ w218 ⟨rfl,hx219⟩
 refine ⟨_,rfl,?_⟩;intro a220 F221;clear F216;have z222:=hx219.size
 have b226:=(b61.ext hx219)
 refine F221.xs rfl b226 (fun w223 b224 hg225=>?_) (hk:=byteVals_len (treeD_len _));have z227:=hg225.size
 refine F221.xv (vi 0)<|fun _ F229=>?_;clear F221
 refine wpList_nil (hK214 _ _ ?_);clear hK214
 refine wp_ret ?_
 refine retC1 F229 rfl rfl rfl b224 Tryd.underlying24 rfl (sk inf24 (byteVals_len (treeD_len _))) ?_
 have hk:k=l.length:=by omega
 have hl:=hp60
 rw [hk,List.take_length] at hl
 exact ⟨by rw [show stateD l=treeD ls from (if_pos (Decidable.not_not.1 hc29)).trans (by rw [hl]),(Decidable.not_not.1 hc29)],((((Ext.refl w).trans hx58).trans hx219).gn hg225)⟩

theorem state_at {v:Value} (l:List It) (w:World) (h:RLs RIt 2 S w v l) (hs:∀ x∈l,x.data.length≤4294967296) (hl:l.length≤4294967296) (hG:Glob w) :
  Calls Tryd.prog 37 #[v] w (fun e w'=>e=.returned (.tuple #[.agg (byteVals (stateD l)).toArray,.int .i64 (checkE l)])∧Ext w w'):=by
 obtain ⟨A,c,rfl,_⟩:=h.form
 exact state_any A c l w h hs hl hG

end Go.Proofs.YtihgmaoghbnnaaaDoor
