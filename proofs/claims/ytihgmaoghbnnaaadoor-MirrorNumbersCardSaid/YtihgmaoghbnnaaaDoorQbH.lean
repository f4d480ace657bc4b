/- Several texts in one: MrW, MsA, MsB. -/
import Derived.Test.YtihgmaoghbnnaaaDoorProg
import Derived.Test.YtihgmaoghbnnaaaDoorQbG
import Derived.KernelRfl
import Derived.Test.YtihgmaoghbnnaaaDoorQbA
import Derived.Test.YtihgmaoghbnnaaaDoorQbB
set_option linter.unusedVariables false
set_option linter.unusedSimpArgs false
namespace Go.Proofs.YtihgmaoghbnnaaaDoor
open Go.RowKit

variable {S S':Nat→Prop}

section
variable {S:Nat→Prop}
theorem join_ok (pub:List UInt8) (w:World) (hp:pub.length=32) :
  Calls Tryd.prog 13 #[.agg (byteVals pub).toArray,.int .i64 2] w (fun e w'=>e=.returned (.tuple #[ag (fcs pub 2 0 v0 v0),.int .i64 0])∧Ext w w'):=join_any pub 2 w hp
theorem join_no (pub:List UInt8) (w:World) (hp:pub.length=32) :
  Calls Tryd.prog 13 #[.agg (byteVals pub).toArray,.int .i64 0] w (fun e w'=>e=.returned (.tuple #[ag (fcs zero32 0 0 v0 v0),.int .i64 40])∧Ext w w'):=join_any pub 0 w hp
theorem recv_at {c e c1 o1 e1 p1:Value} (S:Nat→Prop) (pub:List UInt8) (n:Int) (L:List It) (E:List Vr) (v:Vr) (w:World) (p2:List UInt8) (m2 n2:Int) (L2:List It) (E2:List Vr) (z:Int) (hq:recE (fo pub n L E) v=z∧recF (fo pub n L E) v=⟨p2,m2,n2,L2,E2⟩)
  (hp:pub.length=32) (hL:RLs RIt 2 S w c L) (hE:RLs RVr 38 S w e E) (hv:RVp S w c1 o1 e1 p1 v) (hdi:∀ x∈L,x.data.length≤4294967296) (hde:∀ v∈E,∀ x∈v.chs,x.data.length≤4294967296) (hdv:∀ x∈v.chs,x.data.length≤4294967296) (hG:Glob w) :
  Calls Tryd.prog 14 #[ag (fcs pub 2 n c e),ag (vcs v.no v.state c1 v.sg.index o1 e1 p1)] w (fun en w'=>∃ c' e',en=.returned (.tuple #[ag (fcs p2 m2 n2 c' e'),.int .i64 z])∧RLs RIt 2 (Clip (fun b=>S b∨w.heap.size≤b) w') w' c' L2∧RLs RVr 38 (Clip (fun b=>S b∨w.heap.size≤b) w') w' e' E2∧p2.length=32∧Ext w w'):=by
 have h:=receive_at (S:=S) (c:=c) (e:=e) (fo pub n L E) v w ⟨hp,hL,hE⟩ hv hdi hde hdv hG
 rw [hq.1,hq.2] at h
 refine h.mono ?_
 rintro _ w' ⟨c',e',rfl,hR,hx⟩
 exact ⟨c',e',rfl,RLs.subB rIt hR.items (fun b hb h=>⟨h,hb⟩),RLs.subB rVr hR.early (fun b hb h=>⟨h,hb⟩),hR.pub,hx⟩
theorem wants_fo {S1 S2:Nat→Prop} {c e:Value} (pub:List UInt8) (n:Int) (L:List It) (E:List Vr) (w:World) (z:Int) (hz:n+1=z) (hp:pub.length=32) (hL:RLs RIt 2 S1 w c L) (hE:RLs RVr 38 S2 w e E) (h0:0≤n∧n≤4294967296) :
  Calls Tryd.prog 17 #[ag (fcs pub 2 n c e)] w (fun en w'=>en=.returned (vi z)∧Ext w w'):=by
 subst hz
 exact wants_at (S:=fun _=>True) (c:=c) (e:=e) (fo pub n L E) w ⟨hp,hL.sub rIt fun _ _=>trivial,hE.sub rVr fun _ _=>trivial⟩ h0
theorem verify_nil (pub:List UInt8) (w:World) (hp:pub.length=32) (hG:Glob w) :
  Calls Tryd.prog 22 #[.agg (byteVals pub).toArray,.int .i64 2,ag (vcs 0 zero32 v0 0 v0 v0 v0)] w (fun en w'=>en=.returned (vi 420)∧Ext w w') :=
 verifyv_at (S:=fun _=>True) pub 2 vrNil w ⟨zero32_len,RLs.nil _,⟨Fl.nil _,Fl.nil _,Fl.nil _,All32.nil,All32.nil,All32.nil⟩⟩ hp (fun x hx=>absurd hx (by simp [vrNil])) hG
end
theorem version_idx {sd:List UInt8} {a b:List It} (hs:1≤sd.length∧sd.length≤64) {n:Nat} (hn:n<2) {v:Vr} (hv:v=⟨(n+1:Nat),stateD b,diffL a b,signF sd 2 n n (msgV (n+1:Nat) (stateD b) (diffL a b))⟩):v.sg.index=n:=by
 have hm:(msgV (n+1:Nat) (stateD b) (diffL a b)).length=72:=msgV_len (stateD_len b)
 rw [hv]
 exact (sign_len ((sign_iff (kok hs (by omega) (by omega)) (by omega)).2 ⟨by omega,by omega⟩)).2.2
theorem duo_of {sd:List UInt8} {a b:List It} (hs:1≤sd.length∧sd.length≤64) (ha:checkE a=0) (hb:checkE b=0) (hl:a.length+b.length≤65536) {v1 v2:Vr} (h1:versionV sd 2 ((0:Nat):Int) 0 a (diffL [] a)=v1) (h2:versionV sd 2 ((1:Nat):Int) 1 b (diffL a b)=v2):Duo (pubF sd 2 0) a b v1 v2:=by
 obtain ⟨-,p2,p3⟩:=version_good (a:=[]) hs (n:=0) (by omega) check_nil ha (by simp;omega)
 obtain ⟨-,q2,q3⟩:=version_good (a:=a) hs (n:=1) (by omega) ha hb hl
 rw [h1] at p2 p3
 rw [h2] at q2 q3
 exact ⟨ha,hb,hl,by rw [p2];rfl,by rw [q2];rfl,by rw [p2],by rw [q2],by rw [p2],by rw [q2],p3,q3⟩
def oneL:List It:=[⟨[97],[120]⟩]
set_option maxRecDepth 100000 in
set_option maxHeartbeats 1000000 in
theorem sane42_any (w:World) (hG:Glob w) :
  Calls Tryd.prog 8 #[] w (fun en w'=>en=.returned (.bool true)∧Ext w w'):=by
 have hk:1≤([115,101,101,100]:List UInt8).length∧([115,101,101,100]:List UInt8).length≤64:=⟨by decide,by decide⟩
 refine calls_enter Tryd.func8 rfl rfl rfl fun _ hF=>?_
 refine wr fun K1 hK1=>?_
 refine hF.xv (.bool false)<|fun _ F3=>?_;clear hF
 refine wpList_nil (hK1 _ _ ?_);clear hK1
 refine wr fun K4 hK4=>?_
 refine F3.xn (fun g=>(vl (some ⟨g,0,none⟩) 4 4)) [(.int .u8 115),(.int .u8 101),(.int .u8 101),(.int .u8 100)] 5 (fun F=>rn_buildSlice (parts4 rfl rfl rfl rfl) (by kernel_rfl)) fun g5 w6 _ F12 z9 z10 b7 hx8=>?_;clear F3
 refine wpl_op (i:=1) rfl (o_mark (l:=[(115:UInt8),(101:UInt8),(101:UInt8),(100:UInt8)]) F12 rfl rfl rfl rfl rfl (F12.get rfl) Tryd.underlying52 Tryd.underlying5 b7 rfl (by omega) (by omega) ?_)
 intro w13 a16 F17 hf14 hg15;clear F12;have z18:=hg15.size
 refine wpl_op (i:=2) rfl (o_call F17 rfl rfl rfl rfl (rn_call (args2 (F17.get rfl) rfl) rfl (by kernel_rfl)) (new_at (v:=(vl (some ⟨g5,0,none⟩) 4 4)) (m:=4) ([(115:UInt8),(101:UInt8),(101:UInt8),(100:UInt8)]) 2 _ hf14 (by omega)) ?_)
 rw [(new_facts hk).1,(new_facts hk).2.1,(new_facts hk).2.2]
 rintro _ w23 ⟨A19,n20,c21,rfl,hf22,hx24⟩
 have z25:=(Fl.cel hf22).2.1;have z26:=Fl.blen hf22
 refine ⟨_,rfl,?_⟩;intro a27 F28;clear F17;have z29:=hx24.size
 have hf30:Fl (Clip (fun b=>w13.heap.size≤b) w23) w23 1 (vl A19 n20 c21) n20 (byteVals ([(115:UInt8),(101:UInt8),(101:UInt8),(100:UInt8)])):=hf22.clip
 refine F28.xm rfl<|Xv (.agg #[(vl A19 n20 c21),(vi 2),(vi 0)])<|Xv (vi 0)<|fun _ F36=>?_;clear F28
 refine F36.xz [v0,(vi 0),(vi 0)] 56 fun g37 w38 _ F44 z41 z42 b39 hx40=>?_;clear F36
 refine F44.xs rfl b39 (fun w45 b46 hg47=>?_);have z48:=hg47.size
 refine F44.xa rfl<|fun _ F50=>?_;clear F44
 refine wpList_nil (hK4 _ _ ?_);clear hK4
 have F51:=F50.k [0,1,2];clear F50
 refine wr fun K52 hK52=>?_
 refine F51.xw (.agg #[(vl A19 n20 c21),(vi 2),(vi 0)]) (fun F=>rb F rfl b46)<|fun _ F54=>?_;clear F51
 have d55:=(hf30.pres (((Pres.refl w23).ext hx40).gc hg47))
 refine F54.xc (pub_at (v:=(vl A19 n20 c21)) (m:=n20) ([(115:UInt8),(101:UInt8),(101:UInt8),(100:UInt8)]) 2 0 _ d55 (hG.ext ((((((Ext.refl w).trans hx8).gn hg15).trans hx24).trans hx40).gn hg47))) ?_
 rintro _ w56 ⟨rfl,hx57⟩
 refine ⟨_,rfl,?_⟩;intro a58 F59;clear F54;have z60:=hx57.size
 refine F59.xm rfl<|Xv (.agg (byteVals (pubF ([(115:UInt8),(101:UInt8),(101:UInt8),(100:UInt8)]) 2 0)).toArray)<|Xv (vi (pubE ([(115:UInt8),(101:UInt8),(101:UInt8),(100:UInt8)]) 2 0))<|fun _ F66=>?_;clear F59
 refine F66.xz (byteVals (List.replicate 32 0)) 24 fun g67 w68 _ F74 z71 z72 b69 hx70=>?_;clear F66
 refine F74.xs rfl b69 (fun w75 b76 hg77=>?_) (hk:=byteVals_len (pubF_len _ _ _));have z78:=hg77.size
 refine F74.xa rfl<|fun _ F80=>?_;clear F74
 refine wpList_nil (hK52 _ _ ?_);clear hK52
 have F81:=F80.k [0,1,2,3,4];clear F80
 refine wr fun K82 hK82=>?_
 refine F81.xn (fun g=>(vl (some ⟨g,0,none⟩) 1 1)) [(.int .u8 120)] 5 (fun F=>rn_buildSlice (parts1 rfl) (by kernel_rfl)) fun g83 w84 _ F90 z87 z88 b85 hx86=>?_;clear F81
 refine wpl_op (i:=1) rfl (o_mark (l:=[(120:UInt8)]) F90 rfl rfl rfl rfl rfl (F90.get rfl) Tryd.underlying52 Tryd.underlying5 b85 rfl (by omega) (by omega) ?_)
 intro w91 a94 F95 hf92 hg93;clear F90;have z96:=hg93.size
 refine F95.xw (.agg #[(strOf ([97])),(vl (some ⟨g83,0,none⟩) 1 1)]) (fun F=>rn_build (parts2 rfl (F.get rfl)) (by kernel_rfl))<|fun _ F98=>?_;clear F95
 refine F98.xn (fun g=>(vl (some ⟨g,0,none⟩) 1 1)) [(strOf ([97])),(vl (some ⟨g83,0,none⟩) 1 1)] 66 (fun F=>rn_buildSlice (parts1 (F.get rfl)) (build_wholeE (vs:=[(.agg #[(strOf ([97])),(vl (some ⟨g83,0,none⟩) 1 1)])]) El22 rfl rfl (fun z0 hz0=>by rw [List.mem_singleton.1 hz0];exact (show List.length [(strOf ([97])),(vl (some ⟨g83,0,none⟩) 1 1)]=2 from rfl)) (by decide) (by decide) (by simp [Value.cells]))) fun g99 w100 _ F106 z103 z104 b101 hx102=>?_;clear F98
 have d108:=(hf92.ext hx102)
 have hl107:RLs RIt 2 (Clip (fun _=>True) w100) w100 (vl (some ⟨g99,0,none⟩) 1 1) oneL:=RLs.clip rIt (RLs.one b101 (show List.length [(strOf ([97])),(vl (some ⟨g83,0,none⟩) 1 1)]=2 from rfl) (one_cons rfl (one_cons rfl one_nil)) trivial (⟨_,_,rfl,Fl.any d108⟩:RIt (fun _=>True) _ _ ⟨[97],[(120:UInt8)]⟩))
 refine F106.xa rfl<|fun _ F110=>?_;clear F106
 refine wpList_nil (hK82 _ _ ?_);clear hK82
 have F111:=F110.k [0,1,2,3,4,5];clear F110
 refine wr fun K112 hK112=>?_
 refine F111.xm rfl<|fun _ F114=>?_;clear F111
 refine wpl_op (i:=1) rfl (o_call F114 rfl rfl rfl rfl (rn_call (args2 rfl (F114.get rfl)) rfl (by kernel_rfl)) (diff_at (u:=v0) (v:=(vl (some ⟨g99,0,none⟩) 1 1)) ([]) oneL _ (RLs.nil _:RLs RIt 2 (fun _=>False) _ _ _) hl107 (show ∀ x∈([]:List It),x.data.length≤4294967296 from fun x hx=>absurd hx (by simp)) (show ∀ x∈oneL,x.data.length≤4294967296 by decide)) ?_)
 rw [(diffE_zero (show checkE []=0 from rfl) (show checkE oneL=0 by decide)).2,(diffE_zero (show checkE []=0 from rfl) (show checkE oneL=0 by decide)).1]
 rintro _ w118 ⟨A115,c116,rfl,hL117,hx119⟩
 refine ⟨_,rfl,?_⟩;intro a120 F121;clear F114;have z122:=hx119.size
 have hl123:RLs RCg 3 (Clip (fun z=>w100.heap.size≤z) w118) w118 (vl A115 ((diffL ([]) oneL).length) c116) (diffL ([]) oneL):=RLs.clip rCg hL117
 obtain ⟨-,z124,z125⟩:=RLs.at hL117
 refine F121.xm rfl<|Xv (vl A115 ((diffL ([]) oneL).length) c116)<|Xv (vi 0)<|Xa rfl<|Xa rfl<|fun _ F135=>?_;clear F121
 refine wpList_nil (hK112 _ _ ?_);clear hK112
 have F136:=F135.k [0,1,2,3,4,5,6,7];clear F135
 refine wr fun K137 hK137=>?_
 have b138:=(((((((b46.ext hx57).ext hx70).gn hg77).ext hx86).gn hg93).ext hx102).ext hx119)
 refine F136.xw (.agg #[(vl A19 n20 c21),(vi 2),(vi 0)]) (fun F=>rb F rfl b138)<|Xm rfl<|Xm rfl<|fun _ F144=>?_;clear F136
 have d145:=(hf30.pres ((((((((((Pres.refl w23).ext hx40).gc hg47).ext hx57).ext hx70).gc hg77).ext hx86).gc hg93).ext hx102).ext hx119))
 have d146:=(RLs.ext rIt hl107 hx119)
 have hv147:=version_good (sd:=[(115:UInt8),(101:UInt8),(101:UInt8),(100:UInt8)]) hk (n:=0) (by omega) (show checkE []=0 from rfl) (show checkE oneL=0 by decide) (by have h5:=(show ([]:List It).length≤12 by simp);have h6:=(show oneL.length≤12 by decide);omega)
 obtain ⟨vr148,hvr149⟩:∃ z,versionV ([(115:UInt8),(101:UInt8),(101:UInt8),(100:UInt8)]) 2 ((0:Nat):Int) 0 oneL (diffL ([]) oneL)=z:=⟨_,rfl⟩
 rw [hvr149] at hv147
 refine wpl_op (i:=3) rfl (o_call F144 rfl rfl rfl rfl (rn_call (args4 (F144.get rfl) rfl (F144.get rfl) (F144.get rfl)) rfl (by kernel_rfl)) (version_at (S:=fun _=>True) none 0 ([(115:UInt8),(101:UInt8),(101:UInt8),(100:UInt8)]) 2 ((0:Nat):Int) (0) oneL (diffL ([]) oneL) _ (Fl.any d145) (RLs.sub (S':=fun _=>True) rIt d146 fun _ _=>trivial) (RLs.sub (S':=fun _=>True) rCg hl123 fun _ _=>trivial) (show ∀ x∈oneL,x.data.length≤4294967296 by decide) (by have h6:=(show oneL.length≤12 by decide);omega) (diff_sm (show ∀ x∈([]:List It),x.data.length≤4294967296 from fun x hx=>absurd hx (by simp)) (show ∀ x∈oneL,x.data.length≤4294967296 by decide)) (hG.ext (((((((((((((Ext.refl w).trans hx8).gn hg15).trans hx24).trans hx40).gn hg47).trans hx57).trans hx70).gn hg77).trans hx86).gn hg93).trans hx102).trans hx119))) ?_)
 have hv1470:=hv147.1
 rw [hvr149,hv147.1,show keyS ([(115:UInt8),(101:UInt8),(101:UInt8),(100:UInt8)]) 2 ((0:Nat):Int) 0 oneL (diffL ([]) oneL)=[(115:UInt8),(101:UInt8),(101:UInt8),(100:UInt8)] from if_pos hv1470,show keyM ([(115:UInt8),(101:UInt8),(101:UInt8),(100:UInt8)]) 2 ((0:Nat):Int) 0 oneL (diffL ([]) oneL)=2 from if_pos hv1470,show keyU ([(115:UInt8),(101:UInt8),(101:UInt8),(100:UInt8)]) 2 ((0:Nat):Int) 0 oneL (diffL ([]) oneL)=((0:Nat):Int)+1 from if_pos hv1470]
 rintro _ w151 ⟨c153,o154,e155,p156,A157,n158,c159,rfl,hR160,hK161,hS162,hq163,hx152⟩
 obtain ⟨rfl,hkk⟩:=hq163 rfl;obtain ⟨rfl,rfl,rfl⟩:=Value.slice.inj hkk.symm
 have hvc150:vr148.chs=diffL ([]) oneL:=by rw [hv147.2.1]
 obtain ⟨A164,c165,rfl,z166,z167⟩:=Fl.form hS162.op
 obtain ⟨A168,c169,rfl,z170,z171⟩:=Fl.form hS162.cl
 obtain ⟨A172,c173,rfl,z174,z175⟩:=Fl.form hS162.path
 refine ⟨_,rfl,?_⟩;intro a176 F177;clear F144;have z178:=hx152.size
 have d179:=(RLs.ext rCg hl123 hx152)
 have hl180:RLs RCg 3 (Clip (fun z=>w100.heap.size≤z) w118) w151 (vl A115 ((diffL ([]) oneL).length) c116) vr148.chs:=by rw [hvc150];exact d179
 have hf181:Fl (Clip (fun b=>w118.heap.size≤b) w151) _ _ _ _ _:=Fl.subB hS162.op (fun _ h1 h2=>⟨h2,h1⟩)
 have hf182:Fl (Clip (fun b=>w118.heap.size≤b) w151) _ _ _ _ _:=Fl.subB hS162.cl (fun _ h1 h2=>⟨h2,h1⟩)
 have hf183:Fl (Clip (fun b=>w118.heap.size≤b) w151) _ _ _ _ _:=Fl.subB hS162.path (fun _ h1 h2=>⟨h2,h1⟩)
 refine F177.xm rfl<|Xv (ag ((vi vr148.no)::dg vr148.state [(vl A115 ((diffL ([]) oneL).length) c116),(vi vr148.sg.index),(vl A164 vr148.sg.op.length c165),(vl A168 vr148.sg.cl.length c169),(vl A172 vr148.sg.path.length c173)]))<|Xv (.agg #[(vl A19 n20 c21),(vi 2),(vi (1:Nat))])<|Xv (vi 0)<|fun _ F191=>?_;clear F177
 refine F191.xz vz 30 fun g192 w193 _ F199 z196 z197 b194 hx195=>?_;clear F191
 refine F199.xz [v0,(vi 0),(vi 0)] 56 fun g200 w201 _ F207 z204 z205 b202 hx203=>?_;clear F199
 have b208:=(b194.ext hx203)
 refine F207.xs rfl b208 (fun w209 b210 hg211=>?_) (hk:=len_dig1 hR160.st);have z212:=hg211.size
 have b216:=(b202.gn hg211)
 refine F207.xs rfl b216 (fun w213 b214 hg215=>?_);have z217:=hg215.size
 refine F207.xa rfl<|fun _ F219=>?_;clear F207
 refine wpList_nil (hK137 _ _ ?_);clear hK137
 have F220:=F219.k [0,1,2,3,4,5,6,7,8,9,10];clear F219
 refine wr fun K221 hK221=>?_
 refine F220.xm rfl<|fun _ F223=>?_;clear F220
 have d224:=(RLs.pres rIt hl107 (((((((Pres.refl w100).ext hx119).ext hx152).ext hx195).ext hx203).gc hg211).gc hg215))
 refine wpl_op (i:=1) rfl (o_call F223 rfl rfl rfl rfl (rn_call (args2 (F223.get rfl) rfl) rfl (by kernel_rfl)) (diff_at (u:=(vl (some ⟨g99,0,none⟩) 1 1)) (v:=v0) oneL ([]) _ d224 (RLs.nil _:RLs RIt 2 (fun _=>False) _ _ _) (show ∀ x∈oneL,x.data.length≤4294967296 by decide) (show ∀ x∈([]:List It),x.data.length≤4294967296 from fun x hx=>absurd hx (by simp))) ?_)
 rw [(diffE_zero (show checkE oneL=0 by decide) (show checkE []=0 from rfl)).2,(diffE_zero (show checkE oneL=0 by decide) (show checkE []=0 from rfl)).1]
 rintro _ w228 ⟨A225,c226,rfl,hL227,hx229⟩
 refine ⟨_,rfl,?_⟩;intro a230 F231;clear F223;have z232:=hx229.size
 have hl233:RLs RCg 3 (Clip (fun z=>w213.heap.size≤z) w228) w228 (vl A225 ((diffL oneL ([])).length) c226) (diffL oneL ([])):=RLs.clip rCg hL227
 obtain ⟨-,z234,z235⟩:=RLs.at hL227
 refine F231.xm rfl<|Xv (vl A225 ((diffL oneL ([])).length) c226)<|Xv (vi 0)<|Xa rfl<|Xa rfl<|fun _ F245=>?_;clear F231
 refine wpList_nil (hK221 _ _ ?_);clear hK221
 have F246:=F245.k [0,1,2,3,4,5,6,7,8,9,10,11,12];clear F245
 refine wr fun K247 hK247=>?_
 have b248:=(b214.ext hx229)
 refine F246.xw (.agg #[(vl A19 n20 c21),(vi 2),(vi (1:Nat))]) (fun F=>rb F rfl b248)<|fun _ F250=>?_;clear F246
 have b251:=((b210.gn hg215).ext hx229)
 refine F250.xw (ag ((vi vr148.no)::dg vr148.state [(vl A115 ((diffL ([]) oneL).length) c116),(vi vr148.sg.index),(vl A164 vr148.sg.op.length c165),(vl A168 vr148.sg.cl.length c169),(vl A172 vr148.sg.path.length c173)])) (fun F=>rb F rfl b251 (hk:=len_dig1 hR160.st))<|fun _ F253=>?_;clear F250
 refine F253.xn (fun g=>(vl (some ⟨g,0,none⟩) 1 1)) ((vi vr148.no)::dg vr148.state [(vl A115 ((diffL ([]) oneL).length) c116),(vi vr148.sg.index),(vl A164 vr148.sg.op.length c165),(vl A168 vr148.sg.cl.length c169),(vl A172 vr148.sg.path.length c173)]) 30 (fun F=>rn_buildSlice (parts1 (F.get rfl)) (build_wholeE (vs:=[(ag ((vi vr148.no)::dg vr148.state [(vl A115 ((diffL ([]) oneL).length) c116),(vi vr148.sg.index),(vl A164 vr148.sg.op.length c165),(vl A168 vr148.sg.cl.length c169),(vl A172 vr148.sg.path.length c173)]))]) El36 rfl rfl (fun z0 hz0=>by rw [List.mem_singleton.1 hz0];exact (show List.length ((vi vr148.no)::dg vr148.state [(vl A115 ((diffL ([]) oneL).length) c116),(vi vr148.sg.index),(vl A164 vr148.sg.op.length c165),(vl A168 vr148.sg.cl.length c169),(vl A172 vr148.sg.path.length c173)])=38 from (by simp [byteVals_len hR160.st]))) (by decide) (by decide) (by simp [Value.cells]))) fun g254 w255 _ F261 z258 z259 b256 hx257=>?_;clear F253
 have d263:=(RLs.pres rCg hl180 (((((((Pres.refl w151).ext hx195).ext hx203).gc hg211).gc hg215).ext hx229).ext hx257))
 have d264:=(hf181.pres (((((((Pres.refl w151).ext hx195).ext hx203).gc hg211).gc hg215).ext hx229).ext hx257))
 have d265:=(hf182.pres (((((((Pres.refl w151).ext hx195).ext hx203).gc hg211).gc hg215).ext hx229).ext hx257))
 have d266:=(hf183.pres (((((((Pres.refl w151).ext hx195).ext hx203).gc hg211).gc hg215).ext hx229).ext hx257))
 have hl262:RLs RVr 38 (Clip (fun _=>True) w255) w255 (vl (some ⟨g254,0,none⟩) 1 1) [vr148]:=RLs.clip rVr (RLs.one b256 (show List.length ((vi vr148.no)::dg vr148.state [(vl A115 ((diffL ([]) oneL).length) c116),(vi vr148.sg.index),(vl A164 vr148.sg.op.length c165),(vl A168 vr148.sg.cl.length c169),(vl A172 vr148.sg.path.length c173)])=38 from (by simp [byteVals_len hR160.st])) (one_cons rfl (one_app (byteVals_one _) (one_cons rfl (one_cons rfl (one_cons rfl (one_cons rfl (one_cons rfl one_nil))))))) trivial (⟨_,_,_,_,rfl,(⟨hR160.st,RLs.sub (S':=fun _=>True) rCg d263 fun _ _=>trivial,⟨Fl.any d264,Fl.any d265,Fl.any d266,hS162.o32,hS162.c32,hS162.p32⟩⟩:RVp (fun _=>True) _ _ _ _ _ vr148)⟩:RVr (fun _=>True) _ _ vr148))
 refine F261.xm rfl<|fun _ F268=>?_;clear F261
 have d269:=(hf30.pres (((((((((((((((((Pres.refl w23).ext hx40).gc hg47).ext hx57).ext hx70).gc hg77).ext hx86).gc hg93).ext hx102).ext hx119).ext hx152).ext hx195).ext hx203).gc hg211).gc hg215).ext hx229).ext hx257))
 have d270:=(RLs.ext rCg hl233 hx257)
 have hv271:=version_good (sd:=[(115:UInt8),(101:UInt8),(101:UInt8),(100:UInt8)]) hk (n:=1) (by omega) (show checkE oneL=0 by decide) (show checkE []=0 from rfl) (by have h5:=(show oneL.length≤12 by decide);have h6:=(show ([]:List It).length≤12 by simp);omega)
 obtain ⟨vr272,hvr273⟩:∃ z,versionV ([(115:UInt8),(101:UInt8),(101:UInt8),(100:UInt8)]) 2 ((1:Nat):Int) 1 ([]) (diffL oneL ([]))=z:=⟨_,rfl⟩
 rw [hvr273] at hv271
 refine wpl_op (i:=4) rfl (o_call F268 rfl rfl rfl rfl (rn_call (args4 (F268.get rfl) (F268.get rfl) rfl (F268.get rfl)) rfl (by kernel_rfl)) (version_at (S:=fun _=>True) (some ⟨g254,0,none⟩) 1 ([(115:UInt8),(101:UInt8),(101:UInt8),(100:UInt8)]) 2 ((1:Nat):Int) (1) ([]) (diffL oneL ([])) _ (Fl.any d269) (RLs.sub (S':=fun _=>True) rIt (RLs.nil _:RLs RIt 2 (fun _=>False) _ _ _) fun _ _=>trivial) (RLs.sub (S':=fun _=>True) rCg d270 fun _ _=>trivial) (show ∀ x∈([]:List It),x.data.length≤4294967296 from fun x hx=>absurd hx (by simp)) (by have h6:=(show ([]:List It).length≤12 by simp);omega) (diff_sm (show ∀ x∈oneL,x.data.length≤4294967296 by decide) (show ∀ x∈([]:List It),x.data.length≤4294967296 from fun x hx=>absurd hx (by simp))) (hG.ext ((((((((((((((((((((Ext.refl w).trans hx8).gn hg15).trans hx24).trans hx40).gn hg47).trans hx57).trans hx70).gn hg77).trans hx86).gn hg93).trans hx102).trans hx119).trans hx152).trans hx195).trans hx203).gn hg211).gn hg215).trans hx229).trans hx257))) ?_)
 have hv2710:=hv271.1
 rw [hvr273,hv271.1,show keyS ([(115:UInt8),(101:UInt8),(101:UInt8),(100:UInt8)]) 2 ((1:Nat):Int) 1 ([]) (diffL oneL ([]))=[(115:UInt8),(101:UInt8),(101:UInt8),(100:UInt8)] from if_pos hv2710,show keyM ([(115:UInt8),(101:UInt8),(101:UInt8),(100:UInt8)]) 2 ((1:Nat):Int) 1 ([]) (diffL oneL ([]))=2 from if_pos hv2710,show keyU ([(115:UInt8),(101:UInt8),(101:UInt8),(100:UInt8)]) 2 ((1:Nat):Int) 1 ([]) (diffL oneL ([]))=((1:Nat):Int)+1 from if_pos hv2710]
 rintro _ w275 ⟨c277,o278,e279,p280,A281,n282,c283,rfl,hR284,hK285,hS286,hq287,hx276⟩
 obtain ⟨rfl,hkk⟩:=hq287 rfl;obtain ⟨rfl,rfl,rfl⟩:=Value.slice.inj hkk.symm
 have hvc274:vr272.chs=diffL oneL ([]):=by rw [hv271.2.1]
 obtain ⟨A288,c289,rfl,z290,z291⟩:=Fl.form hS286.op
 obtain ⟨A292,c293,rfl,z294,z295⟩:=Fl.form hS286.cl
 obtain ⟨A296,c297,rfl,z298,z299⟩:=Fl.form hS286.path
 refine ⟨_,rfl,?_⟩;intro a300 F301;clear F268;have z302:=hx276.size
 have d303:=(RLs.ext rCg (RLs.ext rCg hl233 hx257) hx276)
 have hl304:RLs RCg 3 (Clip (fun z=>w213.heap.size≤z) w228) w275 (vl A225 ((diffL oneL ([])).length) c226) vr272.chs:=by rw [hvc274];exact d303
 have hf305:Fl (Clip (fun b=>w255.heap.size≤b) w275) _ _ _ _ _:=Fl.subB hS286.op (fun _ h1 h2=>⟨h2,h1⟩)
 have hf306:Fl (Clip (fun b=>w255.heap.size≤b) w275) _ _ _ _ _:=Fl.subB hS286.cl (fun _ h1 h2=>⟨h2,h1⟩)
 have hf307:Fl (Clip (fun b=>w255.heap.size≤b) w275) _ _ _ _ _:=Fl.subB hS286.path (fun _ h1 h2=>⟨h2,h1⟩)
 refine F301.xm rfl<|Xv (ag ((vi vr272.no)::dg vr272.state [(vl A225 ((diffL oneL ([])).length) c226),(vi vr272.sg.index),(vl A288 vr272.sg.op.length c289),(vl A292 vr272.sg.cl.length c293),(vl A296 vr272.sg.path.length c297)]))<|Xv (.agg #[(vl A19 n20 c21),(vi 2),(vi (2:Nat))])<|Xv (vi 0)<|fun _ F315=>?_;clear F301
 refine F315.xz vz 30 fun g316 w317 _ F323 z320 z321 b318 hx319=>?_;clear F315
 refine F323.xz [v0,(vi 0),(vi 0)] 56 fun g324 w325 _ F331 z328 z329 b326 hx327=>?_;clear F323
 have b332:=(b318.ext hx327)
 refine F331.xs rfl b332 (fun w333 b334 hg335=>?_) (hk:=len_dig1 hR284.st);have z336:=hg335.size
 have b340:=(b326.gn hg335)
 refine F331.xs rfl b340 (fun w337 b338 hg339=>?_);have z341:=hg339.size
 refine F331.xa rfl<|fun _ F343=>?_;clear F331
 refine wpList_nil (hK247 _ _ ?_);clear hK247
 have F344:=F343.k [0,1,2,3,4,5,6,7,8,9,10,11,12,13,15];clear F343
 refine wr fun K345 hK345=>?_
 have b346:=((((((((((((((((b76.ext hx86).gn hg93).ext hx102).ext hx119).ext hx152).ext hx195).ext hx203).gn hg211).gn hg215).ext hx229).ext hx257).ext hx276).ext hx319).ext hx327).gn hg335).gn hg339)
 refine F344.xw (.agg (byteVals (pubF ([(115:UInt8),(101:UInt8),(101:UInt8),(100:UInt8)]) 2 0)).toArray) (fun F=>rb F rfl b346 (hk:=byteVals_len (pubF_len _ _ _)))<|fun _ F348=>?_;clear F344
 refine F348.xc (join_ok (pubF ([(115:UInt8),(101:UInt8),(101:UInt8),(100:UInt8)]) 2 0) _ (pubF_len _ _ _)) ?_
 rintro _ w349 ⟨rfl,hx350⟩
 refine ⟨_,rfl,?_⟩;intro a351 F352;clear F348;have z353:=hx350.size
 refine F352.xm rfl<|Xv (ag (dg (pubF ([(115:UInt8),(101:UInt8),(101:UInt8),(100:UInt8)]) 2 0) [(vi 2),(vi 0),v0,v0]))<|Xv (vi 0)<|fun _ F359=>?_;clear F352
 refine F359.xz fz 41 fun g360 w361 _ F367 z364 z365 b362 hx363=>?_;clear F359
 refine F367.xs rfl b362 (fun w368 b369 hg370=>?_) (hk:=len_dig (pubF_len _ _ _));have z371:=hg370.size
 refine F367.xa rfl<|fun _ F373=>?_;clear F367
 refine wpList_nil (hK345 _ _ ?_);clear hK345
 have F374:=F373.k [0,1,2,3,4,5,6,7,8,9,10,11,12,13,15,16,17];clear F373
 refine wr fun K375 hK375=>?_
 have b376:=(((b346.ext hx350).ext hx363).gn hg370)
 refine F374.xw (.agg (byteVals (pubF ([(115:UInt8),(101:UInt8),(101:UInt8),(100:UInt8)]) 2 0)).toArray) (fun F=>rb F rfl b376 (hk:=byteVals_len (pubF_len _ _ _)))<|fun _ F378=>?_;clear F374
 refine F378.xc (join_no (pubF ([(115:UInt8),(101:UInt8),(101:UInt8),(100:UInt8)]) 2 0) _ (pubF_len _ _ _)) ?_
 rintro _ w379 ⟨rfl,hx380⟩
 refine ⟨_,rfl,?_⟩;intro a381 F382;clear F378;have z383:=hx380.size
 refine F382.xm rfl<|Xv (ag fz)<|Xv (vi 40)<|fun _ F389=>?_;clear F382
 refine F389.xz fz 41 fun g390 w391 _ F397 z394 z395 b392 hx393=>?_;clear F389
 refine F397.xs rfl b392 (fun w398 b399 hg400=>?_);have z401:=hg400.size
 refine F397.xa rfl<|fun _ F403=>?_;clear F397
 refine wpList_nil (hK375 _ _ ?_);clear hK375
 have F404:=F403.k [0,1,2,3,4,5,6,7,8,9,10,11,12,13,15,16,17,19];clear F403
 refine wr fun K405 hK405=>?_
 have b406:=(((b369.ext hx380).ext hx393).gn hg400)
 refine F404.xw (ag (dg (pubF ([(115:UInt8),(101:UInt8),(101:UInt8),(100:UInt8)]) 2 0) [(vi 2),(vi 0),v0,v0])) (fun F=>rb F rfl b406 (hk:=len_dig (pubF_len _ _ _)))<|fun _ F408=>?_;clear F404
 have b409:=(((((((b334.gn hg339).ext hx350).ext hx363).gn hg370).ext hx380).ext hx393).gn hg400)
 refine F408.xw (ag ((vi vr272.no)::dg vr272.state [(vl A225 ((diffL oneL ([])).length) c226),(vi vr272.sg.index),(vl A288 vr272.sg.op.length c289),(vl A292 vr272.sg.cl.length c293),(vl A296 vr272.sg.path.length c297)])) (fun F=>rb F rfl b409 (hk:=len_dig1 hR284.st))<|fun _ F411=>?_;clear F408
 have hD412:=duo_of hk (a:=oneL) (b:=[]) (by decide) rfl (by decide) hvr149 hvr273
 have d413:=(RLs.pres rCg hl304 (((((((((((Pres.refl w275).ext hx319).ext hx327).gc hg335).gc hg339).ext hx350).ext hx363).gc hg370).ext hx380).ext hx393).gc hg400))
 have d414:=(hf305.pres (((((((((((Pres.refl w275).ext hx319).ext hx327).gc hg335).gc hg339).ext hx350).ext hx363).gc hg370).ext hx380).ext hx393).gc hg400))
 have d415:=(hf306.pres (((((((((((Pres.refl w275).ext hx319).ext hx327).gc hg335).gc hg339).ext hx350).ext hx363).gc hg370).ext hx380).ext hx393).gc hg400))
 have d416:=(hf307.pres (((((((((((Pres.refl w275).ext hx319).ext hx327).gc hg335).gc hg339).ext hx350).ext hx363).gc hg370).ext hx380).ext hx393).gc hg400))
 refine wpl_op (i:=2) rfl (o_call F411 rfl rfl rfl rfl (rn_call (args2 (F411.get rfl) (F411.get rfl)) rfl (by kernel_rfl)) (recv_at (fun b=>b<w398.heap.size) (pubF ([(115:UInt8),(101:UInt8),(101:UInt8),(100:UInt8)]) 2 0) 0 ([]) ([]) vr272 _ (pubF [115,101,101,100] 2 0) 2 0 ([]) ([vr272]) 0 hD412.early (pubF_len _ _ _) (RLs.sub (S':=fun b=>b<w398.heap.size) rIt (RLs.nil _:RLs RIt 2 (fun _=>False) _ _ _) cb) (RLs.sub (S':=fun b=>b<w398.heap.size) rVr (RLs.nil _:RLs RVr 38 (fun _=>False) _ _ _) cb) (⟨hR284.st,(RLs.sub (S':=fun b=>b<w398.heap.size) rCg d413 cb),⟨Fl.sub (S':=fun b=>b<w398.heap.size) d414 cb,Fl.sub (S':=fun b=>b<w398.heap.size) d415 cb,Fl.sub (S':=fun b=>b<w398.heap.size) d416 cb,hS286.o32,hS286.c32,hS286.p32⟩⟩:RVp (fun b=>b<w398.heap.size) _ _ _ _ _ vr272) (show ∀ x∈([]:List It),x.data.length≤4294967296 from fun x hx=>absurd hx (by simp)) (fun v hv=>absurd hv (by simp)) (by rw [hv271.2.1];exact diff_sm (show ∀ x∈oneL,x.data.length≤4294967296 by decide) (show ∀ x∈([]:List It),x.data.length≤4294967296 from fun x hx=>absurd hx (by simp))) (hG.ext (((((((((((((((((((((((((((((((Ext.refl w).trans hx8).gn hg15).trans hx24).trans hx40).gn hg47).trans hx57).trans hx70).gn hg77).trans hx86).gn hg93).trans hx102).trans hx119).trans hx152).trans hx195).trans hx203).gn hg211).gn hg215).trans hx229).trans hx257).trans hx276).trans hx319).trans hx327).gn hg335).gn hg339).trans hx350).trans hx363).gn hg370).trans hx380).trans hx393).gn hg400))) ?_)
 rintro _ w417 ⟨c419,e420,rfl,hL421,hE422,hP423,hx418⟩
 obtain ⟨A424,k425,rfl,z426,z427⟩:∃ A k,c419=.slice A 0 k∧0≤k∧k≤9223372036854775807:=RLs.form hL421
 have hl428:RLs RIt 2 (Clip (fun b=>b<w398.heap.size∨w398.heap.size≤b) w417) w417 (vl A424 0 k425) ([]):=hL421
 obtain ⟨A429,k430,rfl,z431,z432⟩:∃ A k,e420=.slice A 1 k∧1≤k∧k≤9223372036854775807:=RLs.form hE422
 have hl433:RLs RVr 38 (Clip (fun b=>b<w398.heap.size∨w398.heap.size≤b) w417) w417 (vl A429 1 k430) ([vr272]):=hE422
 refine ⟨_,rfl,?_⟩;intro a434 F435;clear F411;have z436:=hx418.size
 refine F435.xm rfl<|Xv (ag (dg (pubF [115,101,101,100] 2 0) [(vi 2),(vi 0),(vl A424 0 k425),(vl A429 1 k430)]))<|Xv (vi 0)<|fun _ F442=>?_;clear F435
 refine F442.xz fz 41 fun g443 w444 _ F450 z447 z448 b445 hx446=>?_;clear F442
 refine F450.xs rfl b445 (fun w451 b452 hg453=>?_) (hk:=len_dig (pubF_len _ _ _));have z454:=hg453.size
 refine F450.xa rfl<|fun _ F456=>?_;clear F450
 refine wpList_nil (hK405 _ _ ?_);clear hK405
 have F457:=F456.k [0,1,2,3,4,5,6,7,8,9,10,11,12,13,15,16,17,19,20,21];clear F456
 refine wr fun K458 hK458=>?_
 refine F457.xw (ag (dg (pubF [115,101,101,100] 2 0) [(vi 2),(vi 0),(vl A424 0 k425),(vl A429 1 k430)])) (fun F=>rb F rfl b452 (hk:=len_dig (pubF_len _ _ _)))<|fun _ F460=>?_;clear F457
 have b461:=(((((((((((((((b251.ext hx257).ext hx276).ext hx319).ext hx327).gn hg335).gn hg339).ext hx350).ext hx363).gn hg370).ext hx380).ext hx393).gn hg400).ext hx418).ext hx446).gn hg453)
 refine F460.xw (ag ((vi vr148.no)::dg vr148.state [(vl A115 ((diffL ([]) oneL).length) c116),(vi vr148.sg.index),(vl A164 vr148.sg.op.length c165),(vl A168 vr148.sg.cl.length c169),(vl A172 vr148.sg.path.length c173)])) (fun F=>rb F rfl b461 (hk:=len_dig1 hR160.st))<|fun _ F463=>?_;clear F460
 have d464:=(RLs.pres rIt hl428 (((Pres.refl w417).ext hx446).gc hg453))
 have d465:=(RLs.pres rVr hl433 (((Pres.refl w417).ext hx446).gc hg453))
 have d466:=(RLs.pres rCg hl180 (((((((((((((((((((((Pres.refl w151).ext hx195).ext hx203).gc hg211).gc hg215).ext hx229).ext hx257).ext hx276).ext hx319).ext hx327).gc hg335).gc hg339).ext hx350).ext hx363).gc hg370).ext hx380).ext hx393).gc hg400).ext hx418).ext hx446).gc hg453))
 have d467:=(hf181.pres (((((((((((((((((((((Pres.refl w151).ext hx195).ext hx203).gc hg211).gc hg215).ext hx229).ext hx257).ext hx276).ext hx319).ext hx327).gc hg335).gc hg339).ext hx350).ext hx363).gc hg370).ext hx380).ext hx393).gc hg400).ext hx418).ext hx446).gc hg453))
 have d468:=(hf182.pres (((((((((((((((((((((Pres.refl w151).ext hx195).ext hx203).gc hg211).gc hg215).ext hx229).ext hx257).ext hx276).ext hx319).ext hx327).gc hg335).gc hg339).ext hx350).ext hx363).gc hg370).ext hx380).ext hx393).gc hg400).ext hx418).ext hx446).gc hg453))
 have d469:=(hf183.pres (((((((((((((((((((((Pres.refl w151).ext hx195).ext hx203).gc hg211).gc hg215).ext hx229).ext hx257).ext hx276).ext hx319).ext hx327).gc hg335).gc hg339).ext hx350).ext hx363).gc hg370).ext hx380).ext hx393).gc hg400).ext hx418).ext hx446).gc hg453))
 refine wpl_op (i:=2) rfl (o_call F463 rfl rfl rfl rfl (rn_call (args2 (F463.get rfl) (F463.get rfl)) rfl (by kernel_rfl)) (recv_at (fun b=>b<w451.heap.size) (pubF [115,101,101,100] 2 0) 0 ([]) ([vr272]) vr148 _ (pubF [115,101,101,100] 2 0) 2 2 ([]) ([]) 0 hD412.late (pubF_len _ _ _) (RLs.sub (S':=fun b=>b<w451.heap.size) rIt d464 cb) (RLs.sub (S':=fun b=>b<w451.heap.size) rVr d465 cb) (⟨hR160.st,(RLs.sub (S':=fun b=>b<w451.heap.size) rCg d466 cb),⟨Fl.sub (S':=fun b=>b<w451.heap.size) d467 cb,Fl.sub (S':=fun b=>b<w451.heap.size) d468 cb,Fl.sub (S':=fun b=>b<w451.heap.size) d469 cb,hS162.o32,hS162.c32,hS162.p32⟩⟩:RVp (fun b=>b<w451.heap.size) _ _ _ _ _ vr148) (show ∀ x∈([]:List It),x.data.length≤4294967296 from fun x hx=>absurd hx (by simp)) (fun v hv=>by rw [List.mem_singleton.1 hv];exact (by rw [hv271.2.1];exact diff_sm (show ∀ x∈oneL,x.data.length≤4294967296 by decide) (show ∀ x∈([]:List It),x.data.length≤4294967296 from fun x hx=>absurd hx (by simp)))) (by rw [hv147.2.1];exact diff_sm (show ∀ x∈([]:List It),x.data.length≤4294967296 from fun x hx=>absurd hx (by simp)) (show ∀ x∈oneL,x.data.length≤4294967296 by decide)) (hG.ext ((((((((((((((((((((((((((((((((((Ext.refl w).trans hx8).gn hg15).trans hx24).trans hx40).gn hg47).trans hx57).trans hx70).gn hg77).trans hx86).gn hg93).trans hx102).trans hx119).trans hx152).trans hx195).trans hx203).gn hg211).gn hg215).trans hx229).trans hx257).trans hx276).trans hx319).trans hx327).gn hg335).gn hg339).trans hx350).trans hx363).gn hg370).trans hx380).trans hx393).gn hg400).trans hx418).trans hx446).gn hg453))) ?_)
 rintro _ w470 ⟨c472,e473,rfl,hL474,hE475,hP476,hx471⟩
 obtain ⟨A477,k478,rfl,z479,z480⟩:∃ A k,c472=.slice A 0 k∧0≤k∧k≤9223372036854775807:=RLs.form hL474
 have hl481:RLs RIt 2 (Clip (fun b=>b<w451.heap.size∨w451.heap.size≤b) w470) w470 (vl A477 0 k478) ([]):=hL474
 obtain ⟨A482,k483,rfl,z484,z485⟩:∃ A k,e473=.slice A 0 k∧0≤k∧k≤9223372036854775807:=RLs.form hE475
 have hl486:RLs RVr 38 (Clip (fun b=>b<w451.heap.size∨w451.heap.size≤b) w470) w470 (vl A482 0 k483) ([]):=hE475
 refine ⟨_,rfl,?_⟩;intro a487 F488;clear F463;have z489:=hx471.size
 refine F488.xm rfl<|Xv (ag (dg (pubF [115,101,101,100] 2 0) [(vi 2),(vi 2),(vl A477 0 k478),(vl A482 0 k483)]))<|Xv (vi 0)<|fun _ F495=>?_;clear F488
 refine F495.xz fz 41 fun g496 w497 _ F503 z500 z501 b498 hx499=>?_;clear F495
 refine F503.xs rfl b498 (fun w504 b505 hg506=>?_) (hk:=len_dig (pubF_len _ _ _));have z507:=hg506.size
 refine F503.xa rfl<|fun _ F509=>?_;clear F503
 refine wpList_nil (hK458 _ _ ?_);clear hK458
 have F510:=F509.k [0,1,2,3,4,5,6,7,8,9,10,11,12,13,15,16,17,19,20,21,22,23];clear F509
 refine wr fun K511 hK511=>?_
 refine F510.xw (ag (dg (pubF [115,101,101,100] 2 0) [(vi 2),(vi 2),(vl A477 0 k478),(vl A482 0 k483)])) (fun F=>rb F rfl b505 (hk:=len_dig (pubF_len _ _ _)))<|fun _ F513=>?_;clear F510
 have b514:=(((b461.ext hx471).ext hx499).gn hg506)
 refine F513.xw (ag ((vi vr148.no)::dg vr148.state [(vl A115 ((diffL ([]) oneL).length) c116),(vi vr148.sg.index),(vl A164 vr148.sg.op.length c165),(vl A168 vr148.sg.cl.length c169),(vl A172 vr148.sg.path.length c173)])) (fun F=>rb F rfl b514 (hk:=len_dig1 hR160.st))<|fun _ F516=>?_;clear F513
 have d517:=(RLs.pres rIt hl481 (((Pres.refl w470).ext hx499).gc hg506))
 have d518:=(RLs.pres rVr hl486 (((Pres.refl w470).ext hx499).gc hg506))
 have d519:=(RLs.pres rCg hl180 ((((((((((((((((((((((((Pres.refl w151).ext hx195).ext hx203).gc hg211).gc hg215).ext hx229).ext hx257).ext hx276).ext hx319).ext hx327).gc hg335).gc hg339).ext hx350).ext hx363).gc hg370).ext hx380).ext hx393).gc hg400).ext hx418).ext hx446).gc hg453).ext hx471).ext hx499).gc hg506))
 have d520:=(hf181.pres ((((((((((((((((((((((((Pres.refl w151).ext hx195).ext hx203).gc hg211).gc hg215).ext hx229).ext hx257).ext hx276).ext hx319).ext hx327).gc hg335).gc hg339).ext hx350).ext hx363).gc hg370).ext hx380).ext hx393).gc hg400).ext hx418).ext hx446).gc hg453).ext hx471).ext hx499).gc hg506))
 have d521:=(hf182.pres ((((((((((((((((((((((((Pres.refl w151).ext hx195).ext hx203).gc hg211).gc hg215).ext hx229).ext hx257).ext hx276).ext hx319).ext hx327).gc hg335).gc hg339).ext hx350).ext hx363).gc hg370).ext hx380).ext hx393).gc hg400).ext hx418).ext hx446).gc hg453).ext hx471).ext hx499).gc hg506))
 have d522:=(hf183.pres ((((((((((((((((((((((((Pres.refl w151).ext hx195).ext hx203).gc hg211).gc hg215).ext hx229).ext hx257).ext hx276).ext hx319).ext hx327).gc hg335).gc hg339).ext hx350).ext hx363).gc hg370).ext hx380).ext hx393).gc hg400).ext hx418).ext hx446).gc hg453).ext hx471).ext hx499).gc hg506))
 refine wpl_op (i:=2) rfl (o_call F516 rfl rfl rfl rfl (rn_call (args2 (F516.get rfl) (F516.get rfl)) rfl (by kernel_rfl)) (recv_at (fun b=>b<w504.heap.size) (pubF [115,101,101,100] 2 0) 2 ([]) ([]) vr148 _ zero32 0 0 ([]) ([]) 420 hD412.again2.1 (pubF_len _ _ _) (RLs.sub (S':=fun b=>b<w504.heap.size) rIt d517 cb) (RLs.sub (S':=fun b=>b<w504.heap.size) rVr d518 cb) (⟨hR160.st,(RLs.sub (S':=fun b=>b<w504.heap.size) rCg d519 cb),⟨Fl.sub (S':=fun b=>b<w504.heap.size) d520 cb,Fl.sub (S':=fun b=>b<w504.heap.size) d521 cb,Fl.sub (S':=fun b=>b<w504.heap.size) d522 cb,hS162.o32,hS162.c32,hS162.p32⟩⟩:RVp (fun b=>b<w504.heap.size) _ _ _ _ _ vr148) (show ∀ x∈([]:List It),x.data.length≤4294967296 from fun x hx=>absurd hx (by simp)) (fun v hv=>absurd hv (by simp)) (by rw [hv147.2.1];exact diff_sm (show ∀ x∈([]:List It),x.data.length≤4294967296 from fun x hx=>absurd hx (by simp)) (show ∀ x∈oneL,x.data.length≤4294967296 by decide)) (hG.ext (((((((((((((((((((((((((((((((((((((Ext.refl w).trans hx8).gn hg15).trans hx24).trans hx40).gn hg47).trans hx57).trans hx70).gn hg77).trans hx86).gn hg93).trans hx102).trans hx119).trans hx152).trans hx195).trans hx203).gn hg211).gn hg215).trans hx229).trans hx257).trans hx276).trans hx319).trans hx327).gn hg335).gn hg339).trans hx350).trans hx363).gn hg370).trans hx380).trans hx393).gn hg400).trans hx418).trans hx446).gn hg453).trans hx471).trans hx499).gn hg506))) ?_)
 rintro _ w523 ⟨c525,e526,rfl,hL527,hE528,hP529,hx524⟩
 obtain ⟨A530,k531,rfl,z532,z533⟩:∃ A k,c525=.slice A 0 k∧0≤k∧k≤9223372036854775807:=RLs.form hL527
 have hl534:RLs RIt 2 (Clip (fun b=>b<w504.heap.size∨w504.heap.size≤b) w523) w523 (vl A530 0 k531) ([]):=hL527
 obtain ⟨A535,k536,rfl,z537,z538⟩:∃ A k,e526=.slice A 0 k∧0≤k∧k≤9223372036854775807:=RLs.form hE528
 have hl539:RLs RVr 38 (Clip (fun b=>b<w504.heap.size∨w504.heap.size≤b) w523) w523 (vl A535 0 k536) ([]):=hE528
 refine ⟨_,rfl,?_⟩;intro a540 F541;clear F516;have z542:=hx524.size
 refine F541.xm rfl<|Xv (ag (dg zero32 [(vi 0),(vi 0),(vl A530 0 k531),(vl A535 0 k536)]))<|Xv (vi 420)<|fun _ F548=>?_;clear F541
 refine F548.xz fz 41 fun g549 w550 _ F556 z553 z554 b551 hx552=>?_;clear F548
 refine F556.xs rfl b551 (fun w557 b558 hg559=>?_);have z560:=hg559.size
 refine F556.xa rfl<|fun _ F562=>?_;clear F556
 refine wpList_nil (hK511 _ _ ?_);clear hK511
 have F563:=F562.k [0,1,2,3,4,5,6,7,8,9,10,11,12,13,15,16,17,19,20,21,22,23,25];clear F562
 refine wr fun K564 hK564=>?_
 refine F563.xm rfl<|Xv (.bool true)<|Xm rfl<|Xg (vi (pubE ([(115:UInt8),(101:UInt8),(101:UInt8),(100:UInt8)]) 2 0))<|Xg (.bool (decide (((pubE ([(115:UInt8),(101:UInt8),(101:UInt8),(100:UInt8)]) 2 0):Int)=(0:Int))))<|Xv (.bool (decide (((pubE ([(115:UInt8),(101:UInt8),(101:UInt8),(100:UInt8)]) 2 0):Int)=(0:Int))))<|Xm rfl<|fun _ F578=>?_;clear F563
 refine qg 7 (vi 0) F578 ((decide_eq_true (pub_u hk (by decide) (by decide)).2):decide (((pubE ([(115:UInt8),(101:UInt8),(101:UInt8),(100:UInt8)]) 2 0):Int)=(0:Int))=true) (rn_move (F578.get rfl)) fun _ F581=>?_;clear F578
 refine qg 8 (.bool true) F581 ((decide_eq_true (pub_u hk (by decide) (by decide)).2):decide (((pubE ([(115:UInt8),(101:UInt8),(101:UInt8),(100:UInt8)]) 2 0):Int)=(0:Int))=true) (rn_eql' (F581.get rfl) rfl (by decide)) fun _ F583=>?_;clear F581
 refine F583.xw (.bool true) (fun F=>rn_pickT (c_true F rfl ((decide_eq_true (pub_u hk (by decide) (by decide)).2):decide (((pubE ([(115:UInt8),(101:UInt8),(101:UInt8),(100:UInt8)]) 2 0):Int)=(0:Int))=true)) (F.get rfl))<|Xm rfl<|Xg (vi 0)<|Xg (.bool true)<|Xv (.bool true)<|Xm rfl<|Xg (vp g192)<|fun _ F597=>?_;clear F583
 have b598:=(((b514.ext hx524).ext hx552).gn hg559)
 refine F597.xgw (vi vr148.no) (fun F=>rl F rfl ((b598.rule.1 0).trans rfl))<|Xg (.bool (decide ((vr148.no:Int)=(1:Int))))<|Xv (.bool (decide ((vr148.no:Int)=(1:Int))))<|Xm rfl<|fun _ F606=>?_;clear F597
 refine qg 20 (.pointer (some ⟨g192,34,none⟩)) F606 ((decide_eq_true (congrArg Vr.no hv147.2.1)):decide ((vr148.no:Int)=(1:Int))=true) (rn_field Tryd.underlying30 rfl (by kernel_rfl) (F606.get rfl) rfl) fun _ F609=>?_;clear F606
 refine qg 21 (.pointer (some ⟨g192,34,none⟩)) F609 ((decide_eq_true (congrArg Vr.no hv147.2.1)):decide ((vr148.no:Int)=(1:Int))=true) (rn_field Tryd.underlying28 rfl (by kernel_rfl) (F609.get rfl) rfl) fun _ F611=>?_;clear F609
 refine qg 22 (vi vr148.sg.index) F611 ((decide_eq_true (congrArg Vr.no hv147.2.1)):decide ((vr148.no:Int)=(1:Int))=true) (rl F611 rfl ((b598.rule.1 34).trans ((at_app (k:=1) (byteVals_len hR160.st)).trans rfl))) fun _ F613=>?_;clear F611
 refine qg 23 (.bool (decide ((vr148.sg.index:Int)=(0:Int)))) F613 ((decide_eq_true (congrArg Vr.no hv147.2.1)):decide ((vr148.no:Int)=(1:Int))=true) (rn_eql (F613.get rfl) rfl) fun _ F615=>?_;clear F613
 refine F615.xw (.bool (decide ((vr148.sg.index:Int)=(0:Int)))) (fun F=>rn_pickT (c_true F rfl ((decide_eq_true (congrArg Vr.no hv147.2.1)):decide ((vr148.no:Int)=(1:Int))=true)) (F.get rfl))<|Xm rfl<|fun _ F619=>?_;clear F615
 refine qg 26 (vi 0) F619 ((decide_eq_true (version_idx hk (n:=0) (by decide) hv147.2.1)):decide ((vr148.sg.index:Int)=(0:Int))=true) (rn_move (F619.get rfl)) fun _ F622=>?_;clear F619
 refine qg 27 (.bool true) F622 ((decide_eq_true (version_idx hk (n:=0) (by decide) hv147.2.1)):decide ((vr148.sg.index:Int)=(0:Int))=true) (rn_eql' (F622.get rfl) rfl (by decide)) fun _ F624=>?_;clear F622
 refine F624.xw (.bool true) (fun F=>rn_pickT (c_true F rfl ((decide_eq_true (version_idx hk (n:=0) (by decide) hv147.2.1)):decide ((vr148.sg.index:Int)=(0:Int))=true)) (F.get rfl))<|Xm rfl<|Xg (vi 0)<|Xg (.bool true)<|Xv (.bool true)<|Xm rfl<|Xg (vi 0)<|Xg (.bool true)<|Xv (.bool true)<|Xm rfl<|Xg (vi 40)<|Xg (.bool true)<|Xv (.bool true)<|Xm rfl<|fun _ F652=>?_;clear F624
 have b653:=(((((((((b406.ext hx418).ext hx446).gn hg453).ext hx471).ext hx499).gn hg506).ext hx524).ext hx552).gn hg559)
 refine F652.xgw (ag (dg (pubF ([(115:UInt8),(101:UInt8),(101:UInt8),(100:UInt8)]) 2 0) [(vi 2),(vi 0),v0,v0])) (fun F=>rb F rfl b653 (hk:=len_dig (pubF_len _ _ _)))<|fun _ F655=>?_;clear F652
 refine wpl_op (i:=43) rfl (o_call F655 rfl (wanted_guard rfl rfl rfl F655 rfl rfl rfl) rfl rfl (rn_call (args1 (F655.get rfl)) rfl (by kernel_rfl)) (wants_fo (pubF ([(115:UInt8),(101:UInt8),(101:UInt8),(100:UInt8)]) 2 0) 0 ([]) ([]) _ 1 rfl (pubF_len _ _ _) (RLs.nil _:RLs RIt 2 (fun _=>False) _ _ _) (RLs.nil _:RLs RVr 38 (fun _=>False) _ _ _) (by omega)) ?_)
 rintro _ w656 ⟨rfl,hx657⟩
 refine ⟨_,rfl,?_⟩;intro a658 F659;clear F655;have z660:=hx657.size
 refine F659.xg (.bool true)<|Xv (.bool true)<|Xa rfl<|fun _ F666=>?_;clear F659
 refine wpList_nil (hK564 _ _ ?_);clear hK564
 have F667:=F666.k [0,1,2,3,4,5,6,7,8,9,10,11,12,13,15,16,17,19,20,21,22,23,25,26];clear F666
 refine wr fun K668 hK668=>?_
 refine F667.xm rfl<|Xm rfl<|Xg (vi 0)<|Xg (.bool true)<|Xv (.bool true)<|Xm rfl<|Xg (.pointer (some ⟨g443,33,none⟩))<|fun _ F682=>?_;clear F667
 have b683:=(((((((b452.ext hx471).ext hx499).gn hg506).ext hx524).ext hx552).gn hg559).ext hx657)
 refine F682.xgw (vi 0) (fun F=>rl F rfl ((b683.rule.1 33).trans ((at_app (k:=1) (byteVals_len (pubF_len _ _ _))).trans rfl)))<|Xg (.bool true)<|Xv (.bool true)<|Xm rfl<|Xg (.pointer (some ⟨g443,35,none⟩))<|Xgw (vl A429 1 k430) (fun F=>rl F rfl ((b683.rule.1 35).trans ((at_app (k:=3) (byteVals_len (pubF_len _ _ _))).trans rfl)))<|Xg (vi 1)<|Xg (.bool true)<|Xv (.bool true)<|Xm rfl<|Xg (vi 0)<|Xg (.bool true)<|Xv (.bool true)<|Xm rfl<|Xg (.pointer (some ⟨g496,33,none⟩))<|fun _ F713=>?_;clear F682
 have b714:=((((b505.ext hx524).ext hx552).gn hg559).ext hx657)
 refine F713.xgw (vi 2) (fun F=>rl F rfl ((b714.rule.1 33).trans ((at_app (k:=1) (byteVals_len (pubF_len _ _ _))).trans rfl)))<|Xg (.bool true)<|Xv (.bool true)<|Xm rfl<|Xg (.pointer (some ⟨g496,34,none⟩))<|Xgw (vl A477 0 k478) (fun F=>rl F rfl ((b714.rule.1 34).trans ((at_app (k:=2) (byteVals_len (pubF_len _ _ _))).trans rfl)))<|Xg (vi 0)<|Xg (.bool true)<|Xv (.bool true)<|Xm rfl<|Xg (.pointer (some ⟨g496,35,none⟩))<|Xgw (vl A482 0 k483) (fun F=>rl F rfl ((b714.rule.1 35).trans ((at_app (k:=3) (byteVals_len (pubF_len _ _ _))).trans rfl)))<|Xg (vi 0)<|Xg (.bool true)<|Xv (.bool true)<|Xm rfl<|Xg (vi 420)<|Xg (.bool true)<|Xv (.bool true)<|Xm rfl<|fun _ F754=>?_;clear F713
 have b755:=(((((((((((((b376.ext hx380).ext hx393).gn hg400).ext hx418).ext hx446).gn hg453).ext hx471).ext hx499).gn hg506).ext hx524).ext hx552).gn hg559).ext hx657)
 refine F754.xgw (.agg (byteVals (pubF ([(115:UInt8),(101:UInt8),(101:UInt8),(100:UInt8)]) 2 0)).toArray) (fun F=>rb F rfl b755 (hk:=byteVals_len (pubF_len _ _ _)))<|Xgw (ag vz) (fun F=>rn_build (parts0 ) (by kernel_rfl))<|fun _ F759=>?_;clear F754
 refine wpl_op (i:=44) rfl (o_call F759 rfl (wanted_guard rfl rfl rfl F759 rfl rfl rfl) rfl rfl (rn_call (args3 (F759.get rfl) rfl (F759.get rfl)) rfl (by kernel_rfl)) (verify_nil (pubF ([(115:UInt8),(101:UInt8),(101:UInt8),(100:UInt8)]) 2 0) _ (pubF_len _ _ _) (hG.ext (((((((((((((((((((((((((((((((((((((((((Ext.refl w).trans hx8).gn hg15).trans hx24).trans hx40).gn hg47).trans hx57).trans hx70).gn hg77).trans hx86).gn hg93).trans hx102).trans hx119).trans hx152).trans hx195).trans hx203).gn hg211).gn hg215).trans hx229).trans hx257).trans hx276).trans hx319).trans hx327).gn hg335).gn hg339).trans hx350).trans hx363).gn hg370).trans hx380).trans hx393).gn hg400).trans hx418).trans hx446).gn hg453).trans hx471).trans hx499).gn hg506).trans hx524).trans hx552).gn hg559).trans hx657))) ?_)
 rintro _ w760 ⟨rfl,hx761⟩
 refine ⟨_,rfl,?_⟩;intro a762 F763;clear F759;have z764:=hx761.size
 refine F763.xg (.bool true)<|Xv (.bool true)<|Xa rfl<|fun _ F770=>?_;clear F763
 refine wpList_nil (hK668 _ _ ?_);clear hK668
 have F771:=F770.k [0,1,2,3,4,5,6,7,8,9,10,11,12,13,15,16,17,19,20,21,22,23,25,26];clear F770
 refine wp_ret ?_
 refine ret1 F771 rfl rfl ?_
 exact ⟨rfl,((((((((((((((((((((((((((((((((((((((((((Ext.refl w).trans hx8).gn hg15).trans hx24).trans hx40).gn hg47).trans hx57).trans hx70).gn hg77).trans hx86).gn hg93).trans hx102).trans hx119).trans hx152).trans hx195).trans hx203).gn hg211).gn hg215).trans hx229).trans hx257).trans hx276).trans hx319).trans hx327).gn hg335).gn hg339).trans hx350).trans hx363).gn hg370).trans hx380).trans hx393).gn hg400).trans hx418).trans hx446).gn hg453).trans hx471).trans hx499).gn hg506).trans hx524).trans hx552).gn hg559).trans hx657).trans hx761)⟩

end Go.Proofs.YtihgmaoghbnnaaaDoor

namespace Go.Proofs.YtihgmaoghbnnaaaDoor
open Go.RowKit

variable {S S':Nat→Prop}

theorem few_sm {l:List It} (h:fewI l):∀ x∈l,x.data.length≤4294967296:=fun x hx=>by have:=(h.2 x hx).2;omega
theorem is_one {S:Nat→Prop} {w:World} {g:Nat} {t:TypeId} {u:Value} {a:List It} (h:Blk w g t [u]) (h1:u.oneCell'=true) (ha:RLs RIt 2 S w u a):RLs RIs 1 (fun _=>True) w (vl (some ⟨g,0,none⟩) 1 1) [a] :=
 RLs.one h rfl (fun z hz=>by rw [List.mem_singleton.1 hz];exact h1) trivial ⟨u,rfl,ha.sub rIt fun _ _=>trivial⟩
theorem seed_ok (seed:UInt8):1≤[seed].length∧[seed].length≤64:=⟨by simp,by simp⟩
theorem chain_one (seed:UInt8) {a:List It} (ha:checkE a=0) (hl:a.length≤65536):∃ v1 v2,chainL [seed] 0 [] [a]=[v1]∧Duo (pubF [seed] 2 0) a [] v1 v2∧v1.sg.index=0 :=
 ⟨_,_,rfl,duo_of (seed_ok seed) ha rfl (by simpa using hl) rfl rfl,version_idx (a:=[]) (b:=a) (seed_ok seed) (n:=0) (by omega) (version_good (seed_ok seed) (n:=0) (by omega) check_nil ha (by simp;omega)).2.1⟩
theorem hss_one {a:List It} (ha:checkE a=0) (hf:fewI a):∀ s∈[a],checkE s=0∧s.length≤12∧∀ x∈s,x.data.length≤4294967296:=fun s hs=>by
 rw [List.mem_singleton.1 hs];exact ⟨ha,hf.1,few_sm hf⟩
theorem El39:El Tryd.prog 39 22 v0 1 24:=⟨Tryd.underlying39,by kernel_rfl,rfl,by decide⟩
end Go.Proofs.YtihgmaoghbnnaaaDoor

namespace Go.Proofs.YtihgmaoghbnnaaaDoor
open Go.RowKit

variable {S S':Nat→Prop}

theorem version_no {kv u v:Value} {n:Nat} {S1 S2 S3:Nat→Prop} (L:Option Addr) (ld:Nat) (sd:List UInt8) (hs:1≤sd.length∧sd.length≤64) (a:List It) (l:List Cg) (w:World) (hf:Fl S1 w 1 kv n (byteVals sd)) (h1:RLs RIt 2 S2 w u a) (h2:RLs RCg 3 S3 w v l) (hsi:∀ x∈a,x.data.length≤4294967296) (hli:a.length≤4294967296) (hd:∀ x∈l,x.data.length≤4294967296) (hG:Glob w) :
  Calls Tryd.prog 21 #[.agg #[kv,.int .i64 2,.int .i64 0],.slice L 1 ld,u,v] w (fun e w'=>∃ C c O o E e' P p A n cc,e=.returned (.tuple #[ag (vcs 0 zero32 (vl C 0 c) 0 (vl O 0 o) (vl E 0 e') (vl P 0 p)),.agg #[.slice A n cc,.int .i64 0,.int .i64 0],.int .i64 420])∧Ext w w'):=by
 have h:=version_at (S:=fun _=>True) L ld sd 2 0 1 a l w (Fl.any hf) (h1.sub rIt fun _ _=>trivial) (h2.sub rCg fun _ _=>trivial) hsi hli hd hG
 have hE:versionE sd 2 0 1 a l=420:=(if_neg (fun q=>q (pub_u hs (by decide) (by decide)).2)).trans (if_pos (by decide))
 have hn:¬ versionE sd 2 0 1 a l=0:=by rw [hE];decide
 rw [hE,show versionV sd 2 0 1 a l=vrNil from if_neg hn,show keyM sd 2 0 1 a l=0 from if_neg hn,show keyU sd 2 0 1 a l=0 from if_neg hn] at h
 refine h.mono ?_
 rintro _ w' ⟨c,o,e',p,A,n,cc,rfl,hR,-,-,-,hx⟩
 obtain ⟨C,c,rfl,_⟩:∃ C k,c=.slice C 0 k∧0≤k∧k≤9223372036854775807:=RLs.form hR.chs
 obtain ⟨O,o,rfl,_⟩:=Fl.form hR.sg.op
 obtain ⟨E,e',rfl,_⟩:=Fl.form hR.sg.cl
 obtain ⟨P,p,rfl,_⟩:=Fl.form hR.sg.path
 exact ⟨C,c,O,o,E,e',P,p,A,n,cc,rfl,hx⟩
/-- which numbers a version's signature answers -/
theorem numbers_yes {pub:List UInt8} {a b:List It} {v1 v2:Vr} (h:Duo pub a b v1 v2) {no:Int} (h1:no=1):verifyE pub 2 ⟨no,v1.state,v1.chs,v1.sg⟩=0:=by
 have h2:=h.e1
 rw [show (⟨no,v1.state,v1.chs,v1.sg⟩:Vr)=v1 by rw [h1,← h.n1]]
 exact h2
theorem numbers_far (pub:List UInt8) (v1:Vr) {no:Int} (h1:no<1∨4096<no):verifyE pub 2 ⟨no,v1.state,v1.chs,v1.sg⟩=420:=if_pos h1
theorem numbers_no {pub:List UInt8} {a b:List It} {v1 v2:Vr} (h:Duo pub a b v1 v2) (hi:v1.sg.index=0) {no:Int} (h1:no≠1) (h2:¬ (no<1∨4096<no)):verifyE pub 2 ⟨no,v1.state,v1.chs,v1.sg⟩=131:=by
 have hv:validC v1.chs:=by rw [h.c1];exact diff_good check_nil h.ha (by have:=h.hl;simp;omega)
 exact (if_neg h2).trans ((if_neg (fun q=>q hv)).trans (if_pos (.inl (by show v1.sg.index≠no - 1;rw [hi];omega))))
set_option maxRecDepth 100000 in
set_option maxHeartbeats 1000000 in
theorem numbers_any (seed:UInt8) (A:Option Addr) (c:Nat) (a:List It) (no:Int) (w:World) (h:RLs RIt 2 S w (vl A a.length c) a) (hG:Glob w) :
  Calls Tryd.prog 7 #[.int .u8 (seed.toNat:Nat),.slice A a.length c,.int .i64 no] w (fun en w'=>en=.returned (.bool true)∧Ext w w'):=by
 have hc:RLs RIt 2 (Clip S w) w (vl A a.length c) a:=RLs.clip rIt h
 obtain ⟨-,hck,hcm⟩:=RLs.at h
 refine calls_enter Tryd.func7 rfl rfl rfl fun _ hF=>?_
 refine wr fun K1 hK1=>?_
 refine hF.xv (.bool false)<|fun _ F3=>?_;clear hF
 refine wpList_nil (hK1 _ _ ?_);clear hK1
 refine wp_seq_k fun K4 hK4=>?_
 refine wr fun K5 hK5=>?_
 refine wpl_op (i:=0) rfl (o_call F3 rfl rfl rfl rfl (rn_call (args0 ) rfl (by kernel_rfl)) (sane42_any _ (hG.ext (Ext.refl w))) ?_)
 rintro _ w6 ⟨rfl,hx7⟩
 refine ⟨_,rfl,?_⟩;intro a8 F9;clear F3;have z10:=hx7.size
 refine F9.xw (.bool false) (fun F=>rn_not' (F.get rfl) rfl)<|fun _ F12=>?_;clear F9
 refine wpList_nil (hK5 _ _ ?_);clear hK5
 refine F12.cf ?_
 refine wp_skip ?_
 refine hK4 _ _ ?_;clear hK4
 refine wp_seq_k fun K13 hK13=>?_
 refine wr fun K14 hK14=>?_
 refine F12.xm rfl<|fun _ F16=>?_;clear F12
 have d17:=(RLs.ext rIt hc hx7)
 refine F16.xc (few40_at (v:=(vl A a.length c)) a _ d17) ?_
 rintro _ w18 ⟨rfl,hx19⟩
 refine ⟨_,rfl,?_⟩;intro a20 F21;clear F16;have z22:=hx19.size
 refine F21.xw (.bool (!(decide (fewI a)))) (fun F=>rn_not' (F.get rfl) rfl)<|Xm rfl<|fun _ F26=>?_;clear F21
 by_cases hc27:fewI a
 ·skip
  refine F26.xg (vl A a.length c)<|fun _ F29=>?_;clear F26
  have d30:=(RLs.ext rIt (RLs.ext rIt hc hx7) hx19)
  refine wpl_op (i:=5) rfl (o_call F29 rfl (wanted_guard rfl rfl rfl F29 rfl (not_t (decide_eq_true hc27)) rfl) rfl rfl (rn_call (args1 (F29.get rfl)) rfl (by kernel_rfl)) (pcheck_at (v:=(vl A a.length c)) a _ d30) ?_)
  rintro _ w31 ⟨rfl,hx32⟩
  refine ⟨_,rfl,?_⟩;intro a33 F34;clear F29;have z35:=hx32.size
  refine F34.xg (.bool (decide (((checkE a):Int)≠(0:Int))))<|Xv (.bool (decide (((checkE a):Int)≠(0:Int))))<|fun _ F39=>?_;clear F34
  refine wpList_nil (hK14 _ _ ?_);clear hK14
  have F40:=F39.k [0,1,2,6,18,26];clear F39
  by_cases hc41:((checkE a):Int)≠(0:Int)
  ·skip
   refine F40.ct ?_
   refine wr fun K42 hK42=>?_
   refine F40.xv (.bool true)<|fun _ F44=>?_;clear F40
   refine wpList_nil (hK42 _ _ ?_);clear hK42
   refine wp_ret (ret_then ?_)
   refine ret1 F44 rfl rfl ?_
   exact ⟨rfl,((((Ext.refl w).trans hx7).trans hx19).trans hx32)⟩
  refine F40.cf ?_
  refine wp_skip ?_
  refine hK13 _ _ ?_;clear hK13
  refine wr fun K45 hK45=>?_
  refine F40.xm rfl<|Xm rfl<|fun _ F49=>?_;clear F40
  refine F49.xn (fun g=>(vl (some ⟨g,0,none⟩) 1 1)) [(vl A a.length c)] 22 (fun F=>rn_buildSlice (parts1 (F.get rfl)) (build_wholeE (vs:=[(vl A a.length c)]) El39 rfl rfl (fun z0 hz0=>by rw [List.mem_singleton.1 hz0];rfl) (by decide) (by decide) (by simp [Value.cells]))) fun g50 w51 _ F57 z54 z55 b52 hx53=>?_;clear F49
  have d59:=(RLs.ext rIt (RLs.ext rIt (RLs.ext rIt (RLs.ext rIt hc hx7) hx19) hx32) hx53)
  have hl58:RLs RIs 1 (Clip (fun _=>True) w51) w51 (vl (some ⟨g50,0,none⟩) 1 1) [a]:=RLs.clip rIs (is_one b52 rfl d59)
  have hAa:checkE a=0:=Decidable.not_not.1 (of_decide_eq_false (decide_eq_false hc41))
  have hFa:fewI a:=of_decide_eq_true (decide_eq_true hc27);have hFan:=hFa.1
  obtain ⟨v1,v2,hcl,hD,hidx⟩:=chain_one seed hAa (by omega)
  refine wpl_op (i:=3) rfl (o_call F57 rfl rfl rfl rfl (rn_call (args2 (F57.get rfl) (F57.get rfl)) rfl (by kernel_rfl)) (chain_at (v:=(vl (some ⟨g50,0,none⟩) 1 1)) seed [a] _ hl58 (hss_one hAa hFa) (by simp) (hG.ext (((((Ext.refl w).trans hx7).trans hx19).trans hx32).trans hx53))) ?_)
  rw [hcl]
  rintro _ w60 ⟨A62,n64,c63,rfl,hL65,hx61⟩
  obtain ⟨rfl,z67,z68⟩:n64=1∧n64≤c63∧c63≤9223372036854775807:=RLs.at hL65
  refine ⟨_,rfl,?_⟩;intro a69 F70;clear F57;have z71:=hx61.size
  have hl66:RLs RVr 38 (Clip (fun _=>True) w60) w60 (vl A62 1 c63) [v1]:=RLs.subB rVr hL65 (fun b hb _=>⟨trivial,hb⟩)
  refine F70.xm rfl<|Xv (.agg (byteVals (pubF [seed] 2 0)).toArray)<|Xv (vl A62 1 c63)<|Xv (.bool true)<|fun _ F79=>?_;clear F70
  refine F79.xz (byteVals (List.replicate 32 0)) 24 fun g80 w81 _ F87 z84 z85 b82 hx83=>?_;clear F79
  refine F87.xs rfl b82 (fun w88 b89 hg90=>?_) (hk:=byteVals_len (pubF_len _ _ _));have z91:=hg90.size
  refine F87.xa rfl<|Xa rfl<|fun _ F95=>?_;clear F87
  refine wpList_nil (hK45 _ _ ?_);clear hK45
  have F96:=F95.k [0,1,2,6,18,26,7,8,9];clear F95
  refine wp_seq_k fun K97 hK97=>?_
  refine wr fun K98 hK98=>?_
  refine F96.xm rfl<|Xw (.bool false) (fun F=>rn_not' (F.get rfl) rfl)<|Xm rfl<|Xg (vl A62 1 c63)<|Xg (vi 1)<|Xg (.bool false)<|Xv (.bool false)<|fun _ F112=>?_;clear F96
  refine wpList_nil (hK98 _ _ ?_);clear hK98
  have F113:=F112.k [0,1,2,6,18,26,7,8,9,41];clear F112
  refine F113.cf ?_
  refine wp_skip ?_
  refine hK97 _ _ ?_;clear hK97
  refine wr fun K114 hK114=>?_
  refine F113.xm rfl<|fun _ F116=>?_;clear F113
  have d117:=(RLs.pres rVr hl66 (((Pres.refl w60).ext hx83).gc hg90))
  obtain ⟨b118,o119,x120,cs121,hA122,hi123,hk124,hc125,hr126⟩:=RLs.get d117 (by omega:0<1)
  obtain rfl:v1=x120:=Option.some.inj ((rfl:([v1]:List Vr)[0]?=some v1).symm.trans hi123)
  obtain ⟨v127,v128,v129,v130,rfl,hv131⟩:=hr126
  obtain ⟨A132,c133,rfl,z134,z135⟩:=RLs.form hv131.chs
  obtain ⟨A136,c137,rfl,z138,z139⟩:=Fl.form hv131.sg.op
  obtain ⟨A140,c141,rfl,z142,z143⟩:=Fl.form hv131.sg.cl
  obtain ⟨A144,c145,rfl,z146,z147⟩:=Fl.form hv131.sg.path
  refine F116.xw (.pointer (some ⟨b118,o119+0*38,none⟩)) (fun F=>rn_indexE Tryd.underlying36 inf30 ((F.get rfl).trans (by rw [hA122])) rfl (by omega:(0:Int)≤0) (by omega:(0:Int)<((1:Nat):Int)) (by omega))<|Xw (ag ((vi v1.no)::dg v1.state [(vl A132 v1.chs.length c133),(vi v1.sg.index),(vl A136 v1.sg.op.length c137),(vl A140 v1.sg.cl.length c141),(vl A144 v1.sg.path.length c145)])) (fun F=>rn_loadN (cs:=((vi v1.no)::dg v1.state [(vl A132 v1.chs.length c133),(vi v1.sg.index),(vl A136 v1.sg.op.length c137),(vl A140 v1.sg.cl.length c141),(vl A144 v1.sg.path.length c145)])) (F.get rfl) Tryd.underlying30 rfl (sk inf30 (len_dig1 hv131.st)) hc125)<|fun _ F151=>?_;clear F116
  refine F151.xz vz 30 fun g152 w153 _ F159 z156 z157 b154 hx155=>?_;clear F151
  refine F159.xs rfl b154 (fun w160 b161 hg162=>?_) (hk:=len_dig1 hv131.st);have z163:=hg162.size
  refine wpList_nil (hK114 _ _ ?_);clear hK114
  refine wr fun K164 hK164=>?_
  refine F159.xm rfl<|Xv (vp g152)<|fun _ F168=>?_;clear F159
  refine wpl_op (i:=2) rfl (o_store1 (new:=((vi no)::dg v1.state [(vl A132 v1.chs.length c133),(vi v1.sg.index),(vl A136 v1.sg.op.length c137),(vl A140 v1.sg.cl.length c141),(vl A144 v1.sg.path.length c145)])) F168 rfl rfl rfl rfl (F168.get rfl) (F168.get rfl) b161 inf3 (le_mid (x:=38) (b:=1) (y:=1) (by simp [byteVals_len hv131.st]) rfl (by decide)) rfl rfl ?_)
  intro w169 b170 hg171;have z172:=hg171.size
  refine wpList_nil (hK164 _ _ ?_);clear hK164
  have F173:=F168.k [0,1,2,6,18,26,7,8,9,41,10];clear F168
  refine wr fun K174 hK174=>?_
  refine F173.xv (vi 131)<|fun _ F176=>?_;clear F173
  refine wpList_nil (hK174 _ _ ?_);clear hK174
  refine wp_seq_k fun K177 hK177=>?_
  refine wp_block ?_
  refine wr fun K178 hK178=>?_
  refine F176.xm rfl<|Xv (.bool (decide ((no:Int)=(1:Int))))<|Xa rfl<|fun _ F184=>?_;clear F176
  refine wpList_nil (hK178 _ _ ?_);clear hK178
  by_cases hc185:(no:Int)=(1:Int)
  ·skip
   refine F184.ct ?_
   refine wp_region_lit ?_
   refine F184.xv (vi 0)<|fun _ F187=>?_;clear F184
   refine wpList_nil (hK177 _ _ ?_);clear hK177
   refine wr fun K188 hK188=>?_
   refine F187.xm rfl<|fun _ F190=>?_;clear F187
   refine F190.xn (fun g=>(vl (some ⟨g,0,none⟩) 1 1)) [(.int .u8 (seed.toNat:Nat))] 5 (fun F=>rn_buildSlice (parts1 (F.get rfl)) (by kernel_rfl)) fun g191 w192 _ F198 z195 z196 b193 hx194=>?_;clear F190
   refine wpl_op (i:=2) rfl (o_call F198 rfl rfl rfl rfl (rn_call (args2 (F198.get rfl) rfl) rfl (by kernel_rfl)) (new_at (v:=(vl (some ⟨g191,0,none⟩) 1 1)) (m:=1) ([seed]) 2 _ (Fl.blk (S:=fun b=>b=g191) (k:=1) (n:=1) (c:=1) (cs:=byteVals [seed]) b193 rfl (byteVals_one _) (by omega) rfl) (by omega)) ?_)
   rw [(new_facts (seed_ok seed)).1,(new_facts (seed_ok seed)).2.1,(new_facts (seed_ok seed)).2.2]
   rintro _ w203 ⟨A199,n200,c201,rfl,hf202,hx204⟩
   have z205:=(Fl.cel hf202).2.1;have z206:=Fl.blen hf202
   refine ⟨_,rfl,?_⟩;intro a207 F208;clear F198;have z209:=hx204.size
   have hf210:Fl (Clip (fun b=>w192.heap.size≤b) w203) w203 1 (vl A199 n200 c201) n200 (byteVals ([seed])):=hf202.clip
   refine F208.xm rfl<|Xv (.agg #[(vl A199 n200 c201),(vi 2),(vi 0)])<|Xv (vi 0)<|fun _ F216=>?_;clear F208
   refine F216.xz [v0,(vi 0),(vi 0)] 56 fun g217 w218 _ F224 z221 z222 b219 hx220=>?_;clear F216
   refine F224.xs rfl b219 (fun w225 b226 hg227=>?_);have z228:=hg227.size
   refine F224.xa rfl<|fun _ F230=>?_;clear F224
   refine wpList_nil (hK188 _ _ ?_);clear hK188
   have F231:=F230.k [0,1,2,6,18,26,7,8,9,41,10,11,47,12,13];clear F230
   refine wr fun K232 hK232=>?_
   refine F231.xw (.agg #[(vl A199 n200 c201),(vi 2),(vi 0)]) (fun F=>rb F rfl b226)<|Xm rfl<|Xm rfl<|fun _ F238=>?_;clear F231
   have d239:=(hf210.pres (((Pres.refl w203).ext hx220).gc hg227))
   have d240:=(RLs.pres rIt hc (((((((((((((((Pres.refl w).ext hx7).ext hx19).ext hx32).ext hx53).ext hx61).ext hx83).gc hg90).ext hx155).gc hg162).gc hg171).ext hx194).ext hx204).ext hx220).gc hg227))
   refine wpl_op (i:=3) rfl (o_call F238 rfl rfl rfl rfl (rn_call (args4 (F238.get rfl) (F238.get rfl) (F238.get rfl) rfl) rfl (by kernel_rfl)) (version_no A62 c63 ([seed]) (seed_ok seed) a ([]) _ d239 d240 (RLs.nil _:RLs RCg 3 (fun _=>False) _ _ _) (few_sm hFa) (by have:=hFa.1;omega) (fun x hx=>absurd hx (by simp)) (hG.ext (((((((((((((((Ext.refl w).trans hx7).trans hx19).trans hx32).trans hx53).trans hx61).trans hx83).gn hg90).trans hx155).gn hg162).gn hg171).trans hx194).trans hx204).trans hx220).gn hg227))) ?_)
   rintro _ w252 ⟨C241,c242,O243,o244,E245,e246,P247,p248,A249,n250,k251,rfl,hx253⟩
   refine ⟨_,rfl,?_⟩;intro a254 F255;clear F238;have z256:=hx253.size
   refine F255.xm rfl<|Xv (ag ((vi 0)::dg zero32 [(vl C241 0 c242),(vi 0),(vl O243 0 o244),(vl E245 0 e246),(vl P247 0 p248)]))<|Xv (.agg #[(vl A249 n250 k251),(vi 0),(vi 0)])<|Xv (vi 420)<|fun _ F264=>?_;clear F255
   refine F264.xz vz 30 fun g265 w266 _ F272 z269 z270 b267 hx268=>?_;clear F264
   refine F272.xz [v0,(vi 0),(vi 0)] 56 fun g273 w274 _ F280 z277 z278 b275 hx276=>?_;clear F272
   have b281:=(b267.ext hx276)
   refine F280.xs rfl b281 (fun w282 b283 hg284=>?_);have z285:=hg284.size
   have b289:=(b275.gn hg284)
   refine F280.xs rfl b289 (fun w286 b287 hg288=>?_);have z290:=hg288.size
   refine F280.xa rfl<|fun _ F292=>?_;clear F280
   refine wpList_nil (hK232 _ _ ?_);clear hK232
   have F293:=F292.k [0,1,2,6,18,26,7,8,9,41,10,11,47,12,13,16];clear F292
   refine wr fun K294 hK294=>?_
   refine F293.xm rfl<|Xv (.bool true)<|Xm rfl<|Xg (vi 420)<|Xg (.bool true)<|Xv (.bool true)<|Xm rfl<|fun _ F308=>?_;clear F293
   have b309:=((((((((((((b89.ext hx155).gn hg162).gn hg171).ext hx194).ext hx204).ext hx220).gn hg227).ext hx253).ext hx268).ext hx276).gn hg284).gn hg288)
   refine F308.xgw (.agg (byteVals (pubF [seed] 2 0)).toArray) (fun F=>rb F rfl b309 (hk:=byteVals_len (pubF_len _ _ _)))<|fun _ F311=>?_;clear F308
   have b312:=(((((((((b170.ext hx194).ext hx204).ext hx220).gn hg227).ext hx253).ext hx268).ext hx276).gn hg284).gn hg288)
   refine F311.xgw (ag ((vi no)::dg v1.state [(vl A132 v1.chs.length c133),(vi v1.sg.index),(vl A136 v1.sg.op.length c137),(vl A140 v1.sg.cl.length c141),(vl A144 v1.sg.path.length c145)])) (fun F=>rb F rfl b312 (hk:=len_dig1 hv131.st))<|fun _ F314=>?_;clear F311
   have d315:=(RLs.pres rCg hv131.chs (((((((((((((Pres.refl w88).ext hx155).gc hg162).gc hg171).ext hx194).ext hx204).ext hx220).gc hg227).ext hx253).ext hx268).ext hx276).gc hg284).gc hg288))
   have d316:=(hv131.sg.op.pres (((((((((((((Pres.refl w88).ext hx155).gc hg162).gc hg171).ext hx194).ext hx204).ext hx220).gc hg227).ext hx253).ext hx268).ext hx276).gc hg284).gc hg288))
   have d317:=(hv131.sg.cl.pres (((((((((((((Pres.refl w88).ext hx155).gc hg162).gc hg171).ext hx194).ext hx204).ext hx220).gc hg227).ext hx253).ext hx268).ext hx276).gc hg284).gc hg288))
   have d318:=(hv131.sg.path.pres (((((((((((((Pres.refl w88).ext hx155).gc hg162).gc hg171).ext hx194).ext hx204).ext hx220).gc hg227).ext hx253).ext hx268).ext hx276).gc hg284).gc hg288))
   refine wpl_op (i:=9) rfl (o_call F314 rfl (wanted_guard rfl rfl rfl F314 rfl rfl rfl) rfl rfl (rn_call (args3 (F314.get rfl) rfl (F314.get rfl)) rfl (by kernel_rfl)) (verifyv_at (pubF [seed] 2 0) 2 (⟨no,v1.state,v1.chs,⟨v1.sg.index,v1.sg.op,v1.sg.cl,v1.sg.path⟩⟩:Vr) _ (⟨hv131.st,RLs.sub (S':=fun _=>True) rCg d315 fun _ _=>trivial,⟨Fl.any d316,Fl.any d317,Fl.any d318,hv131.sg.o32,hv131.sg.c32,hv131.sg.p32⟩⟩:RVp (fun _=>True) _ _ _ _ _ (⟨no,v1.state,v1.chs,⟨v1.sg.index,v1.sg.op,v1.sg.cl,v1.sg.path⟩⟩:Vr)) (pubF_len _ _ _) (by rw [hD.c1];exact diff_sm (show ∀ x∈([]:List It),x.data.length≤4294967296 from fun x hx=>absurd hx (by simp)) (few_sm hFa)) (hG.ext ((((((((((((((((((((Ext.refl w).trans hx7).trans hx19).trans hx32).trans hx53).trans hx61).trans hx83).gn hg90).trans hx155).gn hg162).gn hg171).trans hx194).trans hx204).trans hx220).gn hg227).trans hx253).trans hx268).trans hx276).gn hg284).gn hg288))) ?_)
   rintro _ w319 ⟨rfl,hx320⟩
   refine ⟨_,rfl,?_⟩;intro a321 F322;clear F314;have z323:=hx320.size
   refine F322.xg (vi 0)<|Xg (.bool (decide (((verifyE (pubF [seed] 2 0) 2 (⟨no,v1.state,v1.chs,⟨v1.sg.index,v1.sg.op,v1.sg.cl,v1.sg.path⟩⟩:Vr)):Int)=(0:Int))))<|Xv (.bool (decide (((verifyE (pubF [seed] 2 0) 2 (⟨no,v1.state,v1.chs,⟨v1.sg.index,v1.sg.op,v1.sg.cl,v1.sg.path⟩⟩:Vr)):Int)=(0:Int))))<|Xa rfl<|fun _ F331=>?_;clear F322
   refine wpList_nil (hK294 _ _ ?_);clear hK294
   have F332:=F331.k [0,1,2,6,18,26,7,8,9,41,10,11,47,12,13,16];clear F331
   refine wp_ret ?_
   refine ret1 F332 rfl rfl ?_
   exact ⟨congrArg (fun b=>Ending.returned (.bool b)) ((decide_eq_true (numbers_yes hD (by omega))):decide (((verifyE (pubF [seed] 2 0) 2 (⟨no,v1.state,v1.chs,⟨v1.sg.index,v1.sg.op,v1.sg.cl,v1.sg.path⟩⟩:Vr)):Int)=(0:Int))=true),(((((((((((((((((((((Ext.refl w).trans hx7).trans hx19).trans hx32).trans hx53).trans hx61).trans hx83).gn hg90).trans hx155).gn hg162).gn hg171).trans hx194).trans hx204).trans hx220).gn hg227).trans hx253).trans hx268).trans hx276).gn hg284).gn hg288).trans hx320)⟩
  refine F184.cf ?_
  refine wr fun K333 hK333=>?_
  refine F184.xm rfl<|Xv (.bool (decide ((no:Int)<(1:Int))))<|Xm rfl<|fun _ F339=>?_;clear F184
  by_cases hc340:(no:Int)<(1:Int)
  ·skip
   refine F339.xu<|Xu<|Xv (.bool true)<|Xa rfl<|fun _ F348=>?_;clear F339
   refine wpList_nil (hK333 _ _ ?_);clear hK333
   have F349:=F348.k [0,1,2,6,18,26,7,8,9,41,10,11,47,50];clear F348
   refine F349.ct ?_
   refine wp_region_lit ?_
   refine F349.xv (vi 420)<|fun _ F351=>?_;clear F349
   refine wpList_nil (hK177 _ _ ?_);clear hK177
   refine wr fun K352 hK352=>?_
   refine F351.xm rfl<|fun _ F354=>?_;clear F351
   refine F354.xn (fun g=>(vl (some ⟨g,0,none⟩) 1 1)) [(.int .u8 (seed.toNat:Nat))] 5 (fun F=>rn_buildSlice (parts1 (F.get rfl)) (by kernel_rfl)) fun g355 w356 _ F362 z359 z360 b357 hx358=>?_;clear F354
   refine wpl_op (i:=2) rfl (o_call F362 rfl rfl rfl rfl (rn_call (args2 (F362.get rfl) rfl) rfl (by kernel_rfl)) (new_at (v:=(vl (some ⟨g355,0,none⟩) 1 1)) (m:=1) ([seed]) 2 _ (Fl.blk (S:=fun b=>b=g355) (k:=1) (n:=1) (c:=1) (cs:=byteVals [seed]) b357 rfl (byteVals_one _) (by omega) rfl) (by omega)) ?_)
   rw [(new_facts (seed_ok seed)).1,(new_facts (seed_ok seed)).2.1,(new_facts (seed_ok seed)).2.2]
   rintro _ w367 ⟨A363,n364,c365,rfl,hf366,hx368⟩
   have z369:=(Fl.cel hf366).2.1;have z370:=Fl.blen hf366
   refine ⟨_,rfl,?_⟩;intro a371 F372;clear F362;have z373:=hx368.size
   have hf374:Fl (Clip (fun b=>w356.heap.size≤b) w367) w367 1 (vl A363 n364 c365) n364 (byteVals ([seed])):=hf366.clip
   refine F372.xm rfl<|Xv (.agg #[(vl A363 n364 c365),(vi 2),(vi 0)])<|Xv (vi 0)<|fun _ F380=>?_;clear F372
   refine F380.xz [v0,(vi 0),(vi 0)] 56 fun g381 w382 _ F388 z385 z386 b383 hx384=>?_;clear F380
   refine F388.xs rfl b383 (fun w389 b390 hg391=>?_);have z392:=hg391.size
   refine F388.xa rfl<|fun _ F394=>?_;clear F388
   refine wpList_nil (hK352 _ _ ?_);clear hK352
   have F395:=F394.k [0,1,2,6,18,26,7,8,9,41,10,11,47,50,12,13];clear F394
   refine wr fun K396 hK396=>?_
   refine F395.xw (.agg #[(vl A363 n364 c365),(vi 2),(vi 0)]) (fun F=>rb F rfl b390)<|Xm rfl<|Xm rfl<|fun _ F402=>?_;clear F395
   have d403:=(hf374.pres (((Pres.refl w367).ext hx384).gc hg391))
   have d404:=(RLs.pres rIt hc (((((((((((((((Pres.refl w).ext hx7).ext hx19).ext hx32).ext hx53).ext hx61).ext hx83).gc hg90).ext hx155).gc hg162).gc hg171).ext hx358).ext hx368).ext hx384).gc hg391))
   refine wpl_op (i:=3) rfl (o_call F402 rfl rfl rfl rfl (rn_call (args4 (F402.get rfl) (F402.get rfl) (F402.get rfl) rfl) rfl (by kernel_rfl)) (version_no A62 c63 ([seed]) (seed_ok seed) a ([]) _ d403 d404 (RLs.nil _:RLs RCg 3 (fun _=>False) _ _ _) (few_sm hFa) (by have:=hFa.1;omega) (fun x hx=>absurd hx (by simp)) (hG.ext (((((((((((((((Ext.refl w).trans hx7).trans hx19).trans hx32).trans hx53).trans hx61).trans hx83).gn hg90).trans hx155).gn hg162).gn hg171).trans hx358).trans hx368).trans hx384).gn hg391))) ?_)
   rintro _ w416 ⟨C405,c406,O407,o408,E409,e410,P411,p412,A413,n414,k415,rfl,hx417⟩
   refine ⟨_,rfl,?_⟩;intro a418 F419;clear F402;have z420:=hx417.size
   refine F419.xm rfl<|Xv (ag ((vi 0)::dg zero32 [(vl C405 0 c406),(vi 0),(vl O407 0 o408),(vl E409 0 e410),(vl P411 0 p412)]))<|Xv (.agg #[(vl A413 n414 k415),(vi 0),(vi 0)])<|Xv (vi 420)<|fun _ F428=>?_;clear F419
   refine F428.xz vz 30 fun g429 w430 _ F436 z433 z434 b431 hx432=>?_;clear F428
   refine F436.xz [v0,(vi 0),(vi 0)] 56 fun g437 w438 _ F444 z441 z442 b439 hx440=>?_;clear F436
   have b445:=(b431.ext hx440)
   refine F444.xs rfl b445 (fun w446 b447 hg448=>?_);have z449:=hg448.size
   have b453:=(b439.gn hg448)
   refine F444.xs rfl b453 (fun w450 b451 hg452=>?_);have z454:=hg452.size
   refine F444.xa rfl<|fun _ F456=>?_;clear F444
   refine wpList_nil (hK396 _ _ ?_);clear hK396
   have F457:=F456.k [0,1,2,6,18,26,7,8,9,41,10,11,47,50,12,13,16];clear F456
   refine wr fun K458 hK458=>?_
   refine F457.xm rfl<|Xv (.bool true)<|Xm rfl<|Xg (vi 420)<|Xg (.bool true)<|Xv (.bool true)<|Xm rfl<|fun _ F472=>?_;clear F457
   have b473:=((((((((((((b89.ext hx155).gn hg162).gn hg171).ext hx358).ext hx368).ext hx384).gn hg391).ext hx417).ext hx432).ext hx440).gn hg448).gn hg452)
   refine F472.xgw (.agg (byteVals (pubF [seed] 2 0)).toArray) (fun F=>rb F rfl b473 (hk:=byteVals_len (pubF_len _ _ _)))<|fun _ F475=>?_;clear F472
   have b476:=(((((((((b170.ext hx358).ext hx368).ext hx384).gn hg391).ext hx417).ext hx432).ext hx440).gn hg448).gn hg452)
   refine F475.xgw (ag ((vi no)::dg v1.state [(vl A132 v1.chs.length c133),(vi v1.sg.index),(vl A136 v1.sg.op.length c137),(vl A140 v1.sg.cl.length c141),(vl A144 v1.sg.path.length c145)])) (fun F=>rb F rfl b476 (hk:=len_dig1 hv131.st))<|fun _ F478=>?_;clear F475
   have d479:=(RLs.pres rCg hv131.chs (((((((((((((Pres.refl w88).ext hx155).gc hg162).gc hg171).ext hx358).ext hx368).ext hx384).gc hg391).ext hx417).ext hx432).ext hx440).gc hg448).gc hg452))
   have d480:=(hv131.sg.op.pres (((((((((((((Pres.refl w88).ext hx155).gc hg162).gc hg171).ext hx358).ext hx368).ext hx384).gc hg391).ext hx417).ext hx432).ext hx440).gc hg448).gc hg452))
   have d481:=(hv131.sg.cl.pres (((((((((((((Pres.refl w88).ext hx155).gc hg162).gc hg171).ext hx358).ext hx368).ext hx384).gc hg391).ext hx417).ext hx432).ext hx440).gc hg448).gc hg452))
   have d482:=(hv131.sg.path.pres (((((((((((((Pres.refl w88).ext hx155).gc hg162).gc hg171).ext hx358).ext hx368).ext hx384).gc hg391).ext hx417).ext hx432).ext hx440).gc hg448).gc hg452))
   refine wpl_op (i:=9) rfl (o_call F478 rfl (wanted_guard rfl rfl rfl F478 rfl rfl rfl) rfl rfl (rn_call (args3 (F478.get rfl) rfl (F478.get rfl)) rfl (by kernel_rfl)) (verifyv_at (pubF [seed] 2 0) 2 (⟨no,v1.state,v1.chs,⟨v1.sg.index,v1.sg.op,v1.sg.cl,v1.sg.path⟩⟩:Vr) _ (⟨hv131.st,RLs.sub (S':=fun _=>True) rCg d479 fun _ _=>trivial,⟨Fl.any d480,Fl.any d481,Fl.any d482,hv131.sg.o32,hv131.sg.c32,hv131.sg.p32⟩⟩:RVp (fun _=>True) _ _ _ _ _ (⟨no,v1.state,v1.chs,⟨v1.sg.index,v1.sg.op,v1.sg.cl,v1.sg.path⟩⟩:Vr)) (pubF_len _ _ _) (by rw [hD.c1];exact diff_sm (show ∀ x∈([]:List It),x.data.length≤4294967296 from fun x hx=>absurd hx (by simp)) (few_sm hFa)) (hG.ext ((((((((((((((((((((Ext.refl w).trans hx7).trans hx19).trans hx32).trans hx53).trans hx61).trans hx83).gn hg90).trans hx155).gn hg162).gn hg171).trans hx358).trans hx368).trans hx384).gn hg391).trans hx417).trans hx432).trans hx440).gn hg448).gn hg452))) ?_)
   rintro _ w483 ⟨rfl,hx484⟩
   refine ⟨_,rfl,?_⟩;intro a485 F486;clear F478;have z487:=hx484.size
   refine F486.xg (vi 420)<|Xg (.bool (decide (((verifyE (pubF [seed] 2 0) 2 (⟨no,v1.state,v1.chs,⟨v1.sg.index,v1.sg.op,v1.sg.cl,v1.sg.path⟩⟩:Vr)):Int)=(420:Int))))<|Xv (.bool (decide (((verifyE (pubF [seed] 2 0) 2 (⟨no,v1.state,v1.chs,⟨v1.sg.index,v1.sg.op,v1.sg.cl,v1.sg.path⟩⟩:Vr)):Int)=(420:Int))))<|Xa rfl<|fun _ F495=>?_;clear F486
   refine wpList_nil (hK458 _ _ ?_);clear hK458
   have F496:=F495.k [0,1,2,6,18,26,7,8,9,41,10,11,47,50,12,13,16];clear F495
   refine wp_ret ?_
   refine ret1 F496 rfl rfl ?_
   exact ⟨congrArg (fun b=>Ending.returned (.bool b)) ((decide_eq_true (numbers_far _ _ (by omega))):decide (((verifyE (pubF [seed] 2 0) 2 (⟨no,v1.state,v1.chs,⟨v1.sg.index,v1.sg.op,v1.sg.cl,v1.sg.path⟩⟩:Vr)):Int)=(420:Int))=true),(((((((((((((((((((((Ext.refl w).trans hx7).trans hx19).trans hx32).trans hx53).trans hx61).trans hx83).gn hg90).trans hx155).gn hg162).gn hg171).trans hx358).trans hx368).trans hx384).gn hg391).trans hx417).trans hx432).trans hx440).gn hg448).gn hg452).trans hx484)⟩
  refine F339.xg (vi no)<|Xg (.bool (decide ((4096:Int)<(no:Int))))<|Xv (.bool (decide ((4096:Int)<(no:Int))))<|Xa rfl<|fun _ F504=>?_;clear F339
  refine wpList_nil (hK333 _ _ ?_);clear hK333
  have F505:=F504.k [0,1,2,6,18,26,7,8,9,41,10,11,47,50];clear F504
  by_cases hc506:(4096:Int)<(no:Int)
  ·skip
   refine F505.ct ?_
   refine wp_region_lit ?_
   refine F505.xv (vi 420)<|fun _ F508=>?_;clear F505
   refine wpList_nil (hK177 _ _ ?_);clear hK177
   refine wr fun K509 hK509=>?_
   refine F508.xm rfl<|fun _ F511=>?_;clear F508
   refine F511.xn (fun g=>(vl (some ⟨g,0,none⟩) 1 1)) [(.int .u8 (seed.toNat:Nat))] 5 (fun F=>rn_buildSlice (parts1 (F.get rfl)) (by kernel_rfl)) fun g512 w513 _ F519 z516 z517 b514 hx515=>?_;clear F511
   refine wpl_op (i:=2) rfl (o_call F519 rfl rfl rfl rfl (rn_call (args2 (F519.get rfl) rfl) rfl (by kernel_rfl)) (new_at (v:=(vl (some ⟨g512,0,none⟩) 1 1)) (m:=1) ([seed]) 2 _ (Fl.blk (S:=fun b=>b=g512) (k:=1) (n:=1) (c:=1) (cs:=byteVals [seed]) b514 rfl (byteVals_one _) (by omega) rfl) (by omega)) ?_)
   rw [(new_facts (seed_ok seed)).1,(new_facts (seed_ok seed)).2.1,(new_facts (seed_ok seed)).2.2]
   rintro _ w524 ⟨A520,n521,c522,rfl,hf523,hx525⟩
   have z526:=(Fl.cel hf523).2.1;have z527:=Fl.blen hf523
   refine ⟨_,rfl,?_⟩;intro a528 F529;clear F519;have z530:=hx525.size
   have hf531:Fl (Clip (fun b=>w513.heap.size≤b) w524) w524 1 (vl A520 n521 c522) n521 (byteVals ([seed])):=hf523.clip
   refine F529.xm rfl<|Xv (.agg #[(vl A520 n521 c522),(vi 2),(vi 0)])<|Xv (vi 0)<|fun _ F537=>?_;clear F529
   refine F537.xz [v0,(vi 0),(vi 0)] 56 fun g538 w539 _ F545 z542 z543 b540 hx541=>?_;clear F537
   refine F545.xs rfl b540 (fun w546 b547 hg548=>?_);have z549:=hg548.size
   refine F545.xa rfl<|fun _ F551=>?_;clear F545
   refine wpList_nil (hK509 _ _ ?_);clear hK509
   have F552:=F551.k [0,1,2,6,18,26,7,8,9,41,10,11,47,50,12,13];clear F551
   refine wr fun K553 hK553=>?_
   refine F552.xw (.agg #[(vl A520 n521 c522),(vi 2),(vi 0)]) (fun F=>rb F rfl b547)<|Xm rfl<|Xm rfl<|fun _ F559=>?_;clear F552
   have d560:=(hf531.pres (((Pres.refl w524).ext hx541).gc hg548))
   have d561:=(RLs.pres rIt hc (((((((((((((((Pres.refl w).ext hx7).ext hx19).ext hx32).ext hx53).ext hx61).ext hx83).gc hg90).ext hx155).gc hg162).gc hg171).ext hx515).ext hx525).ext hx541).gc hg548))
   refine wpl_op (i:=3) rfl (o_call F559 rfl rfl rfl rfl (rn_call (args4 (F559.get rfl) (F559.get rfl) (F559.get rfl) rfl) rfl (by kernel_rfl)) (version_no A62 c63 ([seed]) (seed_ok seed) a ([]) _ d560 d561 (RLs.nil _:RLs RCg 3 (fun _=>False) _ _ _) (few_sm hFa) (by have:=hFa.1;omega) (fun x hx=>absurd hx (by simp)) (hG.ext (((((((((((((((Ext.refl w).trans hx7).trans hx19).trans hx32).trans hx53).trans hx61).trans hx83).gn hg90).trans hx155).gn hg162).gn hg171).trans hx515).trans hx525).trans hx541).gn hg548))) ?_)
   rintro _ w573 ⟨C562,c563,O564,o565,E566,e567,P568,p569,A570,n571,k572,rfl,hx574⟩
   refine ⟨_,rfl,?_⟩;intro a575 F576;clear F559;have z577:=hx574.size
   refine F576.xm rfl<|Xv (ag ((vi 0)::dg zero32 [(vl C562 0 c563),(vi 0),(vl O564 0 o565),(vl E566 0 e567),(vl P568 0 p569)]))<|Xv (.agg #[(vl A570 n571 k572),(vi 0),(vi 0)])<|Xv (vi 420)<|fun _ F585=>?_;clear F576
   refine F585.xz vz 30 fun g586 w587 _ F593 z590 z591 b588 hx589=>?_;clear F585
   refine F593.xz [v0,(vi 0),(vi 0)] 56 fun g594 w595 _ F601 z598 z599 b596 hx597=>?_;clear F593
   have b602:=(b588.ext hx597)
   refine F601.xs rfl b602 (fun w603 b604 hg605=>?_);have z606:=hg605.size
   have b610:=(b596.gn hg605)
   refine F601.xs rfl b610 (fun w607 b608 hg609=>?_);have z611:=hg609.size
   refine F601.xa rfl<|fun _ F613=>?_;clear F601
   refine wpList_nil (hK553 _ _ ?_);clear hK553
   have F614:=F613.k [0,1,2,6,18,26,7,8,9,41,10,11,47,50,12,13,16];clear F613
   refine wr fun K615 hK615=>?_
   refine F614.xm rfl<|Xv (.bool true)<|Xm rfl<|Xg (vi 420)<|Xg (.bool true)<|Xv (.bool true)<|Xm rfl<|fun _ F629=>?_;clear F614
   have b630:=((((((((((((b89.ext hx155).gn hg162).gn hg171).ext hx515).ext hx525).ext hx541).gn hg548).ext hx574).ext hx589).ext hx597).gn hg605).gn hg609)
   refine F629.xgw (.agg (byteVals (pubF [seed] 2 0)).toArray) (fun F=>rb F rfl b630 (hk:=byteVals_len (pubF_len _ _ _)))<|fun _ F632=>?_;clear F629
   have b633:=(((((((((b170.ext hx515).ext hx525).ext hx541).gn hg548).ext hx574).ext hx589).ext hx597).gn hg605).gn hg609)
   refine F632.xgw (ag ((vi no)::dg v1.state [(vl A132 v1.chs.length c133),(vi v1.sg.index),(vl A136 v1.sg.op.length c137),(vl A140 v1.sg.cl.length c141),(vl A144 v1.sg.path.length c145)])) (fun F=>rb F rfl b633 (hk:=len_dig1 hv131.st))<|fun _ F635=>?_;clear F632
   have d636:=(RLs.pres rCg hv131.chs (((((((((((((Pres.refl w88).ext hx155).gc hg162).gc hg171).ext hx515).ext hx525).ext hx541).gc hg548).ext hx574).ext hx589).ext hx597).gc hg605).gc hg609))
   have d637:=(hv131.sg.op.pres (((((((((((((Pres.refl w88).ext hx155).gc hg162).gc hg171).ext hx515).ext hx525).ext hx541).gc hg548).ext hx574).ext hx589).ext hx597).gc hg605).gc hg609))
   have d638:=(hv131.sg.cl.pres (((((((((((((Pres.refl w88).ext hx155).gc hg162).gc hg171).ext hx515).ext hx525).ext hx541).gc hg548).ext hx574).ext hx589).ext hx597).gc hg605).gc hg609))
   have d639:=(hv131.sg.path.pres (((((((((((((Pres.refl w88).ext hx155).gc hg162).gc hg171).ext hx515).ext hx525).ext hx541).gc hg548).ext hx574).ext hx589).ext hx597).gc hg605).gc hg609))
   refine wpl_op (i:=9) rfl (o_call F635 rfl (wanted_guard rfl rfl rfl F635 rfl rfl rfl) rfl rfl (rn_call (args3 (F635.get rfl) rfl (F635.get rfl)) rfl (by kernel_rfl)) (verifyv_at (pubF [seed] 2 0) 2 (⟨no,v1.state,v1.chs,⟨v1.sg.index,v1.sg.op,v1.sg.cl,v1.sg.path⟩⟩:Vr) _ (⟨hv131.st,RLs.sub (S':=fun _=>True) rCg d636 fun _ _=>trivial,⟨Fl.any d637,Fl.any d638,Fl.any d639,hv131.sg.o32,hv131.sg.c32,hv131.sg.p32⟩⟩:RVp (fun _=>True) _ _ _ _ _ (⟨no,v1.state,v1.chs,⟨v1.sg.index,v1.sg.op,v1.sg.cl,v1.sg.path⟩⟩:Vr)) (pubF_len _ _ _) (by rw [hD.c1];exact diff_sm (show ∀ x∈([]:List It),x.data.length≤4294967296 from fun x hx=>absurd hx (by simp)) (few_sm hFa)) (hG.ext ((((((((((((((((((((Ext.refl w).trans hx7).trans hx19).trans hx32).trans hx53).trans hx61).trans hx83).gn hg90).trans hx155).gn hg162).gn hg171).trans hx515).trans hx525).trans hx541).gn hg548).trans hx574).trans hx589).trans hx597).gn hg605).gn hg609))) ?_)
   rintro _ w640 ⟨rfl,hx641⟩
   refine ⟨_,rfl,?_⟩;intro a642 F643;clear F635;have z644:=hx641.size
   refine F643.xg (vi 420)<|Xg (.bool (decide (((verifyE (pubF [seed] 2 0) 2 (⟨no,v1.state,v1.chs,⟨v1.sg.index,v1.sg.op,v1.sg.cl,v1.sg.path⟩⟩:Vr)):Int)=(420:Int))))<|Xv (.bool (decide (((verifyE (pubF [seed] 2 0) 2 (⟨no,v1.state,v1.chs,⟨v1.sg.index,v1.sg.op,v1.sg.cl,v1.sg.path⟩⟩:Vr)):Int)=(420:Int))))<|Xa rfl<|fun _ F652=>?_;clear F643
   refine wpList_nil (hK615 _ _ ?_);clear hK615
   have F653:=F652.k [0,1,2,6,18,26,7,8,9,41,10,11,47,50,12,13,16];clear F652
   refine wp_ret ?_
   refine ret1 F653 rfl rfl ?_
   exact ⟨congrArg (fun b=>Ending.returned (.bool b)) ((decide_eq_true (numbers_far _ _ (by omega))):decide (((verifyE (pubF [seed] 2 0) 2 (⟨no,v1.state,v1.chs,⟨v1.sg.index,v1.sg.op,v1.sg.cl,v1.sg.path⟩⟩:Vr)):Int)=(420:Int))=true),(((((((((((((((((((((Ext.refl w).trans hx7).trans hx19).trans hx32).trans hx53).trans hx61).trans hx83).gn hg90).trans hx155).gn hg162).gn hg171).trans hx515).trans hx525).trans hx541).gn hg548).trans hx574).trans hx589).trans hx597).gn hg605).gn hg609).trans hx641)⟩
  refine F505.cf ?_
  refine wp_skip ?_
  refine hK177 _ _ ?_;clear hK177
  refine wr fun K654 hK654=>?_
  refine F505.xm rfl<|fun _ F656=>?_;clear F505
  refine F656.xn (fun g=>(vl (some ⟨g,0,none⟩) 1 1)) [(.int .u8 (seed.toNat:Nat))] 5 (fun F=>rn_buildSlice (parts1 (F.get rfl)) (by kernel_rfl)) fun g657 w658 _ F664 z661 z662 b659 hx660=>?_;clear F656
  refine wpl_op (i:=2) rfl (o_call F664 rfl rfl rfl rfl (rn_call (args2 (F664.get rfl) rfl) rfl (by kernel_rfl)) (new_at (v:=(vl (some ⟨g657,0,none⟩) 1 1)) (m:=1) ([seed]) 2 _ (Fl.blk (S:=fun b=>b=g657) (k:=1) (n:=1) (c:=1) (cs:=byteVals [seed]) b659 rfl (byteVals_one _) (by omega) rfl) (by omega)) ?_)
  rw [(new_facts (seed_ok seed)).1,(new_facts (seed_ok seed)).2.1,(new_facts (seed_ok seed)).2.2]
  rintro _ w669 ⟨A665,n666,c667,rfl,hf668,hx670⟩
  have z671:=(Fl.cel hf668).2.1;have z672:=Fl.blen hf668
  refine ⟨_,rfl,?_⟩;intro a673 F674;clear F664;have z675:=hx670.size
  have hf676:Fl (Clip (fun b=>w658.heap.size≤b) w669) w669 1 (vl A665 n666 c667) n666 (byteVals ([seed])):=hf668.clip
  refine F674.xm rfl<|Xv (.agg #[(vl A665 n666 c667),(vi 2),(vi 0)])<|Xv (vi 0)<|fun _ F682=>?_;clear F674
  refine F682.xz [v0,(vi 0),(vi 0)] 56 fun g683 w684 _ F690 z687 z688 b685 hx686=>?_;clear F682
  refine F690.xs rfl b685 (fun w691 b692 hg693=>?_);have z694:=hg693.size
  refine F690.xa rfl<|fun _ F696=>?_;clear F690
  refine wpList_nil (hK654 _ _ ?_);clear hK654
  have F697:=F696.k [0,1,2,6,18,26,7,8,9,41,10,11,47,50,12,13];clear F696
  refine wr fun K698 hK698=>?_
  refine F697.xw (.agg #[(vl A665 n666 c667),(vi 2),(vi 0)]) (fun F=>rb F rfl b692)<|Xm rfl<|Xm rfl<|fun _ F704=>?_;clear F697
  have d705:=(hf676.pres (((Pres.refl w669).ext hx686).gc hg693))
  have d706:=(RLs.pres rIt hc (((((((((((((((Pres.refl w).ext hx7).ext hx19).ext hx32).ext hx53).ext hx61).ext hx83).gc hg90).ext hx155).gc hg162).gc hg171).ext hx660).ext hx670).ext hx686).gc hg693))
  refine wpl_op (i:=3) rfl (o_call F704 rfl rfl rfl rfl (rn_call (args4 (F704.get rfl) (F704.get rfl) (F704.get rfl) rfl) rfl (by kernel_rfl)) (version_no A62 c63 ([seed]) (seed_ok seed) a ([]) _ d705 d706 (RLs.nil _:RLs RCg 3 (fun _=>False) _ _ _) (few_sm hFa) (by have:=hFa.1;omega) (fun x hx=>absurd hx (by simp)) (hG.ext (((((((((((((((Ext.refl w).trans hx7).trans hx19).trans hx32).trans hx53).trans hx61).trans hx83).gn hg90).trans hx155).gn hg162).gn hg171).trans hx660).trans hx670).trans hx686).gn hg693))) ?_)
  rintro _ w718 ⟨C707,c708,O709,o710,E711,e712,P713,p714,A715,n716,k717,rfl,hx719⟩
  refine ⟨_,rfl,?_⟩;intro a720 F721;clear F704;have z722:=hx719.size
  refine F721.xm rfl<|Xv (ag ((vi 0)::dg zero32 [(vl C707 0 c708),(vi 0),(vl O709 0 o710),(vl E711 0 e712),(vl P713 0 p714)]))<|Xv (.agg #[(vl A715 n716 k717),(vi 0),(vi 0)])<|Xv (vi 420)<|fun _ F730=>?_;clear F721
  refine F730.xz vz 30 fun g731 w732 _ F738 z735 z736 b733 hx734=>?_;clear F730
  refine F738.xz [v0,(vi 0),(vi 0)] 56 fun g739 w740 _ F746 z743 z744 b741 hx742=>?_;clear F738
  have b747:=(b733.ext hx742)
  refine F746.xs rfl b747 (fun w748 b749 hg750=>?_);have z751:=hg750.size
  have b755:=(b741.gn hg750)
  refine F746.xs rfl b755 (fun w752 b753 hg754=>?_);have z756:=hg754.size
  refine F746.xa rfl<|fun _ F758=>?_;clear F746
  refine wpList_nil (hK698 _ _ ?_);clear hK698
  have F759:=F758.k [0,1,2,6,18,26,7,8,9,41,10,11,47,50,12,13,16];clear F758
  refine wr fun K760 hK760=>?_
  refine F759.xm rfl<|Xv (.bool true)<|Xm rfl<|Xg (vi 420)<|Xg (.bool true)<|Xv (.bool true)<|Xm rfl<|fun _ F774=>?_;clear F759
  have b775:=((((((((((((b89.ext hx155).gn hg162).gn hg171).ext hx660).ext hx670).ext hx686).gn hg693).ext hx719).ext hx734).ext hx742).gn hg750).gn hg754)
  refine F774.xgw (.agg (byteVals (pubF [seed] 2 0)).toArray) (fun F=>rb F rfl b775 (hk:=byteVals_len (pubF_len _ _ _)))<|fun _ F777=>?_;clear F774
  have b778:=(((((((((b170.ext hx660).ext hx670).ext hx686).gn hg693).ext hx719).ext hx734).ext hx742).gn hg750).gn hg754)
  refine F777.xgw (ag ((vi no)::dg v1.state [(vl A132 v1.chs.length c133),(vi v1.sg.index),(vl A136 v1.sg.op.length c137),(vl A140 v1.sg.cl.length c141),(vl A144 v1.sg.path.length c145)])) (fun F=>rb F rfl b778 (hk:=len_dig1 hv131.st))<|fun _ F780=>?_;clear F777
  have d781:=(RLs.pres rCg hv131.chs (((((((((((((Pres.refl w88).ext hx155).gc hg162).gc hg171).ext hx660).ext hx670).ext hx686).gc hg693).ext hx719).ext hx734).ext hx742).gc hg750).gc hg754))
  have d782:=(hv131.sg.op.pres (((((((((((((Pres.refl w88).ext hx155).gc hg162).gc hg171).ext hx660).ext hx670).ext hx686).gc hg693).ext hx719).ext hx734).ext hx742).gc hg750).gc hg754))
  have d783:=(hv131.sg.cl.pres (((((((((((((Pres.refl w88).ext hx155).gc hg162).gc hg171).ext hx660).ext hx670).ext hx686).gc hg693).ext hx719).ext hx734).ext hx742).gc hg750).gc hg754))
  have d784:=(hv131.sg.path.pres (((((((((((((Pres.refl w88).ext hx155).gc hg162).gc hg171).ext hx660).ext hx670).ext hx686).gc hg693).ext hx719).ext hx734).ext hx742).gc hg750).gc hg754))
  refine wpl_op (i:=9) rfl (o_call F780 rfl (wanted_guard rfl rfl rfl F780 rfl rfl rfl) rfl rfl (rn_call (args3 (F780.get rfl) rfl (F780.get rfl)) rfl (by kernel_rfl)) (verifyv_at (pubF [seed] 2 0) 2 (⟨no,v1.state,v1.chs,⟨v1.sg.index,v1.sg.op,v1.sg.cl,v1.sg.path⟩⟩:Vr) _ (⟨hv131.st,RLs.sub (S':=fun _=>True) rCg d781 fun _ _=>trivial,⟨Fl.any d782,Fl.any d783,Fl.any d784,hv131.sg.o32,hv131.sg.c32,hv131.sg.p32⟩⟩:RVp (fun _=>True) _ _ _ _ _ (⟨no,v1.state,v1.chs,⟨v1.sg.index,v1.sg.op,v1.sg.cl,v1.sg.path⟩⟩:Vr)) (pubF_len _ _ _) (by rw [hD.c1];exact diff_sm (show ∀ x∈([]:List It),x.data.length≤4294967296 from fun x hx=>absurd hx (by simp)) (few_sm hFa)) (hG.ext ((((((((((((((((((((Ext.refl w).trans hx7).trans hx19).trans hx32).trans hx53).trans hx61).trans hx83).gn hg90).trans hx155).gn hg162).gn hg171).trans hx660).trans hx670).trans hx686).gn hg693).trans hx719).trans hx734).trans hx742).gn hg750).gn hg754))) ?_)
  rintro _ w785 ⟨rfl,hx786⟩
  refine ⟨_,rfl,?_⟩;intro a787 F788;clear F780;have z789:=hx786.size
  refine F788.xg (vi 131)<|Xg (.bool (decide (((verifyE (pubF [seed] 2 0) 2 (⟨no,v1.state,v1.chs,⟨v1.sg.index,v1.sg.op,v1.sg.cl,v1.sg.path⟩⟩:Vr)):Int)=(131:Int))))<|Xv (.bool (decide (((verifyE (pubF [seed] 2 0) 2 (⟨no,v1.state,v1.chs,⟨v1.sg.index,v1.sg.op,v1.sg.cl,v1.sg.path⟩⟩:Vr)):Int)=(131:Int))))<|Xa rfl<|fun _ F797=>?_;clear F788
  refine wpList_nil (hK760 _ _ ?_);clear hK760
  have F798:=F797.k [0,1,2,6,18,26,7,8,9,41,10,11,47,50,12,13,16];clear F797
  refine wp_ret ?_
  refine ret1 F798 rfl rfl ?_
  exact ⟨congrArg (fun b=>Ending.returned (.bool b)) ((decide_eq_true (numbers_no hD hidx (by omega) (by omega))):decide (((verifyE (pubF [seed] 2 0) 2 (⟨no,v1.state,v1.chs,⟨v1.sg.index,v1.sg.op,v1.sg.cl,v1.sg.path⟩⟩:Vr)):Int)=(131:Int))=true),(((((((((((((((((((((Ext.refl w).trans hx7).trans hx19).trans hx32).trans hx53).trans hx61).trans hx83).gn hg90).trans hx155).gn hg162).gn hg171).trans hx660).trans hx670).trans hx686).gn hg693).trans hx719).trans hx734).trans hx742).gn hg750).gn hg754).trans hx786)⟩
 refine F26.xu<|Xu<|Xu<|Xv (.bool true)<|fun _ F806=>?_;clear F26
 refine wpList_nil (hK14 _ _ ?_);clear hK14
 have F807:=F806.k [0,1,2,6,18,26];clear F806
 refine F807.ct ?_
 refine wr fun K808 hK808=>?_
 refine F807.xv (.bool true)<|fun _ F810=>?_;clear F807
 refine wpList_nil (hK808 _ _ ?_);clear hK808
 refine wp_ret (ret_then ?_)
 refine ret1 F810 rfl rfl ?_
 exact ⟨rfl,(((Ext.refl w).trans hx7).trans hx19)⟩

end Go.Proofs.YtihgmaoghbnnaaaDoor
