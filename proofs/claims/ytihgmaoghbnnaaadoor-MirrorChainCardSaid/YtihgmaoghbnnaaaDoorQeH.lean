/- Several texts in one: MrW, MsA, MsE. -/
import Derived.Test.YtihgmaoghbnnaaaDoorProg
import Derived.Test.YtihgmaoghbnnaaaDoorQeG
import Derived.KernelRfl
import Derived.Test.YtihgmaoghbnnaaaDoorQeA
import Derived.Test.YtihgmaoghbnnaaaDoorQeB
set_option linter.unusedVariables false
set_option linter.unusedSimpArgs false
namespace Go.Proofs.YtihgmaoghbnnaaaDoor
open Go.RowKit

variable {S S':Nat→Prop}

section
variable {S:Nat→Prop}
theorem join_ok (pub:List UInt8) (w:World) (hp:pub.length=32) :
  Calls Tryd.prog 13 #[.agg (byteVals pub).toArray,.int .i64 2] w (fun e w'=>e=.returned (.tuple #[ag (fcs pub 2 0 v0 v0),.int .i64 0])∧Ext w w'):=join_any pub 2 w hp
theorem join_no (pub:List UInt8) (w:World) (hp:pub.length=32) :
  Calls Tryd.prog 13 #[.agg (byteVals pub).toArray,.int .i64 0] w (fun e w'=>e=.returned (.tuple #[ag (fcs zero32 0 0 v0 v0),.int .i64 40])∧Ext w w'):=join_any pub 0 w hp
theorem recv_at {c e c1 o1 e1 p1:Value} (S:Nat→Prop) (pub:List UInt8) (n:Int) (L:List It) (E:List Vr) (v:Vr) (w:World) (p2:List UInt8) (m2 n2:Int) (L2:List It) (E2:List Vr) (z:Int) (hq:recE (fo pub n L E) v=z∧recF (fo pub n L E) v=⟨p2,m2,n2,L2,E2⟩)
  (hp:pub.length=32) (hL:RLs RIt 2 S w c L) (hE:RLs RVr 38 S w e E) (hv:RVp S w c1 o1 e1 p1 v) (hdi:∀ x∈L,x.data.length≤4294967296) (hde:∀ v∈E,∀ x∈v.chs,x.data.length≤4294967296) (hdv:∀ x∈v.chs,x.data.length≤4294967296) (hG:Glob w) :
  Calls Tryd.prog 14 #[ag (fcs pub 2 n c e),ag (vcs v.no v.state c1 v.sg.index o1 e1 p1)] w (fun en w'=>∃ c' e',en=.returned (.tuple #[ag (fcs p2 m2 n2 c' e'),.int .i64 z])∧RLs RIt 2 (Clip (fun b=>S b∨w.heap.size≤b) w') w' c' L2∧RLs RVr 38 (Clip (fun b=>S b∨w.heap.size≤b) w') w' e' E2∧p2.length=32∧Ext w w'):=by
 have h:=receive_at (S:=S) (c:=c) (e:=e) (fo pub n L E) v w ⟨hp,hL,hE⟩ hv hdi hde hdv hG
 rw [hq.1,hq.2] at h
 refine h.mono ?_
 rintro _ w' ⟨c',e',rfl,hR,hx⟩
 exact ⟨c',e',rfl,RLs.subB rIt hR.items (fun b hb h=>⟨h,hb⟩),RLs.subB rVr hR.early (fun b hb h=>⟨h,hb⟩),hR.pub,hx⟩
theorem wants_fo {S1 S2:Nat→Prop} {c e:Value} (pub:List UInt8) (n:Int) (L:List It) (E:List Vr) (w:World) (z:Int) (hz:n+1=z) (hp:pub.length=32) (hL:RLs RIt 2 S1 w c L) (hE:RLs RVr 38 S2 w e E) (h0:0≤n∧n≤4294967296) :
  Calls Tryd.prog 17 #[ag (fcs pub 2 n c e)] w (fun en w'=>en=.returned (vi z)∧Ext w w'):=by
 subst hz
 exact wants_at (S:=fun _=>True) (c:=c) (e:=e) (fo pub n L E) w ⟨hp,hL.sub rIt fun _ _=>trivial,hE.sub rVr fun _ _=>trivial⟩ h0
theorem fcheck_fo {S1 S2:Nat→Prop} {c e:Value} (pub:List UInt8) (n:Int) (L:List It) (E:List Vr) (w:World) (z:Int) (hz:checkFE (fo pub n L E)=z) (hp:pub.length=32) (hL:RLs RIt 2 S1 w c L) (hE:RLs RVr 38 S2 w e E) (hdi:∀ x∈L,x.data.length≤4294967296) (hde:∀ v∈E,∀ x∈v.chs,x.data.length≤4294967296) (hG:Glob w) :
  Calls Tryd.prog 19 #[ag (fcs pub 2 n c e)] w (fun en w'=>en=.returned (vi z)∧Ext w w'):=by
 subst hz
 exact fcheck_at (S:=fun _=>True) (c:=c) (e:=e) (fo pub n L E) w ⟨hp,hL.sub rIt fun _ _=>trivial,hE.sub rVr fun _ _=>trivial⟩ hdi hde hG
theorem verify_nil (pub:List UInt8) (w:World) (hp:pub.length=32) (hG:Glob w) :
  Calls Tryd.prog 22 #[.agg (byteVals pub).toArray,.int .i64 2,ag (vcs 0 zero32 v0 0 v0 v0 v0)] w (fun en w'=>en=.returned (vi 420)∧Ext w w') :=
 verifyv_at (S:=fun _=>True) pub 2 vrNil w ⟨zero32_len,RLs.nil _,⟨Fl.nil _,Fl.nil _,Fl.nil _,All32.nil,All32.nil,All32.nil⟩⟩ hp (fun x hx=>absurd hx (by simp [vrNil])) hG
end
theorem version_idx {sd:List UInt8} {a b:List It} (hs:1≤sd.length∧sd.length≤64) {n:Nat} (hn:n<2) {v:Vr} (hv:v=⟨(n+1:Nat),stateD b,diffL a b,signF sd 2 n n (msgV (n+1:Nat) (stateD b) (diffL a b))⟩):v.sg.index=n:=by
 have hm:(msgV (n+1:Nat) (stateD b) (diffL a b)).length=72:=msgV_len (stateD_len b)
 rw [hv]
 exact (sign_len ((sign_iff (kok hs (by omega) (by omega)) (by omega)).2 ⟨by omega,by omega⟩)).2.2
theorem duo_of {sd:List UInt8} {a b:List It} (hs:1≤sd.length∧sd.length≤64) (ha:checkE a=0) (hb:checkE b=0) (hl:a.length+b.length≤65536) {v1 v2:Vr} (h1:versionV sd 2 ((0:Nat):Int) 0 a (diffL [] a)=v1) (h2:versionV sd 2 ((1:Nat):Int) 1 b (diffL a b)=v2):Duo (pubF sd 2 0) a b v1 v2:=by
 obtain ⟨-,p2,p3⟩:=version_good (a:=[]) hs (n:=0) (by omega) check_nil ha (by simp;omega)
 obtain ⟨-,q2,q3⟩:=version_good (a:=a) hs (n:=1) (by omega) ha hb hl
 rw [h1] at p2 p3
 rw [h2] at q2 q3
 exact ⟨ha,hb,hl,by rw [p2];rfl,by rw [q2];rfl,by rw [p2],by rw [q2],by rw [p2],by rw [q2],p3,q3⟩
def oneL:List It:=[⟨[97],[120]⟩]
set_option maxRecDepth 100000 in
set_option maxHeartbeats 1000000 in
theorem sane42_any (w:World) (hG:Glob w) :
  Calls Tryd.prog 8 #[] w (fun en w'=>en=.returned (.bool true)∧Ext w w'):=by
 have hk:1≤([115,101,101,100]:List UInt8).length∧([115,101,101,100]:List UInt8).length≤64:=⟨by decide,by decide⟩
 refine calls_enter Tryd.func8 rfl rfl rfl fun _ hF=>?_
 refine wr fun K1 hK1=>?_
 refine hF.xv (.bool false)<|fun _ F3=>?_;clear hF
 refine wpList_nil (hK1 _ _ ?_);clear hK1
 refine wr fun K4 hK4=>?_
 refine F3.xn (fun g=>(vl (some ⟨g,0,none⟩) 4 4)) [(.int .u8 115),(.int .u8 101),(.int .u8 101),(.int .u8 100)] 5 (fun F=>rn_buildSlice (parts4 rfl rfl rfl rfl) (by kernel_rfl)) fun g5 w6 _ F12 z9 z10 b7 hx8=>?_;clear F3
 refine wpl_op (i:=1) rfl (o_mark (l:=[(115:UInt8),(101:UInt8),(101:UInt8),(100:UInt8)]) F12 rfl rfl rfl rfl rfl (F12.get rfl) Tryd.underlying52 Tryd.underlying5 b7 rfl (by omega) (by omega) ?_)
 intro w13 a16 F17 hf14 hg15;clear F12;have z18:=hg15.size
 refine wpl_op (i:=2) rfl (o_call F17 rfl rfl rfl rfl (rn_call (args2 (F17.get rfl) rfl) rfl (by kernel_rfl)) (new_at (v:=(vl (some ⟨g5,0,none⟩) 4 4)) (m:=4) ([(115:UInt8),(101:UInt8),(101:UInt8),(100:UInt8)]) 2 _ hf14 (by omega)) ?_)
 rw [(new_facts hk).1,(new_facts hk).2.1,(new_facts hk).2.2]
 rintro _ w23 ⟨A19,n20,c21,rfl,hf22,hx24⟩
 have z25:=(Fl.cel hf22).2.1;have z26:=Fl.blen hf22
 refine ⟨_,rfl,?_⟩;intro a27 F28;clear F17;have z29:=hx24.size
 have hf30:Fl (Clip (fun b=>w13.heap.size≤b) w23) w23 1 (vl A19 n20 c21) n20 (byteVals ([(115:UInt8),(101:UInt8),(101:UInt8),(100:UInt8)])):=hf22.clip
 refine F28.xm rfl<|Xv (.agg #[(vl A19 n20 c21),(vi 2),(vi 0)])<|Xv (vi 0)<|fun _ F36=>?_;clear F28
 refine F36.xz [v0,(vi 0),(vi 0)] 56 fun g37 w38 _ F44 z41 z42 b39 hx40=>?_;clear F36
 refine F44.xs rfl b39 (fun w45 b46 hg47=>?_);have z48:=hg47.size
 refine F44.xa rfl<|fun _ F50=>?_;clear F44
 refine wpList_nil (hK4 _ _ ?_);clear hK4
 have F51:=F50.k [0,1,2];clear F50
 refine wr fun K52 hK52=>?_
 refine F51.xw (.agg #[(vl A19 n20 c21),(vi 2),(vi 0)]) (fun F=>rb F rfl b46)<|fun _ F54=>?_;clear F51
 have d55:=(hf30.pres (((Pres.refl w23).ext hx40).gc hg47))
 refine F54.xc (pub_at (v:=(vl A19 n20 c21)) (m:=n20) ([(115:UInt8),(101:UInt8),(101:UInt8),(100:UInt8)]) 2 0 _ d55 (hG.ext ((((((Ext.refl w).trans hx8).gn hg15).trans hx24).trans hx40).gn hg47))) ?_
 rintro _ w56 ⟨rfl,hx57⟩
 refine ⟨_,rfl,?_⟩;intro a58 F59;clear F54;have z60:=hx57.size
 refine F59.xm rfl<|Xv (.agg (byteVals (pubF ([(115:UInt8),(101:UInt8),(101:UInt8),(100:UInt8)]) 2 0)).toArray)<|Xv (vi (pubE ([(115:UInt8),(101:UInt8),(101:UInt8),(100:UInt8)]) 2 0))<|fun _ F66=>?_;clear F59
 refine F66.xz (byteVals (List.replicate 32 0)) 24 fun g67 w68 _ F74 z71 z72 b69 hx70=>?_;clear F66
 refine F74.xs rfl b69 (fun w75 b76 hg77=>?_) (hk:=byteVals_len (pubF_len _ _ _));have z78:=hg77.size
 refine F74.xa rfl<|fun _ F80=>?_;clear F74
 refine wpList_nil (hK52 _ _ ?_);clear hK52
 have F81:=F80.k [0,1,2,3,4];clear F80
 refine wr fun K82 hK82=>?_
 refine F81.xn (fun g=>(vl (some ⟨g,0,none⟩) 1 1)) [(.int .u8 120)] 5 (fun F=>rn_buildSlice (parts1 rfl) (by kernel_rfl)) fun g83 w84 _ F90 z87 z88 b85 hx86=>?_;clear F81
 refine wpl_op (i:=1) rfl (o_mark (l:=[(120:UInt8)]) F90 rfl rfl rfl rfl rfl (F90.get rfl) Tryd.underlying52 Tryd.underlying5 b85 rfl (by omega) (by omega) ?_)
 intro w91 a94 F95 hf92 hg93;clear F90;have z96:=hg93.size
 refine F95.xw (.agg #[(strOf ([97])),(vl (some ⟨g83,0,none⟩) 1 1)]) (fun F=>rn_build (parts2 rfl (F.get rfl)) (by kernel_rfl))<|fun _ F98=>?_;clear F95
 refine F98.xn (fun g=>(vl (some ⟨g,0,none⟩) 1 1)) [(strOf ([97])),(vl (some ⟨g83,0,none⟩) 1 1)] 66 (fun F=>rn_buildSlice (parts1 (F.get rfl)) (build_wholeE (vs:=[(.agg #[(strOf ([97])),(vl (some ⟨g83,0,none⟩) 1 1)])]) El22 rfl rfl (fun z0 hz0=>by rw [List.mem_singleton.1 hz0];exact (show List.length [(strOf ([97])),(vl (some ⟨g83,0,none⟩) 1 1)]=2 from rfl)) (by decide) (by decide) (by simp [Value.cells]))) fun g99 w100 _ F106 z103 z104 b101 hx102=>?_;clear F98
 have d108:=(hf92.ext hx102)
 have hl107:RLs RIt 2 (Clip (fun _=>True) w100) w100 (vl (some ⟨g99,0,none⟩) 1 1) oneL:=RLs.clip rIt (RLs.one b101 (show List.length [(strOf ([97])),(vl (some ⟨g83,0,none⟩) 1 1)]=2 from rfl) (one_cons rfl (one_cons rfl one_nil)) trivial (⟨_,_,rfl,Fl.any d108⟩:RIt (fun _=>True) _ _ ⟨[97],[(120:UInt8)]⟩))
 refine F106.xa rfl<|fun _ F110=>?_;clear F106
 refine wpList_nil (hK82 _ _ ?_);clear hK82
 have F111:=F110.k [0,1,2,3,4,5];clear F110
 refine wr fun K112 hK112=>?_
 refine F111.xm rfl<|fun _ F114=>?_;clear F111
 refine wpl_op (i:=1) rfl (o_call F114 rfl rfl rfl rfl (rn_call (args2 rfl (F114.get rfl)) rfl (by kernel_rfl)) (diff_at (u:=v0) (v:=(vl (some ⟨g99,0,none⟩) 1 1)) ([]) oneL _ (RLs.nil _:RLs RIt 2 (fun _=>False) _ _ _) hl107 (show ∀ x∈([]:List It),x.data.length≤4294967296 from fun x hx=>absurd hx (by simp)) (show ∀ x∈oneL,x.data.length≤4294967296 by decide)) ?_)
 rw [(diffE_zero (show checkE []=0 from rfl) (show checkE oneL=0 by decide)).2,(diffE_zero (show checkE []=0 from rfl) (show checkE oneL=0 by decide)).1]
 rintro _ w118 ⟨A115,c116,rfl,hL117,hx119⟩
 refine ⟨_,rfl,?_⟩;intro a120 F121;clear F114;have z122:=hx119.size
 have hl123:RLs RCg 3 (Clip (fun z=>w100.heap.size≤z) w118) w118 (vl A115 ((diffL ([]) oneL).length) c116) (diffL ([]) oneL):=RLs.clip rCg hL117
 obtain ⟨-,z124,z125⟩:=RLs.at hL117
 refine F121.xm rfl<|Xv (vl A115 ((diffL ([]) oneL).length) c116)<|Xv (vi 0)<|Xa rfl<|Xa rfl<|fun _ F135=>?_;clear F121
 refine wpList_nil (hK112 _ _ ?_);clear hK112
 have F136:=F135.k [0,1,2,3,4,5,6,7];clear F135
 refine wr fun K137 hK137=>?_
 have b138:=(((((((b46.ext hx57).ext hx70).gn hg77).ext hx86).gn hg93).ext hx102).ext hx119)
 refine F136.xw (.agg #[(vl A19 n20 c21),(vi 2),(vi 0)]) (fun F=>rb F rfl b138)<|Xm rfl<|Xm rfl<|fun _ F144=>?_;clear F136
 have d145:=(hf30.pres ((((((((((Pres.refl w23).ext hx40).gc hg47).ext hx57).ext hx70).gc hg77).ext hx86).gc hg93).ext hx102).ext hx119))
 have d146:=(RLs.ext rIt hl107 hx119)
 have hv147:=version_good (sd:=[(115:UInt8),(101:UInt8),(101:UInt8),(100:UInt8)]) hk (n:=0) (by omega) (show checkE []=0 from rfl) (show checkE oneL=0 by decide) (by have h5:=(show ([]:List It).length≤12 by simp);have h6:=(show oneL.length≤12 by decide);omega)
 obtain ⟨vr148,hvr149⟩:∃ z,versionV ([(115:UInt8),(101:UInt8),(101:UInt8),(100:UInt8)]) 2 ((0:Nat):Int) 0 oneL (diffL ([]) oneL)=z:=⟨_,rfl⟩
 rw [hvr149] at hv147
 refine wpl_op (i:=3) rfl (o_call F144 rfl rfl rfl rfl (rn_call (args4 (F144.get rfl) rfl (F144.get rfl) (F144.get rfl)) rfl (by kernel_rfl)) (version_at (S:=fun _=>True) none 0 ([(115:UInt8),(101:UInt8),(101:UInt8),(100:UInt8)]) 2 ((0:Nat):Int) (0) oneL (diffL ([]) oneL) _ (Fl.any d145) (RLs.sub (S':=fun _=>True) rIt d146 fun _ _=>trivial) (RLs.sub (S':=fun _=>True) rCg hl123 fun _ _=>trivial) (show ∀ x∈oneL,x.data.length≤4294967296 by decide) (by have h6:=(show oneL.length≤12 by decide);omega) (diff_sm (show ∀ x∈([]:List It),x.data.length≤4294967296 from fun x hx=>absurd hx (by simp)) (show ∀ x∈oneL,x.data.length≤4294967296 by decide)) (hG.ext (((((((((((((Ext.refl w).trans hx8).gn hg15).trans hx24).trans hx40).gn hg47).trans hx57).trans hx70).gn hg77).trans hx86).gn hg93).trans hx102).trans hx119))) ?_)
 have hv1470:=hv147.1
 rw [hvr149,hv147.1,show keyS ([(115:UInt8),(101:UInt8),(101:UInt8),(100:UInt8)]) 2 ((0:Nat):Int) 0 oneL (diffL ([]) oneL)=[(115:UInt8),(101:UInt8),(101:UInt8),(100:UInt8)] from if_pos hv1470,show keyM ([(115:UInt8),(101:UInt8),(101:UInt8),(100:UInt8)]) 2 ((0:Nat):Int) 0 oneL (diffL ([]) oneL)=2 from if_pos hv1470,show keyU ([(115:UInt8),(101:UInt8),(101:UInt8),(100:UInt8)]) 2 ((0:Nat):Int) 0 oneL (diffL ([]) oneL)=((0:Nat):Int)+1 from if_pos hv1470]
 rintro _ w151 ⟨c153,o154,e155,p156,A157,n158,c159,rfl,hR160,hK161,hS162,hq163,hx152⟩
 obtain ⟨rfl,hkk⟩:=hq163 rfl;obtain ⟨rfl,rfl,rfl⟩:=Value.slice.inj hkk.symm
 have hvc150:vr148.chs=diffL ([]) oneL:=by rw [hv147.2.1]
 obtain ⟨A164,c165,rfl,z166,z167⟩:=Fl.form hS162.op
 obtain ⟨A168,c169,rfl,z170,z171⟩:=Fl.form hS162.cl
 obtain ⟨A172,c173,rfl,z174,z175⟩:=Fl.form hS162.path
 refine ⟨_,rfl,?_⟩;intro a176 F177;clear F144;have z178:=hx152.size
 have d179:=(RLs.ext rCg hl123 hx152)
 have hl180:RLs RCg 3 (Clip (fun z=>w100.heap.size≤z) w118) w151 (vl A115 ((diffL ([]) oneL).length) c116) vr148.chs:=by rw [hvc150];exact d179
 have hf181:Fl (Clip (fun b=>w118.heap.size≤b) w151) _ _ _ _ _:=Fl.subB hS162.op (fun _ h1 h2=>⟨h2,h1⟩)
 have hf182:Fl (Clip (fun b=>w118.heap.size≤b) w151) _ _ _ _ _:=Fl.subB hS162.cl (fun _ h1 h2=>⟨h2,h1⟩)
 have hf183:Fl (Clip (fun b=>w118.heap.size≤b) w151) _ _ _ _ _:=Fl.subB hS162.path (fun _ h1 h2=>⟨h2,h1⟩)
 refine F177.xm rfl<|Xv (ag ((vi vr148.no)::dg vr148.state [(vl A115 ((diffL ([]) oneL).length) c116),(vi vr148.sg.index),(vl A164 vr148.sg.op.length c165),(vl A168 vr148.sg.cl.length c169),(vl A172 vr148.sg.path.length c173)]))<|Xv (.agg #[(vl A19 n20 c21),(vi 2),(vi (1:Nat))])<|Xv (vi 0)<|fun _ F191=>?_;clear F177
 refine F191.xz vz 30 fun g192 w193 _ F199 z196 z197 b194 hx195=>?_;clear F191
 refine F199.xz [v0,(vi 0),(vi 0)] 56 fun g200 w201 _ F207 z204 z205 b202 hx203=>?_;clear F199
 have b208:=(b194.ext hx203)
 refine F207.xs rfl b208 (fun w209 b210 hg211=>?_) (hk:=len_dig1 hR160.st);have z212:=hg211.size
 have b216:=(b202.gn hg211)
 refine F207.xs rfl b216 (fun w213 b214 hg215=>?_);have z217:=hg215.size
 refine F207.xa rfl<|fun _ F219=>?_;clear F207
 refine wpList_nil (hK137 _ _ ?_);clear hK137
 have F220:=F219.k [0,1,2,3,4,5,6,7,8,9,10];clear F219
 refine wr fun K221 hK221=>?_
 refine F220.xm rfl<|fun _ F223=>?_;clear F220
 have d224:=(RLs.pres rIt hl107 (((((((Pres.refl w100).ext hx119).ext hx152).ext hx195).ext hx203).gc hg211).gc hg215))
 refine wpl_op (i:=1) rfl (o_call F223 rfl rfl rfl rfl (rn_call (args2 (F223.get rfl) rfl) rfl (by kernel_rfl)) (diff_at (u:=(vl (some ⟨g99,0,none⟩) 1 1)) (v:=v0) oneL ([]) _ d224 (RLs.nil _:RLs RIt 2 (fun _=>False) _ _ _) (show ∀ x∈oneL,x.data.length≤4294967296 by decide) (show ∀ x∈([]:List It),x.data.length≤4294967296 from fun x hx=>absurd hx (by simp))) ?_)
 rw [(diffE_zero (show checkE oneL=0 by decide) (show checkE []=0 from rfl)).2,(diffE_zero (show checkE oneL=0 by decide) (show checkE []=0 from rfl)).1]
 rintro _ w228 ⟨A225,c226,rfl,hL227,hx229⟩
 refine ⟨_,rfl,?_⟩;intro a230 F231;clear F223;have z232:=hx229.size
 have hl233:RLs RCg 3 (Clip (fun z=>w213.heap.size≤z) w228) w228 (vl A225 ((diffL oneL ([])).length) c226) (diffL oneL ([])):=RLs.clip rCg hL227
 obtain ⟨-,z234,z235⟩:=RLs.at hL227
 refine F231.xm rfl<|Xv (vl A225 ((diffL oneL ([])).length) c226)<|Xv (vi 0)<|Xa rfl<|Xa rfl<|fun _ F245=>?_;clear F231
 refine wpList_nil (hK221 _ _ ?_);clear hK221
 have F246:=F245.k [0,1,2,3,4,5,6,7,8,9,10,11,12];clear F245
 refine wr fun K247 hK247=>?_
 have b248:=(b214.ext hx229)
 refine F246.xw (.agg #[(vl A19 n20 c21),(vi 2),(vi (1:Nat))]) (fun F=>rb F rfl b248)<|fun _ F250=>?_;clear F246
 have b251:=((b210.gn hg215).ext hx229)
 refine F250.xw (ag ((vi vr148.no)::dg vr148.state [(vl A115 ((diffL ([]) oneL).length) c116),(vi vr148.sg.index),(vl A164 vr148.sg.op.length c165),(vl A168 vr148.sg.cl.length c169),(vl A172 vr148.sg.path.length c173)])) (fun F=>rb F rfl b251 (hk:=len_dig1 hR160.st))<|fun _ F253=>?_;clear F250
 refine F253.xn (fun g=>(vl (some ⟨g,0,none⟩) 1 1)) ((vi vr148.no)::dg vr148.state [(vl A115 ((diffL ([]) oneL).length) c116),(vi vr148.sg.index),(vl A164 vr148.sg.op.length c165),(vl A168 vr148.sg.cl.length c169),(vl A172 vr148.sg.path.length c173)]) 30 (fun F=>rn_buildSlice (parts1 (F.get rfl)) (build_wholeE (vs:=[(ag ((vi vr148.no)::dg vr148.state [(vl A115 ((diffL ([]) oneL).length) c116),(vi vr148.sg.index),(vl A164 vr148.sg.op.length c165),(vl A168 vr148.sg.cl.length c169),(vl A172 vr148.sg.path.length c173)]))]) El36 rfl rfl (fun z0 hz0=>by rw [List.mem_singleton.1 hz0];exact (show List.length ((vi vr148.no)::dg vr148.state [(vl A115 ((diffL ([]) oneL).length) c116),(vi vr148.sg.index),(vl A164 vr148.sg.op.length c165),(vl A168 vr148.sg.cl.length c169),(vl A172 vr148.sg.path.length c173)])=38 from (by simp [byteVals_len hR160.st]))) (by decide) (by decide) (by simp [Value.cells]))) fun g254 w255 _ F261 z258 z259 b256 hx257=>?_;clear F253
 have d263:=(RLs.pres rCg hl180 (((((((Pres.refl w151).ext hx195).ext hx203).gc hg211).gc hg215).ext hx229).ext hx257))
 have d264:=(hf181.pres (((((((Pres.refl w151).ext hx195).ext hx203).gc hg211).gc hg215).ext hx229).ext hx257))
 have d265:=(hf182.pres (((((((Pres.refl w151).ext hx195).ext hx203).gc hg211).gc hg215).ext hx229).ext hx257))
 have d266:=(hf183.pres (((((((Pres.refl w151).ext hx195).ext hx203).gc hg211).gc hg215).ext hx229).ext hx257))
 have hl262:RLs RVr 38 (Clip (fun _=>True) w255) w255 (vl (some ⟨g254,0,none⟩) 1 1) [vr148]:=RLs.clip rVr (RLs.one b256 (show List.length ((vi vr148.no)::dg vr148.state [(vl A115 ((diffL ([]) oneL).length) c116),(vi vr148.sg.index),(vl A164 vr148.sg.op.length c165),(vl A168 vr148.sg.cl.length c169),(vl A172 vr148.sg.path.length c173)])=38 from (by simp [byteVals_len hR160.st])) (one_cons rfl (one_app (byteVals_one _) (one_cons rfl (one_cons rfl (one_cons rfl (one_cons rfl (one_cons rfl one_nil))))))) trivial (⟨_,_,_,_,rfl,(⟨hR160.st,RLs.sub (S':=fun _=>True) rCg d263 fun _ _=>trivial,⟨Fl.any d264,Fl.any d265,Fl.any d266,hS162.o32,hS162.c32,hS162.p32⟩⟩:RVp (fun _=>True) _ _ _ _ _ vr148)⟩:RVr (fun _=>True) _ _ vr148))
 refine F261.xm rfl<|fun _ F268=>?_;clear F261
 have d269:=(hf30.pres (((((((((((((((((Pres.refl w23).ext hx40).gc hg47).ext hx57).ext hx70).gc hg77).ext hx86).gc hg93).ext hx102).ext hx119).ext hx152).ext hx195).ext hx203).gc hg211).gc hg215).ext hx229).ext hx257))
 have d270:=(RLs.ext rCg hl233 hx257)
 have hv271:=version_good (sd:=[(115:UInt8),(101:UInt8),(101:UInt8),(100:UInt8)]) hk (n:=1) (by omega) (show checkE oneL=0 by decide) (show checkE []=0 from rfl) (by have h5:=(show oneL.length≤12 by decide);have h6:=(show ([]:List It).length≤12 by simp);omega)
 obtain ⟨vr272,hvr273⟩:∃ z,versionV ([(115:UInt8),(101:UInt8),(101:UInt8),(100:UInt8)]) 2 ((1:Nat):Int) 1 ([]) (diffL oneL ([]))=z:=⟨_,rfl⟩
 rw [hvr273] at hv271
 refine wpl_op (i:=4) rfl (o_call F268 rfl rfl rfl rfl (rn_call (args4 (F268.get rfl) (F268.get rfl) rfl (F268.get rfl)) rfl (by kernel_rfl)) (version_at (S:=fun _=>True) (some ⟨g254,0,none⟩) 1 ([(115:UInt8),(101:UInt8),(101:UInt8),(100:UInt8)]) 2 ((1:Nat):Int) (1) ([]) (diffL oneL ([])) _ (Fl.any d269) (RLs.sub (S':=fun _=>True) rIt (RLs.nil _:RLs RIt 2 (fun _=>False) _ _ _) fun _ _=>trivial) (RLs.sub (S':=fun _=>True) rCg d270 fun _ _=>trivial) (show ∀ x∈([]:List It),x.data.length≤4294967296 from fun x hx=>absurd hx (by simp)) (by have h6:=(show ([]:List It).length≤12 by simp);omega) (diff_sm (show ∀ x∈oneL,x.data.length≤4294967296 by decide) (show ∀ x∈([]:List It),x.data.length≤4294967296 from fun x hx=>absurd hx (by simp))) (hG.ext ((((((((((((((((((((Ext.refl w).trans hx8).gn hg15).trans hx24).trans hx40).gn hg47).trans hx57).trans hx70).gn hg77).trans hx86).gn hg93).trans hx102).trans hx119).trans hx152).trans hx195).trans hx203).gn hg211).gn hg215).trans hx229).trans hx257))) ?_)
 have hv2710:=hv271.1
 rw [hvr273,hv271.1,show keyS ([(115:UInt8),(101:UInt8),(101:UInt8),(100:UInt8)]) 2 ((1:Nat):Int) 1 ([]) (diffL oneL ([]))=[(115:UInt8),(101:UInt8),(101:UInt8),(100:UInt8)] from if_pos hv2710,show keyM ([(115:UInt8),(101:UInt8),(101:UInt8),(100:UInt8)]) 2 ((1:Nat):Int) 1 ([]) (diffL oneL ([]))=2 from if_pos hv2710,show keyU ([(115:UInt8),(101:UInt8),(101:UInt8),(100:UInt8)]) 2 ((1:Nat):Int) 1 ([]) (diffL oneL ([]))=((1:Nat):Int)+1 from if_pos hv2710]
 rintro _ w275 ⟨c277,o278,e279,p280,A281,n282,c283,rfl,hR284,hK285,hS286,hq287,hx276⟩
 obtain ⟨rfl,hkk⟩:=hq287 rfl;obtain ⟨rfl,rfl,rfl⟩:=Value.slice.inj hkk.symm
 have hvc274:vr272.chs=diffL oneL ([]):=by rw [hv271.2.1]
 obtain ⟨A288,c289,rfl,z290,z291⟩:=Fl.form hS286.op
 obtain ⟨A292,c293,rfl,z294,z295⟩:=Fl.form hS286.cl
 obtain ⟨A296,c297,rfl,z298,z299⟩:=Fl.form hS286.path
 refine ⟨_,rfl,?_⟩;intro a300 F301;clear F268;have z302:=hx276.size
 have d303:=(RLs.ext rCg (RLs.ext rCg hl233 hx257) hx276)
 have hl304:RLs RCg 3 (Clip (fun z=>w213.heap.size≤z) w228) w275 (vl A225 ((diffL oneL ([])).length) c226) vr272.chs:=by rw [hvc274];exact d303
 have hf305:Fl (Clip (fun b=>w255.heap.size≤b) w275) _ _ _ _ _:=Fl.subB hS286.op (fun _ h1 h2=>⟨h2,h1⟩)
 have hf306:Fl (Clip (fun b=>w255.heap.size≤b) w275) _ _ _ _ _:=Fl.subB hS286.cl (fun _ h1 h2=>⟨h2,h1⟩)
 have hf307:Fl (Clip (fun b=>w255.heap.size≤b) w275) _ _ _ _ _:=Fl.subB hS286.path (fun _ h1 h2=>⟨h2,h1⟩)
 refine F301.xm rfl<|Xv (ag ((vi vr272.no)::dg vr272.state [(vl A225 ((diffL oneL ([])).length) c226),(vi vr272.sg.index),(vl A288 vr272.sg.op.length c289),(vl A292 vr272.sg.cl.length c293),(vl A296 vr272.sg.path.length c297)]))<|Xv (.agg #[(vl A19 n20 c21),(vi 2),(vi (2:Nat))])<|Xv (vi 0)<|fun _ F315=>?_;clear F301
 refine F315.xz vz 30 fun g316 w317 _ F323 z320 z321 b318 hx319=>?_;clear F315
 refine F323.xz [v0,(vi 0),(vi 0)] 56 fun g324 w325 _ F331 z328 z329 b326 hx327=>?_;clear F323
 have b332:=(b318.ext hx327)
 refine F331.xs rfl b332 (fun w333 b334 hg335=>?_) (hk:=len_dig1 hR284.st);have z336:=hg335.size
 have b340:=(b326.gn hg335)
 refine F331.xs rfl b340 (fun w337 b338 hg339=>?_);have z341:=hg339.size
 refine F331.xa rfl<|fun _ F343=>?_;clear F331
 refine wpList_nil (hK247 _ _ ?_);clear hK247
 have F344:=F343.k [0,1,2,3,4,5,6,7,8,9,10,11,12,13,15];clear F343
 refine wr fun K345 hK345=>?_
 have b346:=((((((((((((((((b76.ext hx86).gn hg93).ext hx102).ext hx119).ext hx152).ext hx195).ext hx203).gn hg211).gn hg215).ext hx229).ext hx257).ext hx276).ext hx319).ext hx327).gn hg335).gn hg339)
 refine F344.xw (.agg (byteVals (pubF ([(115:UInt8),(101:UInt8),(101:UInt8),(100:UInt8)]) 2 0)).toArray) (fun F=>rb F rfl b346 (hk:=byteVals_len (pubF_len _ _ _)))<|fun _ F348=>?_;clear F344
 refine F348.xc (join_ok (pubF ([(115:UInt8),(101:UInt8),(101:UInt8),(100:UInt8)]) 2 0) _ (pubF_len _ _ _)) ?_
 rintro _ w349 ⟨rfl,hx350⟩
 refine ⟨_,rfl,?_⟩;intro a351 F352;clear F348;have z353:=hx350.size
 refine F352.xm rfl<|Xv (ag (dg (pubF ([(115:UInt8),(101:UInt8),(101:UInt8),(100:UInt8)]) 2 0) [(vi 2),(vi 0),v0,v0]))<|Xv (vi 0)<|fun _ F359=>?_;clear F352
 refine F359.xz fz 41 fun g360 w361 _ F367 z364 z365 b362 hx363=>?_;clear F359
 refine F367.xs rfl b362 (fun w368 b369 hg370=>?_) (hk:=len_dig (pubF_len _ _ _));have z371:=hg370.size
 refine F367.xa rfl<|fun _ F373=>?_;clear F367
 refine wpList_nil (hK345 _ _ ?_);clear hK345
 have F374:=F373.k [0,1,2,3,4,5,6,7,8,9,10,11,12,13,15,16,17];clear F373
 refine wr fun K375 hK375=>?_
 have b376:=(((b346.ext hx350).ext hx363).gn hg370)
 refine F374.xw (.agg (byteVals (pubF ([(115:UInt8),(101:UInt8),(101:UInt8),(100:UInt8)]) 2 0)).toArray) (fun F=>rb F rfl b376 (hk:=byteVals_len (pubF_len _ _ _)))<|fun _ F378=>?_;clear F374
 refine F378.xc (join_no (pubF ([(115:UInt8),(101:UInt8),(101:UInt8),(100:UInt8)]) 2 0) _ (pubF_len _ _ _)) ?_
 rintro _ w379 ⟨rfl,hx380⟩
 refine ⟨_,rfl,?_⟩;intro a381 F382;clear F378;have z383:=hx380.size
 refine F382.xm rfl<|Xv (ag fz)<|Xv (vi 40)<|fun _ F389=>?_;clear F382
 refine F389.xz fz 41 fun g390 w391 _ F397 z394 z395 b392 hx393=>?_;clear F389
 refine F397.xs rfl b392 (fun w398 b399 hg400=>?_);have z401:=hg400.size
 refine F397.xa rfl<|fun _ F403=>?_;clear F397
 refine wpList_nil (hK375 _ _ ?_);clear hK375
 have F404:=F403.k [0,1,2,3,4,5,6,7,8,9,10,11,12,13,15,16,17,19];clear F403
 refine wr fun K405 hK405=>?_
 have b406:=(((b369.ext hx380).ext hx393).gn hg400)
 refine F404.xw (ag (dg (pubF ([(115:UInt8),(101:UInt8),(101:UInt8),(100:UInt8)]) 2 0) [(vi 2),(vi 0),v0,v0])) (fun F=>rb F rfl b406 (hk:=len_dig (pubF_len _ _ _)))<|fun _ F408=>?_;clear F404
 have b409:=(((((((b334.gn hg339).ext hx350).ext hx363).gn hg370).ext hx380).ext hx393).gn hg400)
 refine F408.xw (ag ((vi vr272.no)::dg vr272.state [(vl A225 ((diffL oneL ([])).length) c226),(vi vr272.sg.index),(vl A288 vr272.sg.op.length c289),(vl A292 vr272.sg.cl.length c293),(vl A296 vr272.sg.path.length c297)])) (fun F=>rb F rfl b409 (hk:=len_dig1 hR284.st))<|fun _ F411=>?_;clear F408
 have hD412:=duo_of hk (a:=oneL) (b:=[]) (by decide) rfl (by decide) hvr149 hvr273
 have d413:=(RLs.pres rCg hl304 (((((((((((Pres.refl w275).ext hx319).ext hx327).gc hg335).gc hg339).ext hx350).ext hx363).gc hg370).ext hx380).ext hx393).gc hg400))
 have d414:=(hf305.pres (((((((((((Pres.refl w275).ext hx319).ext hx327).gc hg335).gc hg339).ext hx350).ext hx363).gc hg370).ext hx380).ext hx393).gc hg400))
 have d415:=(hf306.pres (((((((((((Pres.refl w275).ext hx319).ext hx327).gc hg335).gc hg339).ext hx350).ext hx363).gc hg370).ext hx380).ext hx393).gc hg400))
 have d416:=(hf307.pres (((((((((((Pres.refl w275).ext hx319).ext hx327).gc hg335).gc hg339).ext hx350).ext hx363).gc hg370).ext hx380).ext hx393).gc hg400))
 refine wpl_op (i:=2) rfl (o_call F411 rfl rfl rfl rfl (rn_call (args2 (F411.get rfl) (F411.get rfl)) rfl (by kernel_rfl)) (recv_at (fun b=>b<w398.heap.size) (pubF ([(115:UInt8),(101:UInt8),(101:UInt8),(100:UInt8)]) 2 0) 0 ([]) ([]) vr272 _ (pubF [115,101,101,100] 2 0) 2 0 ([]) ([vr272]) 0 hD412.early (pubF_len _ _ _) (RLs.sub (S':=fun b=>b<w398.heap.size) rIt (RLs.nil _:RLs RIt 2 (fun _=>False) _ _ _) cb) (RLs.sub (S':=fun b=>b<w398.heap.size) rVr (RLs.nil _:RLs RVr 38 (fun _=>False) _ _ _) cb) (⟨hR284.st,(RLs.sub (S':=fun b=>b<w398.heap.size) rCg d413 cb),⟨Fl.sub (S':=fun b=>b<w398.heap.size) d414 cb,Fl.sub (S':=fun b=>b<w398.heap.size) d415 cb,Fl.sub (S':=fun b=>b<w398.heap.size) d416 cb,hS286.o32,hS286.c32,hS286.p32⟩⟩:RVp (fun b=>b<w398.heap.size) _ _ _ _ _ vr272) (show ∀ x∈([]:List It),x.data.length≤4294967296 from fun x hx=>absurd hx (by simp)) (fun v hv=>absurd hv (by simp)) (by rw [hv271.2.1];exact diff_sm (show ∀ x∈oneL,x.data.length≤4294967296 by decide) (show ∀ x∈([]:List It),x.data.length≤4294967296 from fun x hx=>absurd hx (by simp))) (hG.ext (((((((((((((((((((((((((((((((Ext.refl w).trans hx8).gn hg15).trans hx24).trans hx40).gn hg47).trans hx57).trans hx70).gn hg77).trans hx86).gn hg93).trans hx102).trans hx119).trans hx152).trans hx195).trans hx203).gn hg211).gn hg215).trans hx229).trans hx257).trans hx276).trans hx319).trans hx327).gn hg335).gn hg339).trans hx350).trans hx363).gn hg370).trans hx380).trans hx393).gn hg400))) ?_)
 rintro _ w417 ⟨c419,e420,rfl,hL421,hE422,hP423,hx418⟩
 obtain ⟨A424,k425,rfl,z426,z427⟩:∃ A k,c419=.slice A 0 k∧0≤k∧k≤9223372036854775807:=RLs.form hL421
 have hl428:RLs RIt 2 (Clip (fun b=>b<w398.heap.size∨w398.heap.size≤b) w417) w417 (vl A424 0 k425) ([]):=hL421
 obtain ⟨A429,k430,rfl,z431,z432⟩:∃ A k,e420=.slice A 1 k∧1≤k∧k≤9223372036854775807:=RLs.form hE422
 have hl433:RLs RVr 38 (Clip (fun b=>b<w398.heap.size∨w398.heap.size≤b) w417) w417 (vl A429 1 k430) ([vr272]):=hE422
 refine ⟨_,rfl,?_⟩;intro a434 F435;clear F411;have z436:=hx418.size
 refine F435.xm rfl<|Xv (ag (dg (pubF [115,101,101,100] 2 0) [(vi 2),(vi 0),(vl A424 0 k425),(vl A429 1 k430)]))<|Xv (vi 0)<|fun _ F442=>?_;clear F435
 refine F442.xz fz 41 fun g443 w444 _ F450 z447 z448 b445 hx446=>?_;clear F442
 refine F450.xs rfl b445 (fun w451 b452 hg453=>?_) (hk:=len_dig (pubF_len _ _ _));have z454:=hg453.size
 refine F450.xa rfl<|fun _ F456=>?_;clear F450
 refine wpList_nil (hK405 _ _ ?_);clear hK405
 have F457:=F456.k [0,1,2,3,4,5,6,7,8,9,10,11,12,13,15,16,17,19,20,21];clear F456
 refine wr fun K458 hK458=>?_
 refine F457.xw (ag (dg (pubF [115,101,101,100] 2 0) [(vi 2),(vi 0),(vl A424 0 k425),(vl A429 1 k430)])) (fun F=>rb F rfl b452 (hk:=len_dig (pubF_len _ _ _)))<|fun _ F460=>?_;clear F457
 have b461:=(((((((((((((((b251.ext hx257).ext hx276).ext hx319).ext hx327).gn hg335).gn hg339).ext hx350).ext hx363).gn hg370).ext hx380).ext hx393).gn hg400).ext hx418).ext hx446).gn hg453)
 refine F460.xw (ag ((vi vr148.no)::dg vr148.state [(vl A115 ((diffL ([]) oneL).length) c116),(vi vr148.sg.index),(vl A164 vr148.sg.op.length c165),(vl A168 vr148.sg.cl.length c169),(vl A172 vr148.sg.path.length c173)])) (fun F=>rb F rfl b461 (hk:=len_dig1 hR160.st))<|fun _ F463=>?_;clear F460
 have d464:=(RLs.pres rIt hl428 (((Pres.refl w417).ext hx446).gc hg453))
 have d465:=(RLs.pres rVr hl433 (((Pres.refl w417).ext hx446).gc hg453))
 have d466:=(RLs.pres rCg hl180 (((((((((((((((((((((Pres.refl w151).ext hx195).ext hx203).gc hg211).gc hg215).ext hx229).ext hx257).ext hx276).ext hx319).ext hx327).gc hg335).gc hg339).ext hx350).ext hx363).gc hg370).ext hx380).ext hx393).gc hg400).ext hx418).ext hx446).gc hg453))
 have d467:=(hf181.pres (((((((((((((((((((((Pres.refl w151).ext hx195).ext hx203).gc hg211).gc hg215).ext hx229).ext hx257).ext hx276).ext hx319).ext hx327).gc hg335).gc hg339).ext hx350).ext hx363).gc hg370).ext hx380).ext hx393).gc hg400).ext hx418).ext hx446).gc hg453))
 have d468:=(hf182.pres (((((((((((((((((((((Pres.refl w151).ext hx195).ext hx203).gc hg211).gc hg215).ext hx229).ext hx257).ext hx276).ext hx319).ext hx327).gc hg335).gc hg339).ext hx350).ext hx363).gc hg370).ext hx380).ext hx393).gc hg400).ext hx418).ext hx446).gc hg453))
 have d469:=(hf183.pres (((((((((((((((((((((Pres.refl w151).ext hx195).ext hx203).gc hg211).gc hg215).ext hx229).ext hx257).ext hx276).ext hx319).ext hx327).gc hg335).gc hg339).ext hx350).ext hx363).gc hg370).ext hx380).ext hx393).gc hg400).ext hx418).ext hx446).gc hg453))
 refine wpl_op (i:=2) rfl (o_call F463 rfl rfl rfl rfl (rn_call (args2 (F463.get rfl) (F463.get rfl)) rfl (by kernel_rfl)) (recv_at (fun b=>b<w451.heap.size) (pubF [115,101,101,100] 2 0) 0 ([]) ([vr272]) vr148 _ (pubF [115,101,101,100] 2 0) 2 2 ([]) ([]) 0 hD412.late (pubF_len _ _ _) (RLs.sub (S':=fun b=>b<w451.heap.size) rIt d464 cb) (RLs.sub (S':=fun b=>b<w451.heap.size) rVr d465 cb) (⟨hR160.st,(RLs.sub (S':=fun b=>b<w451.heap.size) rCg d466 cb),⟨Fl.sub (S':=fun b=>b<w451.heap.size) d467 cb,Fl.sub (S':=fun b=>b<w451.heap.size) d468 cb,Fl.sub (S':=fun b=>b<w451.heap.size) d469 cb,hS162.o32,hS162.c32,hS162.p32⟩⟩:RVp (fun b=>b<w451.heap.size) _ _ _ _ _ vr148) (show ∀ x∈([]:List It),x.data.length≤4294967296 from fun x hx=>absurd hx (by simp)) (fun v hv=>by rw [List.mem_singleton.1 hv];exact (by rw [hv271.2.1];exact diff_sm (show ∀ x∈oneL,x.data.length≤4294967296 by decide) (show ∀ x∈([]:List It),x.data.length≤4294967296 from fun x hx=>absurd hx (by simp)))) (by rw [hv147.2.1];exact diff_sm (show ∀ x∈([]:List It),x.data.length≤4294967296 from fun x hx=>absurd hx (by simp)) (show ∀ x∈oneL,x.data.length≤4294967296 by decide)) (hG.ext ((((((((((((((((((((((((((((((((((Ext.refl w).trans hx8).gn hg15).trans hx24).trans hx40).gn hg47).trans hx57).trans hx70).gn hg77).trans hx86).gn hg93).trans hx102).trans hx119).trans hx152).trans hx195).trans hx203).gn hg211).gn hg215).trans hx229).trans hx257).trans hx276).trans hx319).trans hx327).gn hg335).gn hg339).trans hx350).trans hx363).gn hg370).trans hx380).trans hx393).gn hg400).trans hx418).trans hx446).gn hg453))) ?_)
 rintro _ w470 ⟨c472,e473,rfl,hL474,hE475,hP476,hx471⟩
 obtain ⟨A477,k478,rfl,z479,z480⟩:∃ A k,c472=.slice A 0 k∧0≤k∧k≤9223372036854775807:=RLs.form hL474
 have hl481:RLs RIt 2 (Clip (fun b=>b<w451.heap.size∨w451.heap.size≤b) w470) w470 (vl A477 0 k478) ([]):=hL474
 obtain ⟨A482,k483,rfl,z484,z485⟩:∃ A k,e473=.slice A 0 k∧0≤k∧k≤9223372036854775807:=RLs.form hE475
 have hl486:RLs RVr 38 (Clip (fun b=>b<w451.heap.size∨w451.heap.size≤b) w470) w470 (vl A482 0 k483) ([]):=hE475
 refine ⟨_,rfl,?_⟩;intro a487 F488;clear F463;have z489:=hx471.size
 refine F488.xm rfl<|Xv (ag (dg (pubF [115,101,101,100] 2 0) [(vi 2),(vi 2),(vl A477 0 k478),(vl A482 0 k483)]))<|Xv (vi 0)<|fun _ F495=>?_;clear F488
 refine F495.xz fz 41 fun g496 w497 _ F503 z500 z501 b498 hx499=>?_;clear F495
 refine F503.xs rfl b498 (fun w504 b505 hg506=>?_) (hk:=len_dig (pubF_len _ _ _));have z507:=hg506.size
 refine F503.xa rfl<|fun _ F509=>?_;clear F503
 refine wpList_nil (hK458 _ _ ?_);clear hK458
 have F510:=F509.k [0,1,2,3,4,5,6,7,8,9,10,11,12,13,15,16,17,19,20,21,22,23];clear F509
 refine wr fun K511 hK511=>?_
 refine F510.xw (ag (dg (pubF [115,101,101,100] 2 0) [(vi 2),(vi 2),(vl A477 0 k478),(vl A482 0 k483)])) (fun F=>rb F rfl b505 (hk:=len_dig (pubF_len _ _ _)))<|fun _ F513=>?_;clear F510
 have b514:=(((b461.ext hx471).ext hx499).gn hg506)
 refine F513.xw (ag ((vi vr148.no)::dg vr148.state [(vl A115 ((diffL ([]) oneL).length) c116),(vi vr148.sg.index),(vl A164 vr148.sg.op.length c165),(vl A168 vr148.sg.cl.length c169),(vl A172 vr148.sg.path.length c173)])) (fun F=>rb F rfl b514 (hk:=len_dig1 hR160.st))<|fun _ F516=>?_;clear F513
 have d517:=(RLs.pres rIt hl481 (((Pres.refl w470).ext hx499).gc hg506))
 have d518:=(RLs.pres rVr hl486 (((Pres.refl w470).ext hx499).gc hg506))
 have d519:=(RLs.pres rCg hl180 ((((((((((((((((((((((((Pres.refl w151).ext hx195).ext hx203).gc hg211).gc hg215).ext hx229).ext hx257).ext hx276).ext hx319).ext hx327).gc hg335).gc hg339).ext hx350).ext hx363).gc hg370).ext hx380).ext hx393).gc hg400).ext hx418).ext hx446).gc hg453).ext hx471).ext hx499).gc hg506))
 have d520:=(hf181.pres ((((((((((((((((((((((((Pres.refl w151).ext hx195).ext hx203).gc hg211).gc hg215).ext hx229).ext hx257).ext hx276).ext hx319).ext hx327).gc hg335).gc hg339).ext hx350).ext hx363).gc hg370).ext hx380).ext hx393).gc hg400).ext hx418).ext hx446).gc hg453).ext hx471).ext hx499).gc hg506))
 have d521:=(hf182.pres ((((((((((((((((((((((((Pres.refl w151).ext hx195).ext hx203).gc hg211).gc hg215).ext hx229).ext hx257).ext hx276).ext hx319).ext hx327).gc hg335).gc hg339).ext hx350).ext hx363).gc hg370).ext hx380).ext hx393).gc hg400).ext hx418).ext hx446).gc hg453).ext hx471).ext hx499).gc hg506))
 have d522:=(hf183.pres ((((((((((((((((((((((((Pres.refl w151).ext hx195).ext hx203).gc hg211).gc hg215).ext hx229).ext hx257).ext hx276).ext hx319).ext hx327).gc hg335).gc hg339).ext hx350).ext hx363).gc hg370).ext hx380).ext hx393).gc hg400).ext hx418).ext hx446).gc hg453).ext hx471).ext hx499).gc hg506))
 refine wpl_op (i:=2) rfl (o_call F516 rfl rfl rfl rfl (rn_call (args2 (F516.get rfl) (F516.get rfl)) rfl (by kernel_rfl)) (recv_at (fun b=>b<w504.heap.size) (pubF [115,101,101,100] 2 0) 2 ([]) ([]) vr148 _ zero32 0 0 ([]) ([]) 420 hD412.again2.1 (pubF_len _ _ _) (RLs.sub (S':=fun b=>b<w504.heap.size) rIt d517 cb) (RLs.sub (S':=fun b=>b<w504.heap.size) rVr d518 cb) (⟨hR160.st,(RLs.sub (S':=fun b=>b<w504.heap.size) rCg d519 cb),⟨Fl.sub (S':=fun b=>b<w504.heap.size) d520 cb,Fl.sub (S':=fun b=>b<w504.heap.size) d521 cb,Fl.sub (S':=fun b=>b<w504.heap.size) d522 cb,hS162.o32,hS162.c32,hS162.p32⟩⟩:RVp (fun b=>b<w504.heap.size) _ _ _ _ _ vr148) (show ∀ x∈([]:List It),x.data.length≤4294967296 from fun x hx=>absurd hx (by simp)) (fun v hv=>absurd hv (by simp)) (by rw [hv147.2.1];exact diff_sm (show ∀ x∈([]:List It),x.data.length≤4294967296 from fun x hx=>absurd hx (by simp)) (show ∀ x∈oneL,x.data.length≤4294967296 by decide)) (hG.ext (((((((((((((((((((((((((((((((((((((Ext.refl w).trans hx8).gn hg15).trans hx24).trans hx40).gn hg47).trans hx57).trans hx70).gn hg77).trans hx86).gn hg93).trans hx102).trans hx119).trans hx152).trans hx195).trans hx203).gn hg211).gn hg215).trans hx229).trans hx257).trans hx276).trans hx319).trans hx327).gn hg335).gn hg339).trans hx350).trans hx363).gn hg370).trans hx380).trans hx393).gn hg400).trans hx418).trans hx446).gn hg453).trans hx471).trans hx499).gn hg506))) ?_)
 rintro _ w523 ⟨c525,e526,rfl,hL527,hE528,hP529,hx524⟩
 obtain ⟨A530,k531,rfl,z532,z533⟩:∃ A k,c525=.slice A 0 k∧0≤k∧k≤9223372036854775807:=RLs.form hL527
 have hl534:RLs RIt 2 (Clip (fun b=>b<w504.heap.size∨w504.heap.size≤b) w523) w523 (vl A530 0 k531) ([]):=hL527
 obtain ⟨A535,k536,rfl,z537,z538⟩:∃ A k,e526=.slice A 0 k∧0≤k∧k≤9223372036854775807:=RLs.form hE528
 have hl539:RLs RVr 38 (Clip (fun b=>b<w504.heap.size∨w504.heap.size≤b) w523) w523 (vl A535 0 k536) ([]):=hE528
 refine ⟨_,rfl,?_⟩;intro a540 F541;clear F516;have z542:=hx524.size
 refine F541.xm rfl<|Xv (ag (dg zero32 [(vi 0),(vi 0),(vl A530 0 k531),(vl A535 0 k536)]))<|Xv (vi 420)<|fun _ F548=>?_;clear F541
 refine F548.xz fz 41 fun g549 w550 _ F556 z553 z554 b551 hx552=>?_;clear F548
 refine F556.xs rfl b551 (fun w557 b558 hg559=>?_);have z560:=hg559.size
 refine F556.xa rfl<|fun _ F562=>?_;clear F556
 refine wpList_nil (hK511 _ _ ?_);clear hK511
 have F563:=F562.k [0,1,2,3,4,5,6,7,8,9,10,11,12,13,15,16,17,19,20,21,22,23,25];clear F562
 refine wr fun K564 hK564=>?_
 refine F563.xm rfl<|Xv (.bool true)<|Xm rfl<|Xg (vi (pubE ([(115:UInt8),(101:UInt8),(101:UInt8),(100:UInt8)]) 2 0))<|Xg (.bool (decide (((pubE ([(115:UInt8),(101:UInt8),(101:UInt8),(100:UInt8)]) 2 0):Int)=(0:Int))))<|Xv (.bool (decide (((pubE ([(115:UInt8),(101:UInt8),(101:UInt8),(100:UInt8)]) 2 0):Int)=(0:Int))))<|Xm rfl<|fun _ F578=>?_;clear F563
 refine qg 7 (vi 0) F578 ((decide_eq_true (pub_u hk (by decide) (by decide)).2):decide (((pubE ([(115:UInt8),(101:UInt8),(101:UInt8),(100:UInt8)]) 2 0):Int)=(0:Int))=true) (rn_move (F578.get rfl)) fun _ F581=>?_;clear F578
 refine qg 8 (.bool true) F581 ((decide_eq_true (pub_u hk (by decide) (by decide)).2):decide (((pubE ([(115:UInt8),(101:UInt8),(101:UInt8),(100:UInt8)]) 2 0):Int)=(0:Int))=true) (rn_eql' (F581.get rfl) rfl (by decide)) fun _ F583=>?_;clear F581
 refine F583.xw (.bool true) (fun F=>rn_pickT (c_true F rfl ((decide_eq_true (pub_u hk (by decide) (by decide)).2):decide (((pubE ([(115:UInt8),(101:UInt8),(101:UInt8),(100:UInt8)]) 2 0):Int)=(0:Int))=true)) (F.get rfl))<|Xm rfl<|Xg (vi 0)<|Xg (.bool true)<|Xv (.bool true)<|Xm rfl<|Xg (vp g192)<|fun _ F597=>?_;clear F583
 have b598:=(((b514.ext hx524).ext hx552).gn hg559)
 refine F597.xgw (vi vr148.no) (fun F=>rl F rfl ((b598.rule.1 0).trans rfl))<|Xg (.bool (decide ((vr148.no:Int)=(1:Int))))<|Xv (.bool (decide ((vr148.no:Int)=(1:Int))))<|Xm rfl<|fun _ F606=>?_;clear F597
 refine qg 20 (.pointer (some ⟨g192,34,none⟩)) F606 ((decide_eq_true (congrArg Vr.no hv147.2.1)):decide ((vr148.no:Int)=(1:Int))=true) (rn_field Tryd.underlying30 rfl (by kernel_rfl) (F606.get rfl) rfl) fun _ F609=>?_;clear F606
 refine qg 21 (.pointer (some ⟨g192,34,none⟩)) F609 ((decide_eq_true (congrArg Vr.no hv147.2.1)):decide ((vr148.no:Int)=(1:Int))=true) (rn_field Tryd.underlying28 rfl (by kernel_rfl) (F609.get rfl) rfl) fun _ F611=>?_;clear F609
 refine qg 22 (vi vr148.sg.index) F611 ((decide_eq_true (congrArg Vr.no hv147.2.1)):decide ((vr148.no:Int)=(1:Int))=true) (rl F611 rfl ((b598.rule.1 34).trans ((at_app (k:=1) (byteVals_len hR160.st)).trans rfl))) fun _ F613=>?_;clear F611
 refine qg 23 (.bool (decide ((vr148.sg.index:Int)=(0:Int)))) F613 ((decide_eq_true (congrArg Vr.no hv147.2.1)):decide ((vr148.no:Int)=(1:Int))=true) (rn_eql (F613.get rfl) rfl) fun _ F615=>?_;clear F613
 refine F615.xw (.bool (decide ((vr148.sg.index:Int)=(0:Int)))) (fun F=>rn_pickT (c_true F rfl ((decide_eq_true (congrArg Vr.no hv147.2.1)):decide ((vr148.no:Int)=(1:Int))=true)) (F.get rfl))<|Xm rfl<|fun _ F619=>?_;clear F615
 refine qg 26 (vi 0) F619 ((decide_eq_true (version_idx hk (n:=0) (by decide) hv147.2.1)):decide ((vr148.sg.index:Int)=(0:Int))=true) (rn_move (F619.get rfl)) fun _ F622=>?_;clear F619
 refine qg 27 (.bool true) F622 ((decide_eq_true (version_idx hk (n:=0) (by decide) hv147.2.1)):decide ((vr148.sg.index:Int)=(0:Int))=true) (rn_eql' (F622.get rfl) rfl (by decide)) fun _ F624=>?_;clear F622
 refine F624.xw (.bool true) (fun F=>rn_pickT (c_true F rfl ((decide_eq_true (version_idx hk (n:=0) (by decide) hv147.2.1)):decide ((vr148.sg.index:Int)=(0:Int))=true)) (F.get rfl))<|Xm rfl<|Xg (vi 0)<|Xg (.bool true)<|Xv (.bool true)<|Xm rfl<|Xg (vi 0)<|Xg (.bool true)<|Xv (.bool true)<|Xm rfl<|Xg (vi 40)<|Xg (.bool true)<|Xv (.bool true)<|Xm rfl<|fun _ F652=>?_;clear F624
 have b653:=(((((((((b406.ext hx418).ext hx446).gn hg453).ext hx471).ext hx499).gn hg506).ext hx524).ext hx552).gn hg559)
 refine F652.xgw (ag (dg (pubF ([(115:UInt8),(101:UInt8),(101:UInt8),(100:UInt8)]) 2 0) [(vi 2),(vi 0),v0,v0])) (fun F=>rb F rfl b653 (hk:=len_dig (pubF_len _ _ _)))<|fun _ F655=>?_;clear F652
 refine wpl_op (i:=43) rfl (o_call F655 rfl (wanted_guard rfl rfl rfl F655 rfl rfl rfl) rfl rfl (rn_call (args1 (F655.get rfl)) rfl (by kernel_rfl)) (wants_fo (pubF ([(115:UInt8),(101:UInt8),(101:UInt8),(100:UInt8)]) 2 0) 0 ([]) ([]) _ 1 rfl (pubF_len _ _ _) (RLs.nil _:RLs RIt 2 (fun _=>False) _ _ _) (RLs.nil _:RLs RVr 38 (fun _=>False) _ _ _) (by omega)) ?_)
 rintro _ w656 ⟨rfl,hx657⟩
 refine ⟨_,rfl,?_⟩;intro a658 F659;clear F655;have z660:=hx657.size
 refine F659.xg (.bool true)<|Xv (.bool true)<|Xa rfl<|fun _ F666=>?_;clear F659
 refine wpList_nil (hK564 _ _ ?_);clear hK564
 have F667:=F666.k [0,1,2,3,4,5,6,7,8,9,10,11,12,13,15,16,17,19,20,21,22,23,25,26];clear F666
 refine wr fun K668 hK668=>?_
 refine F667.xm rfl<|Xm rfl<|Xg (vi 0)<|Xg (.bool true)<|Xv (.bool true)<|Xm rfl<|Xg (.pointer (some ⟨g443,33,none⟩))<|fun _ F682=>?_;clear F667
 have b683:=(((((((b452.ext hx471).ext hx499).gn hg506).ext hx524).ext hx552).gn hg559).ext hx657)
 refine F682.xgw (vi 0) (fun F=>rl F rfl ((b683.rule.1 33).trans ((at_app (k:=1) (byteVals_len (pubF_len _ _ _))).trans rfl)))<|Xg (.bool true)<|Xv (.bool true)<|Xm rfl<|Xg (.pointer (some ⟨g443,35,none⟩))<|Xgw (vl A429 1 k430) (fun F=>rl F rfl ((b683.rule.1 35).trans ((at_app (k:=3) (byteVals_len (pubF_len _ _ _))).trans rfl)))<|Xg (vi 1)<|Xg (.bool true)<|Xv (.bool true)<|Xm rfl<|Xg (vi 0)<|Xg (.bool true)<|Xv (.bool true)<|Xm rfl<|Xg (.pointer (some ⟨g496,33,none⟩))<|fun _ F713=>?_;clear F682
 have b714:=((((b505.ext hx524).ext hx552).gn hg559).ext hx657)
 refine F713.xgw (vi 2) (fun F=>rl F rfl ((b714.rule.1 33).trans ((at_app (k:=1) (byteVals_len (pubF_len _ _ _))).trans rfl)))<|Xg (.bool true)<|Xv (.bool true)<|Xm rfl<|Xg (.pointer (some ⟨g496,34,none⟩))<|Xgw (vl A477 0 k478) (fun F=>rl F rfl ((b714.rule.1 34).trans ((at_app (k:=2) (byteVals_len (pubF_len _ _ _))).trans rfl)))<|Xg (vi 0)<|Xg (.bool true)<|Xv (.bool true)<|Xm rfl<|Xg (.pointer (some ⟨g496,35,none⟩))<|Xgw (vl A482 0 k483) (fun F=>rl F rfl ((b714.rule.1 35).trans ((at_app (k:=3) (byteVals_len (pubF_len _ _ _))).trans rfl)))<|Xg (vi 0)<|Xg (.bool true)<|Xv (.bool true)<|Xm rfl<|Xg (vi 420)<|Xg (.bool true)<|Xv (.bool true)<|Xm rfl<|fun _ F754=>?_;clear F713
 have b755:=(((((((((((((b376.ext hx380).ext hx393).gn hg400).ext hx418).ext hx446).gn hg453).ext hx471).ext hx499).gn hg506).ext hx524).ext hx552).gn hg559).ext hx657)
 refine F754.xgw (.agg (byteVals (pubF ([(115:UInt8),(101:UInt8),(101:UInt8),(100:UInt8)]) 2 0)).toArray) (fun F=>rb F rfl b755 (hk:=byteVals_len (pubF_len _ _ _)))<|Xgw (ag vz) (fun F=>rn_build (parts0 ) (by kernel_rfl))<|fun _ F759=>?_;clear F754
 refine wpl_op (i:=44) rfl (o_call F759 rfl (wanted_guard rfl rfl rfl F759 rfl rfl rfl) rfl rfl (rn_call (args3 (F759.get rfl) rfl (F759.get rfl)) rfl (by kernel_rfl)) (verify_nil (pubF ([(115:UInt8),(101:UInt8),(101:UInt8),(100:UInt8)]) 2 0) _ (pubF_len _ _ _) (hG.ext (((((((((((((((((((((((((((((((((((((((((Ext.refl w).trans hx8).gn hg15).trans hx24).trans hx40).gn hg47).trans hx57).trans hx70).gn hg77).trans hx86).gn hg93).trans hx102).trans hx119).trans hx152).trans hx195).trans hx203).gn hg211).gn hg215).trans hx229).trans hx257).trans hx276).trans hx319).trans hx327).gn hg335).gn hg339).trans hx350).trans hx363).gn hg370).trans hx380).trans hx393).gn hg400).trans hx418).trans hx446).gn hg453).trans hx471).trans hx499).gn hg506).trans hx524).trans hx552).gn hg559).trans hx657))) ?_)
 rintro _ w760 ⟨rfl,hx761⟩
 refine ⟨_,rfl,?_⟩;intro a762 F763;clear F759;have z764:=hx761.size
 refine F763.xg (.bool true)<|Xv (.bool true)<|Xa rfl<|fun _ F770=>?_;clear F763
 refine wpList_nil (hK668 _ _ ?_);clear hK668
 have F771:=F770.k [0,1,2,3,4,5,6,7,8,9,10,11,12,13,15,16,17,19,20,21,22,23,25,26];clear F770
 refine wp_ret ?_
 refine ret1 F771 rfl rfl ?_
 exact ⟨rfl,((((((((((((((((((((((((((((((((((((((((((Ext.refl w).trans hx8).gn hg15).trans hx24).trans hx40).gn hg47).trans hx57).trans hx70).gn hg77).trans hx86).gn hg93).trans hx102).trans hx119).trans hx152).trans hx195).trans hx203).gn hg211).gn hg215).trans hx229).trans hx257).trans hx276).trans hx319).trans hx327).gn hg335).gn hg339).trans hx350).trans hx363).gn hg370).trans hx380).trans hx393).gn hg400).trans hx418).trans hx446).gn hg453).trans hx471).trans hx499).gn hg506).trans hx524).trans hx552).gn hg559).trans hx657).trans hx761)⟩

end Go.Proofs.YtihgmaoghbnnaaaDoor

namespace Go.Proofs.YtihgmaoghbnnaaaDoor
open Go.RowKit

variable {S S':Nat→Prop}

theorem few_sm {l:List It} (h:fewI l):∀ x∈l,x.data.length≤4294967296:=fun x hx=>by have:=(h.2 x hx).2;omega
theorem is_two {S S':Nat→Prop} {w:World} {g:Nat} {t:TypeId} {u v:Value} {a b:List It} (h:Blk w g t [u,v]) (h1:u.oneCell'=true) (h2:v.oneCell'=true) (ha:RLs RIt 2 S w u a) (hb:RLs RIt 2 S' w v b):RLs RIs 1 (fun _=>True) w (vl (some ⟨g,0,none⟩) 2 2) [a,b]:=by
 refine ⟨some ⟨g,0,none⟩,2,[u,v],rfl,⟨Nat.le_refl _,by omega⟩,⟨rfl,fun z hz=>?_,fun _=>⟨g,0,rfl,h.lt,fun j z hz=>?_⟩⟩,fun i hi=>?_,fun _=>⟨g,0,rfl,trivial⟩⟩
 ·rcases List.mem_cons.1 hz with rfl | hz
  ·exact h1
  ·rw [List.mem_singleton.1 hz];exact h2
 ·rw [Nat.zero_add,h.rule.1];exact hz
 ·simp only [List.length_cons,List.length_nil] at hi
  rcases (by omega:i=0∨i=1) with rfl | rfl
  ·exact ⟨u,rfl,ha.sub rIt fun _ _=>trivial⟩
  ·exact ⟨v,rfl,hb.sub rIt fun _ _=>trivial⟩
theorem seed_ok (seed:UInt8):1≤[seed].length∧[seed].length≤64:=⟨by simp,by simp⟩
theorem chain_two (seed:UInt8) {a b:List It} (ha:checkE a=0) (hb:checkE b=0) (hl:a.length+b.length≤65536):∃ v1 v2,chainL [seed] 0 [] [a,b]=[v1,v2]∧Duo (pubF [seed] 2 0) a b v1 v2 :=
 ⟨_,_,rfl,duo_of (seed_ok seed) ha hb hl rfl rfl⟩
theorem hss_two {a b:List It} (ha:checkE a=0) (hf:fewI a) (hb:checkE b=0) (hg:fewI b):∀ s∈[a,b],checkE s=0∧s.length≤12∧∀ x∈s,x.data.length≤4294967296:=fun s hs=>by
 rcases List.mem_cons.1 hs with rfl | hs
 ·exact ⟨ha,hf.1,few_sm hf⟩
 ·rw [List.mem_singleton.1 hs];exact ⟨hb,hg.1,few_sm hg⟩
theorem El39:El Tryd.prog 39 22 v0 1 24:=⟨Tryd.underlying39,by kernel_rfl,rfl,by decide⟩
end Go.Proofs.YtihgmaoghbnnaaaDoor

namespace Go.Proofs.YtihgmaoghbnnaaaDoor
open Go.RowKit

variable {S S':Nat→Prop}

theorem rn_rem2 {P:Program} {W:World} {ρ:Operand→Value} {d:Option Nat} {t xt yt:TypeId} {p:String} {af:Array Edge} {g:Option (Nat × Bool)} {x y:Operand} {k:IntKind} {n1 r:Int} (hx:ρ x=.int k n1) (hy:ρ y=.int k 2) (h1:0≤n1) (h:n1 % 2=r):(execOp ρ ⟨d,.binOp .rem xt x y yt,t,p,af,g⟩).run P W=.ok (.value (.int k r)) W:=by
 subst h
 exact rn_rem hx hy h1 (by decide)
def stN:Bool→Bool→Int
 | true,true=>2
 | true,false=>1
 | false,_=>0
def stL (a b:List It):Bool→Bool→List It
 | true,true=>b
 | true,false=>a
 | false,_=>[]
def stE (v:Vr):Bool→Bool→List Vr
 | false,true=>[v]
 | true,_=>[]
 | false,false=>[]
set_option maxRecDepth 100000 in
set_option maxHeartbeats 1000000 in
theorem chainlaw_any (seed:UInt8) (A:Option Addr) (c:Nat) (a:List It) (B:Option Addr) (d:Nat) (b:List It) (C:Option Addr) (e:Nat) (picks:List UInt8) (w:World) (h:RLs RIt 2 S w (vl A a.length c) a) (h2:RLs RIt 2 S w (vl B b.length d) b) (h3:Fl S w 1 (vl C picks.length e) picks.length (byteVals picks)) (hG:Glob w) :
  Calls Tryd.prog 6 #[.int .u8 (seed.toNat:Nat),.slice A a.length c,.slice B b.length d,.slice C picks.length e] w (fun en w'=>en=.returned (.bool true)∧Ext w w'):=by
 have hc:RLs RIt 2 (Clip S w) w (vl A a.length c) a:=RLs.clip rIt h
 obtain ⟨-,hck,hcm⟩:=RLs.at h
 have h2c:RLs RIt 2 (Clip S w) w (vl B b.length d) b:=RLs.clip rIt h2
 obtain ⟨-,h2ck,h2cm⟩:=RLs.at h2
 have hb3:Fl (Clip S w) w 1 (vl C picks.length e) picks.length (byteVals picks):=h3.clip
 have hb3c:=(Fl.cel hb3).2.1
 refine calls_enter Tryd.func6 rfl rfl rfl fun _ hF=>?_
 refine wr fun K1 hK1=>?_
 refine hF.xv (.bool false)<|fun _ F3=>?_;clear hF
 refine wpList_nil (hK1 _ _ ?_);clear hK1
 refine wp_seq_k fun K4 hK4=>?_
 refine wr fun K5 hK5=>?_
 refine wpl_op (i:=0) rfl (o_call F3 rfl rfl rfl rfl (rn_call (args0 ) rfl (by kernel_rfl)) (sane42_any _ (hG.ext (Ext.refl w))) ?_)
 rintro _ w6 ⟨rfl,hx7⟩
 refine ⟨_,rfl,?_⟩;intro a8 F9;clear F3;have z10:=hx7.size
 refine F9.xw (.bool false) (fun F=>rn_not' (F.get rfl) rfl)<|fun _ F12=>?_;clear F9
 refine wpList_nil (hK5 _ _ ?_);clear hK5
 refine F12.cf ?_
 refine wp_skip ?_
 refine hK4 _ _ ?_;clear hK4
 refine wp_seq_k fun K13 hK13=>?_
 refine wr fun K14 hK14=>?_
 refine F12.xm rfl<|fun _ F16=>?_;clear F12
 have d17:=(RLs.ext rIt hc hx7)
 refine F16.xc (few40_at (v:=(vl A a.length c)) a _ d17) ?_
 rintro _ w18 ⟨rfl,hx19⟩
 refine ⟨_,rfl,?_⟩;intro a20 F21;clear F16;have z22:=hx19.size
 refine F21.xw (.bool (!(decide (fewI a)))) (fun F=>rn_not' (F.get rfl) rfl)<|Xm rfl<|fun _ F26=>?_;clear F21
 by_cases hc27:fewI a
 ·skip
  refine F26.xg (vl B b.length d)<|fun _ F29=>?_;clear F26
  have d30:=(RLs.ext rIt (RLs.ext rIt h2c hx7) hx19)
  refine wpl_op (i:=5) rfl (o_call F29 rfl (wanted_guard rfl rfl rfl F29 rfl (not_t (decide_eq_true hc27)) rfl) rfl rfl (rn_call (args1 (F29.get rfl)) rfl (by kernel_rfl)) (few40_at (v:=(vl B b.length d)) b _ d30) ?_)
  rintro _ w31 ⟨rfl,hx32⟩
  refine ⟨_,rfl,?_⟩;intro a33 F34;clear F29;have z35:=hx32.size
  refine F34.xgw (.bool (!(decide (fewI b)))) (fun F=>rn_not' (F.get rfl) rfl)<|Xv (.bool (!(decide (fewI b))))<|Xm rfl<|fun _ F41=>?_;clear F34
  by_cases hc42:fewI b
  ·skip
   refine F41.xg (vl A a.length c)<|fun _ F44=>?_;clear F41
   have d45:=(RLs.ext rIt (RLs.ext rIt (RLs.ext rIt hc hx7) hx19) hx32)
   refine wpl_op (i:=10) rfl (o_call F44 rfl (wanted_guard rfl rfl rfl F44 rfl (not_t (decide_eq_true hc42)) rfl) rfl rfl (rn_call (args1 (F44.get rfl)) rfl (by kernel_rfl)) (pcheck_at (v:=(vl A a.length c)) a _ d45) ?_)
   rintro _ w46 ⟨rfl,hx47⟩
   refine ⟨_,rfl,?_⟩;intro a48 F49;clear F44;have z50:=hx47.size
   refine F49.xg (.bool (decide (((checkE a):Int)≠(0:Int))))<|Xv (.bool (decide (((checkE a):Int)≠(0:Int))))<|Xm rfl<|fun _ F56=>?_;clear F49
   by_cases hc57:((checkE a):Int)≠(0:Int)
   ·skip
    refine F56.xu<|Xu<|Xu<|Xv (.bool true)<|Xm rfl<|Xu<|Xu<|Xu<|Xv (.bool true)<|fun _ F75=>?_;clear F56
    refine wpList_nil (hK14 _ _ ?_);clear hK14
    have F76:=F75.k [0,1,2,3,8,22,45];clear F75
    refine F76.ct ?_
    refine wr fun K77 hK77=>?_
    refine F76.xv (.bool true)<|fun _ F79=>?_;clear F76
    refine wpList_nil (hK77 _ _ ?_);clear hK77
    refine wp_ret (ret_then ?_)
    refine ret1 F79 rfl rfl ?_
    exact ⟨rfl,(((((Ext.refl w).trans hx7).trans hx19).trans hx32).trans hx47)⟩
   refine F56.xg (vl B b.length d)<|fun _ F81=>?_;clear F56
   have d82:=(RLs.ext rIt (RLs.ext rIt (RLs.ext rIt (RLs.ext rIt h2c hx7) hx19) hx32) hx47)
   refine wpl_op (i:=15) rfl (o_call F81 rfl (wanted_guard rfl rfl rfl F81 rfl (decide_eq_false hc57) rfl) rfl rfl (rn_call (args1 (F81.get rfl)) rfl (by kernel_rfl)) (pcheck_at (v:=(vl B b.length d)) b _ d82) ?_)
   rintro _ w83 ⟨rfl,hx84⟩
   refine ⟨_,rfl,?_⟩;intro a85 F86;clear F81;have z87:=hx84.size
   refine F86.xg (.bool (decide (((checkE b):Int)≠(0:Int))))<|Xv (.bool (decide (((checkE b):Int)≠(0:Int))))<|Xm rfl<|fun _ F93=>?_;clear F86
   by_cases hc94:((checkE b):Int)≠(0:Int)
   ·skip
    refine F93.xu<|Xu<|Xu<|Xv (.bool true)<|fun _ F102=>?_;clear F93
    refine wpList_nil (hK14 _ _ ?_);clear hK14
    have F103:=F102.k [0,1,2,3,8,22,45];clear F102
    refine F103.ct ?_
    refine wr fun K104 hK104=>?_
    refine F103.xv (.bool true)<|fun _ F106=>?_;clear F103
    refine wpList_nil (hK104 _ _ ?_);clear hK104
    refine wp_ret (ret_then ?_)
    refine ret1 F106 rfl rfl ?_
    exact ⟨rfl,((((((Ext.refl w).trans hx7).trans hx19).trans hx32).trans hx47).trans hx84)⟩
   refine F93.xg (vl C picks.length e)<|Xg (vi (picks.length:Nat))<|Xg (.bool (decide ((4:Int)<((picks.length:Nat):Int))))<|Xv (.bool (decide ((4:Int)<((picks.length:Nat):Int))))<|fun _ F114=>?_;clear F93
   refine wpList_nil (hK14 _ _ ?_);clear hK14
   have F115:=F114.k [0,1,2,3,8,22,45];clear F114
   by_cases hc116:(4:Int)<((picks.length:Nat):Int)
   ·skip
    refine F115.ct ?_
    refine wr fun K117 hK117=>?_
    refine F115.xv (.bool true)<|fun _ F119=>?_;clear F115
    refine wpList_nil (hK117 _ _ ?_);clear hK117
    refine wp_ret (ret_then ?_)
    refine ret1 F119 rfl rfl ?_
    exact ⟨rfl,((((((Ext.refl w).trans hx7).trans hx19).trans hx32).trans hx47).trans hx84)⟩
   refine F115.cf ?_
   refine wp_skip ?_
   refine hK13 _ _ ?_;clear hK13
   refine wr fun K120 hK120=>?_
   refine F115.xm rfl<|Xm rfl<|Xm rfl<|fun _ F126=>?_;clear F115
   refine F126.xn (fun g=>(vl (some ⟨g,0,none⟩) 2 2)) [(vl A a.length c),(vl B b.length d)] 22 (fun F=>rn_buildSlice (parts2 (F.get rfl) (F.get rfl)) (build_wholeE (vs:=[(vl A a.length c),(vl B b.length d)]) El39 rfl rfl (fun z0 hz0=>by rcases List.mem_cons.1 hz0 with rfl | hz0 <;> first | rfl | (rw [List.mem_singleton.1 hz0];rfl)) (by decide) (by decide) (by simp [Value.cells]))) fun g127 w128 _ F134 z131 z132 b129 hx130=>?_;clear F126
   have d136:=(RLs.ext rIt (RLs.ext rIt (RLs.ext rIt (RLs.ext rIt (RLs.ext rIt (RLs.ext rIt hc hx7) hx19) hx32) hx47) hx84) hx130)
   have d137:=(RLs.ext rIt (RLs.ext rIt (RLs.ext rIt (RLs.ext rIt (RLs.ext rIt (RLs.ext rIt h2c hx7) hx19) hx32) hx47) hx84) hx130)
   have hl135:RLs RIs 1 (Clip (fun _=>True) w128) w128 (vl (some ⟨g127,0,none⟩) 2 2) [a,b]:=RLs.clip rIs (is_two b129 rfl rfl d136 d137)
   have hAa:checkE a=0:=Decidable.not_not.1 (of_decide_eq_false (decide_eq_false hc57))
   have hFa:fewI a:=of_decide_eq_true (decide_eq_true hc27);have hFan:=hFa.1
   have hAb:checkE b=0:=Decidable.not_not.1 (of_decide_eq_false (decide_eq_false hc94))
   have hFb:fewI b:=of_decide_eq_true (decide_eq_true hc42);have hFbn:=hFb.1
   obtain ⟨v1,v2,hcl,hD⟩:=chain_two seed hAa hAb (by omega)
   refine wpl_op (i:=4) rfl (o_call F134 rfl rfl rfl rfl (rn_call (args2 (F134.get rfl) (F134.get rfl)) rfl (by kernel_rfl)) (chain_at (v:=(vl (some ⟨g127,0,none⟩) 2 2)) seed [a,b] _ hl135 (hss_two hAa hFa hAb hFb) (by simp) (hG.ext (((((((Ext.refl w).trans hx7).trans hx19).trans hx32).trans hx47).trans hx84).trans hx130))) ?_)
   rw [hcl]
   rintro _ w138 ⟨A140,n142,c141,rfl,hL143,hx139⟩
   obtain ⟨rfl,z145,z146⟩:n142=2∧n142≤c141∧c141≤9223372036854775807:=RLs.at hL143
   refine ⟨_,rfl,?_⟩;intro a147 F148;clear F134;have z149:=hx139.size
   have hl144:RLs RVr 38 (Clip (fun _=>True) w138) w138 (vl A140 2 c141) [v1,v2]:=RLs.subB rVr hL143 (fun b hb _=>⟨trivial,hb⟩)
   refine F148.xm rfl<|Xv (.agg (byteVals (pubF [seed] 2 0)).toArray)<|Xv (vl A140 2 c141)<|Xv (.bool true)<|fun _ F157=>?_;clear F148
   refine F157.xz (byteVals (List.replicate 32 0)) 24 fun g158 w159 _ F165 z162 z163 b160 hx161=>?_;clear F157
   refine F165.xs rfl b160 (fun w166 b167 hg168=>?_) (hk:=byteVals_len (pubF_len _ _ _));have z169:=hg168.size
   refine F165.xa rfl<|Xa rfl<|fun _ F173=>?_;clear F165
   refine wpList_nil (hK120 _ _ ?_);clear hK120
   have F174:=F173.k [0,1,2,3,8,22,45,9,10,11];clear F173
   refine wr fun K175 hK175=>?_
   refine F174.xw (.agg (byteVals (pubF [seed] 2 0)).toArray) (fun F=>rb F rfl b167 (hk:=byteVals_len (pubF_len _ _ _)))<|fun _ F177=>?_;clear F174
   refine F177.xc (join_ok (pubF [seed] 2 0) _ (pubF_len _ _ _)) ?_
   rintro _ w178 ⟨rfl,hx179⟩
   refine ⟨_,rfl,?_⟩;intro a180 F181;clear F177;have z182:=hx179.size
   refine F181.xm rfl<|Xv (ag (dg (pubF [seed] 2 0) [(vi 2),(vi 0),v0,v0]))<|Xv (vi 0)<|fun _ F188=>?_;clear F181
   refine F188.xz fz 41 fun g189 w190 _ F196 z193 z194 b191 hx192=>?_;clear F188
   refine F196.xs rfl b191 (fun w197 b198 hg199=>?_) (hk:=len_dig (pubF_len _ _ _));have z200:=hg199.size
   refine F196.xa rfl<|fun _ F202=>?_;clear F196
   refine wpList_nil (hK175 _ _ ?_);clear hK175
   have F203:=F202.k [0,1,2,3,8,22,45,9,10,11,12,13];clear F202
   refine wp_seq_k fun K204 hK204=>?_
   refine wr fun K205 hK205=>?_
   refine F203.xm rfl<|Xw (.bool false) (fun F=>rn_not' (F.get rfl) rfl)<|Xm rfl<|Xg (vl A140 2 c141)<|Xg (vi 2)<|Xg (.bool false)<|Xv (.bool false)<|Xm rfl<|Xg (vi 0)<|Xg (.bool false)<|Xv (.bool false)<|fun _ F227=>?_;clear F203
   refine wpList_nil (hK205 _ _ ?_);clear hK205
   have F228:=F227.k [0,1,2,3,8,22,45,9,10,11,12,13,70];clear F227
   refine F228.cf ?_
   refine wp_skip ?_
   refine hK204 _ _ ?_;clear hK204
   refine wr fun K229 hK229=>?_
   refine F228.xz (boolVals (List.replicate 2 false)) 53 fun g230 w231 _ F237 z234 z235 b232 hx233=>?_;clear F228
   refine wpList_nil (hK229 _ _ ?_);clear hK229
   refine wp_seq_k fun K238 hK238=>?_
   refine wr fun K239 hK239=>?_
   refine F237.xm rfl<|Xv (vi (picks.length:Nat))<|Xv (vi 0)<|fun _ F245=>?_;clear F237
   refine wpList_nil (hK239 _ _ ?_);clear hK239
   refine wp_block ?_
   have d246:=(RLs.pres rVr hl144 (((((((Pres.refl w138).ext hx161).gc hg168).ext hx179).ext hx192).gc hg199).ext hx233))
   have b247:=(b198.ext hx233)
   refine wp_loop (fun a' W=>∃ (k:Nat) (q0:Bool) (q1:Bool) (A1:Option Addr) (k1:Nat) (A2:Option Addr) (k2:Nat),Sl 156 [(0,(.int .u8 (seed.toNat:Nat))),(1,(vl A a.length c)),(2,(vl B b.length d)),(3,(vl C picks.length e)),(8,(.bool false)),(22,(.bool false)),(45,(.bool (decide ((4:Int)<((picks.length:Nat):Int))))),(9,(vp g158)),(10,(vl A140 2 c141)),(11,(.bool true)),(12,(vp g189)),(13,(vi 0)),(70,(.bool false)),(14,(vp g230)),(71,(vl C picks.length e)),(72,(vi (picks.length:Nat))),(73,(vi (k:Nat)))] a'∧k≤picks.length∧Ext w W∧Blk W g189 41 (dg (pubF [seed] 2 0) [(vi 2),(vi (stN q0 q1)),(vl A1 ((stL a b q0 q1).length) k1),(vl A2 ((stE v2 q0 q1).length) k2)])∧Blk W g230 53 [(.bool q0),(.bool q1)]∧RLs RVr 38 (Clip (fun _=>True) w138) W (vl A140 2 c141) ([v1,v2])∧RLs RIt 2 (fun b=>b≠g189∧b≠g230) W (vl A1 ((stL a b q0 q1).length) k1) (stL a b q0 q1)∧RLs RVr 38 (fun b=>b≠g189∧b≠g230) W (vl A2 ((stE v2 q0 q1).length) k2) (stE v2 q0 q1)∧w231.heap.size≤W.heap.size) (fun a' _=>picks.length - (intOf (a'.eval (.tmp 73))).toNat) ⟨0,false,false,none,0,none,0,F245.j,(by omega),((((((((((((((Ext.refl w).trans hx7).trans hx19).trans hx32).trans hx47).trans hx84).trans hx130).trans hx139).trans hx161).gn hg168).trans hx179).trans hx192).gn hg199).trans hx233),b247,b232,d246,(RLs.nil _),(RLs.nil _),(Nat.le_refl _)⟩ ?_
   clear F245
   rintro a248 w249 ⟨k,q0,q1,A1,k1,A2,k2,F250,hp252,hx251,b253,b254,hf255,hf256,hf257,hf258⟩
   have hL259:=F250
   have z260:=hx251.size
   have z261:=b253.lt
   have z262:=b254.lt
   have hc263:=RLs.clip rIt hf256
   obtain ⟨-,z264,z265⟩:=RLs.at hf256
   have hc266:=RLs.clip rVr hf257
   obtain ⟨-,z267,z268⟩:=RLs.at hf257
   refine wr fun K269 hK269=>?_
   refine F250.xv (.bool (decide (((k:Nat):Int)<((picks.length:Nat):Int))))<|fun _ F271=>?_;clear F250
   refine wpList_nil (hK269 _ _ ?_);clear hK269
   refine wp_seq_k fun K272 hK272=>?_
   by_cases hc273:((k:Nat):Int)<((picks.length:Nat):Int)
   ·skip
    refine F271.ct ?_
    refine wp_skip ?_
    refine hK272 _ _ ?_;clear hK272
    refine wp_seq_k fun K274 hK274=>?_
    refine wp_block ?_
    refine wr fun K275 hK275=>?_
    have d279:=(hb3.ext hx251)
    obtain ⟨b276,o277,hA278,-⟩:=Fl.at d279 (by omega)
    refine F271.xw (.pointer (some ⟨b276,o277+k,none⟩)) (fun F=>rn_index1 Tryd.underlying52 inf5 ((F.get rfl).trans (by rw [hA278])) (F.get rfl) (by omega:(0:Int)≤(k:Nat)) (by omega:((k:Nat):Int)<((picks.length:Nat):Int)))<|Xw (.int .u8 ((picks.getD k 0).toNat:Nat)) (fun F=>rl F rfl (Fl.cellAt d279 hA278 (byteVals_at (i:=k) (by omega))))<|Xa rfl<|fun _ F285=>?_;clear F271
    refine wpList_nil (hK275 _ _ ?_);clear hK275
    refine wp_seq_k fun K286 hK286=>?_
    by_cases hc287:(picks.getD k 0).toNat % 2=0
    ·skip
     refine wp_region_lit ?_
     refine F285.xm rfl<|Xm rfl<|Xw (.int .u8 0) (fun F=>rn_rem2 (r:=0) (F.get rfl) rfl (by omega) (by omega))<|fun _ F293=>?_;clear F285
     obtain ⟨b294,o295,x296,cs297,hA298,hi299,hk300,hc301,hr302⟩:=RLs.get hf255 (by omega:0<2)
     obtain rfl:v1=x296:=Option.some.inj ((rfl:([v1,v2]:List Vr)[0]?=some v1).symm.trans hi299)
     obtain ⟨v303,v304,v305,v306,rfl,hv307⟩:=hr302
     obtain ⟨A308,c309,rfl,z310,z311⟩:=RLs.form hv307.chs
     obtain ⟨A312,c313,rfl,z314,z315⟩:=Fl.form hv307.sg.op
     obtain ⟨A316,c317,rfl,z318,z319⟩:=Fl.form hv307.sg.cl
     obtain ⟨A320,c321,rfl,z322,z323⟩:=Fl.form hv307.sg.path
     refine F293.xw (.pointer (some ⟨b294,o295+0*38,none⟩)) (fun F=>rn_indexE Tryd.underlying36 inf30 ((F.get rfl).trans (by rw [hA298])) (F.get rfl) (by omega:(0:Int)≤0) (by omega:(0:Int)<((2:Nat):Int)) (by omega))<|Xw (ag ((vi v1.no)::dg v1.state [(vl A308 v1.chs.length c309),(vi v1.sg.index),(vl A312 v1.sg.op.length c313),(vl A316 v1.sg.cl.length c317),(vl A320 v1.sg.path.length c321)])) (fun F=>rn_loadN (cs:=((vi v1.no)::dg v1.state [(vl A308 v1.chs.length c309),(vi v1.sg.index),(vl A312 v1.sg.op.length c313),(vl A316 v1.sg.cl.length c317),(vl A320 v1.sg.path.length c321)])) (F.get rfl) Tryd.underlying30 rfl (sk inf30 (len_dig1 hv307.st)) hc301)<|fun _ F327=>?_;clear F293
     refine F327.xz vz 30 fun g328 w329 _ F335 z332 z333 b330 hx331=>?_;clear F327
     refine F335.xs rfl b330 (fun w336 b337 hg338=>?_) (hk:=len_dig1 hv307.st);have z339:=hg338.size
     refine wpList_nil (hK286 _ _ ?_);clear hK286
     have F340:=F335.k [0,1,2,3,8,22,45,9,10,11,12,13,70,14,71,72,73,74,16,17];clear F335
     refine wp_seq_k fun K341 hK341=>?_
     rcases Bool.eq_false_or_eq_true q0 with hc342 | hc342
     ·skip
      rcases Bool.eq_false_or_eq_true q1 with hc343 | hc343
      ·skip
       subst hc342 hc343
       refine wp_region_lit ?_
       have b344:=((b253.ext hx331).gn hg338)
       refine F340.xw (ag (dg (pubF [seed] 2 0) [(vi 2),(vi (stN true true)),(vl A1 ((stL a b true true).length) k1),(vl A2 ((stE v2 true true).length) k2)])) (fun F=>rb F rfl b344 (hk:=len_dig (pubF_len _ _ _)))<|Xw (ag ((vi v1.no)::dg v1.state [(vl A308 v1.chs.length c309),(vi v1.sg.index),(vl A312 v1.sg.op.length c313),(vl A316 v1.sg.cl.length c317),(vl A320 v1.sg.path.length c321)])) (fun F=>rb F rfl b337 (hk:=len_dig1 hv307.st))<|fun _ F348=>?_;clear F340
       have d349:=(RLs.pres rIt hc263 (((Pres.refl w249).ext hx331).gc hg338))
       have d350:=(RLs.pres rVr hc266 (((Pres.refl w249).ext hx331).gc hg338))
       have d351:=(RLs.pres rCg hv307.chs (((Pres.refl w249).ext hx331).gc hg338))
       have d352:=(hv307.sg.op.pres (((Pres.refl w249).ext hx331).gc hg338))
       have d353:=(hv307.sg.cl.pres (((Pres.refl w249).ext hx331).gc hg338))
       have d354:=(hv307.sg.path.pres (((Pres.refl w249).ext hx331).gc hg338))
       refine wpl_op (i:=2) rfl (o_call F348 rfl rfl rfl rfl (rn_call (args2 (F348.get rfl) (F348.get rfl)) rfl (by kernel_rfl)) (recv_at (fun b=>(b≠g189∧b≠g230)) (pubF [seed] 2 0) (stN true true) (stL a b true true) (stE v2 true true) v1 _ zero32 0 0 ([]) ([]) 420 hD.again2.1 (pubF_len _ _ _) (RLs.sub (S':=fun b=>(b≠g189∧b≠g230)) rIt d349 cb) (RLs.sub (S':=fun b=>(b≠g189∧b≠g230)) rVr d350 cb) (⟨hv307.st,(RLs.sub (S':=fun b=>(b≠g189∧b≠g230)) rCg d351 cb),⟨Fl.sub (S':=fun b=>(b≠g189∧b≠g230)) d352 cb,Fl.sub (S':=fun b=>(b≠g189∧b≠g230)) d353 cb,Fl.sub (S':=fun b=>(b≠g189∧b≠g230)) d354 cb,hv307.sg.o32,hv307.sg.c32,hv307.sg.p32⟩⟩:RVp (fun b=>(b≠g189∧b≠g230)) _ _ _ _ _ v1) (few_sm hFb) (fun v hv=>absurd hv (by simp [stE])) (by rw [hD.c1];exact diff_sm (show ∀ x∈([]:List It),x.data.length≤4294967296 from fun x hx=>absurd hx (by simp)) (few_sm hFa)) (hG.ext ((((Ext.refl w).trans hx251).trans hx331).gn hg338))) ?_)
       rintro _ w355 ⟨c357,e358,rfl,hL359,hE360,hP361,hx356⟩
       obtain ⟨A362,k363,rfl,z364,z365⟩:∃ A k,c357=.slice A 0 k∧0≤k∧k≤9223372036854775807:=RLs.form hL359
       have hl366:RLs RIt 2 (Clip (fun b=>(b≠g189∧b≠g230)∨w336.heap.size≤b) w355) w355 (vl A362 0 k363) ([]):=hL359
       obtain ⟨A367,k368,rfl,z369,z370⟩:∃ A k,e358=.slice A 0 k∧0≤k∧k≤9223372036854775807:=RLs.form hE360
       have hl371:RLs RVr 38 (Clip (fun b=>(b≠g189∧b≠g230)∨w336.heap.size≤b) w355) w355 (vl A367 0 k368) ([]):=hE360
       refine ⟨_,rfl,?_⟩;intro a372 F373;clear F348;have z374:=hx356.size
       refine F373.xm rfl<|Xv (ag (dg zero32 [(vi 0),(vi 0),(vl A362 0 k363),(vl A367 0 k368)]))<|Xv (vi 420)<|fun _ F380=>?_;clear F373
       refine F380.xz fz 41 fun g381 w382 _ F388 z385 z386 b383 hx384=>?_;clear F380
       refine F388.xs rfl b383 (fun w389 b390 hg391=>?_);have z392:=hg391.size
       refine F388.xa rfl<|fun _ F394=>?_;clear F388
       refine wpList_nil (hK341 _ _ ?_);clear hK341
       have F395:=F394.k [0,1,2,3,8,22,45,9,10,11,12,13,70,14,71,72,73,74,16,17,18,19];clear F394
       refine wp_seq_k fun K396 hK396=>?_
       refine wr fun K397 hK397=>?_
       refine F395.xm rfl<|Xw (.int .u8 0) (fun F=>rn_rem2 (r:=0) (F.get rfl) rfl (by omega) (by omega))<|Xw (.pointer (some ⟨g230,0+0,none⟩)) (fun F=>rn_indexArr Tryd.underlying53 inf4 (F.get rfl) (F.get rfl) (by omega:(0:Int)≤0) (by omega:(0:Int)<((2:Nat):Int)))<|fun _ F403=>?_;clear F395
       have b404:=(((((b254.ext hx331).gn hg338).ext hx356).ext hx384).gn hg391)
       refine F403.xw (.bool true) (fun F=>rl F rfl (b404.rule.1 (0+0)))<|fun _ F406=>?_;clear F403
       refine wpList_nil (hK397 _ _ ?_);clear hK397
       refine F406.ct ?_
       refine wp_seq_k fun K407 hK407=>?_
       refine wr fun K408 hK408=>?_
       refine F406.xm rfl<|Xv (.bool false)<|fun _ F412=>?_;clear F406
       refine wpList_nil (hK408 _ _ ?_);clear hK408
       have F413:=F412.k [0,1,2,3,8,22,45,9,10,11,12,13,70,14,71,72,73,74,16,17,18,19,91,93];clear F412
       refine F413.cf ?_
       refine wp_skip ?_
       refine hK407 _ _ ?_;clear hK407
       refine wp_exit ?_
       refine exit_then ?_
       refine exit_here ?_
       refine hK274 _ _ ?_;clear hK274
       refine wp_region_lit ?_
       refine F413.xv (vi (k+1:Nat))<|Xm rfl<|fun _ F417=>?_;clear F413
       refine wpList_nil ?_
       have d418:=(RLs.pres rVr hf255 ((((((Pres.refl w249).ext hx331).gc hg338).ext hx356).ext hx384).gc hg391))
       have d419:=(RLs.pres rIt hc263 ((((((Pres.refl w249).ext hx331).gc hg338).ext hx356).ext hx384).gc hg391))
       have d420:=(RLs.pres rVr hc266 ((((((Pres.refl w249).ext hx331).gc hg338).ext hx356).ext hx384).gc hg391))
       have b421:=(((b344.ext hx356).ext hx384).gn hg391)
       refine ⟨⟨(k+1),true,true,A1,k1,A2,k2,F417.j,(by omega),(((((((Ext.refl w).trans hx251).trans hx331).gn hg338).trans hx356).trans hx384).gn hg391),b421,b404,d418,(RLs.subB (S':=(fun b=>b≠g189∧b≠g230)) rIt d419 (fun b h1 h2=>by first | exact h2 | exact h2.1 | (simp only [Clip] at h2;omega) | omega)),(RLs.subB (S':=(fun b=>b≠g189∧b≠g230)) rVr d420 (fun b h1 h2=>by first | exact h2 | exact h2.1 | (simp only [Clip] at h2;omega) | omega)),(by omega)⟩,?_⟩
       rw [F417.get (t:=73) rfl,hL259.get (t:=73) rfl];simp [intOf] <;> omega
      subst hc342 hc343
      refine wp_region_lit ?_
      have b422:=((b253.ext hx331).gn hg338)
      refine F340.xw (ag (dg (pubF [seed] 2 0) [(vi 2),(vi (stN true false)),(vl A1 ((stL a b true false).length) k1),(vl A2 ((stE v2 true false).length) k2)])) (fun F=>rb F rfl b422 (hk:=len_dig (pubF_len _ _ _)))<|Xw (ag ((vi v1.no)::dg v1.state [(vl A308 v1.chs.length c309),(vi v1.sg.index),(vl A312 v1.sg.op.length c313),(vl A316 v1.sg.cl.length c317),(vl A320 v1.sg.path.length c321)])) (fun F=>rb F rfl b337 (hk:=len_dig1 hv307.st))<|fun _ F426=>?_;clear F340
      have d427:=(RLs.pres rIt hc263 (((Pres.refl w249).ext hx331).gc hg338))
      have d428:=(RLs.pres rVr hc266 (((Pres.refl w249).ext hx331).gc hg338))
      have d429:=(RLs.pres rCg hv307.chs (((Pres.refl w249).ext hx331).gc hg338))
      have d430:=(hv307.sg.op.pres (((Pres.refl w249).ext hx331).gc hg338))
      have d431:=(hv307.sg.cl.pres (((Pres.refl w249).ext hx331).gc hg338))
      have d432:=(hv307.sg.path.pres (((Pres.refl w249).ext hx331).gc hg338))
      refine wpl_op (i:=2) rfl (o_call F426 rfl rfl rfl rfl (rn_call (args2 (F426.get rfl) (F426.get rfl)) rfl (by kernel_rfl)) (recv_at (fun b=>(b≠g189∧b≠g230)) (pubF [seed] 2 0) (stN true false) (stL a b true false) (stE v2 true false) v1 _ zero32 0 0 ([]) ([]) 420 hD.again1 (pubF_len _ _ _) (RLs.sub (S':=fun b=>(b≠g189∧b≠g230)) rIt d427 cb) (RLs.sub (S':=fun b=>(b≠g189∧b≠g230)) rVr d428 cb) (⟨hv307.st,(RLs.sub (S':=fun b=>(b≠g189∧b≠g230)) rCg d429 cb),⟨Fl.sub (S':=fun b=>(b≠g189∧b≠g230)) d430 cb,Fl.sub (S':=fun b=>(b≠g189∧b≠g230)) d431 cb,Fl.sub (S':=fun b=>(b≠g189∧b≠g230)) d432 cb,hv307.sg.o32,hv307.sg.c32,hv307.sg.p32⟩⟩:RVp (fun b=>(b≠g189∧b≠g230)) _ _ _ _ _ v1) (few_sm hFa) (fun v hv=>absurd hv (by simp [stE])) (by rw [hD.c1];exact diff_sm (show ∀ x∈([]:List It),x.data.length≤4294967296 from fun x hx=>absurd hx (by simp)) (few_sm hFa)) (hG.ext ((((Ext.refl w).trans hx251).trans hx331).gn hg338))) ?_)
      rintro _ w433 ⟨c435,e436,rfl,hL437,hE438,hP439,hx434⟩
      obtain ⟨A440,k441,rfl,z442,z443⟩:∃ A k,c435=.slice A 0 k∧0≤k∧k≤9223372036854775807:=RLs.form hL437
      have hl444:RLs RIt 2 (Clip (fun b=>(b≠g189∧b≠g230)∨w336.heap.size≤b) w433) w433 (vl A440 0 k441) ([]):=hL437
      obtain ⟨A445,k446,rfl,z447,z448⟩:∃ A k,e436=.slice A 0 k∧0≤k∧k≤9223372036854775807:=RLs.form hE438
      have hl449:RLs RVr 38 (Clip (fun b=>(b≠g189∧b≠g230)∨w336.heap.size≤b) w433) w433 (vl A445 0 k446) ([]):=hE438
      refine ⟨_,rfl,?_⟩;intro a450 F451;clear F426;have z452:=hx434.size
      refine F451.xm rfl<|Xv (ag (dg zero32 [(vi 0),(vi 0),(vl A440 0 k441),(vl A445 0 k446)]))<|Xv (vi 420)<|fun _ F458=>?_;clear F451
      refine F458.xz fz 41 fun g459 w460 _ F466 z463 z464 b461 hx462=>?_;clear F458
      refine F466.xs rfl b461 (fun w467 b468 hg469=>?_);have z470:=hg469.size
      refine F466.xa rfl<|fun _ F472=>?_;clear F466
      refine wpList_nil (hK341 _ _ ?_);clear hK341
      have F473:=F472.k [0,1,2,3,8,22,45,9,10,11,12,13,70,14,71,72,73,74,16,17,18,19];clear F472
      refine wp_seq_k fun K474 hK474=>?_
      refine wr fun K475 hK475=>?_
      refine F473.xm rfl<|Xw (.int .u8 0) (fun F=>rn_rem2 (r:=0) (F.get rfl) rfl (by omega) (by omega))<|Xw (.pointer (some ⟨g230,0+0,none⟩)) (fun F=>rn_indexArr Tryd.underlying53 inf4 (F.get rfl) (F.get rfl) (by omega:(0:Int)≤0) (by omega:(0:Int)<((2:Nat):Int)))<|fun _ F481=>?_;clear F473
      have b482:=(((((b254.ext hx331).gn hg338).ext hx434).ext hx462).gn hg469)
      refine F481.xw (.bool true) (fun F=>rl F rfl (b482.rule.1 (0+0)))<|fun _ F484=>?_;clear F481
      refine wpList_nil (hK475 _ _ ?_);clear hK475
      refine F484.ct ?_
      refine wp_seq_k fun K485 hK485=>?_
      refine wr fun K486 hK486=>?_
      refine F484.xm rfl<|Xv (.bool false)<|fun _ F490=>?_;clear F484
      refine wpList_nil (hK486 _ _ ?_);clear hK486
      have F491:=F490.k [0,1,2,3,8,22,45,9,10,11,12,13,70,14,71,72,73,74,16,17,18,19,91,93];clear F490
      refine F491.cf ?_
      refine wp_skip ?_
      refine hK485 _ _ ?_;clear hK485
      refine wp_exit ?_
      refine exit_then ?_
      refine exit_here ?_
      refine hK274 _ _ ?_;clear hK274
      refine wp_region_lit ?_
      refine F491.xv (vi (k+1:Nat))<|Xm rfl<|fun _ F495=>?_;clear F491
      refine wpList_nil ?_
      have d496:=(RLs.pres rVr hf255 ((((((Pres.refl w249).ext hx331).gc hg338).ext hx434).ext hx462).gc hg469))
      have d497:=(RLs.pres rIt hc263 ((((((Pres.refl w249).ext hx331).gc hg338).ext hx434).ext hx462).gc hg469))
      have d498:=(RLs.pres rVr hc266 ((((((Pres.refl w249).ext hx331).gc hg338).ext hx434).ext hx462).gc hg469))
      have b499:=(((b422.ext hx434).ext hx462).gn hg469)
      refine ⟨⟨(k+1),true,false,A1,k1,A2,k2,F495.j,(by omega),(((((((Ext.refl w).trans hx251).trans hx331).gn hg338).trans hx434).trans hx462).gn hg469),b499,b482,d496,(RLs.subB (S':=(fun b=>b≠g189∧b≠g230)) rIt d497 (fun b h1 h2=>by first | exact h2 | exact h2.1 | (simp only [Clip] at h2;omega) | omega)),(RLs.subB (S':=(fun b=>b≠g189∧b≠g230)) rVr d498 (fun b h1 h2=>by first | exact h2 | exact h2.1 | (simp only [Clip] at h2;omega) | omega)),(by omega)⟩,?_⟩
      rw [F495.get (t:=73) rfl,hL259.get (t:=73) rfl];simp [intOf] <;> omega
     rcases Bool.eq_false_or_eq_true q1 with hc500 | hc500
     ·skip
      subst hc342 hc500
      refine wp_region_lit ?_
      have b501:=((b253.ext hx331).gn hg338)
      refine F340.xw (ag (dg (pubF [seed] 2 0) [(vi 2),(vi (stN false true)),(vl A1 ((stL a b false true).length) k1),(vl A2 ((stE v2 false true).length) k2)])) (fun F=>rb F rfl b501 (hk:=len_dig (pubF_len _ _ _)))<|Xw (ag ((vi v1.no)::dg v1.state [(vl A308 v1.chs.length c309),(vi v1.sg.index),(vl A312 v1.sg.op.length c313),(vl A316 v1.sg.cl.length c317),(vl A320 v1.sg.path.length c321)])) (fun F=>rb F rfl b337 (hk:=len_dig1 hv307.st))<|fun _ F505=>?_;clear F340
      have d506:=(RLs.pres rIt hc263 (((Pres.refl w249).ext hx331).gc hg338))
      have d507:=(RLs.pres rVr hc266 (((Pres.refl w249).ext hx331).gc hg338))
      have d508:=(RLs.pres rCg hv307.chs (((Pres.refl w249).ext hx331).gc hg338))
      have d509:=(hv307.sg.op.pres (((Pres.refl w249).ext hx331).gc hg338))
      have d510:=(hv307.sg.cl.pres (((Pres.refl w249).ext hx331).gc hg338))
      have d511:=(hv307.sg.path.pres (((Pres.refl w249).ext hx331).gc hg338))
      refine wpl_op (i:=2) rfl (o_call F505 rfl rfl rfl rfl (rn_call (args2 (F505.get rfl) (F505.get rfl)) rfl (by kernel_rfl)) (recv_at (fun b=>(b≠g189∧b≠g230)) (pubF [seed] 2 0) (stN false true) (stL a b false true) (stE v2 false true) v1 _ (pubF [seed] 2 0) 2 2 b ([]) 0 hD.late (pubF_len _ _ _) (RLs.sub (S':=fun b=>(b≠g189∧b≠g230)) rIt d506 cb) (RLs.sub (S':=fun b=>(b≠g189∧b≠g230)) rVr d507 cb) (⟨hv307.st,(RLs.sub (S':=fun b=>(b≠g189∧b≠g230)) rCg d508 cb),⟨Fl.sub (S':=fun b=>(b≠g189∧b≠g230)) d509 cb,Fl.sub (S':=fun b=>(b≠g189∧b≠g230)) d510 cb,Fl.sub (S':=fun b=>(b≠g189∧b≠g230)) d511 cb,hv307.sg.o32,hv307.sg.c32,hv307.sg.p32⟩⟩:RVp (fun b=>(b≠g189∧b≠g230)) _ _ _ _ _ v1) (show ∀ x∈([]:List It),x.data.length≤4294967296 from fun x hx=>absurd hx (by simp)) (fun v hv=>by rw [List.mem_singleton.1 hv];exact (by rw [hD.c2];exact diff_sm (few_sm hFa) (few_sm hFb))) (by rw [hD.c1];exact diff_sm (show ∀ x∈([]:List It),x.data.length≤4294967296 from fun x hx=>absurd hx (by simp)) (few_sm hFa)) (hG.ext ((((Ext.refl w).trans hx251).trans hx331).gn hg338))) ?_)
      rintro _ w512 ⟨c514,e515,rfl,hL516,hE517,hP518,hx513⟩
      obtain ⟨A519,k520,rfl,z521,z522⟩:∃ A k,c514=.slice A b.length k∧b.length≤k∧k≤9223372036854775807:=RLs.form hL516
      have hl523:RLs RIt 2 (Clip (fun b=>(b≠g189∧b≠g230)∨w336.heap.size≤b) w512) w512 (vl A519 b.length k520) b:=hL516
      obtain ⟨A524,k525,rfl,z526,z527⟩:∃ A k,e515=.slice A 0 k∧0≤k∧k≤9223372036854775807:=RLs.form hE517
      have hl528:RLs RVr 38 (Clip (fun b=>(b≠g189∧b≠g230)∨w336.heap.size≤b) w512) w512 (vl A524 0 k525) ([]):=hE517
      refine ⟨_,rfl,?_⟩;intro a529 F530;clear F505;have z531:=hx513.size
      refine F530.xm rfl<|Xv (ag (dg (pubF [seed] 2 0) [(vi 2),(vi 2),(vl A519 b.length k520),(vl A524 0 k525)]))<|Xv (vi 0)<|fun _ F537=>?_;clear F530
      refine F537.xz fz 41 fun g538 w539 _ F545 z542 z543 b540 hx541=>?_;clear F537
      refine F545.xs rfl b540 (fun w546 b547 hg548=>?_) (hk:=len_dig (pubF_len _ _ _));have z549:=hg548.size
      refine F545.xa rfl<|fun _ F551=>?_;clear F545
      refine wpList_nil (hK341 _ _ ?_);clear hK341
      have F552:=F551.k [0,1,2,3,8,22,45,9,10,11,12,13,70,14,71,72,73,74,16,17,18,19];clear F551
      refine wp_seq_k fun K553 hK553=>?_
      refine wr fun K554 hK554=>?_
      refine F552.xm rfl<|Xw (.int .u8 0) (fun F=>rn_rem2 (r:=0) (F.get rfl) rfl (by omega) (by omega))<|Xw (.pointer (some ⟨g230,0+0,none⟩)) (fun F=>rn_indexArr Tryd.underlying53 inf4 (F.get rfl) (F.get rfl) (by omega:(0:Int)≤0) (by omega:(0:Int)<((2:Nat):Int)))<|fun _ F560=>?_;clear F552
      have b561:=(((((b254.ext hx331).gn hg338).ext hx513).ext hx541).gn hg548)
      refine F560.xw (.bool false) (fun F=>rl F rfl (b561.rule.1 (0+0)))<|fun _ F563=>?_;clear F560
      refine wpList_nil (hK554 _ _ ?_);clear hK554
      refine F563.cf ?_
      refine wp_skip ?_
      refine hK553 _ _ ?_;clear hK553
      refine wr fun K564 hK564=>?_
      refine F563.xm rfl<|Xw (.int .u8 0) (fun F=>rn_rem2 (r:=0) (F.get rfl) rfl (by omega) (by omega))<|Xw (.pointer (some ⟨g230,0+0,none⟩)) (fun F=>rn_indexArr Tryd.underlying53 inf4 (F.get rfl) (F.get rfl) (by omega:(0:Int)≤0) (by omega:(0:Int)<((2:Nat):Int)))<|fun _ F570=>?_;clear F563
      refine wpl_op (i:=3) rfl (o_store1 (new:=[(.bool true),(.bool true)]) F570 rfl rfl rfl rfl (F570.get rfl) rfl b561 inf4 (by simp) rfl rfl ?_)
      intro w571 b572 hg573;have z574:=hg573.size
      refine wpList_nil (hK564 _ _ ?_);clear hK564
      have F575:=F570.k [0,1,2,3,8,22,45,9,10,11,12,13,70,14,71,72,73,74,16,17,18,19,91];clear F570
      refine wp_seq_k fun K576 hK576=>?_
      refine wr fun K577 hK577=>?_
      refine F575.xm rfl<|Xv (.bool false)<|Xm rfl<|Xg (.pointer (some ⟨g538,33,none⟩))<|fun _ F585=>?_;clear F575
      have b586:=(b547.gn hg573)
      refine F585.xgw (vi 2) (fun F=>rl F rfl ((b586.rule.1 33).trans ((at_app (k:=1) (byteVals_len (pubF_len _ _ _))).trans rfl)))<|Xg (.pointer (some ⟨g189,33,none⟩))<|fun _ F590=>?_;clear F585
      have b591:=((((b501.ext hx513).ext hx541).gn hg548).gn hg573)
      refine F590.xgw (vi (stN false true)) (fun F=>rl F rfl ((b591.rule.1 33).trans ((at_app (k:=1) (byteVals_len (pubF_len _ _ _))).trans rfl)))<|Xg (.bool (decide ((2:Int)<((stN false true):Int))))<|Xv (.bool (decide ((2:Int)<((stN false true):Int))))<|Xm rfl<|fun _ F599=>?_;clear F590
      refine qg 10 (ag (dg (pubF [seed] 2 0) [(vi 2),(vi 2),(vl A519 b.length k520),(vl A524 0 k525)])) F599 ((by decide):decide ((2:Int)<((stN false true):Int))=false) (rb F599 rfl b586 (hk:=len_dig (pubF_len _ _ _))) fun _ F602=>?_;clear F599
      have d603:=(RLs.pres rIt hl523 ((((Pres.refl w512).ext hx541).gc hg548).gc hg573))
      have d604:=(RLs.pres rVr hl528 ((((Pres.refl w512).ext hx541).gc hg548).gc hg573))
      refine wpl_op (i:=11) rfl (o_call F602 rfl (wanted_guard rfl rfl rfl F602 rfl ((by decide):decide ((2:Int)<((stN false true):Int))=false) rfl) rfl rfl (rn_call (args1 (F602.get rfl)) rfl (by kernel_rfl)) (fcheck_fo (pubF [seed] 2 0) 2 b ([]) _ 0 hD.f2 (pubF_len _ _ _) d603 d604 (few_sm hFb) (fun v hv=>absurd hv (by simp)) (hG.ext ((((((((Ext.refl w).trans hx251).trans hx331).gn hg338).trans hx513).trans hx541).gn hg548).gn hg573))) ?_)
      rintro _ w605 ⟨rfl,hx606⟩
      refine ⟨_,rfl,?_⟩;intro a607 F608;clear F602;have z609:=hx606.size
      refine qg 12 (.bool false) F608 ((by decide):decide ((2:Int)<((stN false true):Int))=false) (rn_neq' (F608.get rfl) rfl (by decide)) fun _ F611=>?_;clear F608
      refine F611.xw (.bool false) (fun F=>rn_pickF (c_false F rfl ((by decide):decide ((2:Int)<((stN false true):Int))=false)) (F.get rfl))<|fun _ F613=>?_;clear F611
      refine wpList_nil (hK577 _ _ ?_);clear hK577
      have F614:=F613.k [0,1,2,3,8,22,45,9,10,11,12,13,70,14,71,72,73,74,16,17,18,19,91,110];clear F613
      refine F614.cf ?_
      refine wp_skip ?_
      refine hK576 _ _ ?_;clear hK576
      refine wr fun K615 hK615=>?_
      refine F614.xn (fun g=>(vl (some ⟨g,0,none⟩) 0 0)) [] 66 (fun F=>rn_buildSlice (parts0 ) (by kernel_rfl)) fun g616 w617 _ F623 z620 z621 b618 hx619=>?_;clear F614
      refine F623.xa rfl<|fun _ F625=>?_;clear F623
      refine wpList_nil (hK615 _ _ ?_);clear hK615
      refine wp_seq_k fun K626 hK626=>?_
      refine wr fun K627 hK627=>?_
      refine F625.xv (.pointer (some ⟨g538,33,none⟩))<|fun _ F629=>?_;clear F625
      have b630:=((b586.ext hx606).ext hx619)
      refine F629.xw (vi 2) (fun F=>rl F rfl ((b630.rule.1 33).trans ((at_app (k:=1) (byteVals_len (pubF_len _ _ _))).trans rfl)))<|fun _ F632=>?_;clear F629
      refine wpList_nil (hK627 _ _ ?_);clear hK627
      refine wp_block ?_
      refine wr fun K633 hK633=>?_
      refine F632.xv (.bool false)<|Xa rfl<|fun _ F637=>?_;clear F632
      refine wpList_nil (hK633 _ _ ?_);clear hK633
      refine F637.cf ?_
      refine wr fun K638 hK638=>?_
      refine F637.xv (.bool true)<|Xa rfl<|fun _ F642=>?_;clear F637
      refine wpList_nil (hK638 _ _ ?_);clear hK638
      have F643:=F642.k [0,1,2,3,8,22,45,9,10,11,12,13,70,14,71,72,73,74,16,17,18,19,91,110,20,113,114,117];clear F642
      refine F643.ct ?_
      refine wp_region_lit ?_
      refine F643.xm rfl<|Xa rfl<|fun _ F647=>?_;clear F643
      refine wpList_nil (hK626 _ _ ?_);clear hK626
      refine wp_seq_k fun K648 hK648=>?_
      refine wp_seq_k fun K649 hK649=>?_
      have hx651:∃ W,w617.drew=W∧Ext w617 W:=⟨_,rfl,(Ext.refl _).drew⟩
      obtain ⟨w650,e652,hx651⟩:=hx651
      have z653:=hx651.size
      refine any_start (fun W=>Ext w650 W∧Blk W g538 41 (dg (pubF [seed] 2 0) [(vi 2),(vi 2),(vl A519 b.length k520),(vl A524 0 k525)])∧Blk W g230 53 [(.bool true),(.bool true)]) (fun i=>false) 34 (.replicate 34 false) rfl rfl rfl ?_
      rw [e652];clear e652
      refine F647.yv 0 (.pointer (some ⟨g538,34,none⟩)) rfl<|fun _ F655=>?_;clear F647
      have b657:=(b630.ext hx651)
      have b658:=(((b572.ext hx606).ext hx619).ext hx651)
      have hS656:Ext w650 w650∧Blk w650 g538 41 (dg (pubF [seed] 2 0) [(vi 2),(vi 2),(vl A519 b.length k520),(vl A524 0 k525)])∧Blk w650 g230 53 [(.bool true),(.bool true)]:=⟨(Ext.refl w650),b657,b658⟩
      refine F655.ys 1 (vl A519 b.length k520) rfl hS656 (fun F W hW=>rl F rfl ((hW.2.1.rule.1 34).trans ((at_app (k:=2) (byteVals_len (pubF_len _ _ _))).trans rfl)))<|Ym 2 rfl<|fun _ F662=>?_;clear F655
      refine ao 3 rfl ?_
      have d663:=(RLs.pres rIt hl523 (((((((Pres.refl w512).ext hx541).gc hg548).gc hg573).ext hx606).ext hx619).ext hx651))
      have d664:=(RLs.pres rIt h2c (((((((((((Pres.refl w).ext hx251).ext hx331).gc hg338).ext hx513).ext hx541).gc hg548).gc hg573).ext hx606).ext hx619).ext hx651))
      refine F662.oc (same40_at (u:=(vl A519 b.length k520)) (v:=(vl B b.length d)) b b _ d663 d664) ?_
      rintro _ w665 ⟨rfl,hx666⟩
      refine ⟨_,rfl,?_⟩;intro a667 F668;clear F662;have z669:=hx666.size
      have b670:=(b657.ext hx666)
      have b671:=(b658.ext hx666)
      refine ⟨fun _ _=>⟨((Ext.refl w650).trans hx666),b670,b671⟩,?_⟩
      refine F668.yw 4 (.bool (!(decide (b=b)))) rfl (fun F W=>rn_not' (F.get rfl) rfl)<|Ym 5 rfl<|fun _ F675=>?_;clear F668
      refine qp 6 (.pointer (some ⟨g230,0+0,none⟩)) F675 rfl (wanted_guard rfl rfl rfl F675 rfl (not_t ((decide_eq_true rfl):decide (b=b)=true)) rfl) (fun W=>(rn_indexArr Tryd.underlying53 inf4 (F675.get rfl) rfl (by omega:(0:Int)≤0) (by omega:(0:Int)<((2:Nat):Int)))) fun _ F678=>?_;clear F675
      have hS679:Ext w650 w665∧Blk w665 g538 41 (dg (pubF [seed] 2 0) [(vi 2),(vi 2),(vl A519 b.length k520),(vl A524 0 k525)])∧Blk w665 g230 53 [(.bool true),(.bool true)]:=⟨((Ext.refl w650).trans hx666),b670,b671⟩
      refine qs 7 (.bool true) F678 rfl (wanted_guard rfl rfl rfl F678 rfl (not_t ((decide_eq_true rfl):decide (b=b)=true)) rfl) hS679 (fun W hW=>(rl F678 rfl (hW.2.2.rule.1 (0+0)))) fun _ F681=>?_;clear F678
      refine qp 8 (.bool true) F681 rfl (wanted_guard rfl rfl rfl F681 rfl (not_t ((decide_eq_true rfl):decide (b=b)=true)) rfl) (fun W=>(rn_move (F681.get rfl))) fun _ F683=>?_;clear F681
      refine F683.ygw 9 (.pointer (some ⟨g230,0+1,none⟩)) rfl (fun F W=>rn_indexArr Tryd.underlying53 inf4 (F.get rfl) rfl (by omega:(0:Int)≤1) (by omega:(1:Int)<((2:Nat):Int)))<|Ysg 10 (.bool true) rfl hS679 (fun F W hW=>rl F rfl (hW.2.2.rule.1 (0+1)))<|fun _ F687=>?_;clear F683
      refine qp 11 (.bool true) F687 rfl (wanted_guard rfl rfl rfl F687 rfl (not_t ((decide_eq_true rfl):decide (b=b)=true)) rfl) (fun W=>(rn_pickT (c_true F687 rfl rfl) (F687.get rfl))) fun _ F689=>?_;clear F687
      refine qp 12 (.bool true) F689 rfl (wanted_guard rfl rfl rfl F689 rfl (not_t ((decide_eq_true rfl):decide (b=b)=true)) rfl) (fun W=>(rn_move (F689.get rfl))) fun _ F691=>?_;clear F689
      refine F691.yg 13 (.pointer (some ⟨g538,33,none⟩)) rfl<|Ysg 14 (vi 2) rfl hS679 (fun F W hW=>rl F rfl ((hW.2.1.rule.1 33).trans ((at_app (k:=1) (byteVals_len (pubF_len _ _ _))).trans rfl)))<|Yg 15 (.bool false) rfl<|fun _ F697=>?_;clear F691
      refine qp 16 (.bool false) F697 rfl (wanted_guard rfl rfl rfl F697 rfl (not_t ((decide_eq_true rfl):decide (b=b)=true)) rfl) (fun W=>(rn_pickT (c_true F697 rfl rfl) (F697.get rfl))) fun _ F699=>?_;clear F697
      refine F699.yw 17 (.bool false) rfl (fun F W=>rn_pickF (c_false F rfl (not_t ((decide_eq_true rfl):decide (b=b)=true))) (F.get rfl))<|Ym 18 rfl<|Ygw 19 (.pointer (some ⟨g230,0+0,none⟩)) rfl (fun F W=>rn_indexArr Tryd.underlying53 inf4 (F.get rfl) rfl (by omega:(0:Int)≤0) (by omega:(0:Int)<((2:Nat):Int)))<|Ysg 20 (.bool true) rfl hS679 (fun F W hW=>rl F rfl (hW.2.2.rule.1 (0+0)))<|Yg 21 (.pointer (some ⟨g538,33,none⟩)) rfl<|Ysg 22 (vi 2) rfl hS679 (fun F W hW=>rl F rfl ((hW.2.1.rule.1 33).trans ((at_app (k:=1) (byteVals_len (pubF_len _ _ _))).trans rfl)))<|Ygw 23 (.bool true) rfl (fun F W=>rn_geq' (F.get rfl) rfl (by decide))<|Ygw 24 (.bool false) rfl (fun F W=>rn_neB Tryd.underlying4 (F.get rfl) (F.get rfl) (show _=true from rfl) (show _=true from rfl) rfl)<|Yv 25 (.bool false) rfl<|Ym 26 rfl<|Ysg 27 (ag (dg (pubF [seed] 2 0) [(vi 2),(vi 2),(vl A519 b.length k520),(vl A524 0 k525)])) rfl hS679 (fun F W hW=>rb F rfl hW.2.1 (hk:=len_dig (pubF_len _ _ _)))<|Yg 29 (.pointer (some ⟨g538,33,none⟩)) rfl<|Ysg 30 (vi 2) rfl hS679 (fun F W hW=>rl F rfl ((hW.2.1.rule.1 33).trans ((at_app (k:=1) (byteVals_len (pubF_len _ _ _))).trans rfl)))<|Yg 31 (vi 3) rfl<|fun _ F727=>?_;clear F699
      refine ao 28 rfl ?_
      have d728:=(RLs.pres rIt hl523 ((((((((Pres.refl w512).ext hx541).gc hg548).gc hg573).ext hx606).ext hx619).ext hx651).ext hx666))
      have d729:=(RLs.pres rVr hl528 ((((((((Pres.refl w512).ext hx541).gc hg548).gc hg573).ext hx606).ext hx619).ext hx651).ext hx666))
      refine o_call F727 rfl (wanted_guard rfl rfl rfl F727 rfl rfl rfl) rfl rfl (rn_call (args1 (F727.get rfl)) rfl (by kernel_rfl)) (wants_fo (pubF [seed] 2 0) 2 b ([]) _ 3 rfl (pubF_len _ _ _) d728 d729 (by omega)) ?_
      rintro _ w730 ⟨rfl,hx731⟩
      refine ⟨_,rfl,?_⟩;intro a732 F733;clear F727;have z734:=hx731.size
      have b735:=(b670.ext hx731)
      have b736:=(b671.ext hx731)
      refine ⟨fun _ _=>⟨(((Ext.refl w650).trans hx666).trans hx731),b735,b736⟩,?_⟩
      refine F733.ygw 32 (.bool false) rfl (fun F W=>rn_neq' (F.get rfl) (F.get rfl) (by decide))<|Yv 33 (.bool false) rfl<|fun _ F740=>?_;clear F733
      refine nn (hK649 _ _ ?_);clear hK649
      have F741:=F740.k [0,1,2,3,8,22,45,9,10,11,12,13,70,14,71,72,73,74,16,17,18,19,91,110,20,113,114,117,153];clear F740
      refine F741.cf ?_
      refine wp_skip ?_
      refine hK648 _ _ ?_;clear hK648
      refine wp_region_lit ?_
      refine F741.xw (ag (dg (pubF [seed] 2 0) [(vi 2),(vi 2),(vl A519 b.length k520),(vl A524 0 k525)])) (fun F=>rb F rfl b735 (hk:=len_dig (pubF_len _ _ _)))<|fun _ F743=>?_;clear F741
      have b744:=(((((b591.ext hx606).ext hx619).ext hx651).ext hx666).ext hx731)
      refine F743.xs rfl b744 (fun w745 b746 hg747=>?_) (hk:=len_dig (pubF_len _ _ _)) (hl:=len_dig (pubF_len _ _ _));have z748:=hg747.size
      refine wpList_nil (hK274 _ _ ?_);clear hK274
      refine wp_region_lit ?_
      refine F743.xv (vi (k+1:Nat))<|Xm rfl<|fun _ F752=>?_;clear F743
      refine wpList_nil ?_
      have d753:=(RLs.pres rVr hf255 (((((((((((((Pres.refl w249).ext hx331).gc hg338).ext hx513).ext hx541).gc hg548).gc hg573).ext hx606).ext hx619).ext hx651).ext hx666).ext hx731).gc hg747))
      have d754:=(RLs.pres rIt hl523 ((((((((((Pres.refl w512).ext hx541).gc hg548).gc hg573).ext hx606).ext hx619).ext hx651).ext hx666).ext hx731).gc hg747))
      have d755:=(RLs.pres rVr hl528 ((((((((((Pres.refl w512).ext hx541).gc hg548).gc hg573).ext hx606).ext hx619).ext hx651).ext hx666).ext hx731).gc hg747))
      have b756:=(b736.gn hg747)
      refine ⟨⟨(k+1),true,true,A519,k520,A524,k525,F752.j,(by omega),((((((((((((((Ext.refl w).trans hx251).trans hx331).gn hg338).trans hx513).trans hx541).gn hg548).gn hg573).trans hx606).trans hx619).trans hx651).trans hx666).trans hx731).gn hg747),b746,b756,d753,(RLs.subB (S':=(fun b=>b≠g189∧b≠g230)) rIt d754 (fun b h1 h2=>by first | exact h2 | exact h2.1 | (simp only [Clip] at h2;omega) | omega)),(RLs.subB (S':=(fun b=>b≠g189∧b≠g230)) rVr d755 (fun b h1 h2=>by first | exact h2 | exact h2.1 | (simp only [Clip] at h2;omega) | omega)),(by omega)⟩,?_⟩
      rw [F752.get (t:=73) rfl,hL259.get (t:=73) rfl];simp [intOf] <;> omega
     subst hc342 hc500
     refine wp_region_lit ?_
     have b757:=((b253.ext hx331).gn hg338)
     refine F340.xw (ag (dg (pubF [seed] 2 0) [(vi 2),(vi (stN false false)),(vl A1 ((stL a b false false).length) k1),(vl A2 ((stE v2 false false).length) k2)])) (fun F=>rb F rfl b757 (hk:=len_dig (pubF_len _ _ _)))<|Xw (ag ((vi v1.no)::dg v1.state [(vl A308 v1.chs.length c309),(vi v1.sg.index),(vl A312 v1.sg.op.length c313),(vl A316 v1.sg.cl.length c317),(vl A320 v1.sg.path.length c321)])) (fun F=>rb F rfl b337 (hk:=len_dig1 hv307.st))<|fun _ F761=>?_;clear F340
     have d762:=(RLs.pres rIt hc263 (((Pres.refl w249).ext hx331).gc hg338))
     have d763:=(RLs.pres rVr hc266 (((Pres.refl w249).ext hx331).gc hg338))
     have d764:=(RLs.pres rCg hv307.chs (((Pres.refl w249).ext hx331).gc hg338))
     have d765:=(hv307.sg.op.pres (((Pres.refl w249).ext hx331).gc hg338))
     have d766:=(hv307.sg.cl.pres (((Pres.refl w249).ext hx331).gc hg338))
     have d767:=(hv307.sg.path.pres (((Pres.refl w249).ext hx331).gc hg338))
     refine wpl_op (i:=2) rfl (o_call F761 rfl rfl rfl rfl (rn_call (args2 (F761.get rfl) (F761.get rfl)) rfl (by kernel_rfl)) (recv_at (fun b=>(b≠g189∧b≠g230)) (pubF [seed] 2 0) (stN false false) (stL a b false false) (stE v2 false false) v1 _ (pubF [seed] 2 0) 2 1 a ([]) 0 hD.r1 (pubF_len _ _ _) (RLs.sub (S':=fun b=>(b≠g189∧b≠g230)) rIt d762 cb) (RLs.sub (S':=fun b=>(b≠g189∧b≠g230)) rVr d763 cb) (⟨hv307.st,(RLs.sub (S':=fun b=>(b≠g189∧b≠g230)) rCg d764 cb),⟨Fl.sub (S':=fun b=>(b≠g189∧b≠g230)) d765 cb,Fl.sub (S':=fun b=>(b≠g189∧b≠g230)) d766 cb,Fl.sub (S':=fun b=>(b≠g189∧b≠g230)) d767 cb,hv307.sg.o32,hv307.sg.c32,hv307.sg.p32⟩⟩:RVp (fun b=>(b≠g189∧b≠g230)) _ _ _ _ _ v1) (show ∀ x∈([]:List It),x.data.length≤4294967296 from fun x hx=>absurd hx (by simp)) (fun v hv=>absurd hv (by simp [stE])) (by rw [hD.c1];exact diff_sm (show ∀ x∈([]:List It),x.data.length≤4294967296 from fun x hx=>absurd hx (by simp)) (few_sm hFa)) (hG.ext ((((Ext.refl w).trans hx251).trans hx331).gn hg338))) ?_)
     rintro _ w768 ⟨c770,e771,rfl,hL772,hE773,hP774,hx769⟩
     obtain ⟨A775,k776,rfl,z777,z778⟩:∃ A k,c770=.slice A a.length k∧a.length≤k∧k≤9223372036854775807:=RLs.form hL772
     have hl779:RLs RIt 2 (Clip (fun b=>(b≠g189∧b≠g230)∨w336.heap.size≤b) w768) w768 (vl A775 a.length k776) a:=hL772
     obtain ⟨A780,k781,rfl,z782,z783⟩:∃ A k,e771=.slice A 0 k∧0≤k∧k≤9223372036854775807:=RLs.form hE773
     have hl784:RLs RVr 38 (Clip (fun b=>(b≠g189∧b≠g230)∨w336.heap.size≤b) w768) w768 (vl A780 0 k781) ([]):=hE773
     refine ⟨_,rfl,?_⟩;intro a785 F786;clear F761;have z787:=hx769.size
     refine F786.xm rfl<|Xv (ag (dg (pubF [seed] 2 0) [(vi 2),(vi 1),(vl A775 a.length k776),(vl A780 0 k781)]))<|Xv (vi 0)<|fun _ F793=>?_;clear F786
     refine F793.xz fz 41 fun g794 w795 _ F801 z798 z799 b796 hx797=>?_;clear F793
     refine F801.xs rfl b796 (fun w802 b803 hg804=>?_) (hk:=len_dig (pubF_len _ _ _));have z805:=hg804.size
     refine F801.xa rfl<|fun _ F807=>?_;clear F801
     refine wpList_nil (hK341 _ _ ?_);clear hK341
     have F808:=F807.k [0,1,2,3,8,22,45,9,10,11,12,13,70,14,71,72,73,74,16,17,18,19];clear F807
     refine wp_seq_k fun K809 hK809=>?_
     refine wr fun K810 hK810=>?_
     refine F808.xm rfl<|Xw (.int .u8 0) (fun F=>rn_rem2 (r:=0) (F.get rfl) rfl (by omega) (by omega))<|Xw (.pointer (some ⟨g230,0+0,none⟩)) (fun F=>rn_indexArr Tryd.underlying53 inf4 (F.get rfl) (F.get rfl) (by omega:(0:Int)≤0) (by omega:(0:Int)<((2:Nat):Int)))<|fun _ F816=>?_;clear F808
     have b817:=(((((b254.ext hx331).gn hg338).ext hx769).ext hx797).gn hg804)
     refine F816.xw (.bool false) (fun F=>rl F rfl (b817.rule.1 (0+0)))<|fun _ F819=>?_;clear F816
     refine wpList_nil (hK810 _ _ ?_);clear hK810
     refine F819.cf ?_
     refine wp_skip ?_
     refine hK809 _ _ ?_;clear hK809
     refine wr fun K820 hK820=>?_
     refine F819.xm rfl<|Xw (.int .u8 0) (fun F=>rn_rem2 (r:=0) (F.get rfl) rfl (by omega) (by omega))<|Xw (.pointer (some ⟨g230,0+0,none⟩)) (fun F=>rn_indexArr Tryd.underlying53 inf4 (F.get rfl) (F.get rfl) (by omega:(0:Int)≤0) (by omega:(0:Int)<((2:Nat):Int)))<|fun _ F826=>?_;clear F819
     refine wpl_op (i:=3) rfl (o_store1 (new:=[(.bool true),(.bool false)]) F826 rfl rfl rfl rfl (F826.get rfl) rfl b817 inf4 (by simp) rfl rfl ?_)
     intro w827 b828 hg829;have z830:=hg829.size
     refine wpList_nil (hK820 _ _ ?_);clear hK820
     have F831:=F826.k [0,1,2,3,8,22,45,9,10,11,12,13,70,14,71,72,73,74,16,17,18,19,91];clear F826
     refine wp_seq_k fun K832 hK832=>?_
     refine wr fun K833 hK833=>?_
     refine F831.xm rfl<|Xv (.bool false)<|Xm rfl<|Xg (.pointer (some ⟨g794,33,none⟩))<|fun _ F841=>?_;clear F831
     have b842:=(b803.gn hg829)
     refine F841.xgw (vi 1) (fun F=>rl F rfl ((b842.rule.1 33).trans ((at_app (k:=1) (byteVals_len (pubF_len _ _ _))).trans rfl)))<|Xg (.pointer (some ⟨g189,33,none⟩))<|fun _ F846=>?_;clear F841
     have b847:=((((b757.ext hx769).ext hx797).gn hg804).gn hg829)
     refine F846.xgw (vi (stN false false)) (fun F=>rl F rfl ((b847.rule.1 33).trans ((at_app (k:=1) (byteVals_len (pubF_len _ _ _))).trans rfl)))<|Xg (.bool (decide ((1:Int)<((stN false false):Int))))<|Xv (.bool (decide ((1:Int)<((stN false false):Int))))<|Xm rfl<|fun _ F855=>?_;clear F846
     refine qg 10 (ag (dg (pubF [seed] 2 0) [(vi 2),(vi 1),(vl A775 a.length k776),(vl A780 0 k781)])) F855 ((by decide):decide ((1:Int)<((stN false false):Int))=false) (rb F855 rfl b842 (hk:=len_dig (pubF_len _ _ _))) fun _ F858=>?_;clear F855
     have d859:=(RLs.pres rIt hl779 ((((Pres.refl w768).ext hx797).gc hg804).gc hg829))
     have d860:=(RLs.pres rVr hl784 ((((Pres.refl w768).ext hx797).gc hg804).gc hg829))
     refine wpl_op (i:=11) rfl (o_call F858 rfl (wanted_guard rfl rfl rfl F858 rfl ((by decide):decide ((1:Int)<((stN false false):Int))=false) rfl) rfl rfl (rn_call (args1 (F858.get rfl)) rfl (by kernel_rfl)) (fcheck_fo (pubF [seed] 2 0) 1 a ([]) _ 0 hD.f1 (pubF_len _ _ _) d859 d860 (few_sm hFa) (fun v hv=>absurd hv (by simp)) (hG.ext ((((((((Ext.refl w).trans hx251).trans hx331).gn hg338).trans hx769).trans hx797).gn hg804).gn hg829))) ?_)
     rintro _ w861 ⟨rfl,hx862⟩
     refine ⟨_,rfl,?_⟩;intro a863 F864;clear F858;have z865:=hx862.size
     refine qg 12 (.bool false) F864 ((by decide):decide ((1:Int)<((stN false false):Int))=false) (rn_neq' (F864.get rfl) rfl (by decide)) fun _ F867=>?_;clear F864
     refine F867.xw (.bool false) (fun F=>rn_pickF (c_false F rfl ((by decide):decide ((1:Int)<((stN false false):Int))=false)) (F.get rfl))<|fun _ F869=>?_;clear F867
     refine wpList_nil (hK833 _ _ ?_);clear hK833
     have F870:=F869.k [0,1,2,3,8,22,45,9,10,11,12,13,70,14,71,72,73,74,16,17,18,19,91,110];clear F869
     refine F870.cf ?_
     refine wp_skip ?_
     refine hK832 _ _ ?_;clear hK832
     refine wr fun K871 hK871=>?_
     refine F870.xn (fun g=>(vl (some ⟨g,0,none⟩) 0 0)) [] 66 (fun F=>rn_buildSlice (parts0 ) (by kernel_rfl)) fun g872 w873 _ F879 z876 z877 b874 hx875=>?_;clear F870
     refine F879.xa rfl<|fun _ F881=>?_;clear F879
     refine wpList_nil (hK871 _ _ ?_);clear hK871
     refine wp_seq_k fun K882 hK882=>?_
     refine wr fun K883 hK883=>?_
     refine F881.xv (.pointer (some ⟨g794,33,none⟩))<|fun _ F885=>?_;clear F881
     have b886:=((b842.ext hx862).ext hx875)
     refine F885.xw (vi 1) (fun F=>rl F rfl ((b886.rule.1 33).trans ((at_app (k:=1) (byteVals_len (pubF_len _ _ _))).trans rfl)))<|fun _ F888=>?_;clear F885
     refine wpList_nil (hK883 _ _ ?_);clear hK883
     refine wp_block ?_
     refine wr fun K889 hK889=>?_
     refine F888.xv (.bool true)<|Xa rfl<|fun _ F893=>?_;clear F888
     refine wpList_nil (hK889 _ _ ?_);clear hK889
     refine F893.ct ?_
     refine wp_region_lit ?_
     refine F893.xm rfl<|Xa rfl<|fun _ F897=>?_;clear F893
     refine wpList_nil (hK882 _ _ ?_);clear hK882
     have F898:=F897.k [0,1,2,3,8,22,45,9,10,11,12,13,70,14,71,72,73,74,16,17,18,19,91,110,20,113,114];clear F897
     refine wp_seq_k fun K899 hK899=>?_
     refine wp_seq_k fun K900 hK900=>?_
     have hx902:∃ W,w873.drew=W∧Ext w873 W:=⟨_,rfl,(Ext.refl _).drew⟩
     obtain ⟨w901,e903,hx902⟩:=hx902
     have z904:=hx902.size
     refine any_start (fun W=>Ext w901 W∧Blk W g794 41 (dg (pubF [seed] 2 0) [(vi 2),(vi 1),(vl A775 a.length k776),(vl A780 0 k781)])∧Blk W g230 53 [(.bool true),(.bool false)]) (fun i=>false) 34 (.replicate 34 false) rfl rfl rfl ?_
     rw [e903];clear e903
     refine F898.yv 0 (.pointer (some ⟨g794,34,none⟩)) rfl<|fun _ F906=>?_;clear F898
     have b908:=(b886.ext hx902)
     have b909:=(((b828.ext hx862).ext hx875).ext hx902)
     have hS907:Ext w901 w901∧Blk w901 g794 41 (dg (pubF [seed] 2 0) [(vi 2),(vi 1),(vl A775 a.length k776),(vl A780 0 k781)])∧Blk w901 g230 53 [(.bool true),(.bool false)]:=⟨(Ext.refl w901),b908,b909⟩
     refine F906.ys 1 (vl A775 a.length k776) rfl hS907 (fun F W hW=>rl F rfl ((hW.2.1.rule.1 34).trans ((at_app (k:=2) (byteVals_len (pubF_len _ _ _))).trans rfl)))<|Ym 2 rfl<|fun _ F913=>?_;clear F906
     refine ao 3 rfl ?_
     have d914:=(RLs.pres rIt hl779 (((((((Pres.refl w768).ext hx797).gc hg804).gc hg829).ext hx862).ext hx875).ext hx902))
     have d915:=(RLs.pres rIt hc (((((((((((Pres.refl w).ext hx251).ext hx331).gc hg338).ext hx769).ext hx797).gc hg804).gc hg829).ext hx862).ext hx875).ext hx902))
     refine F913.oc (same40_at (u:=(vl A775 a.length k776)) (v:=(vl A a.length c)) a a _ d914 d915) ?_
     rintro _ w916 ⟨rfl,hx917⟩
     refine ⟨_,rfl,?_⟩;intro a918 F919;clear F913;have z920:=hx917.size
     have b921:=(b908.ext hx917)
     have b922:=(b909.ext hx917)
     refine ⟨fun _ _=>⟨((Ext.refl w901).trans hx917),b921,b922⟩,?_⟩
     refine F919.yw 4 (.bool (!(decide (a=a)))) rfl (fun F W=>rn_not' (F.get rfl) rfl)<|Ym 5 rfl<|fun _ F926=>?_;clear F919
     refine qp 6 (.pointer (some ⟨g230,0+0,none⟩)) F926 rfl (wanted_guard rfl rfl rfl F926 rfl (not_t ((decide_eq_true rfl):decide (a=a)=true)) rfl) (fun W=>(rn_indexArr Tryd.underlying53 inf4 (F926.get rfl) rfl (by omega:(0:Int)≤0) (by omega:(0:Int)<((2:Nat):Int)))) fun _ F929=>?_;clear F926
     have hS930:Ext w901 w916∧Blk w916 g794 41 (dg (pubF [seed] 2 0) [(vi 2),(vi 1),(vl A775 a.length k776),(vl A780 0 k781)])∧Blk w916 g230 53 [(.bool true),(.bool false)]:=⟨((Ext.refl w901).trans hx917),b921,b922⟩
     refine qs 7 (.bool true) F929 rfl (wanted_guard rfl rfl rfl F929 rfl (not_t ((decide_eq_true rfl):decide (a=a)=true)) rfl) hS930 (fun W hW=>(rl F929 rfl (hW.2.2.rule.1 (0+0)))) fun _ F932=>?_;clear F929
     refine qp 8 (.bool true) F932 rfl (wanted_guard rfl rfl rfl F932 rfl (not_t ((decide_eq_true rfl):decide (a=a)=true)) rfl) (fun W=>(rn_move (F932.get rfl))) fun _ F934=>?_;clear F932
     refine F934.ygw 9 (.pointer (some ⟨g230,0+1,none⟩)) rfl (fun F W=>rn_indexArr Tryd.underlying53 inf4 (F.get rfl) rfl (by omega:(0:Int)≤1) (by omega:(1:Int)<((2:Nat):Int)))<|Ysg 10 (.bool false) rfl hS930 (fun F W hW=>rl F rfl (hW.2.2.rule.1 (0+1)))<|fun _ F938=>?_;clear F934
     refine qp 11 (.bool false) F938 rfl (wanted_guard rfl rfl rfl F938 rfl (not_t ((decide_eq_true rfl):decide (a=a)=true)) rfl) (fun W=>(rn_pickT (c_true F938 rfl rfl) (F938.get rfl))) fun _ F940=>?_;clear F938
     refine qp 12 (.bool false) F940 rfl (wanted_guard rfl rfl rfl F940 rfl (not_t ((decide_eq_true rfl):decide (a=a)=true)) rfl) (fun W=>(rn_move (F940.get rfl))) fun _ F942=>?_;clear F940
     refine F942.yu 13 rfl<|Yu 14 rfl<|Yu 15 rfl<|fun _ F948=>?_;clear F942
     refine qp 16 (.bool false) F948 rfl (wanted_guard rfl rfl rfl F948 rfl (not_t ((decide_eq_true rfl):decide (a=a)=true)) rfl) (fun W=>(rn_pickF (c_false F948 rfl rfl) rfl)) fun _ F950=>?_;clear F948
     refine F950.yw 17 (.bool false) rfl (fun F W=>rn_pickF (c_false F rfl (not_t ((decide_eq_true rfl):decide (a=a)=true))) (F.get rfl))<|Ym 18 rfl<|Ygw 19 (.pointer (some ⟨g230,0+0,none⟩)) rfl (fun F W=>rn_indexArr Tryd.underlying53 inf4 (F.get rfl) rfl (by omega:(0:Int)≤0) (by omega:(0:Int)<((2:Nat):Int)))<|Ysg 20 (.bool true) rfl hS930 (fun F W hW=>rl F rfl (hW.2.2.rule.1 (0+0)))<|Yg 21 (.pointer (some ⟨g794,33,none⟩)) rfl<|Ysg 22 (vi 1) rfl hS930 (fun F W hW=>rl F rfl ((hW.2.1.rule.1 33).trans ((at_app (k:=1) (byteVals_len (pubF_len _ _ _))).trans rfl)))<|Ygw 23 (.bool true) rfl (fun F W=>rn_geq' (F.get rfl) rfl (by decide))<|Ygw 24 (.bool false) rfl (fun F W=>rn_neB Tryd.underlying4 (F.get rfl) (F.get rfl) (show _=true from rfl) (show _=true from rfl) rfl)<|Yv 25 (.bool false) rfl<|Ym 26 rfl<|Ysg 27 (ag (dg (pubF [seed] 2 0) [(vi 2),(vi 1),(vl A775 a.length k776),(vl A780 0 k781)])) rfl hS930 (fun F W hW=>rb F rfl hW.2.1 (hk:=len_dig (pubF_len _ _ _)))<|Yg 29 (.pointer (some ⟨g794,33,none⟩)) rfl<|Ysg 30 (vi 1) rfl hS930 (fun F W hW=>rl F rfl ((hW.2.1.rule.1 33).trans ((at_app (k:=1) (byteVals_len (pubF_len _ _ _))).trans rfl)))<|Yg 31 (vi 2) rfl<|fun _ F978=>?_;clear F950
     refine ao 28 rfl ?_
     have d979:=(RLs.pres rIt hl779 ((((((((Pres.refl w768).ext hx797).gc hg804).gc hg829).ext hx862).ext hx875).ext hx902).ext hx917))
     have d980:=(RLs.pres rVr hl784 ((((((((Pres.refl w768).ext hx797).gc hg804).gc hg829).ext hx862).ext hx875).ext hx902).ext hx917))
     refine o_call F978 rfl (wanted_guard rfl rfl rfl F978 rfl rfl rfl) rfl rfl (rn_call (args1 (F978.get rfl)) rfl (by kernel_rfl)) (wants_fo (pubF [seed] 2 0) 1 a ([]) _ 2 rfl (pubF_len _ _ _) d979 d980 (by omega)) ?_
     rintro _ w981 ⟨rfl,hx982⟩
     refine ⟨_,rfl,?_⟩;intro a983 F984;clear F978;have z985:=hx982.size
     have b986:=(b921.ext hx982)
     have b987:=(b922.ext hx982)
     refine ⟨fun _ _=>⟨(((Ext.refl w901).trans hx917).trans hx982),b986,b987⟩,?_⟩
     refine F984.ygw 32 (.bool false) rfl (fun F W=>rn_neq' (F.get rfl) (F.get rfl) (by decide))<|Yv 33 (.bool false) rfl<|fun _ F991=>?_;clear F984
     refine nn (hK900 _ _ ?_);clear hK900
     have F992:=F991.k [0,1,2,3,8,22,45,9,10,11,12,13,70,14,71,72,73,74,16,17,18,19,91,110,20,113,114,153];clear F991
     refine F992.cf ?_
     refine wp_skip ?_
     refine hK899 _ _ ?_;clear hK899
     refine wp_region_lit ?_
     refine F992.xw (ag (dg (pubF [seed] 2 0) [(vi 2),(vi 1),(vl A775 a.length k776),(vl A780 0 k781)])) (fun F=>rb F rfl b986 (hk:=len_dig (pubF_len _ _ _)))<|fun _ F994=>?_;clear F992
     have b995:=(((((b847.ext hx862).ext hx875).ext hx902).ext hx917).ext hx982)
     refine F994.xs rfl b995 (fun w996 b997 hg998=>?_) (hk:=len_dig (pubF_len _ _ _)) (hl:=len_dig (pubF_len _ _ _));have z999:=hg998.size
     refine wpList_nil (hK274 _ _ ?_);clear hK274
     refine wp_region_lit ?_
     refine F994.xv (vi (k+1:Nat))<|Xm rfl<|fun _ F1003=>?_;clear F994
     refine wpList_nil ?_
     have d1004:=(RLs.pres rVr hf255 (((((((((((((Pres.refl w249).ext hx331).gc hg338).ext hx769).ext hx797).gc hg804).gc hg829).ext hx862).ext hx875).ext hx902).ext hx917).ext hx982).gc hg998))
     have d1005:=(RLs.pres rIt hl779 ((((((((((Pres.refl w768).ext hx797).gc hg804).gc hg829).ext hx862).ext hx875).ext hx902).ext hx917).ext hx982).gc hg998))
     have d1006:=(RLs.pres rVr hl784 ((((((((((Pres.refl w768).ext hx797).gc hg804).gc hg829).ext hx862).ext hx875).ext hx902).ext hx917).ext hx982).gc hg998))
     have b1007:=(b987.gn hg998)
     refine ⟨⟨(k+1),true,false,A775,k776,A780,k781,F1003.j,(by omega),((((((((((((((Ext.refl w).trans hx251).trans hx331).gn hg338).trans hx769).trans hx797).gn hg804).gn hg829).trans hx862).trans hx875).trans hx902).trans hx917).trans hx982).gn hg998),b997,b1007,d1004,(RLs.subB (S':=(fun b=>b≠g189∧b≠g230)) rIt d1005 (fun b h1 h2=>by first | exact h2 | exact h2.1 | (simp only [Clip] at h2;omega) | omega)),(RLs.subB (S':=(fun b=>b≠g189∧b≠g230)) rVr d1006 (fun b h1 h2=>by first | exact h2 | exact h2.1 | (simp only [Clip] at h2;omega) | omega)),(by omega)⟩,?_⟩
     rw [F1003.get (t:=73) rfl,hL259.get (t:=73) rfl];simp [intOf] <;> omega
    refine wp_region_lit ?_
    refine F285.xm rfl<|Xm rfl<|Xw (.int .u8 1) (fun F=>rn_rem2 (r:=1) (F.get rfl) rfl (by omega) (by omega))<|fun _ F1013=>?_;clear F285
    obtain ⟨b1014,o1015,x1016,cs1017,hA1018,hi1019,hk1020,hc1021,hr1022⟩:=RLs.get hf255 (by omega:1<2)
    obtain rfl:v2=x1016:=Option.some.inj ((rfl:([v1,v2]:List Vr)[1]?=some v2).symm.trans hi1019)
    obtain ⟨v1023,v1024,v1025,v1026,rfl,hv1027⟩:=hr1022
    obtain ⟨A1028,c1029,rfl,z1030,z1031⟩:=RLs.form hv1027.chs
    obtain ⟨A1032,c1033,rfl,z1034,z1035⟩:=Fl.form hv1027.sg.op
    obtain ⟨A1036,c1037,rfl,z1038,z1039⟩:=Fl.form hv1027.sg.cl
    obtain ⟨A1040,c1041,rfl,z1042,z1043⟩:=Fl.form hv1027.sg.path
    refine F1013.xw (.pointer (some ⟨b1014,o1015+1*38,none⟩)) (fun F=>rn_indexE Tryd.underlying36 inf30 ((F.get rfl).trans (by rw [hA1018])) (F.get rfl) (by omega:(0:Int)≤1) (by omega:(1:Int)<((2:Nat):Int)) (by omega))<|Xw (ag ((vi v2.no)::dg v2.state [(vl A1028 v2.chs.length c1029),(vi v2.sg.index),(vl A1032 v2.sg.op.length c1033),(vl A1036 v2.sg.cl.length c1037),(vl A1040 v2.sg.path.length c1041)])) (fun F=>rn_loadN (cs:=((vi v2.no)::dg v2.state [(vl A1028 v2.chs.length c1029),(vi v2.sg.index),(vl A1032 v2.sg.op.length c1033),(vl A1036 v2.sg.cl.length c1037),(vl A1040 v2.sg.path.length c1041)])) (F.get rfl) Tryd.underlying30 rfl (sk inf30 (len_dig1 hv1027.st)) hc1021)<|fun _ F1047=>?_;clear F1013
    refine F1047.xz vz 30 fun g1048 w1049 _ F1055 z1052 z1053 b1050 hx1051=>?_;clear F1047
    refine F1055.xs rfl b1050 (fun w1056 b1057 hg1058=>?_) (hk:=len_dig1 hv1027.st);have z1059:=hg1058.size
    refine wpList_nil (hK286 _ _ ?_);clear hK286
    have F1060:=F1055.k [0,1,2,3,8,22,45,9,10,11,12,13,70,14,71,72,73,74,16,17];clear F1055
    refine wp_seq_k fun K1061 hK1061=>?_
    rcases Bool.eq_false_or_eq_true q0 with hc1062 | hc1062
    ·skip
     rcases Bool.eq_false_or_eq_true q1 with hc1063 | hc1063
     ·skip
      subst hc1062 hc1063
      refine wp_region_lit ?_
      have b1064:=((b253.ext hx1051).gn hg1058)
      refine F1060.xw (ag (dg (pubF [seed] 2 0) [(vi 2),(vi (stN true true)),(vl A1 ((stL a b true true).length) k1),(vl A2 ((stE v2 true true).length) k2)])) (fun F=>rb F rfl b1064 (hk:=len_dig (pubF_len _ _ _)))<|Xw (ag ((vi v2.no)::dg v2.state [(vl A1028 v2.chs.length c1029),(vi v2.sg.index),(vl A1032 v2.sg.op.length c1033),(vl A1036 v2.sg.cl.length c1037),(vl A1040 v2.sg.path.length c1041)])) (fun F=>rb F rfl b1057 (hk:=len_dig1 hv1027.st))<|fun _ F1068=>?_;clear F1060
      have d1069:=(RLs.pres rIt hc263 (((Pres.refl w249).ext hx1051).gc hg1058))
      have d1070:=(RLs.pres rVr hc266 (((Pres.refl w249).ext hx1051).gc hg1058))
      have d1071:=(RLs.pres rCg hv1027.chs (((Pres.refl w249).ext hx1051).gc hg1058))
      have d1072:=(hv1027.sg.op.pres (((Pres.refl w249).ext hx1051).gc hg1058))
      have d1073:=(hv1027.sg.cl.pres (((Pres.refl w249).ext hx1051).gc hg1058))
      have d1074:=(hv1027.sg.path.pres (((Pres.refl w249).ext hx1051).gc hg1058))
      refine wpl_op (i:=2) rfl (o_call F1068 rfl rfl rfl rfl (rn_call (args2 (F1068.get rfl) (F1068.get rfl)) rfl (by kernel_rfl)) (recv_at (fun b=>(b≠g189∧b≠g230)) (pubF [seed] 2 0) (stN true true) (stL a b true true) (stE v2 true true) v2 _ zero32 0 0 ([]) ([]) 420 hD.again2.2 (pubF_len _ _ _) (RLs.sub (S':=fun b=>(b≠g189∧b≠g230)) rIt d1069 cb) (RLs.sub (S':=fun b=>(b≠g189∧b≠g230)) rVr d1070 cb) (⟨hv1027.st,(RLs.sub (S':=fun b=>(b≠g189∧b≠g230)) rCg d1071 cb),⟨Fl.sub (S':=fun b=>(b≠g189∧b≠g230)) d1072 cb,Fl.sub (S':=fun b=>(b≠g189∧b≠g230)) d1073 cb,Fl.sub (S':=fun b=>(b≠g189∧b≠g230)) d1074 cb,hv1027.sg.o32,hv1027.sg.c32,hv1027.sg.p32⟩⟩:RVp (fun b=>(b≠g189∧b≠g230)) _ _ _ _ _ v2) (few_sm hFb) (fun v hv=>absurd hv (by simp [stE])) (by rw [hD.c2];exact diff_sm (few_sm hFa) (few_sm hFb)) (hG.ext ((((Ext.refl w).trans hx251).trans hx1051).gn hg1058))) ?_)
      rintro _ w1075 ⟨c1077,e1078,rfl,hL1079,hE1080,hP1081,hx1076⟩
      obtain ⟨A1082,k1083,rfl,z1084,z1085⟩:∃ A k,c1077=.slice A 0 k∧0≤k∧k≤9223372036854775807:=RLs.form hL1079
      have hl1086:RLs RIt 2 (Clip (fun b=>(b≠g189∧b≠g230)∨w1056.heap.size≤b) w1075) w1075 (vl A1082 0 k1083) ([]):=hL1079
      obtain ⟨A1087,k1088,rfl,z1089,z1090⟩:∃ A k,e1078=.slice A 0 k∧0≤k∧k≤9223372036854775807:=RLs.form hE1080
      have hl1091:RLs RVr 38 (Clip (fun b=>(b≠g189∧b≠g230)∨w1056.heap.size≤b) w1075) w1075 (vl A1087 0 k1088) ([]):=hE1080
      refine ⟨_,rfl,?_⟩;intro a1092 F1093;clear F1068;have z1094:=hx1076.size
      refine F1093.xm rfl<|Xv (ag (dg zero32 [(vi 0),(vi 0),(vl A1082 0 k1083),(vl A1087 0 k1088)]))<|Xv (vi 420)<|fun _ F1100=>?_;clear F1093
      refine F1100.xz fz 41 fun g1101 w1102 _ F1108 z1105 z1106 b1103 hx1104=>?_;clear F1100
      refine F1108.xs rfl b1103 (fun w1109 b1110 hg1111=>?_);have z1112:=hg1111.size
      refine F1108.xa rfl<|fun _ F1114=>?_;clear F1108
      refine wpList_nil (hK1061 _ _ ?_);clear hK1061
      have F1115:=F1114.k [0,1,2,3,8,22,45,9,10,11,12,13,70,14,71,72,73,74,16,17,18,19];clear F1114
      refine wp_seq_k fun K1116 hK1116=>?_
      refine wr fun K1117 hK1117=>?_
      refine F1115.xm rfl<|Xw (.int .u8 1) (fun F=>rn_rem2 (r:=1) (F.get rfl) rfl (by omega) (by omega))<|Xw (.pointer (some ⟨g230,0+1,none⟩)) (fun F=>rn_indexArr Tryd.underlying53 inf4 (F.get rfl) (F.get rfl) (by omega:(0:Int)≤1) (by omega:(1:Int)<((2:Nat):Int)))<|fun _ F1123=>?_;clear F1115
      have b1124:=(((((b254.ext hx1051).gn hg1058).ext hx1076).ext hx1104).gn hg1111)
      refine F1123.xw (.bool true) (fun F=>rl F rfl (b1124.rule.1 (0+1)))<|fun _ F1126=>?_;clear F1123
      refine wpList_nil (hK1117 _ _ ?_);clear hK1117
      refine F1126.ct ?_
      refine wp_seq_k fun K1127 hK1127=>?_
      refine wr fun K1128 hK1128=>?_
      refine F1126.xm rfl<|Xv (.bool false)<|fun _ F1132=>?_;clear F1126
      refine wpList_nil (hK1128 _ _ ?_);clear hK1128
      have F1133:=F1132.k [0,1,2,3,8,22,45,9,10,11,12,13,70,14,71,72,73,74,16,17,18,19,91,93];clear F1132
      refine F1133.cf ?_
      refine wp_skip ?_
      refine hK1127 _ _ ?_;clear hK1127
      refine wp_exit ?_
      refine exit_then ?_
      refine exit_here ?_
      refine hK274 _ _ ?_;clear hK274
      refine wp_region_lit ?_
      refine F1133.xv (vi (k+1:Nat))<|Xm rfl<|fun _ F1137=>?_;clear F1133
      refine wpList_nil ?_
      have d1138:=(RLs.pres rVr hf255 ((((((Pres.refl w249).ext hx1051).gc hg1058).ext hx1076).ext hx1104).gc hg1111))
      have d1139:=(RLs.pres rIt hc263 ((((((Pres.refl w249).ext hx1051).gc hg1058).ext hx1076).ext hx1104).gc hg1111))
      have d1140:=(RLs.pres rVr hc266 ((((((Pres.refl w249).ext hx1051).gc hg1058).ext hx1076).ext hx1104).gc hg1111))
      have b1141:=(((b1064.ext hx1076).ext hx1104).gn hg1111)
      refine ⟨⟨(k+1),true,true,A1,k1,A2,k2,F1137.j,(by omega),(((((((Ext.refl w).trans hx251).trans hx1051).gn hg1058).trans hx1076).trans hx1104).gn hg1111),b1141,b1124,d1138,(RLs.subB (S':=(fun b=>b≠g189∧b≠g230)) rIt d1139 (fun b h1 h2=>by first | exact h2 | exact h2.1 | (simp only [Clip] at h2;omega) | omega)),(RLs.subB (S':=(fun b=>b≠g189∧b≠g230)) rVr d1140 (fun b h1 h2=>by first | exact h2 | exact h2.1 | (simp only [Clip] at h2;omega) | omega)),(by omega)⟩,?_⟩
      rw [F1137.get (t:=73) rfl,hL259.get (t:=73) rfl];simp [intOf] <;> omega
     subst hc1062 hc1063
     refine wp_region_lit ?_
     have b1142:=((b253.ext hx1051).gn hg1058)
     refine F1060.xw (ag (dg (pubF [seed] 2 0) [(vi 2),(vi (stN true false)),(vl A1 ((stL a b true false).length) k1),(vl A2 ((stE v2 true false).length) k2)])) (fun F=>rb F rfl b1142 (hk:=len_dig (pubF_len _ _ _)))<|Xw (ag ((vi v2.no)::dg v2.state [(vl A1028 v2.chs.length c1029),(vi v2.sg.index),(vl A1032 v2.sg.op.length c1033),(vl A1036 v2.sg.cl.length c1037),(vl A1040 v2.sg.path.length c1041)])) (fun F=>rb F rfl b1057 (hk:=len_dig1 hv1027.st))<|fun _ F1146=>?_;clear F1060
     have d1147:=(RLs.pres rIt hc263 (((Pres.refl w249).ext hx1051).gc hg1058))
     have d1148:=(RLs.pres rVr hc266 (((Pres.refl w249).ext hx1051).gc hg1058))
     have d1149:=(RLs.pres rCg hv1027.chs (((Pres.refl w249).ext hx1051).gc hg1058))
     have d1150:=(hv1027.sg.op.pres (((Pres.refl w249).ext hx1051).gc hg1058))
     have d1151:=(hv1027.sg.cl.pres (((Pres.refl w249).ext hx1051).gc hg1058))
     have d1152:=(hv1027.sg.path.pres (((Pres.refl w249).ext hx1051).gc hg1058))
     refine wpl_op (i:=2) rfl (o_call F1146 rfl rfl rfl rfl (rn_call (args2 (F1146.get rfl) (F1146.get rfl)) rfl (by kernel_rfl)) (recv_at (fun b=>(b≠g189∧b≠g230)) (pubF [seed] 2 0) (stN true false) (stL a b true false) (stE v2 true false) v2 _ (pubF [seed] 2 0) 2 2 b ([]) 0 hD.r2 (pubF_len _ _ _) (RLs.sub (S':=fun b=>(b≠g189∧b≠g230)) rIt d1147 cb) (RLs.sub (S':=fun b=>(b≠g189∧b≠g230)) rVr d1148 cb) (⟨hv1027.st,(RLs.sub (S':=fun b=>(b≠g189∧b≠g230)) rCg d1149 cb),⟨Fl.sub (S':=fun b=>(b≠g189∧b≠g230)) d1150 cb,Fl.sub (S':=fun b=>(b≠g189∧b≠g230)) d1151 cb,Fl.sub (S':=fun b=>(b≠g189∧b≠g230)) d1152 cb,hv1027.sg.o32,hv1027.sg.c32,hv1027.sg.p32⟩⟩:RVp (fun b=>(b≠g189∧b≠g230)) _ _ _ _ _ v2) (few_sm hFa) (fun v hv=>absurd hv (by simp [stE])) (by rw [hD.c2];exact diff_sm (few_sm hFa) (few_sm hFb)) (hG.ext ((((Ext.refl w).trans hx251).trans hx1051).gn hg1058))) ?_)
     rintro _ w1153 ⟨c1155,e1156,rfl,hL1157,hE1158,hP1159,hx1154⟩
     obtain ⟨A1160,k1161,rfl,z1162,z1163⟩:∃ A k,c1155=.slice A b.length k∧b.length≤k∧k≤9223372036854775807:=RLs.form hL1157
     have hl1164:RLs RIt 2 (Clip (fun b=>(b≠g189∧b≠g230)∨w1056.heap.size≤b) w1153) w1153 (vl A1160 b.length k1161) b:=hL1157
     obtain ⟨A1165,k1166,rfl,z1167,z1168⟩:∃ A k,e1156=.slice A 0 k∧0≤k∧k≤9223372036854775807:=RLs.form hE1158
     have hl1169:RLs RVr 38 (Clip (fun b=>(b≠g189∧b≠g230)∨w1056.heap.size≤b) w1153) w1153 (vl A1165 0 k1166) ([]):=hE1158
     refine ⟨_,rfl,?_⟩;intro a1170 F1171;clear F1146;have z1172:=hx1154.size
     refine F1171.xm rfl<|Xv (ag (dg (pubF [seed] 2 0) [(vi 2),(vi 2),(vl A1160 b.length k1161),(vl A1165 0 k1166)]))<|Xv (vi 0)<|fun _ F1178=>?_;clear F1171
     refine F1178.xz fz 41 fun g1179 w1180 _ F1186 z1183 z1184 b1181 hx1182=>?_;clear F1178
     refine F1186.xs rfl b1181 (fun w1187 b1188 hg1189=>?_) (hk:=len_dig (pubF_len _ _ _));have z1190:=hg1189.size
     refine F1186.xa rfl<|fun _ F1192=>?_;clear F1186
     refine wpList_nil (hK1061 _ _ ?_);clear hK1061
     have F1193:=F1192.k [0,1,2,3,8,22,45,9,10,11,12,13,70,14,71,72,73,74,16,17,18,19];clear F1192
     refine wp_seq_k fun K1194 hK1194=>?_
     refine wr fun K1195 hK1195=>?_
     refine F1193.xm rfl<|Xw (.int .u8 1) (fun F=>rn_rem2 (r:=1) (F.get rfl) rfl (by omega) (by omega))<|Xw (.pointer (some ⟨g230,0+1,none⟩)) (fun F=>rn_indexArr Tryd.underlying53 inf4 (F.get rfl) (F.get rfl) (by omega:(0:Int)≤1) (by omega:(1:Int)<((2:Nat):Int)))<|fun _ F1201=>?_;clear F1193
     have b1202:=(((((b254.ext hx1051).gn hg1058).ext hx1154).ext hx1182).gn hg1189)
     refine F1201.xw (.bool false) (fun F=>rl F rfl (b1202.rule.1 (0+1)))<|fun _ F1204=>?_;clear F1201
     refine wpList_nil (hK1195 _ _ ?_);clear hK1195
     refine F1204.cf ?_
     refine wp_skip ?_
     refine hK1194 _ _ ?_;clear hK1194
     refine wr fun K1205 hK1205=>?_
     refine F1204.xm rfl<|Xw (.int .u8 1) (fun F=>rn_rem2 (r:=1) (F.get rfl) rfl (by omega) (by omega))<|Xw (.pointer (some ⟨g230,0+1,none⟩)) (fun F=>rn_indexArr Tryd.underlying53 inf4 (F.get rfl) (F.get rfl) (by omega:(0:Int)≤1) (by omega:(1:Int)<((2:Nat):Int)))<|fun _ F1211=>?_;clear F1204
     refine wpl_op (i:=3) rfl (o_store1 (new:=[(.bool true),(.bool true)]) F1211 rfl rfl rfl rfl (F1211.get rfl) rfl b1202 inf4 (by simp) rfl rfl ?_)
     intro w1212 b1213 hg1214;have z1215:=hg1214.size
     refine wpList_nil (hK1205 _ _ ?_);clear hK1205
     have F1216:=F1211.k [0,1,2,3,8,22,45,9,10,11,12,13,70,14,71,72,73,74,16,17,18,19,91];clear F1211
     refine wp_seq_k fun K1217 hK1217=>?_
     refine wr fun K1218 hK1218=>?_
     refine F1216.xm rfl<|Xv (.bool false)<|Xm rfl<|Xg (.pointer (some ⟨g1179,33,none⟩))<|fun _ F1226=>?_;clear F1216
     have b1227:=(b1188.gn hg1214)
     refine F1226.xgw (vi 2) (fun F=>rl F rfl ((b1227.rule.1 33).trans ((at_app (k:=1) (byteVals_len (pubF_len _ _ _))).trans rfl)))<|Xg (.pointer (some ⟨g189,33,none⟩))<|fun _ F1231=>?_;clear F1226
     have b1232:=((((b1142.ext hx1154).ext hx1182).gn hg1189).gn hg1214)
     refine F1231.xgw (vi (stN true false)) (fun F=>rl F rfl ((b1232.rule.1 33).trans ((at_app (k:=1) (byteVals_len (pubF_len _ _ _))).trans rfl)))<|Xg (.bool (decide ((2:Int)<((stN true false):Int))))<|Xv (.bool (decide ((2:Int)<((stN true false):Int))))<|Xm rfl<|fun _ F1240=>?_;clear F1231
     refine qg 10 (ag (dg (pubF [seed] 2 0) [(vi 2),(vi 2),(vl A1160 b.length k1161),(vl A1165 0 k1166)])) F1240 ((by decide):decide ((2:Int)<((stN true false):Int))=false) (rb F1240 rfl b1227 (hk:=len_dig (pubF_len _ _ _))) fun _ F1243=>?_;clear F1240
     have d1244:=(RLs.pres rIt hl1164 ((((Pres.refl w1153).ext hx1182).gc hg1189).gc hg1214))
     have d1245:=(RLs.pres rVr hl1169 ((((Pres.refl w1153).ext hx1182).gc hg1189).gc hg1214))
     refine wpl_op (i:=11) rfl (o_call F1243 rfl (wanted_guard rfl rfl rfl F1243 rfl ((by decide):decide ((2:Int)<((stN true false):Int))=false) rfl) rfl rfl (rn_call (args1 (F1243.get rfl)) rfl (by kernel_rfl)) (fcheck_fo (pubF [seed] 2 0) 2 b ([]) _ 0 hD.f2 (pubF_len _ _ _) d1244 d1245 (few_sm hFb) (fun v hv=>absurd hv (by simp)) (hG.ext ((((((((Ext.refl w).trans hx251).trans hx1051).gn hg1058).trans hx1154).trans hx1182).gn hg1189).gn hg1214))) ?_)
     rintro _ w1246 ⟨rfl,hx1247⟩
     refine ⟨_,rfl,?_⟩;intro a1248 F1249;clear F1243;have z1250:=hx1247.size
     refine qg 12 (.bool false) F1249 ((by decide):decide ((2:Int)<((stN true false):Int))=false) (rn_neq' (F1249.get rfl) rfl (by decide)) fun _ F1252=>?_;clear F1249
     refine F1252.xw (.bool false) (fun F=>rn_pickF (c_false F rfl ((by decide):decide ((2:Int)<((stN true false):Int))=false)) (F.get rfl))<|fun _ F1254=>?_;clear F1252
     refine wpList_nil (hK1218 _ _ ?_);clear hK1218
     have F1255:=F1254.k [0,1,2,3,8,22,45,9,10,11,12,13,70,14,71,72,73,74,16,17,18,19,91,110];clear F1254
     refine F1255.cf ?_
     refine wp_skip ?_
     refine hK1217 _ _ ?_;clear hK1217
     refine wr fun K1256 hK1256=>?_
     refine F1255.xn (fun g=>(vl (some ⟨g,0,none⟩) 0 0)) [] 66 (fun F=>rn_buildSlice (parts0 ) (by kernel_rfl)) fun g1257 w1258 _ F1264 z1261 z1262 b1259 hx1260=>?_;clear F1255
     refine F1264.xa rfl<|fun _ F1266=>?_;clear F1264
     refine wpList_nil (hK1256 _ _ ?_);clear hK1256
     refine wp_seq_k fun K1267 hK1267=>?_
     refine wr fun K1268 hK1268=>?_
     refine F1266.xv (.pointer (some ⟨g1179,33,none⟩))<|fun _ F1270=>?_;clear F1266
     have b1271:=((b1227.ext hx1247).ext hx1260)
     refine F1270.xw (vi 2) (fun F=>rl F rfl ((b1271.rule.1 33).trans ((at_app (k:=1) (byteVals_len (pubF_len _ _ _))).trans rfl)))<|fun _ F1273=>?_;clear F1270
     refine wpList_nil (hK1268 _ _ ?_);clear hK1268
     refine wp_block ?_
     refine wr fun K1274 hK1274=>?_
     refine F1273.xv (.bool false)<|Xa rfl<|fun _ F1278=>?_;clear F1273
     refine wpList_nil (hK1274 _ _ ?_);clear hK1274
     refine F1278.cf ?_
     refine wr fun K1279 hK1279=>?_
     refine F1278.xv (.bool true)<|Xa rfl<|fun _ F1283=>?_;clear F1278
     refine wpList_nil (hK1279 _ _ ?_);clear hK1279
     have F1284:=F1283.k [0,1,2,3,8,22,45,9,10,11,12,13,70,14,71,72,73,74,16,17,18,19,91,110,20,113,114,117];clear F1283
     refine F1284.ct ?_
     refine wp_region_lit ?_
     refine F1284.xm rfl<|Xa rfl<|fun _ F1288=>?_;clear F1284
     refine wpList_nil (hK1267 _ _ ?_);clear hK1267
     refine wp_seq_k fun K1289 hK1289=>?_
     refine wp_seq_k fun K1290 hK1290=>?_
     have hx1292:∃ W,w1258.drew=W∧Ext w1258 W:=⟨_,rfl,(Ext.refl _).drew⟩
     obtain ⟨w1291,e1293,hx1292⟩:=hx1292
     have z1294:=hx1292.size
     refine any_start (fun W=>Ext w1291 W∧Blk W g1179 41 (dg (pubF [seed] 2 0) [(vi 2),(vi 2),(vl A1160 b.length k1161),(vl A1165 0 k1166)])∧Blk W g230 53 [(.bool true),(.bool true)]) (fun i=>false) 34 (.replicate 34 false) rfl rfl rfl ?_
     rw [e1293];clear e1293
     refine F1288.yv 0 (.pointer (some ⟨g1179,34,none⟩)) rfl<|fun _ F1296=>?_;clear F1288
     have b1298:=(b1271.ext hx1292)
     have b1299:=(((b1213.ext hx1247).ext hx1260).ext hx1292)
     have hS1297:Ext w1291 w1291∧Blk w1291 g1179 41 (dg (pubF [seed] 2 0) [(vi 2),(vi 2),(vl A1160 b.length k1161),(vl A1165 0 k1166)])∧Blk w1291 g230 53 [(.bool true),(.bool true)]:=⟨(Ext.refl w1291),b1298,b1299⟩
     refine F1296.ys 1 (vl A1160 b.length k1161) rfl hS1297 (fun F W hW=>rl F rfl ((hW.2.1.rule.1 34).trans ((at_app (k:=2) (byteVals_len (pubF_len _ _ _))).trans rfl)))<|Ym 2 rfl<|fun _ F1303=>?_;clear F1296
     refine ao 3 rfl ?_
     have d1304:=(RLs.pres rIt hl1164 (((((((Pres.refl w1153).ext hx1182).gc hg1189).gc hg1214).ext hx1247).ext hx1260).ext hx1292))
     have d1305:=(RLs.pres rIt h2c (((((((((((Pres.refl w).ext hx251).ext hx1051).gc hg1058).ext hx1154).ext hx1182).gc hg1189).gc hg1214).ext hx1247).ext hx1260).ext hx1292))
     refine F1303.oc (same40_at (u:=(vl A1160 b.length k1161)) (v:=(vl B b.length d)) b b _ d1304 d1305) ?_
     rintro _ w1306 ⟨rfl,hx1307⟩
     refine ⟨_,rfl,?_⟩;intro a1308 F1309;clear F1303;have z1310:=hx1307.size
     have b1311:=(b1298.ext hx1307)
     have b1312:=(b1299.ext hx1307)
     refine ⟨fun _ _=>⟨((Ext.refl w1291).trans hx1307),b1311,b1312⟩,?_⟩
     refine F1309.yw 4 (.bool (!(decide (b=b)))) rfl (fun F W=>rn_not' (F.get rfl) rfl)<|Ym 5 rfl<|fun _ F1316=>?_;clear F1309
     refine qp 6 (.pointer (some ⟨g230,0+0,none⟩)) F1316 rfl (wanted_guard rfl rfl rfl F1316 rfl (not_t ((decide_eq_true rfl):decide (b=b)=true)) rfl) (fun W=>(rn_indexArr Tryd.underlying53 inf4 (F1316.get rfl) rfl (by omega:(0:Int)≤0) (by omega:(0:Int)<((2:Nat):Int)))) fun _ F1319=>?_;clear F1316
     have hS1320:Ext w1291 w1306∧Blk w1306 g1179 41 (dg (pubF [seed] 2 0) [(vi 2),(vi 2),(vl A1160 b.length k1161),(vl A1165 0 k1166)])∧Blk w1306 g230 53 [(.bool true),(.bool true)]:=⟨((Ext.refl w1291).trans hx1307),b1311,b1312⟩
     refine qs 7 (.bool true) F1319 rfl (wanted_guard rfl rfl rfl F1319 rfl (not_t ((decide_eq_true rfl):decide (b=b)=true)) rfl) hS1320 (fun W hW=>(rl F1319 rfl (hW.2.2.rule.1 (0+0)))) fun _ F1322=>?_;clear F1319
     refine qp 8 (.bool true) F1322 rfl (wanted_guard rfl rfl rfl F1322 rfl (not_t ((decide_eq_true rfl):decide (b=b)=true)) rfl) (fun W=>(rn_move (F1322.get rfl))) fun _ F1324=>?_;clear F1322
     refine F1324.ygw 9 (.pointer (some ⟨g230,0+1,none⟩)) rfl (fun F W=>rn_indexArr Tryd.underlying53 inf4 (F.get rfl) rfl (by omega:(0:Int)≤1) (by omega:(1:Int)<((2:Nat):Int)))<|Ysg 10 (.bool true) rfl hS1320 (fun F W hW=>rl F rfl (hW.2.2.rule.1 (0+1)))<|fun _ F1328=>?_;clear F1324
     refine qp 11 (.bool true) F1328 rfl (wanted_guard rfl rfl rfl F1328 rfl (not_t ((decide_eq_true rfl):decide (b=b)=true)) rfl) (fun W=>(rn_pickT (c_true F1328 rfl rfl) (F1328.get rfl))) fun _ F1330=>?_;clear F1328
     refine qp 12 (.bool true) F1330 rfl (wanted_guard rfl rfl rfl F1330 rfl (not_t ((decide_eq_true rfl):decide (b=b)=true)) rfl) (fun W=>(rn_move (F1330.get rfl))) fun _ F1332=>?_;clear F1330
     refine F1332.yg 13 (.pointer (some ⟨g1179,33,none⟩)) rfl<|Ysg 14 (vi 2) rfl hS1320 (fun F W hW=>rl F rfl ((hW.2.1.rule.1 33).trans ((at_app (k:=1) (byteVals_len (pubF_len _ _ _))).trans rfl)))<|Yg 15 (.bool false) rfl<|fun _ F1338=>?_;clear F1332
     refine qp 16 (.bool false) F1338 rfl (wanted_guard rfl rfl rfl F1338 rfl (not_t ((decide_eq_true rfl):decide (b=b)=true)) rfl) (fun W=>(rn_pickT (c_true F1338 rfl rfl) (F1338.get rfl))) fun _ F1340=>?_;clear F1338
     refine F1340.yw 17 (.bool false) rfl (fun F W=>rn_pickF (c_false F rfl (not_t ((decide_eq_true rfl):decide (b=b)=true))) (F.get rfl))<|Ym 18 rfl<|Ygw 19 (.pointer (some ⟨g230,0+0,none⟩)) rfl (fun F W=>rn_indexArr Tryd.underlying53 inf4 (F.get rfl) rfl (by omega:(0:Int)≤0) (by omega:(0:Int)<((2:Nat):Int)))<|Ysg 20 (.bool true) rfl hS1320 (fun F W hW=>rl F rfl (hW.2.2.rule.1 (0+0)))<|Yg 21 (.pointer (some ⟨g1179,33,none⟩)) rfl<|Ysg 22 (vi 2) rfl hS1320 (fun F W hW=>rl F rfl ((hW.2.1.rule.1 33).trans ((at_app (k:=1) (byteVals_len (pubF_len _ _ _))).trans rfl)))<|Ygw 23 (.bool true) rfl (fun F W=>rn_geq' (F.get rfl) rfl (by decide))<|Ygw 24 (.bool false) rfl (fun F W=>rn_neB Tryd.underlying4 (F.get rfl) (F.get rfl) (show _=true from rfl) (show _=true from rfl) rfl)<|Yv 25 (.bool false) rfl<|Ym 26 rfl<|Ysg 27 (ag (dg (pubF [seed] 2 0) [(vi 2),(vi 2),(vl A1160 b.length k1161),(vl A1165 0 k1166)])) rfl hS1320 (fun F W hW=>rb F rfl hW.2.1 (hk:=len_dig (pubF_len _ _ _)))<|Yg 29 (.pointer (some ⟨g1179,33,none⟩)) rfl<|Ysg 30 (vi 2) rfl hS1320 (fun F W hW=>rl F rfl ((hW.2.1.rule.1 33).trans ((at_app (k:=1) (byteVals_len (pubF_len _ _ _))).trans rfl)))<|Yg 31 (vi 3) rfl<|fun _ F1368=>?_;clear F1340
     refine ao 28 rfl ?_
     have d1369:=(RLs.pres rIt hl1164 ((((((((Pres.refl w1153).ext hx1182).gc hg1189).gc hg1214).ext hx1247).ext hx1260).ext hx1292).ext hx1307))
     have d1370:=(RLs.pres rVr hl1169 ((((((((Pres.refl w1153).ext hx1182).gc hg1189).gc hg1214).ext hx1247).ext hx1260).ext hx1292).ext hx1307))
     refine o_call F1368 rfl (wanted_guard rfl rfl rfl F1368 rfl rfl rfl) rfl rfl (rn_call (args1 (F1368.get rfl)) rfl (by kernel_rfl)) (wants_fo (pubF [seed] 2 0) 2 b ([]) _ 3 rfl (pubF_len _ _ _) d1369 d1370 (by omega)) ?_
     rintro _ w1371 ⟨rfl,hx1372⟩
     refine ⟨_,rfl,?_⟩;intro a1373 F1374;clear F1368;have z1375:=hx1372.size
     have b1376:=(b1311.ext hx1372)
     have b1377:=(b1312.ext hx1372)
     refine ⟨fun _ _=>⟨(((Ext.refl w1291).trans hx1307).trans hx1372),b1376,b1377⟩,?_⟩
     refine F1374.ygw 32 (.bool false) rfl (fun F W=>rn_neq' (F.get rfl) (F.get rfl) (by decide))<|Yv 33 (.bool false) rfl<|fun _ F1381=>?_;clear F1374
     refine nn (hK1290 _ _ ?_);clear hK1290
     have F1382:=F1381.k [0,1,2,3,8,22,45,9,10,11,12,13,70,14,71,72,73,74,16,17,18,19,91,110,20,113,114,117,153];clear F1381
     refine F1382.cf ?_
     refine wp_skip ?_
     refine hK1289 _ _ ?_;clear hK1289
     refine wp_region_lit ?_
     refine F1382.xw (ag (dg (pubF [seed] 2 0) [(vi 2),(vi 2),(vl A1160 b.length k1161),(vl A1165 0 k1166)])) (fun F=>rb F rfl b1376 (hk:=len_dig (pubF_len _ _ _)))<|fun _ F1384=>?_;clear F1382
     have b1385:=(((((b1232.ext hx1247).ext hx1260).ext hx1292).ext hx1307).ext hx1372)
     refine F1384.xs rfl b1385 (fun w1386 b1387 hg1388=>?_) (hk:=len_dig (pubF_len _ _ _)) (hl:=len_dig (pubF_len _ _ _));have z1389:=hg1388.size
     refine wpList_nil (hK274 _ _ ?_);clear hK274
     refine wp_region_lit ?_
     refine F1384.xv (vi (k+1:Nat))<|Xm rfl<|fun _ F1393=>?_;clear F1384
     refine wpList_nil ?_
     have d1394:=(RLs.pres rVr hf255 (((((((((((((Pres.refl w249).ext hx1051).gc hg1058).ext hx1154).ext hx1182).gc hg1189).gc hg1214).ext hx1247).ext hx1260).ext hx1292).ext hx1307).ext hx1372).gc hg1388))
     have d1395:=(RLs.pres rIt hl1164 ((((((((((Pres.refl w1153).ext hx1182).gc hg1189).gc hg1214).ext hx1247).ext hx1260).ext hx1292).ext hx1307).ext hx1372).gc hg1388))
     have d1396:=(RLs.pres rVr hl1169 ((((((((((Pres.refl w1153).ext hx1182).gc hg1189).gc hg1214).ext hx1247).ext hx1260).ext hx1292).ext hx1307).ext hx1372).gc hg1388))
     have b1397:=(b1377.gn hg1388)
     refine ⟨⟨(k+1),true,true,A1160,k1161,A1165,k1166,F1393.j,(by omega),((((((((((((((Ext.refl w).trans hx251).trans hx1051).gn hg1058).trans hx1154).trans hx1182).gn hg1189).gn hg1214).trans hx1247).trans hx1260).trans hx1292).trans hx1307).trans hx1372).gn hg1388),b1387,b1397,d1394,(RLs.subB (S':=(fun b=>b≠g189∧b≠g230)) rIt d1395 (fun b h1 h2=>by first | exact h2 | exact h2.1 | (simp only [Clip] at h2;omega) | omega)),(RLs.subB (S':=(fun b=>b≠g189∧b≠g230)) rVr d1396 (fun b h1 h2=>by first | exact h2 | exact h2.1 | (simp only [Clip] at h2;omega) | omega)),(by omega)⟩,?_⟩
     rw [F1393.get (t:=73) rfl,hL259.get (t:=73) rfl];simp [intOf] <;> omega
    rcases Bool.eq_false_or_eq_true q1 with hc1398 | hc1398
    ·skip
     subst hc1062 hc1398
     refine wp_region_lit ?_
     have b1399:=((b253.ext hx1051).gn hg1058)
     refine F1060.xw (ag (dg (pubF [seed] 2 0) [(vi 2),(vi (stN false true)),(vl A1 ((stL a b false true).length) k1),(vl A2 ((stE v2 false true).length) k2)])) (fun F=>rb F rfl b1399 (hk:=len_dig (pubF_len _ _ _)))<|Xw (ag ((vi v2.no)::dg v2.state [(vl A1028 v2.chs.length c1029),(vi v2.sg.index),(vl A1032 v2.sg.op.length c1033),(vl A1036 v2.sg.cl.length c1037),(vl A1040 v2.sg.path.length c1041)])) (fun F=>rb F rfl b1057 (hk:=len_dig1 hv1027.st))<|fun _ F1403=>?_;clear F1060
     have d1404:=(RLs.pres rIt hc263 (((Pres.refl w249).ext hx1051).gc hg1058))
     have d1405:=(RLs.pres rVr hc266 (((Pres.refl w249).ext hx1051).gc hg1058))
     have d1406:=(RLs.pres rCg hv1027.chs (((Pres.refl w249).ext hx1051).gc hg1058))
     have d1407:=(hv1027.sg.op.pres (((Pres.refl w249).ext hx1051).gc hg1058))
     have d1408:=(hv1027.sg.cl.pres (((Pres.refl w249).ext hx1051).gc hg1058))
     have d1409:=(hv1027.sg.path.pres (((Pres.refl w249).ext hx1051).gc hg1058))
     refine wpl_op (i:=2) rfl (o_call F1403 rfl rfl rfl rfl (rn_call (args2 (F1403.get rfl) (F1403.get rfl)) rfl (by kernel_rfl)) (recv_at (fun b=>(b≠g189∧b≠g230)) (pubF [seed] 2 0) (stN false true) (stL a b false true) (stE v2 false true) v2 _ zero32 0 0 ([]) ([]) 420 hD.againE (pubF_len _ _ _) (RLs.sub (S':=fun b=>(b≠g189∧b≠g230)) rIt d1404 cb) (RLs.sub (S':=fun b=>(b≠g189∧b≠g230)) rVr d1405 cb) (⟨hv1027.st,(RLs.sub (S':=fun b=>(b≠g189∧b≠g230)) rCg d1406 cb),⟨Fl.sub (S':=fun b=>(b≠g189∧b≠g230)) d1407 cb,Fl.sub (S':=fun b=>(b≠g189∧b≠g230)) d1408 cb,Fl.sub (S':=fun b=>(b≠g189∧b≠g230)) d1409 cb,hv1027.sg.o32,hv1027.sg.c32,hv1027.sg.p32⟩⟩:RVp (fun b=>(b≠g189∧b≠g230)) _ _ _ _ _ v2) (show ∀ x∈([]:List It),x.data.length≤4294967296 from fun x hx=>absurd hx (by simp)) (fun v hv=>by rw [List.mem_singleton.1 hv];exact (by rw [hD.c2];exact diff_sm (few_sm hFa) (few_sm hFb))) (by rw [hD.c2];exact diff_sm (few_sm hFa) (few_sm hFb)) (hG.ext ((((Ext.refl w).trans hx251).trans hx1051).gn hg1058))) ?_)
     rintro _ w1410 ⟨c1412,e1413,rfl,hL1414,hE1415,hP1416,hx1411⟩
     obtain ⟨A1417,k1418,rfl,z1419,z1420⟩:∃ A k,c1412=.slice A 0 k∧0≤k∧k≤9223372036854775807:=RLs.form hL1414
     have hl1421:RLs RIt 2 (Clip (fun b=>(b≠g189∧b≠g230)∨w1056.heap.size≤b) w1410) w1410 (vl A1417 0 k1418) ([]):=hL1414
     obtain ⟨A1422,k1423,rfl,z1424,z1425⟩:∃ A k,e1413=.slice A 0 k∧0≤k∧k≤9223372036854775807:=RLs.form hE1415
     have hl1426:RLs RVr 38 (Clip (fun b=>(b≠g189∧b≠g230)∨w1056.heap.size≤b) w1410) w1410 (vl A1422 0 k1423) ([]):=hE1415
     refine ⟨_,rfl,?_⟩;intro a1427 F1428;clear F1403;have z1429:=hx1411.size
     refine F1428.xm rfl<|Xv (ag (dg zero32 [(vi 0),(vi 0),(vl A1417 0 k1418),(vl A1422 0 k1423)]))<|Xv (vi 420)<|fun _ F1435=>?_;clear F1428
     refine F1435.xz fz 41 fun g1436 w1437 _ F1443 z1440 z1441 b1438 hx1439=>?_;clear F1435
     refine F1443.xs rfl b1438 (fun w1444 b1445 hg1446=>?_);have z1447:=hg1446.size
     refine F1443.xa rfl<|fun _ F1449=>?_;clear F1443
     refine wpList_nil (hK1061 _ _ ?_);clear hK1061
     have F1450:=F1449.k [0,1,2,3,8,22,45,9,10,11,12,13,70,14,71,72,73,74,16,17,18,19];clear F1449
     refine wp_seq_k fun K1451 hK1451=>?_
     refine wr fun K1452 hK1452=>?_
     refine F1450.xm rfl<|Xw (.int .u8 1) (fun F=>rn_rem2 (r:=1) (F.get rfl) rfl (by omega) (by omega))<|Xw (.pointer (some ⟨g230,0+1,none⟩)) (fun F=>rn_indexArr Tryd.underlying53 inf4 (F.get rfl) (F.get rfl) (by omega:(0:Int)≤1) (by omega:(1:Int)<((2:Nat):Int)))<|fun _ F1458=>?_;clear F1450
     have b1459:=(((((b254.ext hx1051).gn hg1058).ext hx1411).ext hx1439).gn hg1446)
     refine F1458.xw (.bool true) (fun F=>rl F rfl (b1459.rule.1 (0+1)))<|fun _ F1461=>?_;clear F1458
     refine wpList_nil (hK1452 _ _ ?_);clear hK1452
     refine F1461.ct ?_
     refine wp_seq_k fun K1462 hK1462=>?_
     refine wr fun K1463 hK1463=>?_
     refine F1461.xm rfl<|Xv (.bool false)<|fun _ F1467=>?_;clear F1461
     refine wpList_nil (hK1463 _ _ ?_);clear hK1463
     have F1468:=F1467.k [0,1,2,3,8,22,45,9,10,11,12,13,70,14,71,72,73,74,16,17,18,19,91,93];clear F1467
     refine F1468.cf ?_
     refine wp_skip ?_
     refine hK1462 _ _ ?_;clear hK1462
     refine wp_exit ?_
     refine exit_then ?_
     refine exit_here ?_
     refine hK274 _ _ ?_;clear hK274
     refine wp_region_lit ?_
     refine F1468.xv (vi (k+1:Nat))<|Xm rfl<|fun _ F1472=>?_;clear F1468
     refine wpList_nil ?_
     have d1473:=(RLs.pres rVr hf255 ((((((Pres.refl w249).ext hx1051).gc hg1058).ext hx1411).ext hx1439).gc hg1446))
     have d1474:=(RLs.pres rIt hc263 ((((((Pres.refl w249).ext hx1051).gc hg1058).ext hx1411).ext hx1439).gc hg1446))
     have d1475:=(RLs.pres rVr hc266 ((((((Pres.refl w249).ext hx1051).gc hg1058).ext hx1411).ext hx1439).gc hg1446))
     have b1476:=(((b1399.ext hx1411).ext hx1439).gn hg1446)
     refine ⟨⟨(k+1),false,true,A1,k1,A2,k2,F1472.j,(by omega),(((((((Ext.refl w).trans hx251).trans hx1051).gn hg1058).trans hx1411).trans hx1439).gn hg1446),b1476,b1459,d1473,(RLs.subB (S':=(fun b=>b≠g189∧b≠g230)) rIt d1474 (fun b h1 h2=>by first | exact h2 | exact h2.1 | (simp only [Clip] at h2;omega) | omega)),(RLs.subB (S':=(fun b=>b≠g189∧b≠g230)) rVr d1475 (fun b h1 h2=>by first | exact h2 | exact h2.1 | (simp only [Clip] at h2;omega) | omega)),(by omega)⟩,?_⟩
     rw [F1472.get (t:=73) rfl,hL259.get (t:=73) rfl];simp [intOf] <;> omega
    subst hc1062 hc1398
    refine wp_region_lit ?_
    have b1477:=((b253.ext hx1051).gn hg1058)
    refine F1060.xw (ag (dg (pubF [seed] 2 0) [(vi 2),(vi (stN false false)),(vl A1 ((stL a b false false).length) k1),(vl A2 ((stE v2 false false).length) k2)])) (fun F=>rb F rfl b1477 (hk:=len_dig (pubF_len _ _ _)))<|Xw (ag ((vi v2.no)::dg v2.state [(vl A1028 v2.chs.length c1029),(vi v2.sg.index),(vl A1032 v2.sg.op.length c1033),(vl A1036 v2.sg.cl.length c1037),(vl A1040 v2.sg.path.length c1041)])) (fun F=>rb F rfl b1057 (hk:=len_dig1 hv1027.st))<|fun _ F1481=>?_;clear F1060
    have d1482:=(RLs.pres rIt hc263 (((Pres.refl w249).ext hx1051).gc hg1058))
    have d1483:=(RLs.pres rVr hc266 (((Pres.refl w249).ext hx1051).gc hg1058))
    have d1484:=(RLs.pres rCg hv1027.chs (((Pres.refl w249).ext hx1051).gc hg1058))
    have d1485:=(hv1027.sg.op.pres (((Pres.refl w249).ext hx1051).gc hg1058))
    have d1486:=(hv1027.sg.cl.pres (((Pres.refl w249).ext hx1051).gc hg1058))
    have d1487:=(hv1027.sg.path.pres (((Pres.refl w249).ext hx1051).gc hg1058))
    refine wpl_op (i:=2) rfl (o_call F1481 rfl rfl rfl rfl (rn_call (args2 (F1481.get rfl) (F1481.get rfl)) rfl (by kernel_rfl)) (recv_at (fun b=>(b≠g189∧b≠g230)) (pubF [seed] 2 0) (stN false false) (stL a b false false) (stE v2 false false) v2 _ (pubF [seed] 2 0) 2 0 ([]) ([v2]) 0 hD.early (pubF_len _ _ _) (RLs.sub (S':=fun b=>(b≠g189∧b≠g230)) rIt d1482 cb) (RLs.sub (S':=fun b=>(b≠g189∧b≠g230)) rVr d1483 cb) (⟨hv1027.st,(RLs.sub (S':=fun b=>(b≠g189∧b≠g230)) rCg d1484 cb),⟨Fl.sub (S':=fun b=>(b≠g189∧b≠g230)) d1485 cb,Fl.sub (S':=fun b=>(b≠g189∧b≠g230)) d1486 cb,Fl.sub (S':=fun b=>(b≠g189∧b≠g230)) d1487 cb,hv1027.sg.o32,hv1027.sg.c32,hv1027.sg.p32⟩⟩:RVp (fun b=>(b≠g189∧b≠g230)) _ _ _ _ _ v2) (show ∀ x∈([]:List It),x.data.length≤4294967296 from fun x hx=>absurd hx (by simp)) (fun v hv=>absurd hv (by simp [stE])) (by rw [hD.c2];exact diff_sm (few_sm hFa) (few_sm hFb)) (hG.ext ((((Ext.refl w).trans hx251).trans hx1051).gn hg1058))) ?_)
    rintro _ w1488 ⟨c1490,e1491,rfl,hL1492,hE1493,hP1494,hx1489⟩
    obtain ⟨A1495,k1496,rfl,z1497,z1498⟩:∃ A k,c1490=.slice A 0 k∧0≤k∧k≤9223372036854775807:=RLs.form hL1492
    have hl1499:RLs RIt 2 (Clip (fun b=>(b≠g189∧b≠g230)∨w1056.heap.size≤b) w1488) w1488 (vl A1495 0 k1496) ([]):=hL1492
    obtain ⟨A1500,k1501,rfl,z1502,z1503⟩:∃ A k,e1491=.slice A 1 k∧1≤k∧k≤9223372036854775807:=RLs.form hE1493
    have hl1504:RLs RVr 38 (Clip (fun b=>(b≠g189∧b≠g230)∨w1056.heap.size≤b) w1488) w1488 (vl A1500 1 k1501) ([v2]):=hE1493
    refine ⟨_,rfl,?_⟩;intro a1505 F1506;clear F1481;have z1507:=hx1489.size
    refine F1506.xm rfl<|Xv (ag (dg (pubF [seed] 2 0) [(vi 2),(vi 0),(vl A1495 0 k1496),(vl A1500 1 k1501)]))<|Xv (vi 0)<|fun _ F1513=>?_;clear F1506
    refine F1513.xz fz 41 fun g1514 w1515 _ F1521 z1518 z1519 b1516 hx1517=>?_;clear F1513
    refine F1521.xs rfl b1516 (fun w1522 b1523 hg1524=>?_) (hk:=len_dig (pubF_len _ _ _));have z1525:=hg1524.size
    refine F1521.xa rfl<|fun _ F1527=>?_;clear F1521
    refine wpList_nil (hK1061 _ _ ?_);clear hK1061
    have F1528:=F1527.k [0,1,2,3,8,22,45,9,10,11,12,13,70,14,71,72,73,74,16,17,18,19];clear F1527
    refine wp_seq_k fun K1529 hK1529=>?_
    refine wr fun K1530 hK1530=>?_
    refine F1528.xm rfl<|Xw (.int .u8 1) (fun F=>rn_rem2 (r:=1) (F.get rfl) rfl (by omega) (by omega))<|Xw (.pointer (some ⟨g230,0+1,none⟩)) (fun F=>rn_indexArr Tryd.underlying53 inf4 (F.get rfl) (F.get rfl) (by omega:(0:Int)≤1) (by omega:(1:Int)<((2:Nat):Int)))<|fun _ F1536=>?_;clear F1528
    have b1537:=(((((b254.ext hx1051).gn hg1058).ext hx1489).ext hx1517).gn hg1524)
    refine F1536.xw (.bool false) (fun F=>rl F rfl (b1537.rule.1 (0+1)))<|fun _ F1539=>?_;clear F1536
    refine wpList_nil (hK1530 _ _ ?_);clear hK1530
    refine F1539.cf ?_
    refine wp_skip ?_
    refine hK1529 _ _ ?_;clear hK1529
    refine wr fun K1540 hK1540=>?_
    refine F1539.xm rfl<|Xw (.int .u8 1) (fun F=>rn_rem2 (r:=1) (F.get rfl) rfl (by omega) (by omega))<|Xw (.pointer (some ⟨g230,0+1,none⟩)) (fun F=>rn_indexArr Tryd.underlying53 inf4 (F.get rfl) (F.get rfl) (by omega:(0:Int)≤1) (by omega:(1:Int)<((2:Nat):Int)))<|fun _ F1546=>?_;clear F1539
    refine wpl_op (i:=3) rfl (o_store1 (new:=[(.bool false),(.bool true)]) F1546 rfl rfl rfl rfl (F1546.get rfl) rfl b1537 inf4 (by simp) rfl rfl ?_)
    intro w1547 b1548 hg1549;have z1550:=hg1549.size
    refine wpList_nil (hK1540 _ _ ?_);clear hK1540
    have F1551:=F1546.k [0,1,2,3,8,22,45,9,10,11,12,13,70,14,71,72,73,74,16,17,18,19,91];clear F1546
    refine wp_seq_k fun K1552 hK1552=>?_
    refine wr fun K1553 hK1553=>?_
    refine F1551.xm rfl<|Xv (.bool false)<|Xm rfl<|Xg (.pointer (some ⟨g1514,33,none⟩))<|fun _ F1561=>?_;clear F1551
    have b1562:=(b1523.gn hg1549)
    refine F1561.xgw (vi 0) (fun F=>rl F rfl ((b1562.rule.1 33).trans ((at_app (k:=1) (byteVals_len (pubF_len _ _ _))).trans rfl)))<|Xg (.pointer (some ⟨g189,33,none⟩))<|fun _ F1566=>?_;clear F1561
    have b1567:=((((b1477.ext hx1489).ext hx1517).gn hg1524).gn hg1549)
    refine F1566.xgw (vi (stN false false)) (fun F=>rl F rfl ((b1567.rule.1 33).trans ((at_app (k:=1) (byteVals_len (pubF_len _ _ _))).trans rfl)))<|Xg (.bool (decide ((0:Int)<((stN false false):Int))))<|Xv (.bool (decide ((0:Int)<((stN false false):Int))))<|Xm rfl<|fun _ F1575=>?_;clear F1566
    refine qg 10 (ag (dg (pubF [seed] 2 0) [(vi 2),(vi 0),(vl A1495 0 k1496),(vl A1500 1 k1501)])) F1575 ((by decide):decide ((0:Int)<((stN false false):Int))=false) (rb F1575 rfl b1562 (hk:=len_dig (pubF_len _ _ _))) fun _ F1578=>?_;clear F1575
    have d1579:=(RLs.pres rIt hl1499 ((((Pres.refl w1488).ext hx1517).gc hg1524).gc hg1549))
    have d1580:=(RLs.pres rVr hl1504 ((((Pres.refl w1488).ext hx1517).gc hg1524).gc hg1549))
    refine wpl_op (i:=11) rfl (o_call F1578 rfl (wanted_guard rfl rfl rfl F1578 rfl ((by decide):decide ((0:Int)<((stN false false):Int))=false) rfl) rfl rfl (rn_call (args1 (F1578.get rfl)) rfl (by kernel_rfl)) (fcheck_fo (pubF [seed] 2 0) 0 ([]) ([v2]) _ 0 hD.fe (pubF_len _ _ _) d1579 d1580 (show ∀ x∈([]:List It),x.data.length≤4294967296 from fun x hx=>absurd hx (by simp)) (fun v hv=>by rw [List.mem_singleton.1 hv];exact (by rw [hD.c2];exact diff_sm (few_sm hFa) (few_sm hFb))) (hG.ext ((((((((Ext.refl w).trans hx251).trans hx1051).gn hg1058).trans hx1489).trans hx1517).gn hg1524).gn hg1549))) ?_)
    rintro _ w1581 ⟨rfl,hx1582⟩
    refine ⟨_,rfl,?_⟩;intro a1583 F1584;clear F1578;have z1585:=hx1582.size
    refine qg 12 (.bool false) F1584 ((by decide):decide ((0:Int)<((stN false false):Int))=false) (rn_neq' (F1584.get rfl) rfl (by decide)) fun _ F1587=>?_;clear F1584
    refine F1587.xw (.bool false) (fun F=>rn_pickF (c_false F rfl ((by decide):decide ((0:Int)<((stN false false):Int))=false)) (F.get rfl))<|fun _ F1589=>?_;clear F1587
    refine wpList_nil (hK1553 _ _ ?_);clear hK1553
    have F1590:=F1589.k [0,1,2,3,8,22,45,9,10,11,12,13,70,14,71,72,73,74,16,17,18,19,91,110];clear F1589
    refine F1590.cf ?_
    refine wp_skip ?_
    refine hK1552 _ _ ?_;clear hK1552
    refine wr fun K1591 hK1591=>?_
    refine F1590.xn (fun g=>(vl (some ⟨g,0,none⟩) 0 0)) [] 66 (fun F=>rn_buildSlice (parts0 ) (by kernel_rfl)) fun g1592 w1593 _ F1599 z1596 z1597 b1594 hx1595=>?_;clear F1590
    refine F1599.xa rfl<|fun _ F1601=>?_;clear F1599
    refine wpList_nil (hK1591 _ _ ?_);clear hK1591
    refine wp_seq_k fun K1602 hK1602=>?_
    refine wr fun K1603 hK1603=>?_
    refine F1601.xv (.pointer (some ⟨g1514,33,none⟩))<|fun _ F1605=>?_;clear F1601
    have b1606:=((b1562.ext hx1582).ext hx1595)
    refine F1605.xw (vi 0) (fun F=>rl F rfl ((b1606.rule.1 33).trans ((at_app (k:=1) (byteVals_len (pubF_len _ _ _))).trans rfl)))<|fun _ F1608=>?_;clear F1605
    refine wpList_nil (hK1603 _ _ ?_);clear hK1603
    refine wp_block ?_
    refine wr fun K1609 hK1609=>?_
    refine F1608.xv (.bool false)<|Xa rfl<|fun _ F1613=>?_;clear F1608
    refine wpList_nil (hK1609 _ _ ?_);clear hK1609
    refine F1613.cf ?_
    refine wr fun K1614 hK1614=>?_
    refine F1613.xv (.bool false)<|Xa rfl<|fun _ F1618=>?_;clear F1613
    refine wpList_nil (hK1614 _ _ ?_);clear hK1614
    have F1619:=F1618.k [0,1,2,3,8,22,45,9,10,11,12,13,70,14,71,72,73,74,16,17,18,19,91,110,20,113,114,117];clear F1618
    refine F1619.cf ?_
    refine wp_skip ?_
    refine hK1602 _ _ ?_;clear hK1602
    refine wp_seq_k fun K1620 hK1620=>?_
    refine wp_seq_k fun K1621 hK1621=>?_
    have hx1623:∃ W,w1593.drew=W∧Ext w1593 W:=⟨_,rfl,(Ext.refl _).drew⟩
    obtain ⟨w1622,e1624,hx1623⟩:=hx1623
    have z1625:=hx1623.size
    refine any_start (fun W=>Ext w1622 W∧Blk W g1514 41 (dg (pubF [seed] 2 0) [(vi 2),(vi 0),(vl A1495 0 k1496),(vl A1500 1 k1501)])∧Blk W g230 53 [(.bool false),(.bool true)]) (fun i=>false) 34 (.replicate 34 false) rfl rfl rfl ?_
    rw [e1624];clear e1624
    refine F1619.yv 0 (.pointer (some ⟨g1514,34,none⟩)) rfl<|fun _ F1627=>?_;clear F1619
    have b1629:=(b1606.ext hx1623)
    have b1630:=(((b1548.ext hx1582).ext hx1595).ext hx1623)
    have hS1628:Ext w1622 w1622∧Blk w1622 g1514 41 (dg (pubF [seed] 2 0) [(vi 2),(vi 0),(vl A1495 0 k1496),(vl A1500 1 k1501)])∧Blk w1622 g230 53 [(.bool false),(.bool true)]:=⟨(Ext.refl w1622),b1629,b1630⟩
    refine F1627.ys 1 (vl A1495 0 k1496) rfl hS1628 (fun F W hW=>rl F rfl ((hW.2.1.rule.1 34).trans ((at_app (k:=2) (byteVals_len (pubF_len _ _ _))).trans rfl)))<|Ym 2 rfl<|fun _ F1634=>?_;clear F1627
    refine ao 3 rfl ?_
    have d1635:=(RLs.pres rIt hl1499 (((((((Pres.refl w1488).ext hx1517).gc hg1524).gc hg1549).ext hx1582).ext hx1595).ext hx1623))
    refine o_call F1634 rfl rfl rfl rfl (rn_call (args2 (F1634.get rfl) (F1634.get rfl)) rfl (by kernel_rfl)) (same40_at (u:=(vl A1495 0 k1496)) (v:=(vl (some ⟨g1592,0,none⟩) 0 0)) ([]) ([]) _ d1635 (RLs.empty (by omega):RLs RIt 2 (fun _=>False) w1622 (vl (some ⟨g1592,0,none⟩) 0 0) [])) ?_
    rintro _ w1636 ⟨rfl,hx1637⟩
    refine ⟨_,rfl,?_⟩;intro a1638 F1639;clear F1634;have z1640:=hx1637.size
    have b1641:=(b1629.ext hx1637)
    have b1642:=(b1630.ext hx1637)
    refine ⟨fun _ _=>⟨((Ext.refl w1622).trans hx1637),b1641,b1642⟩,?_⟩
    refine F1639.yw 4 (.bool (!(decide (([])=([]))))) rfl (fun F W=>rn_not' (F.get rfl) rfl)<|Ym 5 rfl<|fun _ F1646=>?_;clear F1639
    refine qp 6 (.pointer (some ⟨g230,0+0,none⟩)) F1646 rfl (wanted_guard rfl rfl rfl F1646 rfl (not_t ((decide_eq_true rfl):decide (([])=([]))=true)) rfl) (fun W=>(rn_indexArr Tryd.underlying53 inf4 (F1646.get rfl) rfl (by omega:(0:Int)≤0) (by omega:(0:Int)<((2:Nat):Int)))) fun _ F1649=>?_;clear F1646
    have hS1650:Ext w1622 w1636∧Blk w1636 g1514 41 (dg (pubF [seed] 2 0) [(vi 2),(vi 0),(vl A1495 0 k1496),(vl A1500 1 k1501)])∧Blk w1636 g230 53 [(.bool false),(.bool true)]:=⟨((Ext.refl w1622).trans hx1637),b1641,b1642⟩
    refine qs 7 (.bool false) F1649 rfl (wanted_guard rfl rfl rfl F1649 rfl (not_t ((decide_eq_true rfl):decide (([])=([]))=true)) rfl) hS1650 (fun W hW=>(rl F1649 rfl (hW.2.2.rule.1 (0+0)))) fun _ F1652=>?_;clear F1649
    refine qp 8 (.bool false) F1652 rfl (wanted_guard rfl rfl rfl F1652 rfl (not_t ((decide_eq_true rfl):decide (([])=([]))=true)) rfl) (fun W=>(rn_move (F1652.get rfl))) fun _ F1654=>?_;clear F1652
    refine F1654.yu 9 rfl<|Yu 10 rfl<|fun _ F1658=>?_;clear F1654
    refine qp 11 (.bool false) F1658 rfl (wanted_guard rfl rfl rfl F1658 rfl (not_t ((decide_eq_true rfl):decide (([])=([]))=true)) rfl) (fun W=>(rn_pickF (c_false F1658 rfl rfl) rfl)) fun _ F1660=>?_;clear F1658
    refine qp 12 (.bool false) F1660 rfl (wanted_guard rfl rfl rfl F1660 rfl (not_t ((decide_eq_true rfl):decide (([])=([]))=true)) rfl) (fun W=>(rn_move (F1660.get rfl))) fun _ F1662=>?_;clear F1660
    refine F1662.yu 13 rfl<|Yu 14 rfl<|Yu 15 rfl<|fun _ F1668=>?_;clear F1662
    refine qp 16 (.bool false) F1668 rfl (wanted_guard rfl rfl rfl F1668 rfl (not_t ((decide_eq_true rfl):decide (([])=([]))=true)) rfl) (fun W=>(rn_pickF (c_false F1668 rfl rfl) rfl)) fun _ F1670=>?_;clear F1668
    refine F1670.yw 17 (.bool false) rfl (fun F W=>rn_pickF (c_false F rfl (not_t ((decide_eq_true rfl):decide (([])=([]))=true))) (F.get rfl))<|Ym 18 rfl<|Ygw 19 (.pointer (some ⟨g230,0+0,none⟩)) rfl (fun F W=>rn_indexArr Tryd.underlying53 inf4 (F.get rfl) rfl (by omega:(0:Int)≤0) (by omega:(0:Int)<((2:Nat):Int)))<|Ysg 20 (.bool false) rfl hS1650 (fun F W hW=>rl F rfl (hW.2.2.rule.1 (0+0)))<|Yg 21 (.pointer (some ⟨g1514,33,none⟩)) rfl<|Ysg 22 (vi 0) rfl hS1650 (fun F W hW=>rl F rfl ((hW.2.1.rule.1 33).trans ((at_app (k:=1) (byteVals_len (pubF_len _ _ _))).trans rfl)))<|Ygw 23 (.bool false) rfl (fun F W=>rn_geq' (F.get rfl) rfl (by decide))<|Ygw 24 (.bool false) rfl (fun F W=>rn_neB Tryd.underlying4 (F.get rfl) (F.get rfl) (show _=false from rfl) (show _=false from rfl) rfl)<|Yv 25 (.bool false) rfl<|Ym 26 rfl<|Ysg 27 (ag (dg (pubF [seed] 2 0) [(vi 2),(vi 0),(vl A1495 0 k1496),(vl A1500 1 k1501)])) rfl hS1650 (fun F W hW=>rb F rfl hW.2.1 (hk:=len_dig (pubF_len _ _ _)))<|Yg 29 (.pointer (some ⟨g1514,33,none⟩)) rfl<|Ysg 30 (vi 0) rfl hS1650 (fun F W hW=>rl F rfl ((hW.2.1.rule.1 33).trans ((at_app (k:=1) (byteVals_len (pubF_len _ _ _))).trans rfl)))<|Yg 31 (vi 1) rfl<|fun _ F1698=>?_;clear F1670
    refine ao 28 rfl ?_
    have d1699:=(RLs.pres rIt hl1499 ((((((((Pres.refl w1488).ext hx1517).gc hg1524).gc hg1549).ext hx1582).ext hx1595).ext hx1623).ext hx1637))
    have d1700:=(RLs.pres rVr hl1504 ((((((((Pres.refl w1488).ext hx1517).gc hg1524).gc hg1549).ext hx1582).ext hx1595).ext hx1623).ext hx1637))
    refine o_call F1698 rfl (wanted_guard rfl rfl rfl F1698 rfl rfl rfl) rfl rfl (rn_call (args1 (F1698.get rfl)) rfl (by kernel_rfl)) (wants_fo (pubF [seed] 2 0) 0 ([]) ([v2]) _ 1 rfl (pubF_len _ _ _) d1699 d1700 (by omega)) ?_
    rintro _ w1701 ⟨rfl,hx1702⟩
    refine ⟨_,rfl,?_⟩;intro a1703 F1704;clear F1698;have z1705:=hx1702.size
    have b1706:=(b1641.ext hx1702)
    have b1707:=(b1642.ext hx1702)
    refine ⟨fun _ _=>⟨(((Ext.refl w1622).trans hx1637).trans hx1702),b1706,b1707⟩,?_⟩
    refine F1704.ygw 32 (.bool false) rfl (fun F W=>rn_neq' (F.get rfl) (F.get rfl) (by decide))<|Yv 33 (.bool false) rfl<|fun _ F1711=>?_;clear F1704
    refine nn (hK1621 _ _ ?_);clear hK1621
    have F1712:=F1711.k [0,1,2,3,8,22,45,9,10,11,12,13,70,14,71,72,73,74,16,17,18,19,91,110,20,113,114,117,153];clear F1711
    refine F1712.cf ?_
    refine wp_skip ?_
    refine hK1620 _ _ ?_;clear hK1620
    refine wp_region_lit ?_
    refine F1712.xw (ag (dg (pubF [seed] 2 0) [(vi 2),(vi 0),(vl A1495 0 k1496),(vl A1500 1 k1501)])) (fun F=>rb F rfl b1706 (hk:=len_dig (pubF_len _ _ _)))<|fun _ F1714=>?_;clear F1712
    have b1715:=(((((b1567.ext hx1582).ext hx1595).ext hx1623).ext hx1637).ext hx1702)
    refine F1714.xs rfl b1715 (fun w1716 b1717 hg1718=>?_) (hk:=len_dig (pubF_len _ _ _)) (hl:=len_dig (pubF_len _ _ _));have z1719:=hg1718.size
    refine wpList_nil (hK274 _ _ ?_);clear hK274
    refine wp_region_lit ?_
    refine F1714.xv (vi (k+1:Nat))<|Xm rfl<|fun _ F1723=>?_;clear F1714
    refine wpList_nil ?_
    have d1724:=(RLs.pres rVr hf255 (((((((((((((Pres.refl w249).ext hx1051).gc hg1058).ext hx1489).ext hx1517).gc hg1524).gc hg1549).ext hx1582).ext hx1595).ext hx1623).ext hx1637).ext hx1702).gc hg1718))
    have d1725:=(RLs.pres rIt hl1499 ((((((((((Pres.refl w1488).ext hx1517).gc hg1524).gc hg1549).ext hx1582).ext hx1595).ext hx1623).ext hx1637).ext hx1702).gc hg1718))
    have d1726:=(RLs.pres rVr hl1504 ((((((((((Pres.refl w1488).ext hx1517).gc hg1524).gc hg1549).ext hx1582).ext hx1595).ext hx1623).ext hx1637).ext hx1702).gc hg1718))
    have b1727:=(b1707.gn hg1718)
    refine ⟨⟨(k+1),false,true,A1495,k1496,A1500,k1501,F1723.j,(by omega),((((((((((((((Ext.refl w).trans hx251).trans hx1051).gn hg1058).trans hx1489).trans hx1517).gn hg1524).gn hg1549).trans hx1582).trans hx1595).trans hx1623).trans hx1637).trans hx1702).gn hg1718),b1717,b1727,d1724,(RLs.subB (S':=(fun b=>b≠g189∧b≠g230)) rIt d1725 (fun b h1 h2=>by first | exact h2 | exact h2.1 | (simp only [Clip] at h2;omega) | omega)),(RLs.subB (S':=(fun b=>b≠g189∧b≠g230)) rVr d1726 (fun b h1 h2=>by first | exact h2 | exact h2.1 | (simp only [Clip] at h2;omega) | omega)),(by omega)⟩,?_⟩
    rw [F1723.get (t:=73) rfl,hL259.get (t:=73) rfl];simp [intOf] <;> omega
   refine F271.cf ?_
   refine wp_exit ?_
   refine exit_then ?_
   refine exit_then ?_
   refine exit_here ?_
   refine hK238 _ _ ?_;clear hK238
   refine wr fun K1728 hK1728=>?_
   refine F271.xv (.bool true)<|fun _ F1730=>?_;clear F271
   refine wpList_nil (hK1728 _ _ ?_);clear hK1728
   refine wp_ret ?_
   refine ret1 F1730 rfl rfl ?_
   exact ⟨rfl,((Ext.refl w).trans hx251)⟩
  refine F41.xu<|Xu<|Xu<|Xv (.bool true)<|Xm rfl<|Xu<|Xu<|Xu<|Xv (.bool true)<|Xm rfl<|Xu<|Xu<|Xu<|Xv (.bool true)<|fun _ F1758=>?_;clear F41
  refine wpList_nil (hK14 _ _ ?_);clear hK14
  have F1759:=F1758.k [0,1,2,3,8,22,45];clear F1758
  refine F1759.ct ?_
  refine wr fun K1760 hK1760=>?_
  refine F1759.xv (.bool true)<|fun _ F1762=>?_;clear F1759
  refine wpList_nil (hK1760 _ _ ?_);clear hK1760
  refine wp_ret (ret_then ?_)
  refine ret1 F1762 rfl rfl ?_
  exact ⟨rfl,((((Ext.refl w).trans hx7).trans hx19).trans hx32)⟩
 refine F26.xu<|Xu<|Xu<|Xv (.bool true)<|Xm rfl<|Xu<|Xu<|Xu<|Xv (.bool true)<|Xm rfl<|Xu<|Xu<|Xu<|Xv (.bool true)<|Xm rfl<|Xu<|Xu<|Xu<|Xv (.bool true)<|fun _ F1800=>?_;clear F26
 refine wpList_nil (hK14 _ _ ?_);clear hK14
 have F1801:=F1800.k [0,1,2,3,8,22,45];clear F1800
 refine F1801.ct ?_
 refine wr fun K1802 hK1802=>?_
 refine F1801.xv (.bool true)<|fun _ F1804=>?_;clear F1801
 refine wpList_nil (hK1802 _ _ ?_);clear hK1802
 refine wp_ret (ret_then ?_)
 refine ret1 F1804 rfl rfl ?_
 exact ⟨rfl,(((Ext.refl w).trans hx7).trans hx19)⟩

end Go.Proofs.YtihgmaoghbnnaaaDoor
