/- Several texts in one: MrW, MsA, NsA. -/
import Derived.Test.YtihgmaoghbnnaaaGreatDoorProg
import Derived.Test.YtihgmaoghbnnaaaGreatDoorQfG
import Derived.KernelRfl
import Derived.Test.YtihgmaoghbnnaaaGreatDoorQfA
import Derived.Test.YtihgmaoghbnnaaaGreatDoorQfB
import Derived.Test.YtihgmaoghbnnaaaGreatDoorQfE
set_option linter.unusedVariables false
set_option linter.unusedSimpArgs false
set_option maxRecDepth 100000
set_option maxHeartbeats 1000000
namespace Go.Proofs.YtihgmaoghbnnaaaGreatDoor
open Go.RowKit
variable {a b:List It} {sd:List UInt8} {S S' S2:Nat→Prop} {c e:Value}
section
variable {S:Nat→Prop}
section
variable {S:Nat→Prop}
theorem join_ok (pub:List UInt8) (w:World) (hp:pub.length=32) :
  Calls Tryz.prog 27 #[.agg (byteVals pub).toArray,.int .i64 2] w (fun e w'=>e=.returned (.tuple #[ag (fcs pub 2 0 v0 v0),.int .i64 0])∧Ext w w'):=join_any pub 2 w hp
theorem join_no (pub:List UInt8) (w:World) (hp:pub.length=32) :
  Calls Tryz.prog 27 #[.agg (byteVals pub).toArray,.int .i64 0] w (fun e w'=>e=.returned (.tuple #[ag (fcs zero32 0 0 v0 v0),.int .i64 40])∧Ext w w'):=join_any pub 0 w hp
theorem recv_at {c1 o1 e1 p1:Value} (S:Nat→Prop) (pub:List UInt8) (n:Int) (L:List It) (E:List Vr) (v:Vr) (w:World) (p2:List UInt8) (m2 n2:Int) (L2:List It) (E2:List Vr) (z:Int) (hq:recE (fo pub n L E) v=z∧recF (fo pub n L E) v=⟨p2,m2,n2,L2,E2⟩)
  (hp:pub.length=32) (hL:RLs RIt 2 S w c L) (hE:RLs RVr 38 S w e E) (hv:RVp S w c1 o1 e1 p1 v) (hdi:∀ x∈L,x.data.length≤4294967296) (hde:∀ v∈E,∀ x∈v.chs,x.data.length≤4294967296) (hdv:∀ x∈v.chs,x.data.length≤4294967296) (hG:Glob w) :
  Calls Tryz.prog 17 #[ag (fcs pub 2 n c e),ag (vcs v.no v.state c1 v.sg.index o1 e1 p1)] w (fun en w'=>∃ c' e',en=.returned (.tuple #[ag (fcs p2 m2 n2 c' e'),.int .i64 z])∧RLs RIt 2 (Clip (fun b=>S b∨w.heap.size≤b) w') w' c' L2∧RLs RVr 38 (Clip (fun b=>S b∨w.heap.size≤b) w') w' e' E2∧p2.length=32∧Ext w w'):=by
 have h:=receive_at (S:=S) (c:=c) (e:=e) (fo pub n L E) v w ⟨hp,hL,hE⟩ hv hdi hde hdv hG
 rw [hq.1,hq.2] at h
 refine h.mono ?_
 rintro _ w' ⟨c',e',rfl,hR,hx⟩
 exact ⟨c',e',rfl,RLs.subB rIt hR.items (fun b hb h=>⟨h,hb⟩),RLs.subB rVr hR.early (fun b hb h=>⟨h,hb⟩),hR.pub,hx⟩
theorem wants_fo {S1:Nat→Prop} (pub:List UInt8) (n:Int) (L:List It) (E:List Vr) (w:World) (z:Int) (hz:n+1=z) (hp:pub.length=32) (hL:RLs RIt 2 S1 w c L) (hE:RLs RVr 38 S2 w e E) (h0:0≤n∧n≤4294967296) :
  Calls Tryz.prog 22 #[ag (fcs pub 2 n c e)] w (fun en w'=>en=.returned (vi z)∧Ext w w'):=by
 subst hz
 exact wants_at (S:=fun _=>True) (c:=c) (e:=e) (fo pub n L E) w ⟨hp,hL.sub rIt fun _ _=>trivial,hE.sub rVr fun _ _=>trivial⟩ h0
theorem verify_nil (pub:List UInt8) (w:World) (hp:pub.length=32) (hG:Glob w) :
  Calls Tryz.prog 14 #[.agg (byteVals pub).toArray,.int .i64 2,ag (vcs 0 zero32 v0 0 v0 v0 v0)] w (fun en w'=>en=.returned (vi 420)∧Ext w w') :=
 verifyv_at (S:=fun _=>True) pub 2 vrNil w ⟨zero32_len,RLs.nil _,⟨Fl.nil _,Fl.nil _,Fl.nil _,All32.nil,All32.nil,All32.nil⟩⟩ hp (fun x hx=>absurd hx (by simp [vrNil])) hG
end
theorem version_idx (hs:1≤sd.length∧sd.length≤64) {n:Nat} (hn:n<2) {v:Vr} (hv:v=⟨(n+1:Nat),stateD b,diffL a b,signF sd 2 n n (msgV (n+1:Nat) (stateD b) (diffL a b))⟩):v.sg.index=n:=by
 have hm:(msgV (n+1:Nat) (stateD b) (diffL a b)).length=72:=msgV_len (stateD_len b)
 rw [hv]
 exact (sign_len ((sign_iff (kok hs (by omega) (by omega)) (by omega)).2 ⟨by omega,by omega⟩)).2.2
theorem duo_of (hs:1≤sd.length∧sd.length≤64) (ha:checkE a=0) (hb:checkE b=0) (hl:a.length+b.length≤65536) {v1 v2:Vr} (h1:versionV sd 2 ((0:Nat):Int) 0 a (diffL [] a)=v1) (h2:versionV sd 2 ((1:Nat):Int) 1 b (diffL a b)=v2):Duo (pubF sd 2 0) a b v1 v2:=by
 obtain ⟨-,p2,p3⟩:=version_good (a:=[]) hs (n:=0) (by omega) check_nil ha (by simp;omega)
 obtain ⟨-,q2,q3⟩:=version_good (a:=a) hs (n:=1) (by omega) ha hb hl
 rw [h1] at p2 p3
 rw [h2] at q2 q3
 exact ⟨ha,hb,hl,by rw [p2];rfl,by rw [q2];rfl,by rw [p2],by rw [q2],by rw [p2],by rw [q2],p3,q3⟩
def oneL:List It:=[⟨[97],[120]⟩]
theorem sane42_any (w:World) (hG:Glob w) :
  Calls Tryz.prog 5 #[] w (fun en w'=>en=.returned (.bool true)∧Ext w w'):=by
 have hk:1≤([115,101,101,100]:List UInt8).length∧([115,101,101,100]:List UInt8).length≤64:=⟨by decide,by decide⟩
 refine calls_enter Tryz.func5 rfl rfl rfl fun _ hF=>wr fun K1 a1=>hF.xv (.bool false) fun _ F3=>wn a1<|wr fun K4 bz=>F3.xn (fun g=>(vl (some ⟨g,0,none⟩) 4 4)) [(.int .u8 115),(.int .u8 101),(.int .u8 101),(.int .u8 100)] 5 (fun F=>rn_buildSlice (parts4 rfl rfl rfl rfl) (by kernel_rfl)) fun g5 w6 _ a1 z9 bK b7 bK=>wpl_op (i:=1) rfl<|o_mark (l:=[(115:UInt8),(101:UInt8),(101:UInt8),(100:UInt8)]) a1 rfl rfl rfl rfl rfl (a1.get rfl) uu22 uu5 b7 rfl (by omega) (by omega) fun bU a1 a1 bK bL=>have bV:=bL.size;a1.xC (c:=new_at (v:=(vl (some ⟨g5,0,none⟩) 4 4)) (m:=4) ([(115:UInt8),(101:UInt8),(101:UInt8),(100:UInt8)]) 2 _ bK (by omega)) (k:= ?_)
 rw [(new_facts hk).1,(new_facts hk).2.1,(new_facts hk).2.2]
 rintro _ br ⟨ac,V,aj,rfl,ar,bQ⟩
 have a1:=(Fl.cel ar).2.1;have a1:=Fl.blen ar
 refine ⟨_,rfl,?_⟩;intro a1 a1;have bK:=bQ.size
 have aQ:Fl (Clip (fun b=>bU.heap.size≤b) br) br 1 (vl ac V aj) V (byteVals ([(115:UInt8),(101:UInt8),(101:UInt8),(100:UInt8)])):=ar.clip
 refine a1.xm rfl<|Xv (.agg #[(vl ac V aj),(vi 2),(vi 0)])<|Xv (vi 0) fun _ ar=>ar.xz [v0,(vi 0),(vi 0)] 24 fun ar ar _ ar a1 a1 a1 br=>ar.xs rfl a1 (fun a1 a6 a1=>have br:=a1.size;ar.xa rfl fun _ ar=>wn bz<|have br:=ar.k [0,1,2];wr fun ar bz=>br.xw (.agg #[(vl ac V aj),(vi 2),(vi 0)]) (fun F=>rb F rfl a6) fun _ ar=>have br:=(aQ.ug a1);ar.xe (pub_at (v:=(vl ac V aj)) (m:=V) ([(115:UInt8),(101:UInt8),(101:UInt8),(100:UInt8)]) 2 0 _ br (hG.ext eX)) fun ar ar ar _ ar=>ar.xm rfl<|Xv (.agg (byteVals (pubF ([(115:UInt8),(101:UInt8),(101:UInt8),(100:UInt8)]) 2 0)).toArray)<|Xv (vi (pubE ([(115:UInt8),(101:UInt8),(101:UInt8),(100:UInt8)]) 2 0)) fun _ ar=>ar.xz (byteVals (List.replicate 32 0)) 29 fun ar ar _ ar a1 a1 a1 br=>?_)
 refine ar.xs rfl a1 (fun a1 bu a1=>?_) (hk:=byteVals_len (pubF_len _ _ _));have br:=a1.size
 refine ar.xa rfl fun _ ar=>wn bz<|have a1:=ar.k [0,1,2,3,4];wr fun ar bK=>a1.xn (fun g=>(vl (some ⟨g,0,none⟩) 1 1)) [(.int .u8 120)] 5 (fun F=>rn_buildSlice (parts1 rfl) (by kernel_rfl)) fun ar a1 _ a1 br br br bz=>wpl_op (i:=1) rfl<|o_mark (l:=[(120:UInt8)]) a1 rfl rfl rfl rfl rfl (a1.get rfl) uu22 uu5 br rfl (by omega) (by omega) fun a1 a1 a1 bL br=>have bz:=br.size;a1.xw (.agg #[(strOf ([97])),(vl (some ⟨ar,0,none⟩) 1 1)]) (fun F=>rn_build (parts2 rfl (F.get rfl)) (by kernel_rfl)) fun _ a1=>a1.xn (fun g=>(vl (some ⟨g,0,none⟩) 1 1)) [(strOf ([97])),(vl (some ⟨ar,0,none⟩) 1 1)] 61 (fun F=>rn_buildSlice (parts1 (F.get rfl)) (build_wholeE (vs:=[(.agg #[(strOf ([97])),(vl (some ⟨ar,0,none⟩) 1 1)])]) El26 rfl rfl (fun z0 hz0=>by rw [List.mem_singleton.1 hz0];exact (show List.length [(strOf ([97])),(vl (some ⟨ar,0,none⟩) 1 1)]=2 from rfl)) (by decide) (by decide) (by simp [Value.cells]))) fun aL aC _ a1 br br br bQ=>have bz:=(bL.ext bQ);have aR:RLs RIt 2 (Clip (fun _=>True) aC) aC (vl (some ⟨aL,0,none⟩) 1 1) oneL:=RLs.clip rIt (RLs.one br (show List.length [(strOf ([97])),(vl (some ⟨ar,0,none⟩) 1 1)]=2 from rfl) (one_cons rfl (one_cons rfl one_nil)) trivial (⟨_,_,rfl,Fl.any bz⟩:RIt (fun _=>True) _ _ ⟨[97],[(120:UInt8)]⟩));a1.xa rfl fun _ ar=>wn bK<|have a1:=ar.k [0,1,2,3,4,5];wr fun ar bD=>a1.xm rfl fun _ ar=>ar.xC (c:=diff_at (u:=v0) (v:=(vl (some ⟨aL,0,none⟩) 1 1)) ([]) oneL _ (RLs.nil _:RLs RIt 2 (fun _=>False) _ _ _) aR (show ∀ x∈([]:List It),x.data.length≤4294967296 from fun x hx=>absurd hx (by simp)) (show ∀ x∈oneL,x.data.length≤4294967296 by decide)) (k:= ?_)
 rw [(diffE_zero (show checkE []=0 from rfl) (show checkE oneL=0 by decide)).2,(diffE_zero (show checkE []=0 from rfl) (show checkE oneL=0 by decide)).1]
 rintro _ al ⟨M,O,rfl,bf,ay⟩
 refine ⟨_,rfl,?_⟩;intro ar ar;have a1:=ay.size
 have bk:RLs RCg 3 (Clip (fun z=>aC.heap.size≤z) al) al (vl M ((diffL ([]) oneL).length) O) (diffL ([]) oneL):=RLs.clip rCg bf
 obtain ⟨-,a1,a1⟩:=RLs.at bf
 refine ar.xm rfl<|Xv (vl M ((diffL ([]) oneL).length) O)<|Xv (vi 0)<|Xa rfl<|Xa rfl fun _ ar=>wn bD<|have a1:=ar.k [0,1,2,3,4,5,6,7];wr fun ar bE=>have ar:=a6.ux ay;a1.xw (.agg #[(vl ac V aj),(vi 2),(vi 0)]) (fun F=>rb F rfl ar)<|Xm rfl<|Xm rfl fun _ ar=>?_
 have a1:=aQ.ux ay
 have a6:=RLs.ext rIt aR ay
 have D:=version_good (sd:=[(115:UInt8),(101:UInt8),(101:UInt8),(100:UInt8)]) hk (n:=0) (by omega) (show checkE []=0 from rfl) (show checkE oneL=0 by decide) (by have h5:=(show ([]:List It).length≤12 by simp);have h6:=(show oneL.length≤12 by decide);omega)
 obtain ⟨vr148,hvr149⟩:∃ z,versionV ([(115:UInt8),(101:UInt8),(101:UInt8),(100:UInt8)]) 2 ((0:Nat):Int) 0 oneL (diffL ([]) oneL)=z:=⟨_,rfl⟩
 rw [hvr149] at D
 refine ar.xC (c:=version_at (S:=fun _=>True) none 0 ([(115:UInt8),(101:UInt8),(101:UInt8),(100:UInt8)]) 2 ((0:Nat):Int) (0) oneL (diffL ([]) oneL) _ (Fl.any a1) (RLs.sub (S':=fun _=>True) rIt a6 fun _ _=>trivial) (RLs.sub (S':=fun _=>True) rCg bk fun _ _=>trivial) (show ∀ x∈oneL,x.data.length≤4294967296 by decide) (by have h6:=(show oneL.length≤12 by decide);omega) (diff_sm (show ∀ x∈([]:List It),x.data.length≤4294967296 from fun x hx=>absurd hx (by simp)) (show ∀ x∈oneL,x.data.length≤4294967296 by decide)) (hG.ext eX)) (k:=?_)
 have ar:=D.1
 rw [hvr149,D.1,show keyS ([(115:UInt8),(101:UInt8),(101:UInt8),(100:UInt8)]) 2 ((0:Nat):Int) 0 oneL (diffL ([]) oneL)=[(115:UInt8),(101:UInt8),(101:UInt8),(100:UInt8)] from if_pos ar,show keyM ([(115:UInt8),(101:UInt8),(101:UInt8),(100:UInt8)]) 2 ((0:Nat):Int) 0 oneL (diffL ([]) oneL)=2 from if_pos ar,show keyU ([(115:UInt8),(101:UInt8),(101:UInt8),(100:UInt8)]) 2 ((0:Nat):Int) 0 oneL (diffL ([]) oneL)=((0:Nat):Int)+1 from if_pos ar]
 rintro _ aD ⟨ar,ar,ar,p156,ar,ar,ar,rfl,U,ar,C,bO,bm⟩
 obtain ⟨rfl,hkk⟩:=bO rfl;obtain ⟨rfl,rfl,rfl⟩:=Value.slice.inj hkk.symm
 have hvc150:vr148.chs=diffL ([]) oneL:=by rw [D.2.1]
 obtain ⟨Z,ae,rfl,ar,ar⟩:=Fl.form C.op
 obtain ⟨aa,ah,rfl,ar,ar⟩:=Fl.form C.cl
 obtain ⟨ab,ai,rfl,ar,ar⟩:=Fl.form C.path
 refine ⟨_,rfl,?_⟩;intro ar ar;have ay:=bm.size
 have ay:=RLs.ext rCg bk bm
 have aS:RLs RCg 3 (Clip (fun z=>aC.heap.size≤z) al) aD (vl M ((diffL ([]) oneL).length) O) vr148.chs:=by rw [hvc150];exact ay
 have aN:Fl (Clip (fun b=>al.heap.size≤b) aD) _ _ _ _ _:=Fl.subB C.op (fun _ h1 h2=>⟨h2,h1⟩)
 have aO:Fl (Clip (fun b=>al.heap.size≤b) aD) _ _ _ _ _:=Fl.subB C.cl (fun _ h1 h2=>⟨h2,h1⟩)
 have aP:Fl (Clip (fun b=>al.heap.size≤b) aD) _ _ _ _ _:=Fl.subB C.path (fun _ h1 h2=>⟨h2,h1⟩)
 refine ar.xm rfl<|Xv (ag ((vi vr148.no)::dg vr148.state [(vl M ((diffL ([]) oneL).length) O),(vi vr148.sg.index),(vl Z vr148.sg.op.length ae),(vl aa vr148.sg.cl.length ah),(vl ab vr148.sg.path.length ai)]))<|Xv (.agg #[(vl ac V aj),(vi 2),(vi (1:Nat))])<|Xv (vi 0) fun _ al=>al.xz vz 34 fun aJ al _ al ar ar ar ay=>al.xz [v0,(vi 0),(vi 0)] 24 fun al al _ al ay ay ay aD=>?_
 have aC:=ar.ext aD
 refine al.xs rfl aC (fun ar bs ar=>?_) (hk:=len_dig1 U.st);have aC:=ar.size
 have aC:=ay.gn ar
 refine al.xs rfl aC (fun bq bt ar=>have ay:=ar.size;al.xa rfl fun _ al=>wn bE<|have ay:=al.k [0,1,2,3,4,5,6,7,8,9,10];wr fun al bF=>ay.xm rfl fun _ al=>have ay:=(RLs.ug rIt aR ar);al.xC (c:=diff_at (u:=(vl (some ⟨aL,0,none⟩) 1 1)) (v:=v0) oneL ([]) _ ay (RLs.nil _:RLs RIt 2 (fun _=>False) _ _ _) (show ∀ x∈oneL,x.data.length≤4294967296 by decide) (show ∀ x∈([]:List It),x.data.length≤4294967296 from fun x hx=>absurd hx (by simp))) (k:= ?_))
 rw [(diffE_zero (show checkE oneL=0 by decide) (show checkE []=0 from rfl)).2,(diffE_zero (show checkE oneL=0 by decide) (show checkE []=0 from rfl)).1]
 rintro _ aV ⟨am,aq,rfl,bg,aT⟩
 refine ⟨_,rfl,?_⟩;intro al al;have ar:=aT.size
 have bl:RLs RCg 3 (Clip (fun z=>bq.heap.size≤z) aV) aV (vl am ((diffL oneL ([])).length) aq) (diffL oneL ([])):=RLs.clip rCg bg
 obtain ⟨-,ar,ar⟩:=RLs.at bg
 refine al.xm rfl<|Xv (vl am ((diffL oneL ([])).length) aq)<|Xv (vi 0)<|Xa rfl<|Xa rfl fun _ al=>wn bF<|have ar:=al.k [0,1,2,3,4,5,6,7,8,9,10,11,12];wr fun al bG=>have al:=(bt.ext aT);ar.xw (.agg #[(vl ac V aj),(vi 2),(vi (1:Nat))]) (fun F=>rb F rfl al) fun _ al=>have a2:=bs.ux aT;al.xw (ag ((vi vr148.no)::dg vr148.state [(vl M ((diffL ([]) oneL).length) O),(vi vr148.sg.index),(vl Z vr148.sg.op.length ae),(vl aa vr148.sg.cl.length ah),(vl ab vr148.sg.path.length ai)])) (fun F=>rb F rfl a2 (hk:=len_dig1 U.st)) fun _ al=>al.xn (fun g=>(vl (some ⟨g,0,none⟩) 1 1)) ((vi vr148.no)::dg vr148.state [(vl M ((diffL ([]) oneL).length) O),(vi vr148.sg.index),(vl Z vr148.sg.op.length ae),(vl aa vr148.sg.cl.length ah),(vl ab vr148.sg.path.length ai)]) 34 (fun F=>rn_buildSlice (parts1 (F.get rfl)) (build_wholeE (vs:=[(ag ((vi vr148.no)::dg vr148.state [(vl M ((diffL ([]) oneL).length) O),(vi vr148.sg.index),(vl Z vr148.sg.op.length ae),(vl aa vr148.sg.cl.length ah),(vl ab vr148.sg.path.length ai)]))]) El25 rfl rfl (fun z0 hz0=>by rw [List.mem_singleton.1 hz0];exact (show List.length ((vi vr148.no)::dg vr148.state [(vl M ((diffL ([]) oneL).length) O),(vi vr148.sg.index),(vl Z vr148.sg.op.length ae),(vl aa vr148.sg.cl.length ah),(vl ab vr148.sg.path.length ai)])=38 from (by simp [byteVals_len U.st]))) (by decide) (by decide) (by simp [Value.cells]))) fun ar au _ ay al al aC al=>have aD:=(RLs.ux rCg aS al);have aL:=(aN.ux al);have aR:=(aO.ux al);have aT:=(aP.ux al);have a1:RLs RVr 38 (Clip (fun _=>True) au) au (vl (some ⟨ar,0,none⟩) 1 1) [vr148]:=RLs.clip rVr (RLs.one aC (show List.length ((vi vr148.no)::dg vr148.state [(vl M ((diffL ([]) oneL).length) O),(vi vr148.sg.index),(vl Z vr148.sg.op.length ae),(vl aa vr148.sg.cl.length ah),(vl ab vr148.sg.path.length ai)])=38 from (by simp [byteVals_len U.st])) (one_cons rfl (one_app (byteVals_one _) (one_cons rfl (one_cons rfl (one_cons rfl (one_cons rfl (one_cons rfl one_nil))))))) trivial (⟨_,_,_,_,rfl,(⟨U.st,RLs.sub (S':=fun _=>True) rCg aD fun _ _=>trivial,⟨Fl.any aL,Fl.any aR,Fl.any aT,C.o32,C.c32,C.p32⟩⟩:RVp (fun _=>True) _ _ _ _ _ vr148)⟩:RVr (fun _=>True) _ _ vr148));ay.xm rfl fun _ ay=>?_
 have aC:=aQ.ux al
 have aD:=RLs.ext rCg bl al
 have ak:=version_good (sd:=[(115:UInt8),(101:UInt8),(101:UInt8),(100:UInt8)]) hk (n:=1) (by omega) (show checkE oneL=0 by decide) (show checkE []=0 from rfl) (by have h5:=(show oneL.length≤12 by decide);have h6:=(show ([]:List It).length≤12 by simp);omega)
 obtain ⟨vr272,hvr273⟩:∃ z,versionV ([(115:UInt8),(101:UInt8),(101:UInt8),(100:UInt8)]) 2 ((1:Nat):Int) 1 ([]) (diffL oneL ([]))=z:=⟨_,rfl⟩
 rw [hvr273] at ak
 refine ay.xC (c:=version_at (S:=fun _=>True) (some ⟨ar,0,none⟩) 1 ([(115:UInt8),(101:UInt8),(101:UInt8),(100:UInt8)]) 2 ((1:Nat):Int) (1) ([]) (diffL oneL ([])) _ (Fl.any aC) (RLs.sub (S':=fun _=>True) rIt (RLs.nil _:RLs RIt 2 (fun _=>False) _ _ _) fun _ _=>trivial) (RLs.sub (S':=fun _=>True) rCg aD fun _ _=>trivial) (show ∀ x∈([]:List It),x.data.length≤4294967296 from fun x hx=>absurd hx (by simp)) (by have h6:=(show ([]:List It).length≤12 by simp);omega) (diff_sm (show ∀ x∈oneL,x.data.length≤4294967296 by decide) (show ∀ x∈([]:List It),x.data.length≤4294967296 from fun x hx=>absurd hx (by simp))) (hG.ext eX)) (k:=?_)
 have al:=ak.1
 rw [hvr273,ak.1,show keyS ([(115:UInt8),(101:UInt8),(101:UInt8),(100:UInt8)]) 2 ((1:Nat):Int) 1 ([]) (diffL oneL ([]))=[(115:UInt8),(101:UInt8),(101:UInt8),(100:UInt8)] from if_pos al,show keyM ([(115:UInt8),(101:UInt8),(101:UInt8),(100:UInt8)]) 2 ((1:Nat):Int) 1 ([]) (diffL oneL ([]))=2 from if_pos al,show keyU ([(115:UInt8),(101:UInt8),(101:UInt8),(100:UInt8)]) 2 ((1:Nat):Int) 1 ([]) (diffL oneL ([]))=((1:Nat):Int)+1 from if_pos al]
 rintro _ aE ⟨al,al,al,p280,al,al,al,rfl,aM,al,Y,bP,bn⟩
 obtain ⟨rfl,hkk⟩:=bP rfl;obtain ⟨rfl,rfl,rfl⟩:=Value.slice.inj hkk.symm
 have hvc274:vr272.chs=diffL oneL ([]):=by rw [ak.2.1]
 obtain ⟨aW,ba,rfl,al,al⟩:=Fl.form Y.op
 obtain ⟨aX,bb,rfl,al,al⟩:=Fl.form Y.cl
 obtain ⟨aY,bc,rfl,al,al⟩:=Fl.form Y.path
 refine ⟨_,rfl,?_⟩;intro al al;have ar:=bn.size
 have ar:=RLs.ux rCg bl bn
 have aQ:RLs RCg 3 (Clip (fun z=>bq.heap.size≤z) aV) aE (vl am ((diffL oneL ([])).length) aq) vr272.chs:=by rw [hvc274];exact ar
 have aC:Fl (Clip (fun b=>au.heap.size≤b) aE) _ _ _ _ _:=Fl.subB Y.op (fun _ h1 h2=>⟨h2,h1⟩)
 have aD:Fl (Clip (fun b=>au.heap.size≤b) aE) _ _ _ _ _:=Fl.subB Y.cl (fun _ h1 h2=>⟨h2,h1⟩)
 have aL:Fl (Clip (fun b=>au.heap.size≤b) aE) _ _ _ _ _:=Fl.subB Y.path (fun _ h1 h2=>⟨h2,h1⟩)
 refine al.xm rfl<|Xv (ag ((vi vr272.no)::dg vr272.state [(vl am ((diffL oneL ([])).length) aq),(vi vr272.sg.index),(vl aW vr272.sg.op.length ba),(vl aX vr272.sg.cl.length bb),(vl aY vr272.sg.path.length bc)]))<|Xv (.agg #[(vl ac V aj),(vi 2),(vi (2:Nat))])<|Xv (vi 0) fun _ V=>V.xz vz 34 fun V V _ V ac ac ac aj=>V.xz [v0,(vi 0),(vi 0)] 24 fun V V _ V aj aj aj ar=>?_
 have al:=ac.ext ar
 refine V.xs rfl al (fun ac ar ac=>?_) (hk:=len_dig1 aM.st);have al:=ac.size
 have al:=aj.gn ac
 refine V.xs rfl al (fun ac ac aj=>have ac:=aj.size;V.xa rfl fun _ V=>wn bG<|have al:=V.k [0,1,2,3,4,5,6,7,8,9,10,11,12,13,15];wr fun V ay=>have ac:=bu.ug aj;al.xw (.agg (byteVals (pubF ([(115:UInt8),(101:UInt8),(101:UInt8),(100:UInt8)]) 2 0)).toArray) (fun F=>rb F rfl ac (hk:=byteVals_len (pubF_len _ _ _))) fun _ V=>V.xe (join_ok (pubF ([(115:UInt8),(101:UInt8),(101:UInt8),(100:UInt8)]) 2 0) _ (pubF_len _ _ _)) fun V V V _ V=>V.xm rfl<|Xv (ag (dg (pubF ([(115:UInt8),(101:UInt8),(101:UInt8),(100:UInt8)]) 2 0) [(vi 2),(vi 0),v0,v0]))<|Xv (vi 0) fun _ V=>V.xz fz 48 fun V V _ V aj aj aj al=>?_)
 refine V.xs rfl aj (fun aj au aj=>?_) (hk:=len_dig (pubF_len _ _ _));have al:=aj.size
 refine V.xa rfl fun _ V=>wn ay<|have al:=V.k [0,1,2,3,4,5,6,7,8,9,10,11,12,13,15,16,17];wr fun V ay=>have a3:=ac.ug aj;al.xw (.agg (byteVals (pubF ([(115:UInt8),(101:UInt8),(101:UInt8),(100:UInt8)]) 2 0)).toArray) (fun F=>rb F rfl a3 (hk:=byteVals_len (pubF_len _ _ _))) fun _ V=>V.xe (join_no (pubF ([(115:UInt8),(101:UInt8),(101:UInt8),(100:UInt8)]) 2 0) _ (pubF_len _ _ _)) fun V V V _ V=>V.xm rfl<|Xv (ag fz)<|Xv (vi 40) fun _ V=>V.xz fz 48 fun V V _ ac V V V aj=>ac.xs rfl V (fun G V V=>have aj:=V.size;ac.xa rfl fun _ ac=>wn ay<|have aj:=ac.k [0,1,2,3,4,5,6,7,8,9,10,11,12,13,15,16,17,19];wr fun ac bH=>have a4:=au.ug V;aj.xw (ag (dg (pubF ([(115:UInt8),(101:UInt8),(101:UInt8),(100:UInt8)]) 2 0) [(vi 2),(vi 0),v0,v0])) (fun F=>rb F rfl a4 (hk:=len_dig (pubF_len _ _ _))) fun _ ac=>have aj:=ar.ug V;ac.xw (ag ((vi vr272.no)::dg vr272.state [(vl am ((diffL oneL ([])).length) aq),(vi vr272.sg.index),(vl aW vr272.sg.op.length ba),(vl aX vr272.sg.cl.length bb),(vl aY vr272.sg.path.length bc)])) (fun F=>rb F rfl aj (hk:=len_dig1 aM.st)) fun _ ac=>have hD412:=duo_of hk (a:=oneL) (b:=[]) (by decide) rfl (by decide) hvr149 hvr273;have aj:=(RLs.ug rCg aQ V);have al:=(aC.ug V);have am:=(aD.ug V);have aq:=(aL.ug V);ac.xC (c:=recv_at (fun b=>b<G.heap.size) (pubF ([(115:UInt8),(101:UInt8),(101:UInt8),(100:UInt8)]) 2 0) 0 ([]) ([]) vr272 _ (pubF [115,101,101,100] 2 0) 2 0 ([]) ([vr272]) 0 hD412.early (pubF_len _ _ _) (RLs.sub (S':=fun b=>b<G.heap.size) rIt (RLs.nil _:RLs RIt 2 (fun _=>False) _ _ _) cb) (RLs.sub (S':=fun b=>b<G.heap.size) rVr (RLs.nil _:RLs RVr 38 (fun _=>False) _ _ _) cb) (⟨aM.st,(RLs.sub (S':=fun b=>b<G.heap.size) rCg aj cb),⟨Fl.sub (S':=fun b=>b<G.heap.size) al cb,Fl.sub (S':=fun b=>b<G.heap.size) am cb,Fl.sub (S':=fun b=>b<G.heap.size) aq cb,Y.o32,Y.c32,Y.p32⟩⟩:RVp (fun b=>b<G.heap.size) _ _ _ _ _ vr272) (show ∀ x∈([]:List It),x.data.length≤4294967296 from fun x hx=>absurd hx (by simp)) (fun v hv=>absurd hv (by simp)) (by rw [ak.2.1];exact diff_sm (show ∀ x∈oneL,x.data.length≤4294967296 by decide) (show ∀ x∈([]:List It),x.data.length≤4294967296 from fun x hx=>absurd hx (by simp))) (hG.ext eX)) (k:= ?_))
 rintro _ aF ⟨bv,bA,rfl,bh,hE422,V,bR⟩
 obtain ⟨aI,aU,rfl,V,V⟩:∃ A k,bv=.slice A 0 k∧0≤k∧k≤9223372036854775807:=RLs.form bh
 have bM:RLs RIt 2 (Clip (fun b=>b<G.heap.size∨G.heap.size≤b) aF) aF (vl aI 0 aU) ([]):=bh
 obtain ⟨av,az,rfl,V,V⟩:∃ A k,bA=.slice A 1 k∧1≤k∧k≤9223372036854775807:=RLs.form hE422
 have aj:RLs RVr 38 (Clip (fun b=>b<G.heap.size∨G.heap.size≤b) aF) aF (vl av 1 az) ([vr272]):=hE422
 refine ⟨_,rfl,?_⟩;intro G G;have V:=bR.size
 refine G.xm rfl<|Xv (ag (dg (pubF [115,101,101,100] 2 0) [(vi 2),(vi 0),(vl aI 0 aU),(vl av 1 az)]))<|Xv (vi 0) fun _ G=>G.xz fz 48 fun bd G _ V G G G Y=>?_
 refine V.xs rfl G (fun I a5 G=>?_) (hk:=len_dig (pubF_len _ _ _));have Y:=G.size
 refine V.xa rfl fun _ V=>wn bH<|have Y:=V.k [0,1,2,3,4,5,6,7,8,9,10,11,12,13,15,16,17,19,20,21];wr fun V bI=>Y.xw (ag (dg (pubF [115,101,101,100] 2 0) [(vi 2),(vi 0),(vl aI 0 aU),(vl av 1 az)])) (fun F=>rb F rfl a5 (hk:=len_dig (pubF_len _ _ _))) fun _ V=>have a7:=a2.ug G;V.xw (ag ((vi vr148.no)::dg vr148.state [(vl M ((diffL ([]) oneL).length) O),(vi vr148.sg.index),(vl Z vr148.sg.op.length ae),(vl aa vr148.sg.cl.length ah),(vl ab vr148.sg.path.length ai)])) (fun F=>rb F rfl a7 (hk:=len_dig1 U.st)) fun _ V=>have Y:=(RLs.ug rIt bM G);have ac:=(RLs.ug rVr aj G);have aj:=(RLs.ug rCg aS G);have al:=(aN.ug G);have am:=(aO.ug G);have aq:=(aP.ug G);V.xC (c:=recv_at (fun b=>b<I.heap.size) (pubF [115,101,101,100] 2 0) 0 ([]) ([vr272]) vr148 _ (pubF [115,101,101,100] 2 0) 2 2 ([]) ([]) 0 hD412.late (pubF_len _ _ _) (RLs.sub (S':=fun b=>b<I.heap.size) rIt Y cb) (RLs.sub (S':=fun b=>b<I.heap.size) rVr ac cb) (⟨U.st,(RLs.sub (S':=fun b=>b<I.heap.size) rCg aj cb),⟨Fl.sub (S':=fun b=>b<I.heap.size) al cb,Fl.sub (S':=fun b=>b<I.heap.size) am cb,Fl.sub (S':=fun b=>b<I.heap.size) aq cb,C.o32,C.c32,C.p32⟩⟩:RVp (fun b=>b<I.heap.size) _ _ _ _ _ vr148) (show ∀ x∈([]:List It),x.data.length≤4294967296 from fun x hx=>absurd hx (by simp)) (fun v hv=>by rw [List.mem_singleton.1 hv];exact (by rw [ak.2.1];exact diff_sm (show ∀ x∈oneL,x.data.length≤4294967296 by decide) (show ∀ x∈([]:List It),x.data.length≤4294967296 from fun x hx=>absurd hx (by simp)))) (by rw [D.2.1];exact diff_sm (show ∀ x∈([]:List It),x.data.length≤4294967296 from fun x hx=>absurd hx (by simp)) (show ∀ x∈oneL,x.data.length≤4294967296 by decide)) (hG.ext eX)) (k:= ?_)
 rintro _ aG ⟨bw,bB,rfl,bi,hE475,G,bS⟩
 obtain ⟨aw,aA,rfl,G,G⟩:∃ A k,bw=.slice A 0 k∧0≤k∧k≤9223372036854775807:=RLs.form bi
 have bN:RLs RIt 2 (Clip (fun b=>b<I.heap.size∨I.heap.size≤b) aG) aG (vl aw 0 aA) ([]):=bi
 obtain ⟨ax,aB,rfl,G,G⟩:∃ A k,bB=.slice A 0 k∧0≤k∧k≤9223372036854775807:=RLs.form hE475
 have Y:RLs RVr 38 (Clip (fun b=>b<I.heap.size∨I.heap.size≤b) aG) aG (vl ax 0 aB) ([]):=hE475
 refine ⟨_,rfl,?_⟩;intro G G;have I:=bS.size
 refine G.xm rfl<|Xv (ag (dg (pubF [115,101,101,100] 2 0) [(vi 2),(vi 2),(vl aw 0 aA),(vl ax 0 aB)]))<|Xv (vi 0) fun _ G=>G.xz fz 48 fun aK G _ I G G G V=>?_
 refine I.xs rfl G (fun J a8 G=>?_) (hk:=len_dig (pubF_len _ _ _));have V:=G.size
 refine I.xa rfl fun _ I=>wn bI<|have V:=I.k [0,1,2,3,4,5,6,7,8,9,10,11,12,13,15,16,17,19,20,21,22,23];wr fun I bJ=>V.xw (ag (dg (pubF [115,101,101,100] 2 0) [(vi 2),(vi 2),(vl aw 0 aA),(vl ax 0 aB)])) (fun F=>rb F rfl a8 (hk:=len_dig (pubF_len _ _ _))) fun _ I=>have a9:=a7.ug G;I.xw (ag ((vi vr148.no)::dg vr148.state [(vl M ((diffL ([]) oneL).length) O),(vi vr148.sg.index),(vl Z vr148.sg.op.length ae),(vl aa vr148.sg.cl.length ah),(vl ab vr148.sg.path.length ai)])) (fun F=>rb F rfl a9 (hk:=len_dig1 U.st)) fun _ I=>have M:=(RLs.ug rIt bN G);have O:=(RLs.ug rVr Y G);have V:=(RLs.ug rCg aS G);have Y:=(aN.ug G);have Z:=(aO.ug G);have aa:=(aP.ug G);I.xC (c:=recv_at (fun b=>b<J.heap.size) (pubF [115,101,101,100] 2 0) 2 ([]) ([]) vr148 _ zero32 0 0 ([]) ([]) 420 hD412.again2.1 (pubF_len _ _ _) (RLs.sub (S':=fun b=>b<J.heap.size) rIt M cb) (RLs.sub (S':=fun b=>b<J.heap.size) rVr O cb) (⟨U.st,(RLs.sub (S':=fun b=>b<J.heap.size) rCg V cb),⟨Fl.sub (S':=fun b=>b<J.heap.size) Y cb,Fl.sub (S':=fun b=>b<J.heap.size) Z cb,Fl.sub (S':=fun b=>b<J.heap.size) aa cb,C.o32,C.c32,C.p32⟩⟩:RVp (fun b=>b<J.heap.size) _ _ _ _ _ vr148) (show ∀ x∈([]:List It),x.data.length≤4294967296 from fun x hx=>absurd hx (by simp)) (fun v hv=>absurd hv (by simp)) (by rw [D.2.1];exact diff_sm (show ∀ x∈([]:List It),x.data.length≤4294967296 from fun x hx=>absurd hx (by simp)) (show ∀ x∈oneL,x.data.length≤4294967296 by decide)) (hG.ext eX)) (k:= ?_)
 rintro _ aH ⟨bx,bC,rfl,bj,hE528,C,bT⟩
 obtain ⟨aZ,bo,rfl,C,C⟩:∃ A k,bx=.slice A 0 k∧0≤k∧k≤9223372036854775807:=RLs.form bj
 have C:RLs RIt 2 (Clip (fun b=>b<J.heap.size∨J.heap.size≤b) aH) aH (vl aZ 0 bo) ([]):=bj
 obtain ⟨a0,bp,rfl,C,C⟩:∃ A k,bC=.slice A 0 k∧0≤k∧k≤9223372036854775807:=RLs.form hE528
 have C:RLs RVr 38 (Clip (fun b=>b<J.heap.size∨J.heap.size≤b) aH) aH (vl a0 0 bp) ([]):=hE528
 refine ⟨_,rfl,?_⟩;intro C C;have G:=bT.size
 refine C.xm rfl<|Xv (ag (dg zero32 [(vi 0),(vi 0),(vl aZ 0 bo),(vl a0 0 bp)]))<|Xv (vi 420) fun _ C=>C.xz fz 48 fun C C _ G C C C I=>G.xs rfl C (fun C C C=>have I:=C.size;G.xa rfl fun _ G=>wn bJ<|have I:=G.k [0,1,2,3,4,5,6,7,8,9,10,11,12,13,15,16,17,19,20,21,22,23,25];wr fun G J=>I.xm rfl<|Xv (.bool true)<|Xm rfl<|Xg (vi (pubE ([(115:UInt8),(101:UInt8),(101:UInt8),(100:UInt8)]) 2 0))<|Xg (vd (((pubE ([(115:UInt8),(101:UInt8),(101:UInt8),(100:UInt8)]) 2 0):Int)=(0:Int)))<|Xv (vd (((pubE ([(115:UInt8),(101:UInt8),(101:UInt8),(100:UInt8)]) 2 0):Int)=(0:Int)))<|Xm rfl fun _ G=>qg 7 (vi 0) G ((decide_eq_true (pub_u hk (by decide) (by decide)).2):decide (((pubE ([(115:UInt8),(101:UInt8),(101:UInt8),(100:UInt8)]) 2 0):Int)=(0:Int))=true) (rn_move (G.get rfl)) fun _ G=>?_)
 refine qg 8 (.bool true) G ((decide_eq_true (pub_u hk (by decide) (by decide)).2):decide (((pubE ([(115:UInt8),(101:UInt8),(101:UInt8),(100:UInt8)]) 2 0):Int)=(0:Int))=true) (rn_eql' (G.get rfl) rfl (by decide)) fun _ G=>?_
 refine G.xw (.bool true) (fun F=>rn_pickT (c_true F rfl ((decide_eq_true (pub_u hk (by decide) (by decide)).2):decide (((pubE ([(115:UInt8),(101:UInt8),(101:UInt8),(100:UInt8)]) 2 0):Int)=(0:Int))=true)) (F.get rfl))<|Xm rfl<|Xg (vi 0)<|Xg (.bool true)<|Xv (.bool true)<|Xm rfl<|Xg (vp aJ) fun _ G=>have I:=a9.ug C;G.xgw (vi vr148.no) (fun F=>rl F rfl ((I.rule.1 0).trans rfl))<|Xg (vd ((vr148.no:Int)=(1:Int)))<|Xv (vd ((vr148.no:Int)=(1:Int)))<|Xm rfl fun _ G=>qg 20 (vq aJ 34) G ((decide_eq_true (congrArg Vr.no D.2.1)):decide ((vr148.no:Int)=(1:Int))=true) (rn_field uu34 rfl (by kernel_rfl) (G.get rfl) rfl) fun _ G=>?_
 refine qg 21 (vq aJ 34) G ((decide_eq_true (congrArg Vr.no D.2.1)):decide ((vr148.no:Int)=(1:Int))=true) (rn_field uu32 rfl (by kernel_rfl) (G.get rfl) rfl) fun _ G=>?_
 refine qg 22 (vi vr148.sg.index) G ((decide_eq_true (congrArg Vr.no D.2.1)):decide ((vr148.no:Int)=(1:Int))=true) (rl G rfl ((I.rule.1 34).trans ((at_app (k:=1) (byteVals_len U.st)).trans rfl))) fun _ G=>?_
 refine qg 23 (vd ((vr148.sg.index:Int)=(0:Int))) G ((decide_eq_true (congrArg Vr.no D.2.1)):decide ((vr148.no:Int)=(1:Int))=true) (rn_eql (G.get rfl) rfl) fun _ G=>?_
 refine G.xw (vd ((vr148.sg.index:Int)=(0:Int))) (fun F=>rn_pickT (c_true F rfl ((decide_eq_true (congrArg Vr.no D.2.1)):decide ((vr148.no:Int)=(1:Int))=true)) (F.get rfl))<|Xm rfl fun _ G=>qg 26 (vi 0) G ((decide_eq_true (version_idx hk (n:=0) (by decide) D.2.1)):decide ((vr148.sg.index:Int)=(0:Int))=true) (rn_move (G.get rfl)) fun _ G=>?_
 refine qg 27 (.bool true) G ((decide_eq_true (version_idx hk (n:=0) (by decide) D.2.1)):decide ((vr148.sg.index:Int)=(0:Int))=true) (rn_eql' (G.get rfl) rfl (by decide)) fun _ G=>?_
 refine G.xw (.bool true) (fun F=>rn_pickT (c_true F rfl ((decide_eq_true (version_idx hk (n:=0) (by decide) D.2.1)):decide ((vr148.sg.index:Int)=(0:Int))=true)) (F.get rfl))<|Xm rfl<|Xg (vi 0)<|Xg (.bool true)<|Xv (.bool true)<|Xm rfl<|Xg (vi 0)<|Xg (.bool true)<|Xv (.bool true)<|Xm rfl<|Xg (vi 40)<|Xg (.bool true)<|Xv (.bool true)<|Xm rfl fun _ D=>have G:=a4.ug C;D.xgw (ag (dg (pubF ([(115:UInt8),(101:UInt8),(101:UInt8),(100:UInt8)]) 2 0) [(vi 2),(vi 0),v0,v0])) (fun F=>rb F rfl G (hk:=len_dig (pubF_len _ _ _))) fun _ C=>wpl_op (i:=43) rfl (C.gE (c:=wants_fo (pubF ([(115:UInt8),(101:UInt8),(101:UInt8),(100:UInt8)]) 2 0) 0 ([]) ([]) _ 1 rfl (pubF_len _ _ _) (RLs.nil _:RLs RIt 2 (fun _=>False) _ _ _) (RLs.nil _:RLs RVr 38 (fun _=>False) _ _ _) (by omega)) (k:=fun C D C _ C=>C.xg (.bool true)<|Xv (.bool true)<|Xa rfl fun _ C=>wn J<|have G:=C.k [0,1,2,3,4,5,6,7,8,9,10,11,12,13,15,16,17,19,20,21,22,23,25,26];wr fun C I=>G.xm rfl<|Xm rfl<|Xg (vi 0)<|Xg (.bool true)<|Xv (.bool true)<|Xm rfl<|Xg (vq bd 33) fun _ G=>have C:=a5.ux D;G.xgw (vi 0) (fun F=>rl F rfl ((C.rule.1 33).trans ((at_app (k:=1) (byteVals_len (pubF_len _ _ _))).trans rfl)))<|Xg (.bool true)<|Xv (.bool true)<|Xm rfl<|Xg (vq bd 35)<|Xgw (vl av 1 az) (fun F=>rl F rfl ((C.rule.1 35).trans ((at_app (k:=3) (byteVals_len (pubF_len _ _ _))).trans rfl)))<|Xg (vi 1)<|Xg (.bool true)<|Xv (.bool true)<|Xm rfl<|Xg (vi 0)<|Xg (.bool true)<|Xv (.bool true)<|Xm rfl<|Xg (vq aK 33) fun _ G=>have C:=a8.ux D;G.xgw (vi 2) (fun F=>rl F rfl ((C.rule.1 33).trans ((at_app (k:=1) (byteVals_len (pubF_len _ _ _))).trans rfl)))<|Xg (.bool true)<|Xv (.bool true)<|Xm rfl<|Xg (vq aK 34)<|Xgw (vl aw 0 aA) (fun F=>rl F rfl ((C.rule.1 34).trans ((at_app (k:=2) (byteVals_len (pubF_len _ _ _))).trans rfl)))<|Xg (vi 0)<|Xg (.bool true)<|Xv (.bool true)<|Xm rfl<|Xg (vq aK 35)<|Xgw (vl ax 0 aB) (fun F=>rl F rfl ((C.rule.1 35).trans ((at_app (k:=3) (byteVals_len (pubF_len _ _ _))).trans rfl)))<|Xg (vi 0)<|Xg (.bool true)<|Xv (.bool true)<|Xm rfl<|Xg (vi 420)<|Xg (.bool true)<|Xv (.bool true)<|Xm rfl fun _ C=>have G:=a3.ux D;C.xgw (.agg (byteVals (pubF ([(115:UInt8),(101:UInt8),(101:UInt8),(100:UInt8)]) 2 0)).toArray) (fun F=>rb F rfl G (hk:=byteVals_len (pubF_len _ _ _)))<|Xgw (ag vz) (fun F=>rn_build (parts0 ) (by kernel_rfl)) fun _ C=>wpl_op (i:=44) rfl (C.gE (c:=verify_nil (pubF ([(115:UInt8),(101:UInt8),(101:UInt8),(100:UInt8)]) 2 0) _ (pubF_len _ _ _) (hG.ext eX)) (k:=fun C C C _ C=>C.xg (.bool true)<|Xv (.bool true)<|Xa rfl fun _ C=>wn I ?_))))
 have D:=C.k [0,1,2,3,4,5,6,7,8,9,10,11,12,13,15,16,17,19,20,21,22,23,25,26]
 exact wp_ret<|ret1 D rfl rfl<|⟨rfl,eX⟩
end
theorem few_sm {l:List It} (h:fewI l):∀ x∈l,x.data.length≤4294967296:=fun x hx=>by have:=(h.2 x hx).2;omega
theorem fewv_sm {v:Vr} (h:fewV v):∀ x∈v.chs,x.data.length≤4294967296:=fun x hx=>by have:=(h.1.1.1.2 x hx).2;omega
theorem fewc_sm {l:List Cg} (h:fewC l):∀ x∈l,x.data.length≤4294967296:=fun x hx=>by have:=(h.2 x hx).2;omega
theorem samek_refl {v u:Value} {n m:Nat} {a:List UInt8} {m1 u1:Int} (w:World) (ha:Fl S w 1 v n (byteVals a)) (hb:Fl S2 w 1 u m (byteVals a)):Calls Tryz.prog 13 #[.agg #[v,.int .i64 m1,.int .i64 u1],.agg #[u,.int .i64 m1,.int .i64 u1]] w (fun e w'=>e=.returned (.bool true)∧Ext w w'):=by
 have h:=samek_at a a m1 u1 m1 u1 w ha hb
 rwa [show sameK a a m1 u1 m1 u1=true by simp [sameK]] at h
theorem versionspec_any (A:Option Addr) (c:Nat) (sd:List UInt8) (many used:Int) (L:Option Addr) (nl ld:Nat) (B:Option Addr) (d:Nat) (a:List It) (C:Option Addr) (e:Nat) (l:List Cg) (vC:Option Addr) (vcc:Nat) (vO:Option Addr) (voc:Nat) (vE:Option Addr) (vec:Nat) (vP:Option Addr) (vpc:Nat) (v:Vr) (pub:List UInt8) (w:World) (hf:Fl S w 1 (vl A sd.length c) sd.length (byteVals sd)) (h1:RLs RIt 2 S w (vl B a.length d) a) (h2:RLs RCg 3 S w (vl C l.length e) l) (hv:RVp S w (vl vC v.chs.length vcc) (vl vO v.sg.op.length voc) (vl vE v.sg.cl.length vec) (vl vP v.sg.path.length vpc) v) (hp:pub.length=32) (hG:Glob w) :
  Calls Tryz.prog 3 #[.agg #[.slice A sd.length c,.int .i64 many,.int .i64 used],.slice L nl ld,.slice B a.length d,.slice C l.length e,(ag ((vi v.no)::dg v.state [(vl vC v.chs.length vcc),(vi v.sg.index),(vl vO v.sg.op.length voc),(vl vE v.sg.cl.length vec),(vl vP v.sg.path.length vpc)])),.agg (byteVals pub).toArray] w (fun en w'=>en=.returned (.bool true)∧Ext w w'):=by
 have hc:Fl (Clip S w) w 1 (vl A sd.length c) sd.length (byteVals sd):=hf.clip
 have hcc:=(Fl.cel hc).2.1
 have h1c:RLs RIt 2 (Clip S w) w (vl B a.length d) a:=RLs.clip rIt h1
 obtain ⟨-,h1ck,h1cm⟩:=RLs.at h1
 have h2c:RLs RCg 3 (Clip S w) w (vl C l.length e) l:=RLs.clip rCg h2
 obtain ⟨-,h2ck,h2cm⟩:=RLs.at h2
 have hvc:=RVp.subB (S':=Clip S w) hv (fun _ hb hs=>⟨hs,hb⟩)
 obtain ⟨-,hvc1,hvc2⟩:=RLs.at hvc.chs;have hvc3:=(Fl.cel hvc.sg.op).2.1;have hvc4:=(Fl.cel hvc.sg.cl).2.1;have hvc5:=(Fl.cel hvc.sg.path).2.1
 refine calls_enter Tryz.func3 rfl rfl rfl fun _ J=>wr fun K1 aP=>J.xb rfl fun g2 J _ J z6 z7 b4 aS=>J.xb rfl fun aK J _ J aS aS aV aS=>J.xb rfl fun aL J _ J aS aS aX aS=>J.xv (.bool false) fun _ J=>wn aP<|wp_seq_k fun aP aP=>wr fun aS a0=>J.xE (c:=sane42_any _ (hG.ext eX)) (k:=fun J aS J _ J=>J.xw (.bool false) (fun F=>rn_not' (F.get rfl) rfl) fun _ J=>wn a0<|J.cf<|wp_skip<|aP _ _<|wp_seq_k fun aP a8=>wr fun aP I=>have aP:=b4.ux aS;J.xw (.agg #[(vl A sd.length c),(vi many),(vi used)]) (fun F=>rb F rfl aP) fun _ J=>have a0:=(hc.ux aS);J.xe (few_any A none c 0 0 sd many used _) fun J a0 J _ J=>J.xw (.bool (!(decide ((many≤2∧(sd.length:Int)≤100)∧((0:Nat):Int)≤300)))) (fun F=>rn_not' (F.get rfl) rfl)<|Xm rfl fun _ Y=>?_)
 by_cases J:(many≤2∧(sd.length:Int)≤100)∧((0:Nat):Int)≤300
 ·refine Y.xg (vl L nl ld)<|Xg (vi nl)<|Xg (vd ((4:Int)<(nl:Int)))<|Xv (vd ((4:Int)<(nl:Int)))<|Xm rfl<|fun _ J=>?_
  by_cases aS:(4:Int)<(nl:Int)
  ·exact J.xu<|Xu<|Xu<|Xv (.bool true)<|Xm rfl<|Xu<|Xu<|Xu<|Xv (.bool true)<|Xm rfl<|Xu<|Xu<|Xu<|Xv (.bool true) fun _ G=>wn I<|have D:=G.k [0,1,2,3,4,5,6,10,11,12,20,43];D.ct<|wr fun G G=>D.xv (.bool true) fun _ D=>wn G<|wp_ret<|ret_then<|ret1 D rfl rfl<|⟨rfl,eX⟩
  refine J.xg (vl B a.length d) fun _ J=>have aS:=(RLs.ux rIt h1c a0);wpl_op (i:=10) rfl (J.gE (c:=few40_at (v:=(vl B a.length d)) a _ aS) (k:=fun J a0 J _ J=>J.xgw (.bool (!(decide (fewI a)))) (fun F=>rn_not' (F.get rfl) rfl)<|Xv (.bool (!(decide (fewI a))))<|Xm rfl fun _ O=>?_))
  by_cases J:fewI a
  ·have hfi:=J;have hfi1:=hfi.1;have hsi:=few_sm hfi
   refine O.xg (vl C l.length e) fun _ J=>have aS:=(RLs.ux rCg h2c a0);wpl_op (i:=15) rfl (J.gE (c:=fewc_at (v:=(vl C l.length e)) l _ aS) (k:=fun J J aS _ aS=>aS.xgw (.bool (!(decide (fewC l)))) (fun F=>rn_not' (F.get rfl) rfl)<|Xv (.bool (!(decide (fewC l))))<|Xm rfl fun _ U=>?_))
   by_cases aS:fewC l
   ·have hdl:=fewc_sm aS
    have aQ:=aV.ux J
    refine U.xgw (ag ((vi v.no)::dg v.state [(vl vC v.chs.length vcc),(vi v.sg.index),(vl vO v.sg.op.length voc),(vl vE v.sg.cl.length vec),(vl vP v.sg.path.length vpc)])) (fun F=>rb F rfl aQ (hk:=len_dig1 hvc.st)) fun _ aS=>have aV:=(RLs.ux rCg hvc.chs J);have a0:=(hvc.sg.op.ux J);have a2:=(hvc.sg.cl.ux J);have a3:=(hvc.sg.path.ux J);wpl_op (i:=20) rfl (aS.gE (c:=fewv_at v _ (⟨hvc.st,RLs.sub (S':=fun _=>True) rCg aV fun _ _=>trivial,⟨Fl.any a0,Fl.any a2,Fl.any a3,hvc.sg.o32,hvc.sg.c32,hvc.sg.p32⟩⟩:RVp (fun _=>True) _ _ _ _ _ v)) (k:=fun aT J aS _ aS=>aS.xgw (.bool (!(decide (fewV v)))) (fun F=>rn_not' (F.get rfl) rfl)<|Xv (.bool (!(decide (fewV v)))) fun _ aS=>wn I ?_))
    have M:=aS.k [0,1,2,3,4,5,6,10,11,12,20,43]
    by_cases a1:fewV v
    ·refine M.cf<|wp_skip<|a8 _ _<|wr fun aS a4=>have aO:=aP.ux J;M.xw (.agg #[(vl A sd.length c),(vi many),(vi used)]) (fun F=>rb F rfl aO)<|Xm rfl<|Xm rfl<|Xm rfl fun _ aP=>have aS:=(hc.ux J);have aV:=(RLs.ux rIt h1c J);have a0:=(RLs.ux rCg h2c J);aP.xC (c:=version_at (n:=sd.length) L ld sd many used nl a l _ aS aV a0 hsi (by omega) hdl (hG.ext eX)) (k:= ?_)
     obtain ⟨va,hva⟩:∃ z,z=versionV sd many used nl a l:=⟨_,rfl⟩;obtain ⟨kS,hkS⟩:∃ z,z=keyS sd many used nl a l:=⟨_,rfl⟩;obtain ⟨kM,hkM⟩:∃ z,z=keyM sd many used nl a l:=⟨_,rfl⟩;obtain ⟨kU,hkU⟩:∃ z,z=keyU sd many used nl a l:=⟨_,rfl⟩;obtain ⟨D,he9⟩:∃ z,z=versionE sd many used nl a l:=⟨_,rfl⟩
     simp only [← hva,← hkS,← hkM,← hkU,← he9]
     rintro _ ac ⟨J,J,J,J,ah,aa,ak,rfl,a9,a5,-,-,bb⟩
     have Z:=RVp.subB (S':=(Clip (Fr (Clip S w) aT) ac)) a9 (fun b hl hb=>⟨hb,hl⟩)
     obtain ⟨am,az,rfl,J,J⟩:=RLs.form Z.chs
     obtain ⟨aq,aA,rfl,J,J⟩:=Fl.form Z.sg.op
     obtain ⟨ar,aB,rfl,J,J⟩:=Fl.form Z.sg.cl
     obtain ⟨au,aC,rfl,J,J⟩:=Fl.form Z.sg.path
     have aZ:Fl (Clip (Fr (Clip S w) aT) ac) ac 1 (vl ah aa ak) aa (byteVals kS):=Fl.clip a5
     have J:=(Fl.cel aZ).2.1
     refine ⟨_,rfl,?_⟩;intro J J;have aP:=bb.size
     refine J.xm rfl<|Xv (ag ((vi va.no)::dg va.state [(vl am va.chs.length az),(vi va.sg.index),(vl aq va.sg.op.length aA),(vl ar va.sg.cl.length aB),(vl au va.sg.path.length aC)]))<|Xv (.agg #[(vl ah aa ak),(vi kM),(vi kU)])<|Xv (vi D) fun _ J=>J.xz vz 34 fun aM J _ J aP aP aP aJ=>J.xz [v0,(vi 0),(vi 0)] 24 fun aN J _ J aS aS aS aH=>?_
     have aT:=aP.ext aH
     refine J.xs rfl aT (fun aP aW aj=>?_) (hk:=len_dig1 Z.st);have aP:=aj.size
     have aP:=aS.gn aj
     refine J.xs rfl aP (fun aU aY V=>have aP:=V.size;J.xa rfl fun _ J=>wn a4<|have aP:=J.k [0,1,2,3,4,5,6,10,11,12,20,43,13,14,15];wr fun J a6=>have aR:=aO.ug V;aP.xw (.agg #[(vl A sd.length c),(vi many),(vi used)]) (fun F=>rb F rfl aR)<|Xm rfl<|Xm rfl<|Xm rfl fun _ J=>have aO:=(hc.ug V);have aP:=(RLs.ug rIt h1c V);have aS:=(RLs.ug rCg h2c V);J.xC (c:=rversion_at (n:=sd.length) L ld sd many used nl a l _ aO aP aS hsi (by omega) hdl) (k:= ?_))
     simp only [← hva,← hkS,← hkM,← hkU,← he9]
     rintro _ ae ⟨J,J,J,J,ai,ab,al,rfl,ba,a7,aI⟩
     have G:=RVp.subB (S':=(Clip (Fr (Clip S w) aU) ae)) ba (fun b hl hb=>⟨hb,hl⟩)
     obtain ⟨av,aD,rfl,J,J⟩:=RLs.form G.chs
     obtain ⟨aw,aE,rfl,J,J⟩:=Fl.form G.sg.op
     obtain ⟨ax,aF,rfl,J,J⟩:=Fl.form G.sg.cl
     obtain ⟨ay,aG,rfl,J,J⟩:=Fl.form G.sg.path
     have a0:Fl (Clip (Fr (Clip S w) aU) ae) ae 1 (vl ai ab al) ab (byteVals kS):=Fl.clip a7
     have I:=(Fl.cel a0).2.1
     refine ⟨_,rfl,?_⟩;intro I I;have J:=aI.size
     refine I.xm rfl<|Xv (ag ((vi va.no)::dg va.state [(vl av va.chs.length aD),(vi va.sg.index),(vl aw va.sg.op.length aE),(vl ax va.sg.cl.length aF),(vl ay va.sg.path.length aG)]))<|Xv (.agg #[(vl ai ab al),(vi kM),(vi kU)])<|Xv (vi D) fun _ I=>I.xz vz 34 fun aO I _ I J J J Y=>I.xz [v0,(vi 0),(vi 0)] 24 fun aP I _ I M M O U=>?_
     have M:=J.ext U
     refine I.xs rfl M (fun J aU M=>?_) (hk:=len_dig1 G.st);have J:=M.size
     have J:=O.gn M
     refine I.xs rfl J (fun J a3 O=>have J:=O.size;I.xa rfl fun _ I=>wn a6<|have a2:=I.k [0,1,2,3,4,5,6,10,11,12,20,43,13,14,15,16,17,18];wp_seq_k fun I a8=>sX (fun J W=>Ext J W∧Blk W aM 34 ((vi va.no)::dg va.state [(vl am va.chs.length az),(vi va.sg.index),(vl aq va.sg.op.length aA),(vl ar va.sg.cl.length aB),(vl au va.sg.path.length aC)])∧Blk W aO 34 ((vi va.no)::dg va.state [(vl av va.chs.length aD),(vi va.sg.index),(vl aw va.sg.op.length aE),(vl ax va.sg.cl.length aF),(vl ay va.sg.path.length aG)])∧Blk W aN 24 [(vl ah aa ak),(vi kM),(vi kU)]∧Blk W aP 24 [(vl ai ab al),(vi kM),(vi kU)]∧Blk W aL 29 (byteVals pub)∧Blk W g2 24 [(vl A sd.length c),(vi many),(vi used)]∧Blk W aK 34 ((vi v.no)::dg v.state [(vl vC v.chs.length vcc),(vi v.sg.index),(vl vO v.sg.op.length voc),(vl vE v.sg.cl.length vec),(vl vP v.sg.path.length vpc)])) (fun i=>false) 27 fun J I aS=>have aS:=aW.ux I;have aT:=aU.ux I;have aU:=aY.ux I;have aV:=(a3.ext I);have aW:=aX.ux I;have aX:=aR.ux I;have aY:=aQ.ux I;have aQ:Ext J J∧Blk J aM 34 ((vi va.no)::dg va.state [(vl am va.chs.length az),(vi va.sg.index),(vl aq va.sg.op.length aA),(vl ar va.sg.cl.length aB),(vl au va.sg.path.length aC)])∧Blk J aO 34 ((vi va.no)::dg va.state [(vl av va.chs.length aD),(vi va.sg.index),(vl aw va.sg.op.length aE),(vl ax va.sg.cl.length aF),(vl ay va.sg.path.length aG)])∧Blk J aN 24 [(vl ah aa ak),(vi kM),(vi kU)]∧Blk J aP 24 [(vl ai ab al),(vi kM),(vi kU)]∧Blk J aL 29 (byteVals pub)∧Blk J g2 24 [(vl A sd.length c),(vi many),(vi used)]∧Blk J aK 34 ((vi v.no)::dg v.state [(vl vC v.chs.length vcc),(vi v.sg.index),(vl vO v.sg.op.length voc),(vl vE v.sg.cl.length vec),(vl vP v.sg.path.length vpc)]):=⟨(Ext.refl J),aS,aT,aU,aV,aW,aX,aY⟩;a2.ys 0 (ag ((vi va.no)::dg va.state [(vl am va.chs.length az),(vi va.sg.index),(vl aq va.sg.op.length aA),(vl ar va.sg.cl.length aB),(vl au va.sg.path.length aC)])) rfl aQ (fun F W hW=>rb F rfl hW.2.1 (hk:=len_dig1 G.st))<|Ys 1 (ag ((vi va.no)::dg va.state [(vl av va.chs.length aD),(vi va.sg.index),(vl aw va.sg.op.length aE),(vl ax va.sg.cl.length aF),(vl ay va.sg.path.length aG)])) rfl aQ (fun F W hW=>rb F rfl hW.2.2.1 (hk:=len_dig1 G.st)) fun _ aQ=>ao 2 rfl ?_)
     have aR:=RLs.pres rCg Z.chs (((((((((((Pres.refl ac).ext aJ).ext aH).grownN aj (fun h=>by first | (simp only [Clip,Fr] at h;omega) | (simp only [Clip] at h;omega))).grownN V (fun h=>by first | (simp only [Clip,Fr] at h;omega) | (simp only [Clip] at h;omega))).ext aI).ext Y).ext U).grownN M (fun h=>by first | (simp only [Clip,Fr] at h;omega) | (simp only [Clip] at h;omega))).grownN O (fun h=>by first | (simp only [Clip,Fr] at h;omega) | (simp only [Clip] at h;omega))).ext I)
     have a2:=Z.sg.op.pres (((((((((((Pres.refl ac).ext aJ).ext aH).grownN aj (fun h=>by first | (simp only [Clip,Fr] at h;omega) | (simp only [Clip] at h;omega))).grownN V (fun h=>by first | (simp only [Clip,Fr] at h;omega) | (simp only [Clip] at h;omega))).ext aI).ext Y).ext U).grownN M (fun h=>by first | (simp only [Clip,Fr] at h;omega) | (simp only [Clip] at h;omega))).grownN O (fun h=>by first | (simp only [Clip,Fr] at h;omega) | (simp only [Clip] at h;omega))).ext I)
     have a3:=Z.sg.cl.pres (((((((((((Pres.refl ac).ext aJ).ext aH).grownN aj (fun h=>by first | (simp only [Clip,Fr] at h;omega) | (simp only [Clip] at h;omega))).grownN V (fun h=>by first | (simp only [Clip,Fr] at h;omega) | (simp only [Clip] at h;omega))).ext aI).ext Y).ext U).grownN M (fun h=>by first | (simp only [Clip,Fr] at h;omega) | (simp only [Clip] at h;omega))).grownN O (fun h=>by first | (simp only [Clip,Fr] at h;omega) | (simp only [Clip] at h;omega))).ext I)
     have a4:=Z.sg.path.pres (((((((((((Pres.refl ac).ext aJ).ext aH).grownN aj (fun h=>by first | (simp only [Clip,Fr] at h;omega) | (simp only [Clip] at h;omega))).grownN V (fun h=>by first | (simp only [Clip,Fr] at h;omega) | (simp only [Clip] at h;omega))).ext aI).ext Y).ext U).grownN M (fun h=>by first | (simp only [Clip,Fr] at h;omega) | (simp only [Clip] at h;omega))).grownN O (fun h=>by first | (simp only [Clip,Fr] at h;omega) | (simp only [Clip] at h;omega))).ext I)
     have Z:=RLs.pres rCg G.chs ((((((Pres.refl ae).ext Y).ext U).grownN M (fun h=>by first | (simp only [Clip,Fr] at h;omega) | (simp only [Clip] at h;omega))).grownN O (fun h=>by first | (simp only [Clip,Fr] at h;omega) | (simp only [Clip] at h;omega))).ext I)
     have a5:=G.sg.op.pres ((((((Pres.refl ae).ext Y).ext U).grownN M (fun h=>by first | (simp only [Clip,Fr] at h;omega) | (simp only [Clip] at h;omega))).grownN O (fun h=>by first | (simp only [Clip,Fr] at h;omega) | (simp only [Clip] at h;omega))).ext I)
     have a6:=G.sg.cl.pres ((((((Pres.refl ae).ext Y).ext U).grownN M (fun h=>by first | (simp only [Clip,Fr] at h;omega) | (simp only [Clip] at h;omega))).grownN O (fun h=>by first | (simp only [Clip,Fr] at h;omega) | (simp only [Clip] at h;omega))).ext I)
     have a7:=G.sg.path.pres ((((((Pres.refl ae).ext Y).ext U).grownN M (fun h=>by first | (simp only [Clip,Fr] at h;omega) | (simp only [Clip] at h;omega))).grownN O (fun h=>by first | (simp only [Clip,Fr] at h;omega) | (simp only [Clip] at h;omega))).ext I)
     refine aQ.oe (samev_at va _ (⟨G.st,RLs.sub (S':=fun _=>True) rCg aR fun _ _=>trivial,⟨Fl.any a2,Fl.any a3,Fl.any a4,G.sg.o32,G.sg.c32,G.sg.p32⟩⟩:RVp (fun _=>True) _ _ _ _ _ va) (⟨G.st,RLs.sub (S':=fun _=>True) rCg Z fun _ _=>trivial,⟨Fl.any a5,Fl.any a6,Fl.any a7,G.sg.o32,G.sg.c32,G.sg.p32⟩⟩:RVp (fun _=>True) _ _ _ _ _ va)) fun Z G aQ _ a2=>?_
     have aQ:=aS.ext G
     have aR:=aT.ext G
     have aS:=aU.ext G
     have aT:=aV.ext G
     have aU:=aW.ext G
     have aV:=aX.ext G
     have aW:=aY.ext G
     refine ⟨fun _ _=>⟨eX,aQ,aR,aS,aT,aU,aV,aW⟩,?_⟩
     refine a2.ym 3 rfl fun _ aY=>have aX:Ext J Z∧Blk Z aM 34 ((vi va.no)::dg va.state [(vl am va.chs.length az),(vi va.sg.index),(vl aq va.sg.op.length aA),(vl ar va.sg.cl.length aB),(vl au va.sg.path.length aC)])∧Blk Z aO 34 ((vi va.no)::dg va.state [(vl av va.chs.length aD),(vi va.sg.index),(vl aw va.sg.op.length aE),(vl ax va.sg.cl.length aF),(vl ay va.sg.path.length aG)])∧Blk Z aN 24 [(vl ah aa ak),(vi kM),(vi kU)]∧Blk Z aP 24 [(vl ai ab al),(vi kM),(vi kU)]∧Blk Z aL 29 (byteVals pub)∧Blk Z g2 24 [(vl A sd.length c),(vi many),(vi used)]∧Blk Z aK 34 ((vi v.no)::dg v.state [(vl vC v.chs.length vcc),(vi v.sg.index),(vl vO v.sg.op.length voc),(vl vE v.sg.cl.length vec),(vl vP v.sg.path.length vpc)]):=⟨eX,aQ,aR,aS,aT,aU,aV,aW⟩;aY.ysg 4 (.agg #[(vl ah aa ak),(vi kM),(vi kU)]) rfl aX (fun F W hW=>rb F rfl hW.2.2.2.1)<|Ysg 5 (.agg #[(vl ai ab al),(vi kM),(vi kU)]) rfl aX (fun F W hW=>rb F rfl hW.2.2.2.2.1) fun _ Z=>ao 6 rfl<|have aX:=(aZ.pres ((((((((((((Pres.refl ac).ext aJ).ext aH).grownN aj (fun h=>by first | (simp only [Clip,Fr] at h;omega) | (simp only [Clip] at h;omega))).grownN V (fun h=>by first | (simp only [Clip,Fr] at h;omega) | (simp only [Clip] at h;omega))).ext aI).ext Y).ext U).grownN M (fun h=>by first | (simp only [Clip,Fr] at h;omega) | (simp only [Clip] at h;omega))).grownN O (fun h=>by first | (simp only [Clip,Fr] at h;omega) | (simp only [Clip] at h;omega))).ext I).ext G));have V:=(a0.pres (((((((Pres.refl ae).ext Y).ext U).grownN M (fun h=>by first | (simp only [Clip,Fr] at h;omega) | (simp only [Clip] at h;omega))).grownN O (fun h=>by first | (simp only [Clip,Fr] at h;omega) | (simp only [Clip] at h;omega))).ext I).ext G));Z.gE (c:=samek_refl _ aX V) (k:=fun I G M _ M=>?_)
     have U:=aQ.ext G
     have V:=aR.ext G
     have Y:=aS.ext G
     have Z:=aT.ext G
     have ac:=aU.ext G
     have ae:=aV.ext G
     have aj:=aW.ext G
     refine ⟨fun _ _=>⟨eX,U,V,Y,Z,ac,ae,aj⟩,?_⟩
     refine M.yv 7 (.bool true) rfl<|Ym 8 rfl<|Yg 9 (vi D) rfl<|Yg 10 (vi D) rfl<|Yg 11 (vd ((D:Int)=(D:Int))) rfl<|Yv 12 (vd ((D:Int)=(D:Int))) rfl<|Ym 13 rfl fun _ O=>have M:Ext J I∧Blk I aM 34 ((vi va.no)::dg va.state [(vl am va.chs.length az),(vi va.sg.index),(vl aq va.sg.op.length aA),(vl ar va.sg.cl.length aB),(vl au va.sg.path.length aC)])∧Blk I aO 34 ((vi va.no)::dg va.state [(vl av va.chs.length aD),(vi va.sg.index),(vl aw va.sg.op.length aE),(vl ax va.sg.cl.length aF),(vl ay va.sg.path.length aG)])∧Blk I aN 24 [(vl ah aa ak),(vi kM),(vi kU)]∧Blk I aP 24 [(vl ai ab al),(vi kM),(vi kU)]∧Blk I aL 29 (byteVals pub)∧Blk I g2 24 [(vl A sd.length c),(vi many),(vi used)]∧Blk I aK 34 ((vi v.no)::dg v.state [(vl vC v.chs.length vcc),(vi v.sg.index),(vl vO v.sg.op.length voc),(vl vE v.sg.cl.length vec),(vl vP v.sg.path.length vpc)]):=⟨eX,U,V,Y,Z,ac,ae,aj⟩;qs 14 (.agg (byteVals pub).toArray) O rfl (wanted_guard rfl rfl rfl O rfl ((decide_eq_true rfl):decide ((D:Int)=(D:Int))=true) rfl) M (fun W hW=>(rb O rfl hW.2.2.2.2.2.1 (hk:=byteVals_len hp))) fun _ I=>?_
     refine qp 15 (vq g2 1) I rfl (wanted_guard rfl rfl rfl I rfl ((decide_eq_true rfl):decide ((D:Int)=(D:Int))=true) rfl) (fun W=>(rn_field uu24 rfl (by kernel_rfl) (I.get rfl) rfl)) fun _ I=>?_
     refine qs 16 (vi many) I rfl (wanted_guard rfl rfl rfl I rfl ((decide_eq_true rfl):decide ((D:Int)=(D:Int))=true) rfl) M (fun W hW=>(rl I rfl (hW.2.2.2.2.2.2.1.rule.1 1))) fun _ I=>?_
     refine qs 17 (ag ((vi v.no)::dg v.state [(vl vC v.chs.length vcc),(vi v.sg.index),(vl vO v.sg.op.length voc),(vl vE v.sg.cl.length vec),(vl vP v.sg.path.length vpc)])) I rfl (wanted_guard rfl rfl rfl I rfl ((decide_eq_true rfl):decide ((D:Int)=(D:Int))=true) rfl) M (fun W hW=>(rb I rfl hW.2.2.2.2.2.2.2 (hk:=len_dig1 hvc.st))) fun _ I=>?_
     refine qs 19 (.agg (byteVals pub).toArray) I rfl (wanted_guard rfl rfl rfl I rfl ((decide_eq_true rfl):decide ((D:Int)=(D:Int))=true) rfl) M (fun W hW=>(rb I rfl hW.2.2.2.2.2.1 (hk:=byteVals_len hp))) fun _ I=>?_
     refine qp 20 (vq g2 1) I rfl (wanted_guard rfl rfl rfl I rfl ((decide_eq_true rfl):decide ((D:Int)=(D:Int))=true) rfl) (fun W=>(rn_field uu24 rfl (by kernel_rfl) (I.get rfl) rfl)) fun _ I=>?_
     refine qs 21 (vi many) I rfl (wanted_guard rfl rfl rfl I rfl ((decide_eq_true rfl):decide ((D:Int)=(D:Int))=true) rfl) M (fun W hW=>(rl I rfl (hW.2.2.2.2.2.2.1.rule.1 1))) fun _ I=>?_
     refine qs 22 (ag ((vi v.no)::dg v.state [(vl vC v.chs.length vcc),(vi v.sg.index),(vl vO v.sg.op.length voc),(vl vE v.sg.cl.length vec),(vl vP v.sg.path.length vpc)])) I rfl (wanted_guard rfl rfl rfl I rfl ((decide_eq_true rfl):decide ((D:Int)=(D:Int))=true) rfl) M (fun W hW=>(rb I rfl hW.2.2.2.2.2.2.2 (hk:=len_dig1 hvc.st))) fun _ I=>?_
     refine ao 18 rfl<|have J:=(RLs.ux rCg hvc.chs G);have M:=(hvc.sg.op.ux G);have O:=(hvc.sg.cl.ux G);have aa:=(hvc.sg.path.ux G);o_callE I rfl (wanted_guard rfl rfl rfl I rfl ((decide_eq_true rfl):decide ((D:Int)=(D:Int))=true) rfl) rfl rfl (rn_call (args3 (I.get rfl) (I.get rfl) (I.get rfl)) rfl (by kernel_rfl)) (verifyv_at pub many v _ (⟨hvc.st,RLs.sub (S':=fun _=>True) rCg J fun _ _=>trivial,⟨Fl.any M,Fl.any O,Fl.any aa,hvc.sg.o32,hvc.sg.c32,hvc.sg.p32⟩⟩:RVp (fun _=>True) _ _ _ _ _ v) hp (fewv_sm a1) (hG.ext eX)) fun G G I _ I=>?_
     have J:=U.ext G
     have M:=V.ext G
     have O:=Y.ext G
     have U:=Z.ext G
     have V:=ac.ext G
     have Y:=ae.ext G
     have Z:=aj.ext G
     refine ⟨fun _ _=>⟨eX,J,M,O,U,V,Y,Z⟩,?_⟩
     refine ao 23 rfl<|have aa:=(RLs.ux rCg hvc.chs G);have ab:=(hvc.sg.op.ux G);have ac:=(hvc.sg.cl.ux G);have ae:=(hvc.sg.path.ux G);o_callE I rfl (wanted_guard rfl rfl rfl I rfl ((decide_eq_true rfl):decide ((D:Int)=(D:Int))=true) rfl) rfl rfl (rn_call (args3 (I.get rfl) (I.get rfl) (I.get rfl)) rfl (by kernel_rfl)) (rverifyv_at pub many v _ (⟨hvc.st,RLs.sub (S':=fun _=>True) rCg aa fun _ _=>trivial,⟨Fl.any ab,Fl.any ac,Fl.any ae,hvc.sg.o32,hvc.sg.c32,hvc.sg.p32⟩⟩:RVp (fun _=>True) _ _ _ _ _ v) hp (fewv_sm a1)) fun G G I _ I=>?_
     have aa:=J.ext G
     have J:=M.ext G
     have M:=O.ext G
     have O:=U.ext G
     have U:=V.ext G
     have V:=Y.ext G
     have Y:=Z.ext G
     refine ⟨fun _ _=>⟨eX,aa,J,M,O,U,V,Y⟩,?_⟩
     refine qp 24 (vd (((verifyE pub many v):Int)=((verifyE pub many v):Int))) I rfl (wanted_guard rfl rfl rfl I rfl ((decide_eq_true rfl):decide ((D:Int)=(D:Int))=true) rfl) (fun W=>(rn_eql (I.get rfl) (I.get rfl))) fun _ G=>?_
     exact G.yw 25 (vd (((verifyE pub many v):Int)=((verifyE pub many v):Int))) rfl (fun F W=>rn_pickT (c_true F rfl ((decide_eq_true rfl):decide ((D:Int)=(D:Int))=true)) (F.get rfl))<|Yv 26 (vd (((verifyE pub many v):Int)=((verifyE pub many v):Int))) rfl fun _ D=>nK a8<|have G:=D.k [0,1,2,3,4,5,6,10,11,12,20,43,13,14,15,16,17,18];wp_ret<|ret1 G rfl rfl<|⟨congrArg (fun b=>Ending.returned (.bool b)) ((decide_eq_true rfl):decide (((verifyE pub many v):Int)=((verifyE pub many v):Int))=true),eX⟩
    exact M.ct<|wr fun D G=>M.xv (.bool true) fun _ D=>wn G<|wp_ret<|ret_then<|ret1 D rfl rfl<|⟨rfl,eX⟩
   exact U.xu<|Xu<|Xu<|Xv (.bool true) fun _ G=>wn I<|have D:=G.k [0,1,2,3,4,5,6,10,11,12,20,43];D.ct<|wr fun G G=>D.xv (.bool true) fun _ D=>wn G<|wp_ret<|ret_then<|ret1 D rfl rfl<|⟨rfl,eX⟩
  exact O.xu<|Xu<|Xu<|Xv (.bool true)<|Xm rfl<|Xu<|Xu<|Xu<|Xv (.bool true) fun _ G=>wn I<|have D:=G.k [0,1,2,3,4,5,6,10,11,12,20,43];D.ct<|wr fun G G=>D.xv (.bool true) fun _ D=>wn G<|wp_ret<|ret_then<|ret1 D rfl rfl<|⟨rfl,eX⟩
 exact Y.xu<|Xu<|Xu<|Xv (.bool true)<|Xm rfl<|Xu<|Xu<|Xu<|Xv (.bool true)<|Xm rfl<|Xu<|Xu<|Xu<|Xv (.bool true)<|Xm rfl<|Xu<|Xu<|Xu<|Xv (.bool true) fun _ G=>wn I<|have D:=G.k [0,1,2,3,4,5,6,10,11,12,20,43];D.ct<|wr fun G G=>D.xv (.bool true) fun _ D=>wn G<|wp_ret<|ret_then<|ret1 D rfl rfl<|⟨rfl,eX⟩
end Go.Proofs.YtihgmaoghbnnaaaGreatDoor
