/- Several texts in one: MrJ, NrB, Wk17, NrC, NrD, MrK, MrL, MrM, MrN, MrO, MrP, MrQ, MrR, MrS. -/
import Derived.Test.YtihgmaoghbnnaaaGreatDoorProg
import Derived.Test.YtihgmaoghbnnaaaGreatDoorQgE
import Derived.KernelRfl
import Derived.Test.YtihgmaoghbnnaaaGreatDoorQgA
import Derived.Test.YtihgmaoghbnnaaaGreatDoorQgB
import Derived.Lib.AppendStr
import Derived.Test.YtihgmaoghbnnaaaGreatDoorQgD
import Derived.Defers
import Derived.Recover
set_option linter.unusedVariables false
set_option linter.unusedSimpArgs false
set_option maxRecDepth 100000
set_option maxHeartbeats 1000000
namespace Go.Proofs.YtihgmaoghbnnaaaGreatDoor
open Go.RowKit
variable {L L':Array Bool} {b:Bool} {u:FrameMode} {f:FuncId} {t:Int} {ll:List (List Vr)} {c:List PanicEntry} {cs xs ys:List Value} {l l2:List Vr} {base d0 d1 g h i id n:Nat} {S S':Nat→Prop} {o0 o1:Oper} {T1 T2 s tx:TypeId} {e o p v v' v2:Value} {x:Vr} {w w':World}
theorem isMany_any (n:Int) (w:World) :
  Calls Tryz.prog 48 #[.int .i64 n] w (fun e w'=>e=.returned (.bool (decide (1≤n∧n≤4096)))∧Ext w w'):=by
 refine calls_enter Tryz.func48 rfl rfl rfl fun _ C=>wr fun D D=>C.xv (.bool false) fun _ C=>wn D<|wr fun D D=>C.xm rfl<|Xv (vd ((1:Int)≤(n:Int)))<|Xm rfl fun _ C=>?_
 by_cases G:(1:Int)≤(n:Int)
 ·exact C.xg (vi n)<|Xg (vd ((n:Int)≤(4096:Int)))<|Xv (vd ((n:Int)≤(4096:Int)))<|Xa rfl fun _ C=>wn D<|have D:=C.k [0,2];wp_ret<|ret1 D rfl rfl<|⟨ret_bool (by simp_all),(Ext.refl w)⟩
 exact C.xu<|Xu<|Xv (.bool false)<|Xa rfl fun _ C=>wn D<|have D:=C.k [0,2];wp_ret<|ret1 D rfl rfl<|⟨ret_bool (by simp_all <;> omega),(Ext.refl w)⟩
theorem number_any (n:Nat) (w:World) (hn:n≤4294967296) :
  Calls Tryz.prog 67 #[.int .i64 (n:Nat)] w (fun e w'=>∃ A c,e=.returned (vl A 8 c)∧Fl (fun b=>w.heap.size≤b) w' 1 (vl A 8 c) 8 (byteVals (numL n 8))∧Ext w w'):=by
 refine calls_enter Tryz.func67 rfl rfl rfl fun _ C=>wr fun I I=>C.xv v0 fun _ C=>wn I<|wr fun I J=>C.xn (fun g=>(vl (some ⟨g,0,none⟩) 8 8)) (byteVals (List.replicate 8 0)) 5 (fun F=>rn_makeN El22 rfl rfl rfl (by omega) (by omega) (by simp [byteVals])) fun D O _ C I I I M=>C.xa rfl fun _ C=>wn J<|wp_seq_k fun J J=>wr fun M M=>C.xm rfl<|Xv (vi 8)<|Xv (vi 0) fun _ C=>wn M<|wp_block<|wp_loop (fun a' W=>∃ (k:Nat) (bb:List UInt8),Sl 26 [(0,(vi n)),(2,v0),(3,(vl (some ⟨D,0,none⟩) 8 8)),(7,(vi 8)),(8,(vi k))] a'∧k≤8∧bb.length=8∧(∀ j,j<k→bb.getD j 0=(numL n 8).getD j 0)∧Ext w W∧Blk W D 5 (byteVals bb)∧O.heap.size≤W.heap.size) (fun a' _=>8 - (intOf (a'.eval (.tmp 8))).toNat) ⟨0,(List.replicate 8 0),C.j,(by omega),rfl,(fun j hj=>absurd hj (by omega)),eX,I,(Nat.le_refl _)⟩ ?_
 rintro C C ⟨k,bb,C,I,M,I,U,G,O⟩
 have O:=C
 have V:=U.size
 have U:=G.lt
 have hbl:bb.length=8:=M
 refine wr fun M M=>C.xv (vd ((k:Int)<(8:Int))) fun _ C=>wn M<|wp_seq_k fun M M=>?_
 by_cases U:(k:Int)<(8:Int)
 ·refine C.ct<|wp_skip<|M _ _<|wp_seq_k fun J J=>wp_block<|wr fun M M=>C.xm rfl<|Xa rfl fun _ C=>wn M<|wp_region_lit<|C.xm rfl<|Xm rfl<|Xm rfl<|Xw (.int .u64 n) (fun F=>rn_convW uu3 uu130 (F.get rfl) (cvn_64 n (by omega)))<|Xm rfl<|Xv (vi 8)<|Xv (vi 7)<|Xm rfl<|Xw (vi (7 - k:Nat)) (fun F=>rn_subN (a:=7) (b:=k) (F.get rfl) (F.get rfl) (by omega) (by omega))<|Xw (vi (8*(7 - k):Nat)) (fun F=>rn_mulN (a:=8) (b:=7 - k) rfl (F.get rfl) (by omega))<|Xw (.int .u64 (n / 2 ^ (8*(7 - k)):Nat)) (fun F=>rn_shrU (a:=n) (n:=8*(7 - k)) (F.get rfl) (F.get rfl) (by omega))<|Xw (.int .u8 ((UInt8.ofNat (n / 2 ^ (8*(7 - k)))).toNat:Nat)) (fun F=>rn_convW uu130 uu5 (F.get rfl) (cvi_8 (n / 2 ^ (8*(7 - k)))))<|Xw (vq D (0+k)) (fun F=>rn_index1 uu22 inf5 (F.get rfl) (F.get rfl) (zl _) (by omega:(k:Int)<((8:Nat):Int))) fun _ C=>wpl_op (i:=13) rfl<|o_store1 (new:=(byteVals (bb.set k (UInt8.ofNat (n / 2 ^ (8*(7 - k))))))) C rfl rfl rfl rfl (C.get rfl) (C.get rfl) G inf5 (by rw [byteVals_len hbl];omega) rfl (byteVals_set (by omega)) fun D G D=>have M:=D.size;wn J<|have D:=C.k [0,2,3,7,8,9,4];wp_region_lit<|D.xv (vi (k+1:Nat))<|Xm rfl fun _ C=>wpList_nil ?_
  refine ⟨⟨(k+1),bb.set k (UInt8.ofNat (n / 2 ^ (8*(7 - k)))),C.j,(by omega),(by rw [List.length_set];exact hbl),(num_step (by omega) hbl I (by omega)),eX,G,(by omega)⟩,?_⟩
  rw [C.get (t:=8) rfl,O.get (t:=8) rfl];simp [intOf] <;> omega
 refine C.cf<|wp_exit<|exit_then<|exit_then<|exit_here<|J _ _<|wr fun J J=>C.xm rfl<|Xa rfl fun _ C=>wn J<|wp_ret<|ret1 C rfl rfl ?_
 have hk:k=8:=by omega
 have hq:=num_all hbl (by rw [hk] at I;exact I)
 subst hq
 exact ⟨_,_,rfl,Fl.sub (Fl.blk (S:=fun b=>b=D) (k:=1) (n:=8) (c:=8) G (by rw [byteVals_len hbl,Nat.mul_one]) (byteVals_one _) (by omega) rfl) (fun b hb=>by omega),eX⟩
theorem number_int (n:Int) (w:World) (h0:0≤n) (hn:n≤4294967296):Calls Tryz.prog 67 #[.int .i64 n] w (fun e w'=>∃ A c,e=.returned (vl A 8 c)∧Fl (fun b=>w.heap.size≤b) w' 1 (vl A 8 c) 8 (byteVals (numL n.toNat 8))∧Ext w w'):=by
 obtain ⟨k,rfl⟩:∃ k:Nat,n=(k:Int):=⟨n.toNat,by omega⟩
 exact number_any k w (by omega)
theorem joined_at (l:List (List UInt8)) (w:World) (hl:RBss S w v l) (he:l.flatten.length=n) (hn:n≤140737488355328) :
  Calls Tryz.prog 66 #[v] w (fun e w'=>∃ A c,e=.returned (vl A n c)∧Fl (fun b=>w.heap.size≤b) w' 1 (vl A n c) n (byteVals l.flatten)∧Ext w w'):=by
 refine calls_enter Tryz.func66 rfl rfl rfl fun _ C=>wr fun D D=>C.xv v0 fun _ C=>wn D<|wr fun D G=>C.xm rfl fun _ C=>C.xc (concat_at l _ (RBss.ext hl (Ext.refl w)) he hn) ?_
 rintro _ M ⟨C,C,rfl,I,J⟩
 refine ⟨_,rfl,?_⟩;intro C C;have D:=J.size
 exact C.xa rfl fun _ C=>wn G<|wp_ret<|ret1 C rfl rfl<|⟨_,_,rfl,Fl.sub (I.ext (Ext.refl M)) (fun b hb=>hb),eX⟩
theorem nofull1 {l:List Cg} {k:Nat} {x:Cg} (hx:l[k]?=some x) (h:x.gone=false):∀ y,l[k]?=some y→¬ fullC y:=fun y hy hq=>by
 rw [hx] at hy;injection hy with hy;subst hy
 have h1:=hq.1
 rw [h] at h1;cases h1
theorem nofull2 {l:List Cg} {k:Nat} {x:Cg} (hx:l[k]?=some x) (h:x.data.length=0):∀ y,l[k]?=some y→¬ fullC y:=fun y hy hq=>by
 rw [hx] at hy;injection hy with hy;subst hy
 have:=hq.2;omega
theorem valid_all {l:List Cg} {k:Nat} (h:∀ j,j<k→nameAt (cgNames l) j∧∀ x,l[j]?=some x→¬ fullC x) (hk:l.length≤k):decide ((l.length:Int)≤(65536:Int))=decide (validC l):=by
 have h1:named (cgNames l):=fun j hj=>(h j (by simp [cgNames] at hj;omega)).1
 have h2:∀ c∈l,¬ fullC c:=all_mem (fun j hj=>(h j hj).2) hk
 by_cases q:l.length≤65536
 ·rw [decide_eq_true (show (l.length:Int)≤65536 by omega),decide_eq_true (show validC l from ⟨q,h1,h2⟩)]
 ·rw [decide_eq_false (show ¬ (l.length:Int)≤65536 by omega),decide_eq_false (fun z:validC l=>q z.1)]
theorem valid_full {l:List Cg} {k:Nat} {x:Cg} (hx:l[k]?=some x) (h:fullC x):¬ validC l:=fun q=>q.2.2 x (List.mem_of_getElem? hx) h
theorem valid_name_no {l:List Cg} {k:Nat} (hk:k<l.length) (h:¬ nameAt (cgNames l) k):¬ validC l:=fun q=>h (q.2.1 k (by simp [cgNames];exact hk))
theorem mvalid_any (A:Option Addr) (c:Nat) (l:List Cg) (w:World) (h:RLs RCg 3 S w (vl A l.length c) l) :
  Calls Tryz.prog 29 #[.slice A l.length c] w (fun e w'=>e=.returned (.bool (decide (validC l)))∧Ext w w'):=by
 have hc:RLs RCg 3 (Clip S w) w (vl A l.length c) l:=RLs.clip rCg h
 obtain ⟨-,hck,hcm⟩:=RLs.at h
 refine calls_enter Tryz.func29 rfl rfl rfl fun _ hF=>wr fun K1 ak=>hF.xv (.bool false) fun _ F3=>wn ak<|wp_seq_k fun K4 aD=>wr fun K5 aq=>F3.xm rfl<|Xv (vi l.length)<|Xv (vi 0) fun _ ak=>wn aq<|wp_block<|wp_loop (fun a' W=>∃ (k:Nat),Sl 55 [(0,(vl A l.length c)),(2,(.bool false)),(6,(vl A l.length c)),(7,(vi l.length)),(8,(vi k))] a'∧k≤l.length∧(∀ j,j<k→nameAt (cgNames l) j∧∀ x,l[j]?=some x→¬ fullC x)∧Ext w W∧w.heap.size≤W.heap.size) (fun a' _=>l.length - (intOf (a'.eval (.tmp 8))).toNat) ⟨0,ak.j,(by omega),(fun j hj=>absurd hj (by omega)),(Ext.refl w),(Nat.le_refl _)⟩ ?_
 rintro ak ak ⟨k,ak,aq,V,aq,aA⟩
 have ac:=ak
 have aA:=aq.size
 refine wr fun aA aA=>ak.xv (vd ((k:Int)<(l.length:Int))) fun _ Z=>wn aA<|wp_seq_k fun ak ak=>?_
 by_cases aA:(k:Int)<(l.length:Int)
 ·refine Z.ct<|wp_skip<|ak _ _<|wp_seq_k fun ak ab=>wp_block<|wr fun ak aB=>Z.xm rfl fun _ au=>?_
  have ak:=RLs.ext rCg hc aq
  obtain ⟨ax,aK,C,aq,az,D,aq,aF,aJ⟩:=RLs.get ak (by omega:k<l.length)
  obtain ⟨O,U,rfl,aH⟩:=aJ
  have ak:=(Fl.cel aH).2.1
  refine au.xw (vq ax (aK+k*3)) (fun F=>rn_indexE uu27 inf66 ((F.get rfl).trans (by rw [az])) (F.get rfl) (zl _) (il (by omega:k<l.length)) (by omega))<|Xw (.agg #[(strOf C.name),(vl O C.data.length U),(.bool C.gone)]) (fun F=>rn_loadN (cs:=[(strOf C.name),(vl O C.data.length U),(.bool C.gone)]) (F.get rfl) uu66 rfl inf66 aF) fun _ ak=>ak.xz [(strOf ([])),v0,(.bool false)] 66 fun G ak _ ak aq aq aq au=>ak.xa rfl fun _ ak=>ak.xs rfl aq (fun aq aq au=>have ax:=au.size;wn aB<|wr fun au au=>ak.xv (vp G)<|Xv (vp G)<|Xw (strOf C.name) (fun F=>rl F rfl (aq.rule.1 0))<|Xw (vi C.name.length) (fun F=>rn_lenS uu9 (F.get rfl))<|Xa rfl fun _ ak=>wn au<|have au:=ak.k [0,2,6,7,8,9,4,3,5];wp_seq_k fun ak J=>sX (fun I W=>Ext I W∧Blk W G 66 [(strOf C.name),(vl O C.data.length U),(.bool C.gone)]) (fun i=>false) 34 fun I ai ak=>au.ym 0 rfl<|Yv 1 (vd ((C.name.length:Int)<(1:Int))) rfl<|Ym 2 rfl fun _ ak=>?_)
  by_cases au:(C.name.length:Int)<(1:Int)
  ·exact ak.yu 3 rfl<|Yu 4 rfl<|Yv 5 (.bool true) rfl<|Ym 6 rfl<|Yu 7 rfl<|Yu 8 rfl<|Yu 9 rfl<|Yn 10 rfl<|Yn 11 rfl<|Yn 12 rfl<|Yn 13 rfl<|Yn 14 rfl<|Yu 15 rfl<|Yv 16 (.bool true) rfl<|Ym 17 rfl<|Yu 18 rfl<|Yu 19 rfl<|Yu 20 rfl<|Yn 21 rfl<|Yn 22 rfl<|Yn 23 rfl<|Yn 24 rfl<|Yn 25 rfl<|Yn 26 rfl<|Yn 27 rfl<|Yn 28 rfl<|Yn 29 rfl<|Yn 30 rfl<|Yn 31 rfl<|Yu 32 rfl<|Yv 33 (.bool true) rfl fun _ G=>nK J<|have C:=G.k [0,2,6,7,8,9,4,3,5,50];C.ct<|wr fun G G=>C.xv (.bool false) fun _ C=>wn G<|wp_ret<|ret_block<|ret_then<|ret_then<|ret_block<|ret_then<|ret1 C rfl rfl<|⟨ret_bool (decide_eq_false (valid_name_no (k:=k) (by omega) (fun hq=>by have h1:=hq.1;rw [getCg D,okN] at h1;omega))).symm,eX⟩
  refine ak.yg 3 (vi C.name.length) rfl<|Yg 4 (vd ((64:Int)<(C.name.length:Int))) rfl<|Yv 5 (vd ((64:Int)<(C.name.length:Int))) rfl<|Ym 6 rfl<|fun _ ak=>?_
  by_cases au:(64:Int)<(C.name.length:Int)
  ·exact ak.yu 7 rfl<|Yu 8 rfl<|Yu 9 rfl<|Yn 10 rfl<|Yn 11 rfl<|Yn 12 rfl<|Yn 13 rfl<|Yn 14 rfl<|Yu 15 rfl<|Yv 16 (.bool true) rfl<|Ym 17 rfl<|Yu 18 rfl<|Yu 19 rfl<|Yu 20 rfl<|Yn 21 rfl<|Yn 22 rfl<|Yn 23 rfl<|Yn 24 rfl<|Yn 25 rfl<|Yn 26 rfl<|Yn 27 rfl<|Yn 28 rfl<|Yn 29 rfl<|Yn 30 rfl<|Yn 31 rfl<|Yu 32 rfl<|Yv 33 (.bool true) rfl fun _ G=>nK J<|have C:=G.k [0,2,6,7,8,9,4,3,5,50];C.ct<|wr fun G G=>C.xv (.bool false) fun _ C=>wn G<|wp_ret<|ret_block<|ret_then<|ret_then<|ret_block<|ret_then<|ret1 C rfl rfl<|⟨ret_bool (decide_eq_false (valid_name_no (k:=k) (by omega) (fun hq=>by have h1:=hq.1;rw [getCg D,okN] at h1;omega))).symm,eX⟩
  refine ak.yg 7 (vq G 2) rfl fun _ ak=>have au:=(aq.ext ai);have M:Ext I I∧Blk I G 66 [(strOf C.name),(vl O C.data.length U),(.bool C.gone)]:=⟨(Ext.refl I),au⟩;ak.ysg 8 (.bool C.gone) rfl M (fun F W hW=>rl F rfl (hW.2.rule.1 2))<|Yg 9 (.bool C.gone) rfl fun _ al=>?_
  rcases Bool.eq_false_or_eq_true C.gone with ae | ae
  ·refine al.yg 10 (vp G) rfl<|Yg 11 (vq G 1) rfl<|Ysg 12 (vl O C.data.length U) rfl M (fun F W hW=>rl F rfl (hW.2.rule.1 1))<|Yg 13 (vi C.data.length) rfl<|Yg 14 (vd ((0:Int)<(C.data.length:Int))) rfl<|Yg 15 (vd ((0:Int)<(C.data.length:Int))) rfl<|Yv 16 (vd ((0:Int)<(C.data.length:Int))) rfl<|Ym 17 rfl<|fun _ O=>?_
   by_cases U:(0:Int)<(C.data.length:Int)
   ·exact O.yu 18 rfl<|Yu 19 rfl<|Yu 20 rfl<|Yn 21 rfl<|Yn 22 rfl<|Yn 23 rfl<|Yn 24 rfl<|Yn 25 rfl<|Yn 26 rfl<|Yn 27 rfl<|Yn 28 rfl<|Yn 29 rfl<|Yn 30 rfl<|Yn 31 rfl<|Yu 32 rfl<|Yv 33 (.bool true) rfl fun _ G=>nK J<|have C:=G.k [0,2,6,7,8,9,4,3,5,50];C.ct<|wr fun G G=>C.xv (.bool false) fun _ C=>wn G<|wp_ret<|ret_block<|ret_then<|ret_then<|ret_block<|ret_then<|ret1 C rfl rfl<|⟨ret_bool (decide_eq_false (valid_full D ⟨ae,by have:=U;omega⟩)).symm,eX⟩
   refine O.yg 18 (vi k) rfl<|Yg 19 (vd ((0:Int)<(k:Int))) rfl<|Yg 20 (vd ((0:Int)<(k:Int))) rfl<|fun _ am=>?_
   by_cases O:(0:Int)<(k:Int)
   ·refine am.yg 21 (vl A l.length c) rfl<|Yg 22 (vi k) rfl<|Ygw 23 (vi (k - 1:Nat)) rfl (fun F W=>rn_subN (a:=k) (b:=1) (F.get rfl) rfl (by omega) (by omega))<|fun _ av=>?_
    have O:=RLs.ux rCg hc ai
    obtain ⟨ag,aj,Y,U,ay,ar,U,aE,aI⟩:=RLs.get O (by omega:(k - 1)<l.length)
    obtain ⟨O,O,rfl,aG⟩:=aI
    have O:=(Fl.cel aG).2.1
    refine av.ygw 24 (.pointer (some ⟨ag,aj+(k - 1)*3,none⟩)) rfl (fun F W=>rn_indexE uu27 inf66 ((F.get rfl).trans (by rw [ay])) (F.get rfl) (by omega:(0:Int)≤(k - 1:Nat)) (by omega:((k - 1:Nat):Int)<(l.length:Int)) (by omega))<|Yg 25 (.pointer (some ⟨ag,aj+(k - 1)*3,none⟩)) rfl<|Yg 26 (.pointer (some ⟨ag,aj+(k - 1)*3,none⟩)) rfl<|Ysg 27 (strOf Y.name) rfl M (fun F W hW=>rl F rfl ((fun j u hu=>Ext.keep ((Ext.refl I).trans hW.1) (aE j u hu)) 0 _ rfl))<|Yg 28 (vp G) rfl<|Yg 29 (vp G) rfl<|Ysg 30 (strOf C.name) rfl M (fun F W hW=>rl F rfl (hW.2.rule.1 0))<|Ygw 31 (.bool (!ltS Y.name C.name)) rfl (fun F W=>rn_geq_s (F.get rfl) (F.get rfl) rfl)<|Yg 32 (.bool (!ltS Y.name C.name)) rfl<|Yv 33 (.bool (!ltS Y.name C.name)) rfl fun _ O=>nK J ?_
    have aa:=O.k [0,2,6,7,8,9,4,3,5,50]
    rcases Bool.eq_false_or_eq_true (ltS Y.name C.name) with ah | ah
    ·refine aa.cf<|wp_skip<|ab _ _<|wp_region_lit<|aa.xv (vi (k+1:Nat))<|Xm rfl fun _ C=>wpList_nil ?_
     refine ⟨⟨(k+1),C.j,(by omega),(all_succ V ⟨name_yes (getCg D) ⟨by omega,by omega⟩ (fun _=>by rw [getCg (show l[k - 1]?=_ from (congrArg (fun z=>l[z]?) (by omega:k - 1=(k - 1))).trans ar),getCg D];exact ah),(nofull2 D (by omega))⟩),eX,(by omega)⟩,?_⟩
     rw [C.get (t:=8) rfl,ac.get (t:=8) rfl];simp [intOf] <;> omega
    exact aa.ct<|wr fun O aC=>aa.xv (.bool false) fun _ aw=>wn aC<|wp_ret<|ret_block<|ret_then<|ret_then<|ret_block<|ret_then<|ret1 aw rfl rfl<|⟨ret_bool (decide_eq_false (valid_name_no (k:=k) (by omega) (fun hq=>by have h1:=hq.2 (by omega);rw [getCg (show l[k - 1]?=_ from (congrArg (fun z=>l[z]?) (by omega:k - 1=(k - 1))).trans ar),getCg D,ah] at h1;cases h1))).symm,eX⟩
   refine am.yu 21 rfl<|Yu 22 rfl<|Yu 23 rfl<|Yu 24 rfl<|Yu 25 rfl<|Yu 26 rfl<|Yu 27 rfl<|Yu 28 rfl<|Yu 29 rfl<|Yu 30 rfl<|Yu 31 rfl<|Yg 32 (.bool false) rfl<|Yv 33 (.bool false) rfl fun _ G=>nK J<|have C:=G.k [0,2,6,7,8,9,4,3,5,50];C.cf<|wp_skip<|ab _ _<|wp_region_lit<|C.xv (vi (k+1:Nat))<|Xm rfl fun _ C=>wpList_nil ?_
   refine ⟨⟨(k+1),C.j,(by omega),(all_succ V ⟨name_yes (getCg D) ⟨by omega,by omega⟩ (fun h0=>absurd h0 (by omega)),(nofull2 D (by omega))⟩),eX,(by omega)⟩,?_⟩
   rw [C.get (t:=8) rfl,ac.get (t:=8) rfl];simp [intOf] <;> omega
  refine al.yu 10 rfl<|Yu 11 rfl<|Yu 12 rfl<|Yu 13 rfl<|Yu 14 rfl<|Yg 15 (.bool false) rfl<|Yv 16 (.bool false) rfl<|Ym 17 rfl<|Yg 18 (vi k) rfl<|Yg 19 (vd ((0:Int)<(k:Int))) rfl<|Yg 20 (vd ((0:Int)<(k:Int))) rfl<|fun _ am=>?_
  by_cases O:(0:Int)<(k:Int)
  ·refine am.yg 21 (vl A l.length c) rfl<|Yg 22 (vi k) rfl<|Ygw 23 (vi (k - 1:Nat)) rfl (fun F W=>rn_subN (a:=k) (b:=1) (F.get rfl) rfl (by omega) (by omega))<|fun _ av=>?_
   have O:=RLs.ux rCg hc ai
   obtain ⟨ag,aj,Y,U,ay,ar,U,aE,aI⟩:=RLs.get O (by omega:(k - 1)<l.length)
   obtain ⟨O,O,rfl,aG⟩:=aI
   have O:=(Fl.cel aG).2.1
   refine av.ygw 24 (.pointer (some ⟨ag,aj+(k - 1)*3,none⟩)) rfl (fun F W=>rn_indexE uu27 inf66 ((F.get rfl).trans (by rw [ay])) (F.get rfl) (by omega:(0:Int)≤(k - 1:Nat)) (by omega:((k - 1:Nat):Int)<(l.length:Int)) (by omega))<|Yg 25 (.pointer (some ⟨ag,aj+(k - 1)*3,none⟩)) rfl<|Yg 26 (.pointer (some ⟨ag,aj+(k - 1)*3,none⟩)) rfl<|Ysg 27 (strOf Y.name) rfl M (fun F W hW=>rl F rfl ((fun j u hu=>Ext.keep ((Ext.refl I).trans hW.1) (aE j u hu)) 0 _ rfl))<|Yg 28 (vp G) rfl<|Yg 29 (vp G) rfl<|Ysg 30 (strOf C.name) rfl M (fun F W hW=>rl F rfl (hW.2.rule.1 0))<|Ygw 31 (.bool (!ltS Y.name C.name)) rfl (fun F W=>rn_geq_s (F.get rfl) (F.get rfl) rfl)<|Yg 32 (.bool (!ltS Y.name C.name)) rfl<|Yv 33 (.bool (!ltS Y.name C.name)) rfl fun _ G=>nK J ?_
   have aa:=G.k [0,2,6,7,8,9,4,3,5,50]
   rcases Bool.eq_false_or_eq_true (ltS Y.name C.name) with ah | ah
   ·refine aa.cf<|wp_skip<|ab _ _<|wp_region_lit<|aa.xv (vi (k+1:Nat))<|Xm rfl fun _ C=>wpList_nil ?_
    refine ⟨⟨(k+1),C.j,(by omega),(all_succ V ⟨name_yes (getCg D) ⟨by omega,by omega⟩ (fun _=>by rw [getCg (show l[k - 1]?=_ from (congrArg (fun z=>l[z]?) (by omega:k - 1=(k - 1))).trans ar),getCg D];exact ah),(nofull1 D ae)⟩),eX,(by omega)⟩,?_⟩
    rw [C.get (t:=8) rfl,ac.get (t:=8) rfl];simp [intOf] <;> omega
   exact aa.ct<|wr fun C aC=>aa.xv (.bool false) fun _ aw=>wn aC<|wp_ret<|ret_block<|ret_then<|ret_then<|ret_block<|ret_then<|ret1 aw rfl rfl<|⟨ret_bool (decide_eq_false (valid_name_no (k:=k) (by omega) (fun hq=>by have h1:=hq.2 (by omega);rw [getCg (show l[k - 1]?=_ from (congrArg (fun z=>l[z]?) (by omega:k - 1=(k - 1))).trans ar),getCg D,ah] at h1;cases h1))).symm,eX⟩
  refine am.yu 21 rfl<|Yu 22 rfl<|Yu 23 rfl<|Yu 24 rfl<|Yu 25 rfl<|Yu 26 rfl<|Yu 27 rfl<|Yu 28 rfl<|Yu 29 rfl<|Yu 30 rfl<|Yu 31 rfl<|Yg 32 (.bool false) rfl<|Yv 33 (.bool false) rfl fun _ G=>nK J<|have C:=G.k [0,2,6,7,8,9,4,3,5,50];C.cf<|wp_skip<|ab _ _<|wp_region_lit<|C.xv (vi (k+1:Nat))<|Xm rfl fun _ C=>wpList_nil ?_
  refine ⟨⟨(k+1),C.j,(by omega),(all_succ V ⟨name_yes (getCg D) ⟨by omega,by omega⟩ (fun h0=>absurd h0 (by omega)),(nofull1 D ae)⟩),eX,(by omega)⟩,?_⟩
  rw [C.get (t:=8) rfl,ac.get (t:=8) rfl];simp [intOf] <;> omega
 exact Z.cf<|wp_exit<|exit_then<|exit_then<|exit_here<|aD _ _<|wr fun C D=>Z.xm rfl<|Xv (vi l.length)<|Xv (vd ((l.length:Int)≤(65536:Int)))<|Xa rfl fun _ C=>wn D<|wp_ret<|ret1 C rfl rfl<|⟨ret_bool (valid_all V (by omega)),eX⟩
theorem mvalid_at (l:List Cg) (w:World) (h:RLs RCg 3 S w v l) :
  Calls Tryz.prog 29 #[v] w (fun e w'=>e=.returned (.bool (decide (validC l)))∧Ext w w'):=by
 obtain ⟨A,c,rfl,_⟩:=h.form
 exact mvalid_any A c l w h
theorem rname_any (s:List UInt8) (w:World) :
  Calls Tryz.prog 72 #[strOf s] w (fun e w'=>e=.returned (.bool (decide (okN s)))∧Ext w w'):=by
 refine calls_enter Tryz.func72 rfl rfl rfl fun _ C=>wr fun D D=>C.xv (.bool false) fun _ C=>wn D<|wr fun D D=>C.xm rfl<|Xw (vi s.length) (fun F=>rn_lenS uu9 (F.get rfl))<|Xv (vd ((1:Int)≤(s.length:Int)))<|Xm rfl fun _ C=>?_
 by_cases G:(1:Int)≤(s.length:Int)
 ·exact C.xg (strOf s)<|Xgw (vi s.length) (fun F=>rn_lenS uu9 (F.get rfl))<|Xg (vd ((s.length:Int)≤(64:Int)))<|Xv (vd ((s.length:Int)≤(64:Int)))<|Xa rfl fun _ C=>wn D<|have D:=C.k [0,2];wp_ret<|ret1 D rfl rfl<|⟨ret_bool (decide_eq_decide.2 ⟨fun q=>⟨by omega,by omega⟩,fun q=>by have:=q.2;omega⟩),(Ext.refl w)⟩
 exact C.xu<|Xu<|Xu<|Xv (.bool false)<|Xa rfl fun _ C=>wn D<|have D:=C.k [0,2];wp_ret<|ret1 D rfl rfl<|⟨ret_bool (decide_eq_false (fun q=>by have:=q.1;omega)).symm,(Ext.refl w)⟩
theorem rcheck_any (A:Option Addr) (c:Nat) (l:List It) (w:World) (h:RLs RIt 2 S w (vl A l.length c) l) :
  Calls Tryz.prog 50 #[.slice A l.length c] w (fun e w'=>e=.returned (vi (checkE l))∧Ext w w'):=by
 have hc:RLs RIt 2 (Clip S w) w (vl A l.length c) l:=RLs.clip rIt h
 obtain ⟨-,hck,hcm⟩:=RLs.at h
 refine calls_enter Tryz.func50 rfl rfl rfl fun _ J=>wr fun K1 ax=>J.xv (vi 0) fun _ J=>wn ax<|wp_seq_k fun K4 ax=>wr fun K5 aA=>J.xm rfl<|Xv (vi l.length)<|Xv (vd ((65536:Int)<(l.length:Int))) fun _ J=>wn aA ?_
 by_cases aA:(65536:Int)<(l.length:Int)
 ·exact J.ct<|wr fun C D=>J.xv (vi 2) fun _ C=>wn D<|wp_ret<|ret_then<|ret1 C rfl rfl<|⟨ret_int (show checkE l=2 from if_pos (by omega)).symm,(Ext.refl w)⟩
 refine J.cf<|wp_skip<|ax _ _<|wp_seq_k fun ax az=>wr fun ax ax=>J.xv (vi 0) fun _ J=>wn ax<|wp_block<|wp_loop (fun a' W=>∃ (k:Nat),Sl 38 [(0,(vl A l.length c)),(2,(vi 0)),(6,(vd ((65536:Int)<(l.length:Int)))),(3,(vi k))] a'∧k≤l.length∧(∀ j,j<k→nameAt (itNames l) j)∧Ext w W∧w.heap.size≤W.heap.size) (fun a' _=>l.length - (intOf (a'.eval (.tmp 3))).toNat) ⟨0,J.j,(by omega),(fun j hj=>absurd hj (by omega)),(Ext.refl w),(Nat.le_refl _)⟩ ?_
 rintro J J ⟨k,J,ax,ab,ax,aA⟩
 have ak:=J
 have aA:=ax.size
 refine wp_seq_k fun ax ax=>wr fun aA aA=>J.xm rfl<|Xm rfl<|Xv (vi l.length)<|Xv (vd ((k:Int)<(l.length:Int))) fun _ O=>wn aA ?_
 by_cases J:(k:Int)<(l.length:Int)
 ·refine O.ct<|wp_skip<|ax _ _<|wp_seq_k fun J aj=>wp_block<|wp_seq_k fun J Y=>sX (fun C W=>Ext C W) (fun i=>false) 25 fun C J ax=>O.ym 0 rfl<|Ym 1 rfl fun _ au=>?_
  have ah:=RLs.ux rIt hc J
  obtain ⟨U,V,D,J,ai,G,J,al,aF⟩:=RLs.get ah (by omega:k<l.length)
  obtain ⟨J,J,rfl,aD⟩:=aF
  have J:=(Fl.cel aD).2.1
  refine au.yw 2 (vq U (V+k*2)) rfl (fun F W=>rn_indexE uu26 inf61 ((F.get rfl).trans (by rw [ai])) (F.get rfl) (zl _) (il (by omega:k<l.length)) (by omega))<|Yv 3 (vq U (V+k*2)) rfl fun _ J=>have au:Ex C C:=Ext.refl C;J.ys 4 (strOf D.name) rfl au (fun F W hW=>rl F rfl ((fun j u hu=>Ext.keep ((Ext.refl C).trans hW) (al j u hu)) 0 _ rfl)) fun _ J=>ao 5 rfl<|J.oe (rname_any D.name _) fun aG J J _ J=>?_
  refine ⟨fun _ _=>eX,?_⟩
  refine J.yw 6 (.bool (!(decide (okN D.name)))) rfl (fun F W=>rn_not' (F.get rfl) rfl)<|Ym 7 rfl<|fun _ ac=>?_
  by_cases aa:okN D.name
  ·refine ac.yg 8 (vi k) rfl<|Yg 9 (vd ((0:Int)<(k:Int))) rfl<|Yg 10 (vd ((0:Int)<(k:Int))) rfl<|fun _ ae=>?_
   by_cases J:(0:Int)<(k:Int)
   ·refine ae.yg 11 (vl A l.length c) rfl<|Yg 12 (vi k) rfl<|Ygw 13 (vi (k - 1:Nat)) rfl (fun F W=>rn_subN (a:=k) (b:=1) (F.get rfl) rfl (by omega) (by omega))<|fun _ av=>?_
    obtain ⟨ag,aq,I,J,aw,am,J,aB,aE⟩:=RLs.get ah (by omega:(k - 1)<l.length)
    obtain ⟨J,J,rfl,aC⟩:=aE
    have J:=(Fl.cel aC).2.1
    refine av.ygw 14 (.pointer (some ⟨ag,aq+(k - 1)*2,none⟩)) rfl (fun F W=>rn_indexE uu26 inf61 ((F.get rfl).trans (by rw [aw])) (F.get rfl) (by omega:(0:Int)≤(k - 1:Nat)) (by omega:((k - 1:Nat):Int)<(l.length:Int)) (by omega))<|Yg 15 (.pointer (some ⟨ag,aq+(k - 1)*2,none⟩)) rfl fun _ ag=>have J:Ext C aG:=eX;ag.ysg 16 (strOf I.name) rfl J (fun F W hW=>rl F rfl ((fun j u hu=>Ext.keep ((Ext.refl C).trans hW) (aB j u hu)) 0 _ rfl))<|Yg 17 (vl A l.length c) rfl<|Yg 18 (vi k) rfl<|Ygw 19 (vq U (V+k*2)) rfl (fun F W=>rn_indexE uu26 inf61 ((F.get rfl).trans (by rw [ai])) (F.get rfl) (zl _) (il (by omega:k<l.length)) (by omega))<|Yg 20 (vq U (V+k*2)) rfl<|Ysg 21 (strOf D.name) rfl J (fun F W hW=>rl F rfl ((fun j u hu=>Ext.keep ((Ext.refl C).trans hW) (al j u hu)) 0 _ rfl))<|Ygw 22 (.bool (!ltS I.name D.name)) rfl (fun F W=>rn_geq_s (F.get rfl) (F.get rfl) rfl)<|Yg 23 (.bool (!ltS I.name D.name)) rfl<|Yv 24 (.bool (!ltS I.name D.name)) rfl fun _ C=>nK Y ?_
    have M:=C.k [0,2,6,3,10,37]
    rcases Bool.eq_false_or_eq_true (ltS I.name D.name) with Z | Z
    ·refine M.cf<|wp_skip<|aj _ _<|wp_region_lit<|M.xm rfl<|Xv (vi (k+1:Nat))<|Xa rfl fun _ C=>wpList_nil ?_
     refine ⟨⟨(k+1),C.j,(by omega),(all_succ ab (name_yes (getIt G) aa (fun _=>by rw [getIt (show l[k - 1]?=_ from (congrArg (fun z=>l[z]?) (by omega:k - 1=(k - 1))).trans am),getIt G];exact Z))),eX,(by omega)⟩,?_⟩
     rw [C.get (t:=3) rfl,ak.get (t:=3) rfl];simp [intOf] <;> omega
    exact M.ct<|wr fun C ay=>M.xv (vi 400) fun _ ar=>wn ay<|wp_ret<|ret_block<|ret_then<|ret_then<|ret_block<|ret_then<|ret1 ar rfl rfl<|⟨ret_int (show checkE l=400 from (if_neg (by omega)).trans (if_neg (named_no (k:=k) (by simp [itNames];omega) (fun hq=>by have h1:=hq.2 (by omega);rw [getIt (show l[k - 1]?=_ from (congrArg (fun z=>l[z]?) (by omega:k - 1=(k - 1))).trans am),getIt G,Z] at h1;cases h1)))).symm,eX⟩
   refine ae.yu 11 rfl<|Yu 12 rfl<|Yu 13 rfl<|Yu 14 rfl<|Yu 15 rfl<|Yu 16 rfl<|Yu 17 rfl<|Yu 18 rfl<|Yu 19 rfl<|Yu 20 rfl<|Yu 21 rfl<|Yu 22 rfl<|Yg 23 (.bool false) rfl<|Yv 24 (.bool false) rfl fun _ D=>nK Y<|have C:=D.k [0,2,6,3,10,37];C.cf<|wp_skip<|aj _ _<|wp_region_lit<|C.xm rfl<|Xv (vi (k+1:Nat))<|Xa rfl fun _ C=>wpList_nil ?_
   refine ⟨⟨(k+1),C.j,(by omega),(all_succ ab (name_yes (getIt G) aa (fun h0=>absurd h0 (by omega)))),eX,(by omega)⟩,?_⟩
   rw [C.get (t:=3) rfl,ak.get (t:=3) rfl];simp [intOf] <;> omega
  exact ac.yu 8 rfl<|Yu 9 rfl<|Yu 10 rfl<|Yn 11 rfl<|Yn 12 rfl<|Yn 13 rfl<|Yn 14 rfl<|Yn 15 rfl<|Yn 16 rfl<|Yn 17 rfl<|Yn 18 rfl<|Yn 19 rfl<|Yn 20 rfl<|Yn 21 rfl<|Yn 22 rfl<|Yu 23 rfl<|Yv 24 (.bool true) rfl fun _ D=>nK Y<|have C:=D.k [0,2,6,3,10,37];C.ct<|wr fun D D=>C.xv (vi 400) fun _ C=>wn D<|wp_ret<|ret_block<|ret_then<|ret_then<|ret_block<|ret_then<|ret1 C rfl rfl<|⟨ret_int (show checkE l=400 from (if_neg (by omega)).trans (if_neg (named_no (k:=k) (by simp [itNames];omega) (fun hq=>by have h1:=hq.1;rw [getIt G] at h1;exact aa h1)))).symm,eX⟩
 exact O.cf<|wp_exit<|exit_then<|exit_then<|exit_here<|az _ _<|wr fun C D=>O.xv (vi 0) fun _ C=>wn D<|wp_ret<|ret1 C rfl rfl<|⟨ret_int (show checkE l=0 from (if_neg (by omega)).trans (if_pos (fun j hj=>ab j (by simp [itNames] at hj;omega)))).symm,eX⟩
theorem rcheck_at (l:List It) (w:World) (h:RLs RIt 2 S w v l) :
  Calls Tryz.prog 50 #[v] w (fun e w'=>e=.returned (vi (checkE l))∧Ext w w'):=by
 obtain ⟨A,c,rfl,_⟩:=h.form
 exact rcheck_any A c l w h
theorem rchanges_any (A:Option Addr) (c:Nat) (l:List Cg) (w:World) (h:RLs RCg 3 S w (vl A l.length c) l) :
  Calls Tryz.prog 34 #[.slice A l.length c] w (fun e w'=>e=.returned (.bool (decide (validC l)))∧Ext w w'):=by
 have hc:RLs RCg 3 (Clip S w) w (vl A l.length c) l:=RLs.clip rCg h
 obtain ⟨-,hck,hcm⟩:=RLs.at h
 refine calls_enter Tryz.func34 rfl rfl rfl fun _ hF=>wr fun K1 ak=>hF.xv (.bool false) fun _ F3=>wn ak<|wp_seq_k fun K4 aF=>wr fun K5 ak=>F3.xv (vi 0) fun _ F7=>wn ak<|wp_block<|wp_loop (fun a' W=>∃ (k:Nat),Sl 58 [(0,(vl A l.length c)),(2,(.bool false)),(3,(vi k))] a'∧k≤l.length∧(∀ j,j<k→nameAt (cgNames l) j∧∀ x,l[j]?=some x→¬ fullC x)∧Ext w W∧w.heap.size≤W.heap.size) (fun a' _=>l.length - (intOf (a'.eval (.tmp 3))).toNat) ⟨0,F7.j,(by omega),(fun j hj=>absurd hj (by omega)),(Ext.refl w),(Nat.le_refl _)⟩ ?_
 rintro a8 w9 ⟨k,ak,aC,Y,aC,aD⟩
 have ac:=ak
 have aD:=aC.size
 refine wp_seq_k fun aC aC=>wr fun aD aD=>ak.xm rfl<|Xm rfl<|Xv (vi l.length)<|Xv (vd ((k:Int)<(l.length:Int))) fun _ aa=>wn aD ?_
 by_cases ak:(k:Int)<(l.length:Int)
 ·refine aa.ct<|wp_skip<|aC _ _<|wp_seq_k fun ak ab=>wp_block<|wp_seq_k fun ak O=>sX (fun J W=>Ext J W) (fun i=>false) 45 fun J ak aC=>aa.ym 0 rfl<|Ym 1 rfl fun _ az=>?_
  have av:=RLs.ux rCg hc ak
  obtain ⟨D,G,C,ak,M,I,ak,U,aJ⟩:=RLs.get av (by omega:k<l.length)
  obtain ⟨aj,au,rfl,aH⟩:=aJ
  have ak:=(Fl.cel aH).2.1
  refine az.yw 2 (vq D (G+k*3)) rfl (fun F W=>rn_indexE uu27 inf66 ((F.get rfl).trans (by rw [M])) (F.get rfl) (zl _) (il (by omega:k<l.length)) (by omega))<|Yv 3 (vq D (G+k*3)) rfl<|Yv 4 (vq D (G+k*3)) rfl fun _ ak=>have az:Ex J J:=Ext.refl J;ak.ys 5 (strOf C.name) rfl az (fun F W hW=>rl F rfl ((fun j u hu=>Ext.keep ((Ext.refl J).trans hW) (U j u hu)) 0 _ rfl)) fun _ ak=>ao 6 rfl<|ak.oe (rname_any C.name _) fun aw ak ak _ ak=>?_
  refine ⟨fun _ _=>eX,?_⟩
  refine ak.yw 7 (.bool (!(decide (okN C.name)))) rfl (fun F W=>rn_not' (F.get rfl) rfl)<|Ym 8 rfl<|fun _ aq=>?_
  by_cases V:okN C.name
  ·refine aq.yg 9 (vi k) rfl<|Yg 10 (vd ((0:Int)<(k:Int))) rfl<|Yg 11 (vd ((0:Int)<(k:Int))) rfl<|fun _ ar=>?_
   by_cases ak:(0:Int)<(k:Int)
   ·refine ar.yg 12 (vl A l.length c) rfl<|Yg 13 (vi k) rfl<|Ygw 14 (vi (k - 1:Nat)) rfl (fun F W=>rn_subN (a:=k) (b:=1) (F.get rfl) rfl (by omega) (by omega))<|fun _ aA=>?_
    obtain ⟨ae,ai,Z,ak,aB,ah,ak,aG,aK⟩:=RLs.get av (by omega:(k - 1)<l.length)
    obtain ⟨ak,ak,rfl,aI⟩:=aK
    have ak:=(Fl.cel aI).2.1
    refine aA.ygw 15 (.pointer (some ⟨ae,ai+(k - 1)*3,none⟩)) rfl (fun F W=>rn_indexE uu27 inf66 ((F.get rfl).trans (by rw [aB])) (F.get rfl) (by omega:(0:Int)≤(k - 1:Nat)) (by omega:((k - 1:Nat):Int)<(l.length:Int)) (by omega))<|Yg 16 (.pointer (some ⟨ae,ai+(k - 1)*3,none⟩)) rfl<|Yg 17 (.pointer (some ⟨ae,ai+(k - 1)*3,none⟩)) rfl fun _ ai=>have ae:Ext J aw:=eX;ai.ysg 18 (strOf Z.name) rfl ae (fun F W hW=>rl F rfl ((fun j u hu=>Ext.keep ((Ext.refl J).trans hW) (aG j u hu)) 0 _ rfl))<|Yg 19 (vl A l.length c) rfl<|Yg 20 (vi k) rfl<|Ygw 21 (vq D (G+k*3)) rfl (fun F W=>rn_indexE uu27 inf66 ((F.get rfl).trans (by rw [M])) (F.get rfl) (zl _) (il (by omega:k<l.length)) (by omega))<|Yg 22 (vq D (G+k*3)) rfl<|Yg 23 (vq D (G+k*3)) rfl<|Ysg 24 (strOf C.name) rfl ae (fun F W hW=>rl F rfl ((fun j u hu=>Ext.keep ((Ext.refl J).trans hW) (U j u hu)) 0 _ rfl))<|Ygw 25 (.bool (!ltS Z.name C.name)) rfl (fun F W=>rn_geq_s (F.get rfl) (F.get rfl) rfl)<|Yg 26 (.bool (!ltS Z.name C.name)) rfl<|Yv 27 (.bool (!ltS Z.name C.name)) rfl<|Ym 28 rfl fun _ al=>?_
    rcases Bool.eq_false_or_eq_true (ltS Z.name C.name) with ag | ag
    ·refine al.yg 29 (vl A l.length c) rfl<|Yg 30 (vi k) rfl<|Ygw 31 (vq D (G+k*3)) rfl (fun F W=>rn_indexE uu27 inf66 ((F.get rfl).trans (by rw [M])) (F.get rfl) (zl _) (il (by omega:k<l.length)) (by omega))<|Yg 32 (vq D (G+k*3+2)) rfl<|Ysg 33 (.bool C.gone) rfl ae (fun F W hW=>rl F rfl ((fun j u hu=>Ext.keep ((Ext.refl J).trans hW) (U j u hu)) 2 _ rfl))<|Yg 34 (.bool C.gone) rfl<|fun _ aa=>?_
     rcases Bool.eq_false_or_eq_true C.gone with Z | Z
     ·refine aa.yg 35 (vl A l.length c) rfl<|Yg 36 (vi k) rfl<|Ygw 37 (vq D (G+k*3)) rfl (fun F W=>rn_indexE uu27 inf66 ((F.get rfl).trans (by rw [M])) (F.get rfl) (zl _) (il (by omega:k<l.length)) (by omega))<|Yg 38 (vq D (G+k*3)) rfl<|Yg 39 (vq D (G+k*3+1)) rfl<|Ysg 40 (vl aj C.data.length au) rfl ae (fun F W hW=>rl F rfl ((fun j u hu=>Ext.keep ((Ext.refl J).trans hW) (U j u hu)) 1 _ rfl))<|Yg 41 (vi C.data.length) rfl<|Yg 42 (vd ((C.data.length:Int)≠(0:Int))) rfl<|Yg 43 (vd ((C.data.length:Int)≠(0:Int))) rfl<|Yv 44 (vd ((C.data.length:Int)≠(0:Int))) rfl fun _ G=>nK O ?_
      have D:=G.k [0,2,3,7,54]
      by_cases G:(C.data.length:Int)≠(0:Int)
      ·exact D.ct<|wr fun C G=>D.xv (.bool false) fun _ C=>wn G<|wp_ret<|ret_block<|ret_then<|ret_then<|ret_block<|ret_then<|ret1 C rfl rfl<|⟨ret_bool (decide_eq_false (valid_full I ⟨Z,by omega⟩)).symm,eX⟩
      refine D.cf<|wp_skip<|ab _ _<|wp_region_lit<|D.xm rfl<|Xv (vi (k+1:Nat))<|Xa rfl fun _ C=>wpList_nil ?_
      refine ⟨⟨(k+1),C.j,(by omega),(all_succ Y ⟨name_yes (getCg I) V (fun _=>by rw [getCg (show l[k - 1]?=_ from (congrArg (fun z=>l[z]?) (by omega:k - 1=(k - 1))).trans ah),getCg I];exact ag),(nofull2 I (by omega))⟩),eX,(by omega)⟩,?_⟩
      rw [C.get (t:=3) rfl,ac.get (t:=3) rfl];simp [intOf] <;> omega
     refine aa.yu 35 rfl<|Yu 36 rfl<|Yu 37 rfl<|Yu 38 rfl<|Yu 39 rfl<|Yu 40 rfl<|Yu 41 rfl<|Yu 42 rfl<|Yg 43 (.bool false) rfl<|Yv 44 (.bool false) rfl fun _ D=>nK O<|have C:=D.k [0,2,3,7,54];C.cf<|wp_skip<|ab _ _<|wp_region_lit<|C.xm rfl<|Xv (vi (k+1:Nat))<|Xa rfl fun _ C=>wpList_nil ?_
     refine ⟨⟨(k+1),C.j,(by omega),(all_succ Y ⟨name_yes (getCg I) V (fun _=>by rw [getCg (show l[k - 1]?=_ from (congrArg (fun z=>l[z]?) (by omega:k - 1=(k - 1))).trans ah),getCg I];exact ag),(nofull1 I Z)⟩),eX,(by omega)⟩,?_⟩
     rw [C.get (t:=3) rfl,ac.get (t:=3) rfl];simp [intOf] <;> omega
    exact al.yu 29 rfl<|Yu 30 rfl<|Yu 31 rfl<|Yu 32 rfl<|Yu 33 rfl<|Yu 34 rfl<|Yn 35 rfl<|Yn 36 rfl<|Yn 37 rfl<|Yn 38 rfl<|Yn 39 rfl<|Yn 40 rfl<|Yn 41 rfl<|Yn 42 rfl<|Yu 43 rfl<|Yv 44 (.bool true) rfl fun _ ax=>nK O<|have am:=ax.k [0,2,3,7,54];am.ct<|wr fun Z aE=>am.xv (.bool false) fun _ ay=>wn aE<|wp_ret<|ret_block<|ret_then<|ret_then<|ret_block<|ret_then<|ret1 ay rfl rfl<|⟨ret_bool (decide_eq_false (valid_name_no (k:=k) (by omega) (fun hq=>by have h1:=hq.2 (by omega);rw [getCg (show l[k - 1]?=_ from (congrArg (fun z=>l[z]?) (by omega:k - 1=(k - 1))).trans ah),getCg I,ag] at h1;cases h1))).symm,eX⟩
   refine ar.yu 12 rfl<|Yu 13 rfl<|Yu 14 rfl<|Yu 15 rfl<|Yu 16 rfl<|Yu 17 rfl<|Yu 18 rfl<|Yu 19 rfl<|Yu 20 rfl<|Yu 21 rfl<|Yu 22 rfl<|Yu 23 rfl<|Yu 24 rfl<|Yu 25 rfl<|Yg 26 (.bool false) rfl<|Yv 27 (.bool false) rfl<|Ym 28 rfl<|Yg 29 (vl A l.length c) rfl<|Yg 30 (vi k) rfl<|Ygw 31 (vq D (G+k*3)) rfl (fun F W=>rn_indexE uu27 inf66 ((F.get rfl).trans (by rw [M])) (F.get rfl) (zl _) (il (by omega:k<l.length)) (by omega))<|Yg 32 (vq D (G+k*3+2)) rfl fun _ Z=>have ae:Ext J aw:=eX;Z.ysg 33 (.bool C.gone) rfl ae (fun F W hW=>rl F rfl ((fun j u hu=>Ext.keep ((Ext.refl J).trans hW) (U j u hu)) 2 _ rfl))<|Yg 34 (.bool C.gone) rfl fun _ aa=>?_
   rcases Bool.eq_false_or_eq_true C.gone with Z | Z
   ·refine aa.yg 35 (vl A l.length c) rfl<|Yg 36 (vi k) rfl<|Ygw 37 (vq D (G+k*3)) rfl (fun F W=>rn_indexE uu27 inf66 ((F.get rfl).trans (by rw [M])) (F.get rfl) (zl _) (il (by omega:k<l.length)) (by omega))<|Yg 38 (vq D (G+k*3)) rfl<|Yg 39 (vq D (G+k*3+1)) rfl<|Ysg 40 (vl aj C.data.length au) rfl ae (fun F W hW=>rl F rfl ((fun j u hu=>Ext.keep ((Ext.refl J).trans hW) (U j u hu)) 1 _ rfl))<|Yg 41 (vi C.data.length) rfl<|Yg 42 (vd ((C.data.length:Int)≠(0:Int))) rfl<|Yg 43 (vd ((C.data.length:Int)≠(0:Int))) rfl<|Yv 44 (vd ((C.data.length:Int)≠(0:Int))) rfl fun _ G=>nK O ?_
    have D:=G.k [0,2,3,7,54]
    by_cases G:(C.data.length:Int)≠(0:Int)
    ·exact D.ct<|wr fun C G=>D.xv (.bool false) fun _ C=>wn G<|wp_ret<|ret_block<|ret_then<|ret_then<|ret_block<|ret_then<|ret1 C rfl rfl<|⟨ret_bool (decide_eq_false (valid_full I ⟨Z,by omega⟩)).symm,eX⟩
    refine D.cf<|wp_skip<|ab _ _<|wp_region_lit<|D.xm rfl<|Xv (vi (k+1:Nat))<|Xa rfl fun _ C=>wpList_nil ?_
    refine ⟨⟨(k+1),C.j,(by omega),(all_succ Y ⟨name_yes (getCg I) V (fun h0=>absurd h0 (by omega)),(nofull2 I (by omega))⟩),eX,(by omega)⟩,?_⟩
    rw [C.get (t:=3) rfl,ac.get (t:=3) rfl];simp [intOf] <;> omega
   refine aa.yu 35 rfl<|Yu 36 rfl<|Yu 37 rfl<|Yu 38 rfl<|Yu 39 rfl<|Yu 40 rfl<|Yu 41 rfl<|Yu 42 rfl<|Yg 43 (.bool false) rfl<|Yv 44 (.bool false) rfl fun _ D=>nK O<|have C:=D.k [0,2,3,7,54];C.cf<|wp_skip<|ab _ _<|wp_region_lit<|C.xm rfl<|Xv (vi (k+1:Nat))<|Xa rfl fun _ C=>wpList_nil ?_
   refine ⟨⟨(k+1),C.j,(by omega),(all_succ Y ⟨name_yes (getCg I) V (fun h0=>absurd h0 (by omega)),(nofull1 I Z)⟩),eX,(by omega)⟩,?_⟩
   rw [C.get (t:=3) rfl,ac.get (t:=3) rfl];simp [intOf] <;> omega
  exact aq.yu 9 rfl<|Yu 10 rfl<|Yu 11 rfl<|Yn 12 rfl<|Yn 13 rfl<|Yn 14 rfl<|Yn 15 rfl<|Yn 16 rfl<|Yn 17 rfl<|Yn 18 rfl<|Yn 19 rfl<|Yn 20 rfl<|Yn 21 rfl<|Yn 22 rfl<|Yn 23 rfl<|Yn 24 rfl<|Yn 25 rfl<|Yu 26 rfl<|Yv 27 (.bool true) rfl<|Ym 28 rfl<|Yu 29 rfl<|Yu 30 rfl<|Yu 31 rfl<|Yu 32 rfl<|Yu 33 rfl<|Yu 34 rfl<|Yn 35 rfl<|Yn 36 rfl<|Yn 37 rfl<|Yn 38 rfl<|Yn 39 rfl<|Yn 40 rfl<|Yn 41 rfl<|Yn 42 rfl<|Yu 43 rfl<|Yv 44 (.bool true) rfl fun _ D=>nK O<|have C:=D.k [0,2,3,7,54];C.ct<|wr fun D D=>C.xv (.bool false) fun _ C=>wn D<|wp_ret<|ret_block<|ret_then<|ret_then<|ret_block<|ret_then<|ret1 C rfl rfl<|⟨ret_bool (decide_eq_false (valid_name_no (k:=k) (by omega) (fun hq=>by have h1:=hq.1;rw [getCg I] at h1;exact V h1))).symm,eX⟩
 exact aa.cf<|wp_exit<|exit_then<|exit_then<|exit_here<|aF _ _<|wr fun C D=>aa.xm rfl<|Xv (vi l.length)<|Xv (vd ((l.length:Int)≤(65536:Int)))<|Xa rfl fun _ C=>wn D<|have D:=C.k [0,2,3,7];wp_ret<|ret1 D rfl rfl<|⟨ret_bool (valid_all Y (by omega)),eX⟩
theorem rchanges_at (l:List Cg) (w:World) (h:RLs RCg 3 S w v l) :
  Calls Tryz.prog 34 #[v] w (fun e w'=>e=.returned (.bool (decide (validC l)))∧Ext w w'):=by
 obtain ⟨A,c,rfl,_⟩:=h.form
 exact rchanges_any A c l w h
theorem str_cells (l:List UInt8):Lib.strCells ⟨l.toArray⟩=byteVals l:=by simp [Lib.strCells,byteVals]
theorem str_size (l:List UInt8):(ByteArray.mk l.toArray).size=l.length:=by simp [ByteArray.size]
section
variable {P:Program} {w:World}
theorem run_app_str {t ty e:TypeId} (E:El P t e (.int .u8 0) 1 1) (htx:P.underlying tx=some .string) {v:Value} {n:Nat} {xs:List Value} (hown:w.ownsRow base e 1 v n xs) {l:List UInt8}
    (hb:n+l.length≤140737488355328) (hbase:base≤w.heap.size) :
    ∃ v' w',(Builtin.append_ #[t,tx] ty #[v,strOf l]).run P w=.ok v' w'∧w'.ownsRow base e 1 v' (n+l.length) (xs++byteVals l)∧w.grownBy w' v.ownBlock∧(v'.ownBlock=v.ownBlock∨v'.ownBlock=some w.heap.size):=by
  obtain ⟨i,hi,hz0,hz1,hz2⟩:=info_parts E.hi
  have hs:=str_size l
  obtain ⟨v',w',hr,h1,h2,h3⟩:=Lib.run_append_own_string (P:=P) w base t tx ty e i E.ht htx hi hz0 hz1 hz2 v n xs hown ⟨l.toArray⟩ (by simp only [maxLen];omega) (by omega) hbase
  rw [hs,str_cells] at h1
  refine ⟨v',w',hr,h1,h2,?_⟩
  have hlen:xs.length=n:=by have:=hown.1;omega
  rcases hown.2 with ⟨rfl,rfl⟩ | ⟨g,cap,cur,rfl,hbg,hg,hnc,hcm,hcs,htake⟩
  · by_cases h0:l.length=0
    · rw [h3.2 ⟨rfl,by omega⟩];exact .inl rfl
    · have C:=run_append_nil_string (P:=P) w t tx ty e i (.int .u8 0) E.ht htx hi hz0 ⟨l.toArray⟩ (by omega) (by omega) (by rw [hz2];omega)
      rw [hr] at C
      injection C with C _
      rw [C];exact .inr rfl
  · by_cases hroom:n+(ByteArray.mk l.toArray).size≤cap
    · have C:=Lib.run_append_room_string (P:=P) w t tx ty e i E.ht htx hi hz1 g n cap cur hg ⟨l.toArray⟩ hroom (by omega)
      rw [hr] at C
      injection C with C _
      rw [C];exact .inl rfl
    · have holds:∀ j u,xs[j]?=some u→w.cell? ((⟨g,0,none⟩:Addr).add j)=some u:=hown.cells (g:=g) rfl
      have C:=Lib.run_append_grow_string (P:=P) w t tx ty e i (.int .u8 0) E.ht htx hi hz0 ⟨g,0,none⟩ n cap xs (by rw [hz1];omega) holds ⟨l.toArray⟩ (by omega) (by omega) (by rw [hz2];exact growslice_fits (by omega) (by omega))
      rw [hr] at C
      injection C with C _
      rw [C];exact .inr rfl
end
section
variable {N:Nat} {m:List (Nat × Value)} {a:Act} {P:Program} {ops:Array Oper} {Q:Exit→Act→World→Prop} {i:Nat} {w:World} {o:Oper} {K:Act→World→Prop} {d:Nat}
theorem o_appT {t e:TypeId} (E:El P t e (.int .u8 0) 1 1) (htx:P.underlying tx=some .string) (hF:Sl N m a) (ho:ops[i]?=some o) (hw:Region.wanted o (yielded ops a.tmps)=true) (hd:o.dst=some d) (hN:Nat.blt d N=true) {s x:Operand}
    (hop:o.op=.call { callee:=.builtin .append,args:=#[s,x],argTypes:=#[t,tx] }) {B:Option Addr} {n c0:Nat} (hs:a.eval s=.slice B n c0) {l:List UInt8} (hx:a.eval x=strOf l)
    {base:Nat} {xs zs:List Value} (hown:w.ownsRow base e 1 (.slice B n c0) n xs) (hbase:base≤w.heap.size) (hb:n+l.length≤140737488355328) (hz:xs++byteVals l=zs)
    (h:∀ A' c' w' a',Sl N ((d,.slice A' (n+l.length) c')::m) a'→w'.ownsRow base e 1 (.slice A' (n+l.length) c') (n+l.length) zs→w.grownBy w' (Value.slice B n c0).ownBlock→n+l.length≤c'→c'≤9223372036854775807 →
      (∀ g,g<w.heap.size→some g≠(Value.slice B n c0).ownBlock→some g≠(Value.slice A' (n+l.length) c').ownBlock)→K a' w'):wpOp P ops Q i K a w:=by
  subst hz
  obtain ⟨v',w',hrun,h1,h2,h5⟩:=run_app_str (P:=P) (ty:=o.type) E htx hown hb hbase
  refine op_wp ho hw ?_
  unfold Oper.wp execOp
  simp only [hop,resolve,invoke,builtin,Sem.run_bind,Sem.run_pure,Result.andThen_ok,List.map_toArray,List.map_cons,List.map_nil,hs,hx,hrun]
  obtain ⟨A',c',rfl,h3,h4⟩:=own_any h1
  refine h A' c' w' _ (by rw [hd];exact hF.put hN) h1 h2 h3 h4 fun g hg hne=>?_
  rcases h5 with h5 | h5
  · rw [h5];exact hne
  · rw [h5];exact fun e=>by injection e with e;omega
end
theorem rstate_any (A:Option Addr) (c:Nat) (l:List It) (w:World) (h:RLs RIt 2 S w (vl A l.length c) l) (hs:∀ x∈l,x.data.length≤4294967296) (hl:l.length≤4294967296) :
  Calls Tryz.prog 33 #[.slice A l.length c] w (fun e w'=>e=.returned (.tuple #[.agg (byteVals (stateD l)).toArray,.int .i64 (checkE l)])∧Ext w w'):=by
 have hc:RLs RIt 2 (Clip S w) w (vl A l.length c) l:=RLs.clip rIt h
 obtain ⟨-,hck,hcm⟩:=RLs.at h
 refine calls_enter Tryz.func33 rfl rfl rfl fun _ O=>wr fun K1 ay=>O.xz (byteVals (List.replicate 32 0)) 29 fun I O _ O z6 z7 b4 aG=>O.xv (vi 0) fun _ O=>wn ay<|wr fun ay aC=>O.xm rfl fun _ O=>have ay:=(RLs.ext rIt hc aG);O.xe (rcheck_at (v:=(vl A l.length c)) l _ ay) fun O aG O _ O=>O.xa rfl fun _ O=>wn aC<|wp_seq_k fun ay ay=>wr fun aC aC=>O.xm rfl<|Xv (vd (((checkE l):Int)≠(0:Int))) fun _ O=>wn aC ?_
 by_cases M:((checkE l):Int)≠(0:Int)
 ·refine O.ct<|wr fun C I=>O.xw (.agg (byteVals (List.replicate 32 0)).toArray) (fun F=>rn_build parts0 (by kernel_rfl))<|Xm rfl fun _ C=>?_
  have D:=b4.ext aG
  refine C.xs rfl D (fun D G D=>?_) (hk:=byteVals_len (show List.length (List.replicate 32 0)=_ from List.length_replicate));have J:=D.size
  refine C.xa rfl fun _ C=>wn I<|have D:=C.k [0,2,3,4,11];wp_ret<|ret_then ?_
  exact retC1 D rfl rfl rfl G uu29 rfl (sk inf29 (byteVals_len (show List.length (List.replicate 32 0)=_ from List.length_replicate)))<|⟨by rw [show stateD l=List.replicate 32 0 from if_neg M],eX⟩
 refine O.cf<|wp_skip<|ay _ _<|wr fun ay ay=>O.xn (fun g=>(vl (some ⟨g,0,none⟩) 0 0)) [] 29 (fun F=>rn_buildSlice (parts0 ) (by kernel_rfl)) fun J aR _ O aC aC aC aQ=>O.xa rfl fun _ O=>wn ay<|have ay:=O.k [0,2,3,4,11,5];wp_seq_k fun O aF=>wr fun O aG=>ay.xv (vi 0) fun _ O=>wn aG<|wp_block<|have aG:=own_blk0 (k:=32) aC;have ay:=b4.ux aQ;wp_loop (fun a' W=>∃ (k:Nat) (Ap:Option Addr) (np:Nat) (cp:Nat) (ls:List (List UInt8)),Sl 48 [(0,(vl A l.length c)),(2,(vp I)),(3,(vi 0)),(4,(vi (checkE l))),(11,(vd (((checkE l):Int)≠(0:Int)))),(5,(vl Ap np cp)),(6,(vi k))] a'∧(k≤l.length∧np=k)∧ls=(l.take k).map itLeaf∧Ext w W∧Blk W I 29 (byteVals (List.replicate 32 0))∧W.ownsRow J 29 32 (vl Ap np cp) np (digVals ls)∧J≤W.heap.size∧aR.heap.size≤W.heap.size) (fun a' _=>l.length - (intOf (a'.eval (.tmp 6))).toNat) ⟨0,(some ⟨J,0,none⟩),0,0,[],O.j,⟨by omega,by omega⟩,rfl,eX,ay,aG,(by omega),(Nat.le_refl _)⟩ ?_
 rintro O O ⟨k,Ap,np,cp,ls,O,ay,ac,ay,Z,ah,aC,aC⟩
 have aJ:=O
 have aC:=ay.size
 have ay:=Z.lt
 have ay:=own_form0 ah
 have aN:All32 ls:=by rw [ac];exact leaves_32 _
 refine wp_seq_k fun ay ay=>wr fun aC aC=>O.xm rfl<|Xm rfl<|Xv (vi l.length)<|Xv (vd ((k:Int)<(l.length:Int))) fun _ U=>wn aC ?_
 by_cases O:(k:Int)<(l.length:Int)
 ·refine U.ct<|wp_skip<|ay _ _<|wp_seq_k fun O aH=>wp_block<|wp_seq_k fun O aI=>sX (fun D W=>Ext D W) (fun i=>false) 15 fun D ae O=>U.ym 0 rfl<|Ym 1 rfl fun _ aA=>?_
  have O:=RLs.ux rIt hc ae
  obtain ⟨V,Y,C,ay,al,G,ay,am,aO⟩:=RLs.get O (by omega:k<l.length)
  obtain ⟨O,O,rfl,aL⟩:=aO
  have O:=(Fl.cel aL).2.1
  obtain ⟨O,O⟩:=nm_ok (Decidable.not_not.1 M) G;have O:=hs C (List.mem_of_getElem? G)
  refine aA.yw 2 (vq V (Y+k*2)) rfl (fun F W=>rn_indexE uu26 inf61 ((F.get rfl).trans (by rw [al])) (F.get rfl) (zl _) (il (by omega:k<l.length)) (by omega))<|Yv 3 (vq V (Y+k*2)) rfl fun _ ay=>have O:Ex D D:=Ext.refl D;ay.ys 4 (strOf C.name) rfl O (fun F W hW=>rl F rfl ((fun j u hu=>Ext.keep ((Ext.refl D).trans hW) (am j u hu)) 0 _ rfl))<|Yw 5 (vi C.name.length) rfl (fun F W=>rn_lenS uu9 (F.get rfl))<|Ys 6 (.int .u8 ((UInt8.ofNat C.name.length).toNat:Nat)) rfl O (fun F W hW=>rn_convW uu3 uu5 (F.get rfl) (cvi_8 C.name.length))<|Ym 8 rfl<|Ym 9 rfl<|Yw 10 (vq V (Y+k*2)) rfl (fun F W=>rn_indexE uu26 inf61 ((F.get rfl).trans (by rw [al])) (F.get rfl) (zl _) (il (by omega:k<l.length)) (by omega))<|Yv 11 (vq V (Y+k*2)) rfl<|Ys 12 (strOf C.name) rfl O (fun F W hW=>rl F rfl ((fun j u hu=>Ext.keep ((Ext.refl D).trans hW) (am j u hu)) 0 _ rfl)) fun _ D=>ao 7 rfl<|D.on (fun g=>(vl (some ⟨g,0,none⟩) 1 1)) [(.int .u8 ((UInt8.ofNat C.name.length).toNat:Nat))] 5 rfl (fun F=>rn_buildSlice (parts1 (F.get rfl)) (by kernel_rfl)) fun aa Y _ D O O O au=>?_
  refine ⟨fun _ _=>eX,?_⟩
  refine ao 13 rfl<|have V:=(own_blkN (k:=1) (n:=1) (cs:=byteVals ([(UInt8.ofNat C.name.length)])) O rfl (by omega));have ag:=(own_ext (own_ext ah ae) au);have al:=ag;have aB:Apart (vl Ap np cp) (vl (some ⟨aa,0,none⟩) 1 1):=(Apart.types ag (own_blkN (k:=1) (n:=1) (cs:=byteVals ([(UInt8.ofNat C.name.length)])) O rfl (by omega)) (by decide));o_appT (zs:=byteVals (([(UInt8.ofNat C.name.length)])++C.name)) El22 uu9 D rfl rfl rfl rfl rfl (D.get rfl) (D.get rfl) V (by omega) (by omega) (byteVals_app _ _) fun ai ak O D D aw ab V V V=>?_;have V:=ab.size
  have ar:Y.grownBy O (some aa):=ab
  refine ⟨fun _ _=>eX,?_⟩
  refine D.yv 14 (vl ai (1+C.name.length) ak) rfl fun _ D=>nK aI<|have O:=D.k [0,2,3,4,11,5,6,18,7];wp_region_lit<|O.xm rfl<|Xm rfl<|Xm rfl<|Xm rfl fun _ az=>?_
  have D:=RLs.ug rIt hc ar
  obtain ⟨aj,av,aS,O,aE,aM,O,aK,aP⟩:=RLs.get D (by omega:k<l.length)
  obtain rfl:C=aS:=Option.some.inj (G.symm.trans aM)
  obtain ⟨ax,aD,rfl,aq⟩:=aP
  have D:=(Fl.cel aq).2.1
  obtain ⟨D,D⟩:=nm_ok (Decidable.not_not.1 M) G;have D:=hs C (List.mem_of_getElem? G)
  refine az.xw (vq aj (av+k*2)) (fun F=>rn_indexE uu26 inf61 ((F.get rfl).trans (by rw [aE])) (F.get rfl) (zl _) (il (by omega:k<l.length)) (by omega))<|Xv (vq aj (av+k*2+1))<|Xw (vl ax C.data.length aD) (fun F=>rl F rfl (aK 1 _ rfl)) fun _ D=>have Y:=aw;have U:=(own_grownR ag ab aB);have M:=U;have V:Apart (vl Ap np cp) (vl ai (1+C.name.length) ak):=(Apart.types U aw (by decide));wpl_op (i:=7) rfl<|o_appB (zs:=byteVals ((([(UInt8.ofNat C.name.length)])++C.name)++C.data)) El22 D rfl rfl rfl rfl rfl (D.get rfl) (D.get rfl) Y (Fl.cel aq).2.2 (by omega) (by omega) (by omega) (byteVals_app _ _) fun ab ai D D D ak M O O O=>have O:=M.size;D.xE (c:=rtagged_at ([105,116,101,109]) (v:=(vl ab ((1+C.name.length)+C.data.length) ai)) (n:=(1+C.name.length)+C.data.length) ((([(UInt8.ofNat C.name.length)])++C.name)++C.data) _ (Fl.own (S:=fun b=>aa≤b) ak (fun b hb=>hb) (byteVals_one _)) (by decide) (by omega)) (k:=fun D O D _ D=>have ah:=(own_ext (own_grownR U M V) O);have aa:=ah;D.xn (fun g=>(vl (some ⟨g,0,none⟩) 1 1)) (byteVals ((tagged ([105,116,101,109]) ((([(UInt8.ofNat C.name.length)])++C.name)++C.data)))) 29 (fun F=>rn_buildSlice (parts1 (F.get rfl)) (build_wholeE (vs:=[(.agg (byteVals (tagged ([105,116,101,109]) ((([(UInt8.ofNat C.name.length)])++C.name)++C.data))).toArray)]) El30 rfl rfl (fun v hv=>by rw [List.mem_singleton.1 hv];exact (byteVals_len (tagged_len _ _))) (by decide) (by decide) (by simp [Value.cells,byteVals]))) fun D U _ V U U ag U=>have al:=own_new (g:=D) aa (by omega);have aa:=(own_ext ah U);have aj:=aa;have ah:=(((grown_blk Y M (((Z.ext ae).ext au).gn ar) (by decide)).ext O).ext U);have Z:some I≠(Value.slice Ap np cp).ownBlock:=(own_ne aa (by omega:I<J));have J:=ah.lt;have am:some D≠(Value.slice Ap np cp).ownBlock:=al;have J:=ag.lt;have J:=(own_ext (own_ext ak O) U);have ae:=J;have ae:Apart (vl ab ((1+C.name.length)+C.data.length) ai) (vl Ap np cp):=(Apart.types J aa (by decide));wpl_op (i:=10) rfl<|o_appB (zs:=digVals (ls++([tagged ([105,116,101,109]) ((([(UInt8.ofNat C.name.length)])++C.name)++C.data)]))) El30 V rfl rfl rfl rfl rfl (V.get rfl) (V.get rfl) aj (Fl.cel (Fl.digblk (S:=fun b=>b=D) ag (All32.sing (tagged_len _ _)) (by simp [digVals,byteVals]))).2.2 (by omega) (by omega) (by omega) (digVals_app _ _) fun aa ae J J ab ag J V V V=>have ai:=J.size;have ai:=V I (by omega) Z;have I:=V D (by omega) am;ab.xa rfl fun _ D=>?_)
  refine wn aH<|have I:=D.k [0,2,3,4,11,5,6,18,7];wp_region_lit<|I.xm rfl<|Xv (vi (k+1:Nat))<|Xa rfl fun _ D=>wpList_nil ?_
  have I:=ah.grown J Z
  refine ⟨⟨(k+1),aa,np+1,ae,ls++([tagged ([105,116,101,109]) ((([(UInt8.ofNat C.name.length)])++C.name)++C.data)]),D.j,⟨by omega,by omega⟩,(by rw [ac];exact leaves_step G),(ext_row (((ext_row eX M Y (by omega)).trans O).trans U) J aj (by omega)),I,ag,(by omega),(by omega)⟩,?_⟩
  rw [D.get (t:=6) rfl,aJ.get (t:=6) rfl];simp [intOf] <;> omega
 refine U.cf<|wp_exit<|exit_then<|exit_then<|exit_here<|aF _ _<|wr fun C I=>U.xm rfl fun _ C=>have D:=(Fl.own (S:=fun b=>J≤b) ah (fun b hb=>hb) (digVals_one _));C.xE (c:=rtree_at ls _ (n:=np) (v:=(vl Ap np cp)) aN D (by omega)) (k:=fun C G C _ C=>?_)
 have D:=Z.ext G
 refine C.xs rfl D (fun D G D=>?_) (hk:=byteVals_len (treeD_len _));have J:=D.size
 refine C.xv (vi 0) fun _ C=>wn I<|have D:=C.k [0,2,3,4,11,5,6,18];wp_ret ?_
 refine retC1 D rfl rfl rfl G uu29 rfl (sk inf29 (byteVals_len (treeD_len _))) ?_
 have hk:k=l.length:=by omega
 have hl:=ac
 rw [hk,List.take_length] at hl
 exact ⟨by rw [show stateD l=treeD ls from (if_pos (Decidable.not_not.1 M)).trans (by rw [hl]),(Decidable.not_not.1 M)],eX⟩
theorem rstate_at (l:List It) (w:World) (h:RLs RIt 2 S w v l) (hs:∀ x∈l,x.data.length≤4294967296) (hl:l.length≤4294967296) :
  Calls Tryz.prog 33 #[v] w (fun e w'=>e=.returned (.tuple #[.agg (byteVals (stateD l)).toArray,.int .i64 (checkE l)])∧Ext w w'):=by
 obtain ⟨A,c,rfl,_⟩:=h.form
 exact rstate_any A c l w h hs hl
section
variable {α:Type} {R:RelT α} {k:Nat}
def OwnG (R:RelT α) (k:Nat) (e:TypeId) (S:Nat→Prop) (base:Nat) (w:World) (v:Value) (n:Nat) (xs:List Value) (l:List α):Prop :=
 w.ownsRow base e k v n xs∧n=l.length∧(∀ u∈xs,u.oneCell'=true)∧(∀ b,S b→b<base)∧∀ i (h:i<l.length),R S w (chunk k xs i) l[i]
def SrcG (R:RelT α) (k:Nat) (S:Nat→Prop) (w:World) (A:Option Addr) (n:Nat) (l:List α):Prop:=∃ ys,Cel w k A n ys∧n=l.length∧∀ i (h:i<l.length),R S w (chunk k ys i) l[i]
variable {e:TypeId} {l l2:List α}
theorem SrcG.of {A:Option Addr} {c:Nat} (h:RLs R k S w (vl A n c) l):SrcG R k S w A n l:=by
 obtain ⟨h1,_,ys,h2,h3⟩:=RSl.cel h
 exact ⟨ys,h2,h1,h3⟩
theorem SrcG.one {t:TypeId} {x:α} (h:Blk w g t cs) (hk:cs.length=k) (h1:∀ u∈cs,u.oneCell'=true) (hx:R S w cs x):SrcG R k S w (some ⟨g,0,none⟩) 1 [x]:=by
 refine ⟨cs,h.cel (by omega) h1,rfl,fun i hi=>?_⟩
 simp only [List.length_singleton] at hi
 obtain rfl:i=0:=by omega
 rw [chunk_self hk];exact hx
theorem OwnG.nil (h:Blk w g e []) (hS:∀ b,S b→b<g):OwnG R k e S g w (vl (some ⟨g,0,none⟩) 0 0) 0 [] []:=⟨own_blk0 h,rfl,fun u hu=>absurd hu (by simp),hS,fun i hi=>absurd hi (by simp)⟩
theorem OwnG.app (hR:Rel R) (h:OwnG R k e S base w v n xs l) (hr:w'.ownsRow base e k v' (n+l2.length) (xs++ys)) (hg:w.grownBy w' v.ownBlock)
  (h1:∀ u∈ys,u.oneCell'=true) (hx:∀ i (h:i<l2.length),R S w (chunk k ys i) l2[i]):OwnG R k e S base w' v' (n+l2.length) (xs++ys) (l++l2):=by
 obtain ⟨q1,q2,q3,q5,q4⟩:=h
 have hge:∀ b,S b→some b≠v.ownBlock:=fun b hb e=>by have:=own_ge q1 b e;have:=q5 b hb;omega
 have mv:∀ {cs:List Value} {x:α},R S w cs x→R S w' cs x:=fun hq=>hR.pres hq ⟨hg.size,fun b hb hl=>hg.block b hl (hge b hb)⟩
 have hxl:xs.length=n*k:=q1.1
 refine ⟨hr,by simp [q2],fun u hu=>?_,q5,fun i hi=>?_⟩
 ·rcases List.mem_append.1 hu with hu | hu
  ·exact q3 u hu
  ·exact h1 u hu
 ·by_cases C:i<l.length
  ·rw [List.getElem_append_left C,chunk_append_left hxl (by omega)]
   exact mv (q4 i C)
  ·simp only [List.length_append] at hi
   have C:chunk k (xs++ys) i=chunk k ys (i - l.length):=by rw [chunk_append_right hxl (by omega),q2]
   rw [C,List.getElem_append_right (by omega)]
   exact mv (hx (i - l.length) (by omega))
theorem OwnG.ext (hR:Rel R) (h:OwnG R k e S base w v n xs l) (he:Ext w w'):OwnG R k e S base w' v n xs l:=⟨own_ext h.1 he,h.2.1,h.2.2.1,h.2.2.2.1,fun i hi=>hR.ext (h.2.2.2.2 i hi) he⟩
theorem OwnG.far (h:OwnG R k e S base w v n xs l) {g:Nat} (hg:w.heap.size≤g):some g≠v.ownBlock:=fun e1=>by have:=(h.1.lt g e1.symm).2;omega
theorem OwnG.rls (hR:Rel R) (h:OwnG R k e S base w v n xs l):RLs R k (fun b=>S b∨base≤b) w v l:=by
 obtain ⟨h1,h2,h3,_,h4⟩:=h
 exact RSl.own h1 (fun b hb=>.inr hb) h2 h3 fun i hi=>hR.sub (h4 i hi) fun b hb=>.inl hb
section
variable {N:Nat} {m:List (Nat × Value)} {a:Act} {P:Program} {ops:Array Oper} {Q:Exit→Act→World→Prop} {i:Nat} {o:Oper} {K:Act→World→Prop} {d:Nat}
theorem o_appG (hR:Rel R) {t:TypeId} {z:Value} {bytes:Nat} (E:El P t e z k bytes) (hF:Sl N m a) (ho:ops[i]?=some o) (hw:Region.wanted o (yielded ops a.tmps)=true) (hd:o.dst=some d) (hN:Nat.blt d N=true) {s x:Operand}
  (hop:o.op=.call { callee:=.builtin .append,args:=#[s,x],argTypes:=#[t,t] }) {B:Option Addr} {c0:Nat} (hs:a.eval s=.slice B n c0) {A:Option Addr} {n2 c:Nat} (hx:a.eval x=.slice A n2 c)
  (hO:OwnG R k e S base w (vl B n c0) n xs l) (hl:SrcG R k S w A n2 l2) (hbase:base≤w.heap.size) (h63:n+n2≤9223372036854775807) (hbytes:(n+n2)*bytes≤140737488355328)
  (h:∀ A' c' zs w' a',Sl N ((d,.slice A' (n+n2) c')::m) a'→OwnG R k e S base w' (vl A' (n+n2) c') (n+n2) zs (l++l2)→w.grownBy w' (Value.slice B n c0).ownBlock→n+n2≤c'→c'≤9223372036854775807 →
   (∀ g,g<w.heap.size→some g≠(Value.slice B n c0).ownBlock→some g≠(Value.slice A' (n+n2) c').ownBlock)→K a' w'):wpOp P ops Q i K a w:=by
 obtain ⟨ys,h1,h2,h3⟩:=hl
 subst h2
 exact o_appB E hF ho hw hd hN hop hs hx hO.1 h1 hbase h63 hbytes rfl fun A' c' w' a' hF' q1 q2 q3 q4 q5=>h A' c' _ w' a' hF' (hO.app hR q1 q2 h1.2.1 h3) q2 q3 q4 q5
end
end
theorem message_any (C:Option Addr) (cc:Nat) (O:Option Addr) (oc:Nat) (E:Option Addr) (ec:Nat) (P:Option Addr) (pc:Nat) (v:Vr) (w:World) (h:RVp S w (vl C v.chs.length cc) (vl O v.sg.op.length oc) (vl E v.sg.cl.length ec) (vl P v.sg.path.length pc) v) (hv:validC v.chs) (hd:∀ x∈v.chs,x.data.length≤4294967296) (h0:0≤v.no) (hno:v.no≤4294967296) (hG:Glob w) :
  Calls Tryz.prog 31 #[(ag ((vi v.no)::dg v.state [(vl C v.chs.length cc),(vi v.sg.index),(vl O v.sg.op.length oc),(vl E v.sg.cl.length ec),(vl P v.sg.path.length pc)]))] w (fun e w'=>∃ A c,e=.returned (vl A 72 c)∧Fl (fun b=>w.heap.size≤b) w' 1 (vl A 72 c) 72 (byteVals v.msg)∧Ext w w'):=by
 have hc:=RVp.subB (S':=Clip S w) h (fun _ hb hs=>⟨hs,hb⟩)
 obtain ⟨-,aq,aq⟩:=RLs.at hc.chs;have aq:=(Fl.cel hc.sg.op).2.1;have aq:=(Fl.cel hc.sg.cl).2.1;have aq:=(Fl.cel hc.sg.path).2.1
 have aq:=hv.1
 refine calls_enter Tryz.func31 rfl rfl rfl fun _ hF=>wr fun K1 ay=>hF.xb rfl fun I w3 _ F9 z6 z7 b4 aq=>F9.xv v0 fun _ aq=>wn ay<|wr fun ay ay=>aq.xv v0 fun _ aq=>wn ay<|wp_seq_k fun ay aK=>wr fun ay ay=>aq.xv (vq I 33)<|Xw (vl C v.chs.length cc) (fun F=>rl F rfl ((b4.rule.1 33).trans ((at_app (k:=0) (byteVals_len hc.st)).trans rfl)))<|Xv (vi v.chs.length)<|Xv (vi 0) fun _ aq=>wn ay<|wp_block<|wp_loop (fun a' W=>∃ (k:Nat) (Ap:Option Addr) (np:Nat) (cp:Nat) (ls:List (List UInt8)),Sl 50 [(0,(ag ((vi v.no)::dg v.state [(vl C v.chs.length cc),(vi v.sg.index),(vl O v.sg.op.length oc),(vl E v.sg.cl.length ec),(vl P v.sg.path.length pc)]))),(1,(vp I)),(2,v0),(3,(vl Ap np cp)),(9,(vl C v.chs.length cc)),(10,(vi v.chs.length)),(11,(vi k))] a'∧(k≤v.chs.length∧np=k)∧ls=(v.chs.take k).map cgLeaf∧Ext w W∧Blk W I 34 ((vi v.no)::dg v.state [(vl C v.chs.length cc),(vi v.sg.index),(vl O v.sg.op.length oc),(vl E v.sg.cl.length ec),(vl P v.sg.path.length pc)])∧W.ownsRow w3.heap.size 29 32 (vl Ap np cp) np (digVals ls)∧w3.heap.size≤W.heap.size∧w3.heap.size≤W.heap.size) (fun a' _=>v.chs.length - (intOf (a'.eval (.tmp 11))).toNat) ⟨0,none,0,0,[],aq.j,⟨by omega,by omega⟩,rfl,eX,b4,(own_nil w3 w3.heap.size 29 32),(by omega),(Nat.le_refl _)⟩ ?_
 rintro aq aE ⟨k,Ap,np,cp,ls,aq,ay,al,ay,aj,ac,aJ,aJ⟩
 have aC:=aq
 have aJ:=ay.size
 have aJ:=aj.lt
 have aJ:=own_form0 ac
 have aN:All32 ls:=by rw [al];exact cgleaves_32 _
 refine wr fun aJ aJ=>aq.xv (vd ((k:Int)<(v.chs.length:Int))) fun _ ah=>wn aJ<|wp_seq_k fun aq aq=>?_
 by_cases aJ:(k:Int)<(v.chs.length:Int)
 ·refine ah.ct<|wp_skip<|aq _ _<|wp_seq_k fun aq aB=>wp_block<|wr fun aq aL=>?_
  have aq:=RLs.ext rCg hc.chs ay
  obtain ⟨aG,aP,D,ay,aH,ak,ay,aM,aO⟩:=RLs.get aq (by omega:k<v.chs.length)
  obtain ⟨V,Y,rfl,aw⟩:=aO
  have aq:=(Fl.cel aw).2.1
  obtain ⟨aq,aq⟩:=valid_name hv ak;have aq:=hd D (List.mem_of_getElem? ak)
  refine ah.xw (vq aG (aP+k*3)) (fun F=>rn_indexE uu27 inf66 ((F.get rfl).trans (by rw [aH])) (F.get rfl) (zl _) (il (by omega:k<v.chs.length)) (by omega))<|Xw (.agg #[(strOf D.name),(vl V D.data.length Y),(.bool D.gone)]) (fun F=>rn_loadN (cs:=[(strOf D.name),(vl V D.data.length Y),(.bool D.gone)]) (F.get rfl) uu66 rfl inf66 aM) fun _ aq=>aq.xz [(strOf ([])),v0,(.bool false)] 66 fun G aq _ aq ay ay ar Z=>aq.xs rfl ar (fun ay ay M=>have aG:=M.size;wn aL<|wr fun aG aH=>aq.xv (vp G)<|Xv (vp G)<|Xw (strOf D.name) (fun F=>rl F rfl (ay.rule.1 0))<|Xw (vi D.name.length) (fun F=>rn_lenS uu9 (F.get rfl))<|Xw (.int .u8 ((UInt8.ofNat D.name.length).toNat:Nat)) (fun F=>rn_convW uu3 uu5 (F.get rfl) (cvi_8 D.name.length)) fun _ aq=>aq.xn (fun g=>(vl (some ⟨g,0,none⟩) 2 2)) [(.int .u8 0),(.int .u8 ((UInt8.ofNat D.name.length).toNat:Nat))] 5 (fun F=>rn_buildSlice (parts2 rfl (F.get rfl)) (by kernel_rfl)) fun J aq _ aq aG aG au U=>aq.xa rfl fun _ aG=>wn aH<|have aq:=aG.k [0,1,2,3,9,10,11,12,5,6];wp_seq_k fun aG aA=>wr fun aG aG=>aq.xv (vq G 2) fun _ aq=>have ai:=(ay.ext U);aq.xw (.bool D.gone) (fun F=>rl F rfl (ai.rule.1 2)) fun _ ae=>wn aG ?_)
  rcases Bool.eq_false_or_eq_true D.gone with av | av
  ·refine ae.ct<|wp_region_lit<|ae.xm rfl<|Xw (vq J (0+0)) (fun F=>rn_index1 uu22 inf5 (F.get rfl) rfl (by omega:(0:Int)≤0) (by omega:(0:Int)<((2:Nat):Int))) fun _ aq=>wpl_op (i:=2) rfl<|o_store1 (new:=[(.int .u8 1),(.int .u8 ((UInt8.ofNat D.name.length).toNat:Nat))]) aq rfl rfl rfl rfl (aq.get rfl) rfl au inf5 (by simp) rfl rfl fun ay az aa=>have ay:=aa.size;wn aA<|wp_region_lit<|aq.xm rfl<|Xm rfl<|Xv (vp G)<|Xv (vp G) fun _ aq=>have ay:=(ai.gn aa);aq.xw (strOf D.name) (fun F=>rl F rfl (ay.rule.1 0)) fun _ aq=>wpl_op (i:=5) rfl<|o_strB (l:=D.name) aq rfl rfl rfl rfl rfl (aq.get rfl) uu9 uu22 uu5 (by omega) fun aJ aH aq aq aq aG aG aG aL am=>aq.xv (vp G)<|Xv (vq G 1) fun _ aq=>have aG:=(ay.ext am);aq.xw (vl V D.data.length Y) (fun F=>rl F rfl (aG.rule.1 1)) fun _ aq=>aq.xn (fun g=>(vl (some ⟨g,0,none⟩) 3 3)) [(vl (some ⟨J,0,none⟩) 2 2),(vl (some ⟨aJ,0,none⟩) D.name.length aH),(vl V D.data.length Y)] 22 (fun F=>rn_buildSlice (parts3 (F.get rfl) (F.get rfl) (F.get rfl)) (by kernel_rfl)) fun aq aq _ aG aq aq aH ab=>?_
   have aq:=az.ux ab
   have ay:=aL.ext ab
   have az:=aw.pres (((((((Pres.refl aE).ext Z).gc M).ext U).gc aa).ext am).ext ab)
   have hn159:=Fl.blen (Fl.blk (S:=fun b=>b=J) (k:=1) (n:=2) (c:=2) (cs:=byteVals [(1:UInt8),(UInt8.ofNat D.name.length)]) aq rfl (byteVals_one _) (by omega) rfl)
   have hn160:=Fl.blen ay
   have hn161:=Fl.blen az
   have hn162:([[(1:UInt8),(UInt8.ofNat D.name.length)],D.name,D.data]).flatten.length=2+D.name.length+D.data.length:=by simp only [List.flatten_cons,List.flatten_nil,List.length_append,List.length_nil];omega
   refine aG.xC (c:=joined_at [[(1:UInt8),(UInt8.ofNat D.name.length)],D.name,D.data] _ (RBss.three aH (Fl.blk (S:=fun b=>b=J) (k:=1) (n:=2) (c:=2) (cs:=byteVals [(1:UInt8),(UInt8.ofNat D.name.length)]) aq rfl (byteVals_one _) (by omega) rfl) ay az) hn162 (by omega)) (k:=?_)
   rintro _ aq ⟨aF,aI,rfl,aD,ax⟩
   rw [show ([[(1:UInt8),(UInt8.ofNat D.name.length)],D.name,D.data]).flatten=([(1:UInt8),(UInt8.ofNat D.name.length)])++D.name++D.data from by simp] at aD
   refine ⟨_,rfl,?_⟩;intro G G;have I:=ax.size
   refine G.xE (c:=tagged_at ([99,104,97,110,103,101]) (v:=(vl aF (2+D.name.length+D.data.length) aI)) (n:=(2+D.name.length+D.data.length)) (([(1:UInt8),(UInt8.ofNat D.name.length)])++D.name++D.data) _ aD (hG.ext eX) (by simp <;> omega) (by omega)) (k:=fun G Y G _ G=>have J:=(own_ext (own_ext (own_ext (own_ext (own_grownT (own_ext (own_grownT (own_ext ac Z) ar M (by decide)) U) au aa (by decide)) am) ab) ax) Y);have ae:=J;G.xn (fun g=>(vl (some ⟨g,0,none⟩) 1 1)) (byteVals ((tagged ([99,104,97,110,103,101]) (([(1:UInt8),(UInt8.ofNat D.name.length)])++D.name++D.data)))) 29 (fun F=>rn_buildSlice (parts1 (F.get rfl)) (build_wholeE (vs:=[(.agg (byteVals (tagged ([99,104,97,110,103,101]) (([(1:UInt8),(UInt8.ofNat D.name.length)])++D.name++D.data))).toArray)]) El30 rfl rfl (fun v hv=>by rw [List.mem_singleton.1 hv];exact (byteVals_len (tagged_len _ _))) (by decide) (by decide) (by simp [Value.cells,byteVals]))) fun G I _ I V V V ac=>have ah:=own_new (g:=G) ae (by omega);have ae:=(own_ext J ac);have J:=ae;have aq:some G≠(Value.slice Ap np cp).ownBlock:=ah;have ae:=V.lt;wpl_op (i:=13) rfl<|o_appB (zs:=digVals (ls++([tagged ([99,104,97,110,103,101]) (([(1:UInt8),(UInt8.ofNat D.name.length)])++D.name++D.data)]))) El30 I rfl rfl rfl rfl rfl (I.get rfl) (I.get rfl) J (Fl.cel (Fl.digblk (S:=fun b=>b=G) V (All32.sing (tagged_len _ _)) (by simp [digVals,byteVals]))).2.2 (by omega) (by omega) (by omega) (digVals_app _ _) fun V ah I I ae ar I ai ai ai=>have au:=I.size;have au:=ai G (by omega) aq;ae.xa rfl fun _ G=>wn aB<|have ae:=G.k [0,1,2,3,9,10,11,12,5,6,22];wp_region_lit<|ae.xv (vi (k+1:Nat))<|Xm rfl fun _ G=>wpList_nil ?_)
   have ae:=grown_blk J I (((((((((aj.ext Z).gn M).ext U).gn aa).ext am).ext ab).ext ax).ext Y).ext ac) (by decide)
   refine ⟨⟨(k+1),V,np+1,ah,ls++([tagged ([99,104,97,110,103,101]) (([(1:UInt8),(UInt8.ofNat D.name.length)])++D.name++D.data)]),G.j,⟨by omega,by omega⟩,(by rw [al];exact cgleaf_step ak (by rw [av];rfl)),(ext_row eX I J (by omega)),ae,ar,(by omega),(by omega)⟩,?_⟩
   rw [G.get (t:=11) rfl,aC.get (t:=11) rfl];simp [intOf] <;> omega
  refine ae.cf<|wp_skip<|aA _ _<|wp_region_lit<|ae.xm rfl<|Xm rfl<|Xv (vp G)<|Xv (vp G)<|Xw (strOf D.name) (fun F=>rl F rfl (ai.rule.1 0)) fun _ ae=>wpl_op (i:=5) rfl<|o_strB (l:=D.name) ae rfl rfl rfl rfl rfl (ae.get rfl) uu9 uu22 uu5 (by omega) fun ay aq ae ae ae aA aA aA aA ab=>ae.xv (vp G)<|Xv (vq G 1) fun _ G=>have ae:=(ai.ext ab);G.xw (vl V D.data.length Y) (fun F=>rl F rfl (ae.rule.1 1)) fun _ G=>G.xn (fun g=>(vl (some ⟨g,0,none⟩) 3 3)) [(vl (some ⟨J,0,none⟩) 2 2),(vl (some ⟨ay,0,none⟩) D.name.length aq),(vl V D.data.length Y)] 22 (fun F=>rn_buildSlice (parts3 (F.get rfl) (F.get rfl) (F.get rfl)) (by kernel_rfl)) fun G G _ ae G G ai aa=>?_
  have G:=au.ux aa
  have V:=aA.ext aa
  have Y:=aw.pres ((((((Pres.refl aE).ext Z).gc M).ext U).ext ab).ext aa)
  have hn249:=Fl.blen (Fl.blk (S:=fun b=>b=J) (k:=1) (n:=2) (c:=2) (cs:=byteVals [(0:UInt8),(UInt8.ofNat D.name.length)]) G rfl (byteVals_one _) (by omega) rfl)
  have hn250:=Fl.blen V
  have hn251:=Fl.blen Y
  have hn252:([[(0:UInt8),(UInt8.ofNat D.name.length)],D.name,D.data]).flatten.length=2+D.name.length+D.data.length:=by simp only [List.flatten_cons,List.flatten_nil,List.length_append,List.length_nil];omega
  refine ae.xC (c:=joined_at [[(0:UInt8),(UInt8.ofNat D.name.length)],D.name,D.data] _ (RBss.three ai (Fl.blk (S:=fun b=>b=J) (k:=1) (n:=2) (c:=2) (cs:=byteVals [(0:UInt8),(UInt8.ofNat D.name.length)]) G rfl (byteVals_one _) (by omega) rfl) V Y) hn252 (by omega)) (k:=?_)
  rintro _ G ⟨az,aD,rfl,ax,am⟩
  rw [show ([[(0:UInt8),(UInt8.ofNat D.name.length)],D.name,D.data]).flatten=([(0:UInt8),(UInt8.ofNat D.name.length)])++D.name++D.data from by simp] at ax
  refine ⟨_,rfl,?_⟩;intro G G;have I:=am.size
  refine G.xE (c:=tagged_at ([99,104,97,110,103,101]) (v:=(vl az (2+D.name.length+D.data.length) aD)) (n:=(2+D.name.length+D.data.length)) (([(0:UInt8),(UInt8.ofNat D.name.length)])++D.name++D.data) _ ax (hG.ext eX) (by simp <;> omega) (by omega)) (k:=fun G Y G _ G=>have J:=(own_ext (own_ext (own_ext (own_ext (own_ext (own_grownT (own_ext ac Z) ar M (by decide)) U) ab) aa) am) Y);have ae:=J;G.xn (fun g=>(vl (some ⟨g,0,none⟩) 1 1)) (byteVals ((tagged ([99,104,97,110,103,101]) (([(0:UInt8),(UInt8.ofNat D.name.length)])++D.name++D.data)))) 29 (fun F=>rn_buildSlice (parts1 (F.get rfl)) (build_wholeE (vs:=[(.agg (byteVals (tagged ([99,104,97,110,103,101]) (([(0:UInt8),(UInt8.ofNat D.name.length)])++D.name++D.data))).toArray)]) El30 rfl rfl (fun v hv=>by rw [List.mem_singleton.1 hv];exact (byteVals_len (tagged_len _ _))) (by decide) (by decide) (by simp [Value.cells,byteVals]))) fun G I _ I V V V ac=>have ah:=own_new (g:=G) ae (by omega);have ae:=(own_ext J ac);have J:=ae;have aq:some G≠(Value.slice Ap np cp).ownBlock:=ah;have ae:=V.lt;wpl_op (i:=13) rfl<|o_appB (zs:=digVals (ls++([tagged ([99,104,97,110,103,101]) (([(0:UInt8),(UInt8.ofNat D.name.length)])++D.name++D.data)]))) El30 I rfl rfl rfl rfl rfl (I.get rfl) (I.get rfl) J (Fl.cel (Fl.digblk (S:=fun b=>b=G) V (All32.sing (tagged_len _ _)) (by simp [digVals,byteVals]))).2.2 (by omega) (by omega) (by omega) (digVals_app _ _) fun V ah I I ae ar I ai ai ai=>have au:=I.size;have au:=ai G (by omega) aq;ae.xa rfl fun _ G=>wn aB<|have ae:=G.k [0,1,2,3,9,10,11,12,5,6,22];wp_region_lit<|ae.xv (vi (k+1:Nat))<|Xm rfl fun _ G=>wpList_nil ?_)
  have ae:=grown_blk J I ((((((((aj.ext Z).gn M).ext U).ext ab).ext aa).ext am).ext Y).ext ac) (by decide)
  refine ⟨⟨(k+1),V,np+1,ah,ls++([tagged ([99,104,97,110,103,101]) (([(0:UInt8),(UInt8.ofNat D.name.length)])++D.name++D.data)]),G.j,⟨by omega,by omega⟩,(by rw [al];exact cgleaf_step ak (by rw [av];rfl)),(ext_row eX I J (by omega)),ae,ar,(by omega),(by omega)⟩,?_⟩
  rw [G.get (t:=11) rfl,aC.get (t:=11) rfl];simp [intOf] <;> omega
 refine ah.cf<|wp_exit<|exit_then<|exit_then<|exit_here<|aK _ _<|wr fun Z aq=>ah.xm rfl fun _ Z=>have ah:=(Fl.own (S:=fun b=>w3.heap.size≤b) ac (fun b hb=>hb) (digVals_one _));Z.xe (tree_at ls _ (n:=np) (v:=(vl Ap np cp)) aN ah (hG.ext eX)) fun Z ah Z _ Z=>have aw:=(own_ext ac ah);have ah:=aw;Z.xz (byteVals (List.replicate 32 0)) 29 fun G Z _ Z ac ac ac aw=>?_
 have aw:=own_new (g:=G) ah (by omega)
 refine Z.xs rfl ac (fun ac ah ac=>?_) (hk:=byteVals_len (treeD_len _));have aw:=ac.size
 refine wn aq<|wp_seq_k fun ac av=>sX (fun D W=>Ext D W∧Blk W I 34 ((vi v.no)::dg v.state [(vl C v.chs.length cc),(vi v.sg.index),(vl O v.sg.op.length oc),(vl E v.sg.cl.length ec),(vl P v.sg.path.length pc)])∧Blk W G 29 (byteVals (treeD ls))) (fun i=>false) 9 fun D ac aq=>Z.yv 0 (vp I) rfl fun _ Z=>have aa:=aj.ux ac;have ab:=(ah.ext ac);have ac:Ext D D∧Blk D I 34 ((vi v.no)::dg v.state [(vl C v.chs.length cc),(vi v.sg.index),(vl O v.sg.op.length oc),(vl E v.sg.cl.length ec),(vl P v.sg.path.length pc)])∧Blk D G 29 (byteVals (treeD ls)):=⟨(Ext.refl D),aa,ab⟩;Z.ys 1 (vi v.no) rfl ac (fun F W hW=>rl F rfl ((hW.2.1.rule.1 0).trans rfl))<|Yv 3 (vq I 1) rfl<|Yw 4 (vl (some ⟨I,1,none⟩) 32 32) rfl (fun F W=>rn_arrAll uu29 inf5 (F.get rfl))<|Yw 5 (vl (some ⟨G,0,none⟩) 32 32) rfl (fun F W=>rn_arrAll uu29 inf5 (F.get rfl)) fun _ Z=>ao 2 rfl<|Z.oC (c:=number_int v.no _ (by omega) (by omega)) (k:= ?_)
 rintro _ am ⟨Y,ae,rfl,ai,U⟩
 have Z:=(Fl.cel ai).2.1
 refine ⟨_,rfl,?_⟩;intro Z ac;have Z:=U.size
 have ah:Fl (Clip (fun b=>D.heap.size≤b) am) am 1 (vl Y 8 ae) 8 (byteVals (numL (v.no).toNat 8)):=ai.clip
 have Z:=aa.ext U
 have aa:=ab.ext U
 refine ⟨fun _ _=>⟨eX,Z,aa⟩,?_⟩
 refine ao 6 rfl (ac.on (fun g=>(vl (some ⟨g,0,none⟩) 3 3)) [(vl Y 8 ae),(vl (some ⟨I,1,none⟩) 32 32),(vl (some ⟨G,0,none⟩) 32 32)] 22 rfl (fun F=>rn_buildSlice (parts3 (F.get rfl) (F.get rfl) (F.get rfl)) (by kernel_rfl)) fun D D _ U D D Y D=>?_)
 have J:=Z.ext D
 have M:=aa.ext D
 refine ⟨fun _ _=>⟨eX,J,M⟩,?_⟩
 refine ao 7 rfl ?_
 have I:=ah.ext D
 have hn366:=Fl.blen I
 have hn367:=Fl.blen (Fl.digB (A:=[(vi v.no)]) (B:=[(vl C v.chs.length cc),(vi v.sg.index),(vl O v.sg.op.length oc),(vl E v.sg.cl.length ec),(vl P v.sg.path.length pc)]) J (by simp) rfl hc.st)
 have hn368:=Fl.blen (Fl.blk (S:=fun b=>b=G) (k:=1) (n:=32) (c:=32) M (by rw [byteVals_len (treeD_len _),Nat.mul_one]) (byteVals_one _) (by omega) rfl)
 have hn369:([numL (v.no).toNat 8,v.state,treeD ls]).flatten.length=8+32+32:=by simp only [List.flatten_cons,List.flatten_nil,List.length_append,List.length_nil];omega
 refine U.oC (c:=joined_at [numL (v.no).toNat 8,v.state,treeD ls] _ (RBss.three Y I (Fl.digB (A:=[(vi v.no)]) (B:=[(vl C v.chs.length cc),(vi v.sg.index),(vl O v.sg.op.length oc),(vl E v.sg.cl.length ec),(vl P v.sg.path.length pc)]) J (by simp) rfl hc.st) (Fl.blk (S:=fun b=>b=G) (k:=1) (n:=32) (c:=32) M (by rw [byteVals_len (treeD_len _),Nat.mul_one]) (byteVals_one _) (by omega) rfl)) hn369 (by omega)) (k:=?_)
 rintro _ D ⟨ar,au,rfl,ak,V⟩
 rw [show ([numL (v.no).toNat 8,v.state,treeD ls]).flatten=(numL (v.no).toNat 8)++v.state++(treeD ls) from by simp] at ak
 refine ⟨_,rfl,?_⟩;intro D D;have G:=V.size
 have G:=J.ext V
 have I:=M.ext V
 refine ⟨fun _ _=>⟨eX,G,I⟩,?_⟩
 refine D.yv 8 (vl ar (8+32+32) au) rfl fun _ D=>nK av<|have G:=D.k [0,1,2,3,9,10,11,12,7];wp_ret<|ret1 G rfl rfl ?_
 have hk:k=v.chs.length:=by omega
 have hl:=al
 rw [hk,List.take_length] at hl
 have hm:(numL (v.no).toNat 8)++v.state++(treeD ls)=v.msg:=by rw [hl];rfl
 have hfin:=ak
 rw [hm] at hfin
 exact ⟨_,_,rfl,Fl.sub hfin (fun b hb=>by first | omega | (simp only [Clip] at hb;omega)),eX⟩
theorem message_at {c:Value} (v:Vr) (w:World) (h:RVp S w c o e p v) (hv:validC v.chs) (hd:∀ x∈v.chs,x.data.length≤4294967296) (h0:0≤v.no) (hno:v.no≤4294967296) (hG:Glob w) :
  Calls Tryz.prog 31 #[ag (vcs v.no v.state c v.sg.index o e p)] w (fun e w'=>∃ A c,e=.returned (vl A 72 c)∧Fl (fun b=>w.heap.size≤b) w' 1 (vl A 72 c) 72 (byteVals v.msg)∧Ext w w'):=by
 obtain ⟨C,cc,rfl,_⟩:=RLs.form h.chs
 obtain ⟨O,oc,rfl,_⟩:=Fl.form h.sg.op
 obtain ⟨E,ec,rfl,_⟩:=Fl.form h.sg.cl
 obtain ⟨P,pc,rfl,_⟩:=Fl.form h.sg.path
 exact message_any C cc O oc E ec P pc v w h hv hd h0 hno hG
theorem verifyv_any (C:Option Addr) (cc:Nat) (O:Option Addr) (oc:Nat) (E:Option Addr) (ec:Nat) (P:Option Addr) (pc:Nat) (pub:List UInt8) (n:Int) (v:Vr) (w:World) (h:RVp S w (vl C v.chs.length cc) (vl O v.sg.op.length oc) (vl E v.sg.cl.length ec) (vl P v.sg.path.length pc) v) (hp:pub.length=32) (hd:∀ x∈v.chs,x.data.length≤4294967296) (hG:Glob w) :
  Calls Tryz.prog 14 #[.agg (byteVals pub).toArray,.int .i64 n,(ag ((vi v.no)::dg v.state [(vl C v.chs.length cc),(vi v.sg.index),(vl O v.sg.op.length oc),(vl E v.sg.cl.length ec),(vl P v.sg.path.length pc)]))] w (fun e w'=>e=.returned (vi (verifyE pub n v))∧Ext w w'):=by
 have hc:=RVp.subB (S':=Clip S w) h (fun _ hb hs=>⟨hs,hb⟩)
 obtain ⟨-,G,G⟩:=RLs.at hc.chs;have G:=(Fl.cel hc.sg.op).2.1;have G:=(Fl.cel hc.sg.cl).2.1;have G:=(Fl.cel hc.sg.path).2.1
 refine calls_enter Tryz.func14 rfl rfl rfl fun _ G=>wr fun J ah=>G.xb rfl fun g2 G _ G J J b4 J=>G.xb rfl fun G J _ J U U U ar=>J.xv (vi 0) fun _ J=>wn ah<|wp_seq_k fun ah av=>wp_block<|wr fun ah ah=>J.xv (vp G)<|Xw (vi v.no) (fun F=>rl F rfl ((U.rule.1 0).trans rfl))<|Xv (vd ((v.no:Int)<(1:Int)))<|Xm rfl fun _ J=>?_
 by_cases ak:(v.no:Int)<(1:Int)
 ·exact J.xu<|Xu<|Xu<|Xv (.bool true)<|Xa rfl fun _ G=>wn ah<|have D:=G.k [0,1,2,3,5,6,7];D.ct<|wr fun G G=>D.xv (vi 420) fun _ D=>wn G<|wp_ret<|ret_block<|ret_then<|ret1 D rfl rfl<|⟨ret_int (show verifyE pub n v=420 from if_pos (by omega)).symm,eX⟩
 refine J.xg (vp G)<|Xgw (vi v.no) (fun F=>rl F rfl ((U.rule.1 0).trans rfl))<|Xg (vd ((4096:Int)<(v.no:Int)))<|Xv (vd ((4096:Int)<(v.no:Int)))<|Xa rfl fun _ ak=>wn ah ?_
 have J:=ak.k [0,1,2,3,5,6,7]
 by_cases ah:(4096:Int)<(v.no:Int)
 ·exact J.ct<|wr fun D G=>J.xv (vi 420) fun _ D=>wn G<|wp_ret<|ret_block<|ret_then<|ret1 D rfl rfl<|⟨ret_int (show verifyE pub n v=420 from if_pos (by omega)).symm,eX⟩
 refine J.cf<|wr fun ah ak=>J.xv (vq G 33)<|Xw (vl C v.chs.length cc) (fun F=>rl F rfl ((U.rule.1 33).trans ((at_app (k:=0) (byteVals_len hc.st)).trans rfl))) fun _ J=>have ah:=(RLs.ux rCg hc.chs ar);J.xe (mvalid_at (v:=(vl C v.chs.length cc)) v.chs _ ah) fun J J J _ J=>J.xw (.bool (!(decide (validC v.chs)))) (fun F=>rn_not' (F.get rfl) rfl)<|Xa rfl fun _ J=>wn ak ?_
 have Z:=J.k [0,1,2,3,5,6,7,16]
 by_cases V:validC v.chs
 ·refine Z.cf<|wp_seq_k fun J aj=>sX (fun D W=>Ext D W∧Blk W G 34 ((vi v.no)::dg v.state [(vl C v.chs.length cc),(vi v.sg.index),(vl O v.sg.op.length oc),(vl E v.sg.cl.length ec),(vl P v.sg.path.length pc)])∧Blk W g2 29 (byteVals pub)) (fun i=>false) 18 fun D J ah=>Z.yv 0 (vq G 34) rfl<|Yv 1 (vq G 34) rfl fun _ ah=>have aa:=U.ux J;have ab:=b4.ux J;have U:Ext D D∧Blk D G 34 ((vi v.no)::dg v.state [(vl C v.chs.length cc),(vi v.sg.index),(vl O v.sg.op.length oc),(vl E v.sg.cl.length ec),(vl P v.sg.path.length pc)])∧Blk D g2 29 (byteVals pub):=⟨(Ext.refl D),aa,ab⟩;ah.ys 2 (vi v.sg.index) rfl U (fun F W hW=>rl F rfl ((hW.2.1.rule.1 34).trans ((at_app (k:=1) (byteVals_len hc.st)).trans rfl)))<|Yv 3 (vp G) rfl<|Ys 4 (vi v.no) rfl U (fun F W hW=>rl F rfl ((hW.2.1.rule.1 0).trans rfl))<|Yv 5 (vi (v.no - 1)) rfl<|Yv 6 (vd ((v.sg.index:Int)≠(v.no - 1:Int))) rfl<|Ym 7 rfl fun _ ah=>?_
  by_cases ak:(v.sg.index:Int)≠(v.no - 1:Int)
  ·refine ah.yu 8 rfl<|Yu 9 rfl<|Yu 10 rfl<|Yu 12 rfl<|Yu 13 rfl fun _ G=>ao 11 rfl<|o_skip G rfl (unwanted_guard rfl rfl rfl G rfl (decide_eq_true ak) rfl) rfl rfl fun G G=>?_
   refine ⟨fun _ _=>⟨(Ext.refl D),aa,ab⟩,?_⟩
   refine ao 14 rfl<|o_skip G rfl (unwanted_guard rfl rfl rfl G rfl (decide_eq_true ak) rfl) rfl rfl fun G G=>?_
   refine ⟨fun _ _=>⟨(Ext.refl D),aa,ab⟩,?_⟩
   exact G.yu 15 rfl<|Yv 16 (.bool true) rfl<|Yv 17 (.bool true) rfl fun _ G=>nK aj<|have D:=G.k [0,1,2,3,5,6,7,16,21];D.ct<|wr fun G G=>D.xv (vi 131) fun _ D=>wn G<|wp_ret<|ret_block<|ret_then<|ret1 D rfl rfl<|⟨ret_int (show verifyE pub n v=131 from (if_neg (by omega)).trans ((if_neg (fun q=>q V)).trans (if_pos (.inl (by omega))))).symm,eX⟩
  refine ah.ysg 8 (.agg (byteVals pub).toArray) rfl U (fun F W hW=>rb F rfl hW.2.2 (hk:=byteVals_len hp))<|Yg 9 (vi n) rfl<|Ysg 10 (ag ((vi v.no)::dg v.state [(vl C v.chs.length cc),(vi v.sg.index),(vl O v.sg.op.length oc),(vl E v.sg.cl.length ec),(vl P v.sg.path.length pc)])) rfl U (fun F W hW=>rb F rfl hW.2.1 (hk:=len_dig1 hc.st))<|Yg 12 (vq G 34) rfl<|Ysg 13 (.agg #[(vi v.sg.index),(vl O v.sg.op.length oc),(vl E v.sg.cl.length ec),(vl P v.sg.path.length pc)]) rfl U (fun F W hW=>rn_loadN (cs:=[(vi v.sg.index),(vl O v.sg.op.length oc),(vl E v.sg.cl.length ec),(vl P v.sg.path.length pc)]) (F.get rfl) uu32 rfl inf32 (Blk.part (A:=((vi v.no)::dg v.state [(vl C v.chs.length cc)])) (M:=[(vi v.sg.index),(vl O v.sg.op.length oc),(vl E v.sg.cl.length ec),(vl P v.sg.path.length pc)]) (B:=[]) hW.2.1 (by simp) (by simp [byteVals_len hc.st]))) fun _ G=>ao 11 rfl<|have U:=(RLs.ux rCg hc.chs J);have ah:=(hc.sg.op.ux J);have ak:=(hc.sg.cl.ux J);have ar:=(hc.sg.path.ux J);G.gC (c:=message_at v _ (⟨hc.st,RLs.sub (S':=fun _=>True) rCg U fun _ _=>trivial,⟨Fl.any ah,Fl.any ak,Fl.any ar,hc.sg.o32,hc.sg.c32,hc.sg.p32⟩⟩:RVp (fun _=>True) _ _ _ _ _ v) V hd (by omega) (by omega) (hG.ext eX)) (k:= ?_)
  rintro _ am ⟨ae,ai,rfl,al,I⟩
  have G:=(Fl.cel al).2.1
  refine ⟨_,rfl,?_⟩;intro G J;have G:=I.size
  have ah:Fl (Clip (fun b=>D.heap.size≤b) am) am 1 (vl ae 72 ai) 72 (byteVals v.msg):=al.clip
  have D:=aa.ext I
  have G:=ab.ext I
  refine ⟨fun _ _=>⟨eX,D,G⟩,?_⟩
  refine ao 14 rfl<|have U:=(hc.sg.op.ux I);have aa:=(hc.sg.cl.ux I);have ab:=(hc.sg.path.ux I);J.gE (c:=verify_at (v:=(vl ae 72 ai)) (m:=72) (u1:=(vl O v.sg.op.length oc)) (u2:=(vl E v.sg.cl.length ec)) (u3:=(vl P v.sg.path.length pc)) (n1:=v.sg.op.length) (n2:=v.sg.cl.length) (n3:=v.sg.path.length) pub n v.msg v.sg _ hp ah U aa ab hc.sg.o32 hc.sg.c32 hc.sg.p32 (hG.ext eX)) (k:=fun I I J _ J=>?_)
  have U:=D.ext I
  have D:=G.ext I
  refine ⟨fun _ _=>⟨eX,U,D⟩,?_⟩
  refine J.ygw 15 (.bool (!(verifyF pub n v.msg v.sg))) rfl (fun F W=>rn_not' (F.get rfl) rfl)<|Yv 16 (.bool (!(verifyF pub n v.msg v.sg))) rfl<|Yv 17 (.bool (!(verifyF pub n v.msg v.sg))) rfl fun _ D=>nK aj ?_
  have Y:=D.k [0,1,2,3,5,6,7,16,21]
  rcases Bool.eq_false_or_eq_true (verifyF pub n v.msg v.sg) with ac | ac
  ·exact Y.cf<|wp_skip<|av _ _<|wr fun D au=>Y.xv (vi 0) fun _ aq=>wn au<|wp_ret<|ret1 aq rfl rfl<|⟨ret_int (show verifyE pub n v=0 from (if_neg (by omega)).trans ((if_neg (fun q=>q V)).trans (if_neg (fun q=>q.elim (fun h1=>h1 (by omega)) (fun h2=>by rw [ac] at h2;cases h2))))).symm,eX⟩
  exact Y.ct<|wr fun D G=>Y.xv (vi 131) fun _ D=>wn G<|wp_ret<|ret_block<|ret_then<|ret1 D rfl rfl<|⟨ret_int (show verifyE pub n v=131 from (if_neg (by omega)).trans ((if_neg (fun q=>q V)).trans (if_pos (.inr ac)))).symm,eX⟩
 exact Z.ct<|wr fun D G=>Z.xv (vi 400) fun _ D=>wn G<|wp_ret<|ret_block<|ret_then<|ret1 D rfl rfl<|⟨ret_int (show verifyE pub n v=400 from (if_neg (by omega)).trans (if_pos V)).symm,eX⟩
theorem verifyv_at {c:Value} (pub:List UInt8) (n:Int) (v:Vr) (w:World) (h:RVp S w c o e p v) (hp:pub.length=32) (hd:∀ x∈v.chs,x.data.length≤4294967296) (hG:Glob w) :
  Calls Tryz.prog 14 #[.agg (byteVals pub).toArray,.int .i64 n,ag (vcs v.no v.state c v.sg.index o e p)] w (fun e w'=>e=.returned (vi (verifyE pub n v))∧Ext w w'):=by
 obtain ⟨C,cc,rfl,_⟩:=RLs.form h.chs
 obtain ⟨O,oc,rfl,_⟩:=Fl.form h.sg.op
 obtain ⟨E,ec,rfl,_⟩:=Fl.form h.sg.cl
 obtain ⟨P,pc,rfl,_⟩:=Fl.form h.sg.path
 exact verifyv_any C cc O oc E ec P pc pub n v w h hp hd hG
theorem join_any (pub:List UInt8) (n:Int) (w:World) (hp:pub.length=32) :
  Calls Tryz.prog 27 #[.agg (byteVals pub).toArray,.int .i64 n] w (fun e w'=>e=.returned (.tuple #[ag (fcs (joinF pub n).pub (joinF pub n).many (joinF pub n).no v0 v0),.int .i64 (joinE n)])∧Ext w w'):=by
 refine calls_enter Tryz.func27 rfl rfl rfl fun _ C=>wr fun D D=>C.xb rfl fun C C _ C G G M G=>C.xz fz 48 fun C C _ C G G G I=>C.xv (vi 0) fun _ C=>wn D<|wp_seq_k fun D I=>wr fun D J=>C.xm rfl fun _ C=>C.xe (isMany_any n _) fun C D C _ C=>C.xw (.bool (!(decide (1≤n∧n≤4096)))) (fun F=>rn_not' (F.get rfl) rfl) fun _ C=>wn J ?_
 by_cases J:1≤n∧n≤4096
 ·refine C.cf<|wp_skip<|I _ _<|wr fun I O=>have I:=M.ux D;C.xw (.agg (byteVals pub).toArray) (fun F=>rb F rfl I (hk:=byteVals_len hp))<|Xm rfl<|Xw (ag (dg pub [(vi n),(vi 0),v0,v0])) (fun F=>rn_build (parts2 (F.get rfl) (F.get rfl)) (build_fo hp)) fun _ C=>?_
  have I:=G.ext D
  refine C.xs rfl I (fun D G D=>?_) (hk:=len_dig hp);have I:=D.size
  refine C.xv (vi 0) fun _ C=>wn O<|have D:=C.k [0,1,2,4,5,8];wp_ret ?_
  exact retC1 D rfl rfl rfl G uu48 rfl (sk inf48 (len_dig hp))<|have hk:=J;have hE:joinE n=0:=if_neg (by omega);have hJ:joinF pub n=⟨pub,n,0,[],[]⟩:=if_pos hE;⟨by rw [hJ,hE] <;> rfl,eX⟩
 refine C.ct<|wr fun I M=>have I:=(G.ext D);C.xw (ag fz) (fun F=>rb F rfl I) fun _ C=>C.xs rfl I (fun D D G=>have I:=G.size;C.xv (vi 40) fun _ C=>wn M<|wp_ret<|ret_then ?_)
 exact retC1 C rfl rfl rfl D uu48 rfl (sk inf48 (len_dig zero32_len))<|have hk:=J;have hE:joinE n=40:=if_pos (by omega);have hJ:joinF pub n=foNil:=if_neg (by rw [hE];decide);⟨by rw [hJ,hE] <;> rfl,eX⟩
theorem wants_any (FA:Option Addr) (fa:Nat) (FE:Option Addr) (fe:Nat) (f:Fo) (w:World) (h:RFo S w (vl FA f.items.length fa) (vl FE f.early.length fe) f) (h0:0≤f.no∧f.no≤4294967296) :
  Calls Tryz.prog 22 #[(ag (dg f.pub [(vi f.many),(vi f.no),(vl FA f.items.length fa),(vl FE f.early.length fe)]))] w (fun e w'=>e=.returned (vi (f.no+1))∧Ext w w'):=by
 have hc:=RFo.subB (S':=Clip S w) h (fun _ hb hs=>⟨hs,hb⟩)
 obtain ⟨-,C,C⟩:=RLs.at hc.items;obtain ⟨-,C,C⟩:=RLs.at hc.early
 exact calls_enter Tryz.func22 rfl rfl rfl fun _ C=>wr fun D I=>C.xb rfl fun G C _ C D D D J=>C.xv (vi 0) fun _ C=>wn I<|wr fun I I=>C.xv (vq G 33)<|Xw (vi f.no) (fun F=>rl F rfl ((D.rule.1 33).trans ((at_app (k:=1) (byteVals_len hc.pub)).trans rfl)))<|Xv (vi (f.no+1))<|Xa rfl fun _ C=>wn I<|wp_ret<|ret1 C rfl rfl<|⟨rfl,eX⟩
theorem wants_at {c:Value} (f:Fo) (w:World) (h:RFo S w c e f) (h0:0≤f.no∧f.no≤4294967296) :
  Calls Tryz.prog 22 #[ag (fcs f.pub f.many f.no c e)] w (fun e w'=>e=.returned (vi (f.no+1))∧Ext w w'):=by
 obtain ⟨FA,fa,rfl,_⟩:=RLs.form h.items
 obtain ⟨FE,fe,rfl,_⟩:=RLs.form h.early
 exact wants_any FA fa FE fe f w h h0
theorem fcheck_any (FA:Option Addr) (fa:Nat) (FE:Option Addr) (fe:Nat) (f:Fo) (w:World) (h:RFo S w (vl FA f.items.length fa) (vl FE f.early.length fe) f) (hdi:∀ x∈f.items,x.data.length≤4294967296) (hde:∀ v∈f.early,∀ x∈v.chs,x.data.length≤4294967296) (hG:Glob w) :
  Calls Tryz.prog 20 #[(ag (dg f.pub [(vi f.many),(vi f.no),(vl FA f.items.length fa),(vl FE f.early.length fe)]))] w (fun e w'=>e=.returned (vi (checkFE f))∧Ext w w'):=by
 have hc:=RFo.subB (S':=Clip S w) h (fun _ hb hs=>⟨hs,hb⟩)
 obtain ⟨-,U,U⟩:=RLs.at hc.items;obtain ⟨-,U,U⟩:=RLs.at hc.early
 refine calls_enter Tryz.func20 rfl rfl rfl fun _ U=>wr fun K1 ay=>U.xb rfl fun D U _ F9 U U U ab=>F9.xv (vi 0) fun _ ab=>wn ay<|wp_seq_k fun ay ay=>wr fun aB aD=>ab.xv (vq D 32)<|Xw (vi f.many) (fun F=>rl F rfl ((U.rule.1 32).trans ((at_app (k:=0) (byteVals_len hc.pub)).trans rfl))) fun _ ab=>ab.xe (isMany_any f.many _) fun ab aB ab _ ab=>ab.xw (.bool (!(decide (1≤f.many∧f.many≤4096)))) (fun F=>rn_not' (F.get rfl) rfl) fun _ Y=>wn aD ?_
 by_cases I:1≤f.many∧f.many≤4096
 ·refine Y.cf<|wp_skip<|ay _ _<|wp_seq_k fun ab aJ=>wr fun ab ay=>Y.xv (vq D 33) fun _ aD=>have ab:=(U.ext aB);aD.xw (vi f.no) (fun F=>rl F rfl ((ab.rule.1 33).trans ((at_app (k:=1) (byteVals_len hc.pub)).trans rfl)))<|Xv (vd ((f.no:Int)<(0:Int)))<|Xm rfl fun _ U=>?_
  by_cases aD:(f.no:Int)<(0:Int)
  ·exact U.xu<|Xu<|Xu<|Xv (.bool true) fun _ D=>wn ay<|have C:=D.k [0,1,2,13,21];C.ct<|wr fun D D=>C.xv (vi 420) fun _ C=>wn D<|wp_ret<|ret_then<|ret1 C rfl rfl<|have hm:=I;⟨ret_int (show checkFE f=420 from (if_neg (by omega)).trans (if_pos (by omega))).symm,eX⟩
  refine U.xg (vq D 33)<|Xgw (vi f.no) (fun F=>rl F rfl ((ab.rule.1 33).trans ((at_app (k:=1) (byteVals_len hc.pub)).trans rfl)))<|Xg (vd ((4096:Int)<(f.no:Int)))<|Xv (vd ((4096:Int)<(f.no:Int))) fun _ aD=>wn ay ?_
  have U:=aD.k [0,1,2,13,21]
  by_cases ay:(4096:Int)<(f.no:Int)
  ·exact U.ct<|wr fun C D=>U.xv (vi 420) fun _ C=>wn D<|wp_ret<|ret_then<|ret1 C rfl rfl<|have hm:=I;⟨ret_int (show checkFE f=420 from (if_neg (by omega)).trans (if_pos (by omega))).symm,eX⟩
  refine U.cf<|wp_skip<|aJ _ _<|wp_seq_k fun ay aD=>wr fun ay aJ=>U.xv (vq D 34)<|Xw (vl FA f.items.length fa) (fun F=>rl F rfl ((ab.rule.1 34).trans ((at_app (k:=2) (byteVals_len hc.pub)).trans rfl))) fun _ U=>have ay:=(RLs.ux rIt hc.items aB);U.xe (pcheck_at (v:=(vl FA f.items.length fa)) f.items _ ay) fun aC aQ U _ U=>U.xa rfl fun _ U=>wn aJ<|wr fun ay aB=>U.xm rfl<|Xv (vd (((checkE f.items):Int)≠(0:Int))) fun _ ay=>wn aB ?_
  have U:=ay.k [0,1,2,13,21,3,26]
  by_cases O:((checkE f.items):Int)≠(0:Int)
  ·exact U.ct<|wr fun C D=>U.xm rfl<|Xa rfl fun _ C=>wn D<|wp_ret<|ret_then<|ret1 C rfl rfl<|have hm:=I;⟨ret_int (show checkFE f=(checkE f.items) from (if_neg (by omega)).trans ((if_neg (by omega)).trans (if_pos O))).symm,eX⟩
  refine U.cf<|wp_skip<|aD _ _<|wp_seq_k fun ay az=>wr fun ay aA=>U.xv (vq D 33) fun _ U=>have J:=(ab.ext aQ);U.xw (vi f.no) (fun F=>rl F rfl ((J.rule.1 33).trans ((at_app (k:=1) (byteVals_len hc.pub)).trans rfl)))<|Xv (vd ((f.no:Int)=(0:Int)))<|Xm rfl fun _ aw=>?_
  by_cases U:(f.no:Int)=(0:Int)
  ·refine aw.xg (vq D 34)<|Xgw (vl FA f.items.length fa) (fun F=>rl F rfl ((J.rule.1 34).trans ((at_app (k:=2) (byteVals_len hc.pub)).trans rfl)))<|Xg (vi f.items.length)<|Xg (vd ((0:Int)<(f.items.length:Int)))<|Xv (vd ((0:Int)<(f.items.length:Int))) fun _ ab=>wn aA ?_
   have U:=ab.k [0,1,2,13,21,3,26,36]
   by_cases ab:(0:Int)<(f.items.length:Int)
   ·exact U.ct<|wr fun C D=>U.xv (vi 400) fun _ C=>wn D<|wp_ret<|ret_then<|ret1 C rfl rfl<|have hm:=I;⟨ret_int (show checkFE f=400 from (if_neg (by omega)).trans ((if_neg (by omega)).trans ((if_neg O).trans (if_pos (by omega))))).symm,eX⟩
   refine U.cf<|wp_skip<|az _ _<|wp_seq_k fun ab ab=>wr fun ay ay=>U.xv (vq D 35)<|Xw (vl FE f.early.length fe) (fun F=>rl F rfl ((J.rule.1 35).trans ((at_app (k:=3) (byteVals_len hc.pub)).trans rfl)))<|Xv (vi f.early.length)<|Xv (vd ((64:Int)<(f.early.length:Int))) fun _ U=>wn ay ?_
   by_cases ay:(64:Int)<(f.early.length:Int)
   ·exact U.ct<|wr fun C D=>U.xv (vi 2) fun _ C=>wn D<|wp_ret<|ret_then<|ret1 C rfl rfl<|have hm:=I;⟨ret_int (show checkFE f=2 from (if_neg (by omega)).trans ((if_neg (by omega)).trans ((if_neg O).trans ((if_neg (by omega)).trans (if_pos (by omega)))))).symm,eX⟩
   refine U.cf<|wp_skip<|ab _ _<|wr fun ab ab=>U.xv (vq D 33)<|Xw (vi f.no) (fun F=>rl F rfl ((J.rule.1 33).trans ((at_app (k:=1) (byteVals_len hc.pub)).trans rfl)))<|Xv (vi (f.no+1))<|Xa rfl fun _ U=>wn ab<|have ab:=U.k [0,1,2,13,21,3,26,36,40,4];wp_seq_k fun U aH=>wr fun U ay=>ab.xv (vq D 35)<|Xw (vl FE f.early.length fe) (fun F=>rl F rfl ((J.rule.1 35).trans ((at_app (k:=3) (byteVals_len hc.pub)).trans rfl)))<|Xv (vi f.early.length)<|Xv (vi 0) fun _ U=>wn ay<|wp_block<|wp_loop (fun a' W=>∃ (k:Nat) (la:Int),Sl 75 [(0,(ag (dg f.pub [(vi f.many),(vi f.no),(vl FA f.items.length fa),(vl FE f.early.length fe)]))),(1,(vp D)),(2,(vi 0)),(13,(.bool (!(decide (1≤f.many∧f.many≤4096))))),(21,(vd ((4096:Int)<(f.no:Int)))),(3,(vi (checkE f.items))),(26,(vd (((checkE f.items):Int)≠(0:Int)))),(36,(vd ((0:Int)<(f.items.length:Int)))),(40,(vd ((64:Int)<(f.early.length:Int)))),(4,(vi la)),(45,(vl FE f.early.length fe)),(46,(vi f.early.length)),(47,(vi k))] a'∧k≤f.early.length∧(∀ j,j<k→lastN (f.no+1) f.early j<(f.early.getD j default).no)∧la=lastN (f.no+1) f.early k∧Ext w W∧Blk W D 48 (dg f.pub [(vi f.many),(vi f.no),(vl FA f.items.length fa),(vl FE f.early.length fe)])∧aC.heap.size≤W.heap.size) (fun a' _=>f.early.length - (intOf (a'.eval (.tmp 47))).toNat) ⟨0,(f.no+1),U.j,(by omega),(fun j hj=>absurd hj (by omega)),rfl,eX,J,(Nat.le_refl _)⟩ ?_
   rintro U aS ⟨k,la,U,ab,ar,ab,ab,aa,ay⟩
   have aM:=U
   have ay:=ab.size
   have ay:=aa.lt
   refine wr fun ay ay=>U.xv (vd ((k:Int)<(f.early.length:Int))) fun _ V=>wn ay<|wp_seq_k fun U U=>?_
   by_cases ay:(k:Int)<(f.early.length:Int)
   ·refine V.ct<|wp_skip<|U _ _<|wp_seq_k fun U av=>wp_block<|wr fun U ax=>?_
    have U:=RLs.ext rVr hc.early ab
    obtain ⟨aq,aG,C,ab,au,Z,ab,aE,aF⟩:=RLs.get U (by omega:k<f.early.length)
    obtain ⟨U,U,U,U,rfl,G⟩:=aF
    obtain ⟨ac,aj,rfl,U,U⟩:=RLs.form G.chs
    obtain ⟨ae,ak,rfl,U,U⟩:=Fl.form G.sg.op
    obtain ⟨ah,al,rfl,U,U⟩:=Fl.form G.sg.cl
    obtain ⟨ai,am,rfl,U,U⟩:=Fl.form G.sg.path
    refine V.xw (vq aq (aG+k*38)) (fun F=>rn_indexE uu25 inf34 ((F.get rfl).trans (by rw [au])) (F.get rfl) (zl _) (il (by omega:k<f.early.length)) (by omega))<|Xw (ag ((vi C.no)::dg C.state [(vl ac C.chs.length aj),(vi C.sg.index),(vl ae C.sg.op.length ak),(vl ah C.sg.cl.length al),(vl ai C.sg.path.length am)])) (fun F=>rn_loadN (cs:=((vi C.no)::dg C.state [(vl ac C.chs.length aj),(vi C.sg.index),(vl ae C.sg.op.length ak),(vl ah C.sg.cl.length al),(vl ai C.sg.path.length am)])) (F.get rfl) uu34 rfl (sk inf34 (len_dig1 G.st)) aE) fun _ D=>D.xz vz 34 fun U D _ D J J J V=>?_
    refine D.xs rfl J (fun J J V=>?_) (hk:=len_dig1 G.st);have G:=V.size
    refine wn ax<|wp_seq_k fun G Y=>wr fun G ab=>D.xv (vp U)<|Xw (vi C.no) (fun F=>rl F rfl ((J.rule.1 0).trans rfl))<|Xm rfl<|Xv (vd ((C.no:Int)≤(la:Int))) fun _ G=>wn ab ?_
    have D:=G.k [0,1,2,13,21,3,26,36,40,4,45,46,47,48,6,54]
    by_cases G:(C.no:Int)≤(la:Int)
    ·exact D.ct<|wr fun C G=>D.xv (vi 420) fun _ C=>wn G<|wp_ret<|ret_then<|ret_block<|ret_then<|ret_then<|ret_block<|ret_then<|ret1 C rfl rfl<|have hm:=I;⟨ret_int (show checkFE f=420 from (if_neg (by omega)).trans ((if_neg (by omega)).trans ((if_neg O).trans ((if_neg (by omega)).trans ((if_neg (by omega)).trans (if_pos (asc_no Z (by omega)))))))).symm,eX⟩
    refine D.cf<|wp_skip<|Y _ _<|wp_region_lit<|D.xv (vp U)<|Xw (vi C.no) (fun F=>rl F rfl ((J.rule.1 0).trans rfl))<|Xa rfl fun _ D=>wn av<|wp_region_lit<|D.xv (vi (k+1:Nat))<|Xm rfl fun _ D=>wpList_nil ?_
    have G:=aa.ug V
    refine ⟨⟨(k+1),C.no,D.j,(by omega),(all_succ ar (asc_step Z (by omega))),(lastN_succ Z),eX,G,(by omega)⟩,?_⟩
    rw [D.get (t:=47) rfl,aM.get (t:=47) rfl];simp [intOf] <;> omega
   refine V.cf<|wp_exit<|exit_then<|exit_then<|exit_here<|aH _ _<|wp_seq_k fun U aI=>wr fun U ab=>V.xv (vq D 35)<|Xw (vl FE f.early.length fe) (fun F=>rl F rfl ((aa.rule.1 35).trans ((at_app (k:=3) (byteVals_len hc.pub)).trans rfl)))<|Xv (vi f.early.length)<|Xv (vi 0) fun _ U=>wn ab<|wp_block<|wp_loop (fun a' W=>∃ (j:Nat),Sl 75 [(0,(ag (dg f.pub [(vi f.many),(vi f.no),(vl FA f.items.length fa),(vl FE f.early.length fe)]))),(1,(vp D)),(2,(vi 0)),(13,(.bool (!(decide (1≤f.many∧f.many≤4096))))),(21,(vd ((4096:Int)<(f.no:Int)))),(3,(vi (checkE f.items))),(26,(vd (((checkE f.items):Int)≠(0:Int)))),(36,(vd ((0:Int)<(f.items.length:Int)))),(40,(vd ((64:Int)<(f.early.length:Int)))),(4,(vi la)),(45,(vl FE f.early.length fe)),(46,(vi f.early.length)),(47,(vi k)),(48,(vd ((k:Int)<(f.early.length:Int)))),(59,(vl FE f.early.length fe)),(60,(vi f.early.length)),(61,(vi (j:Nat)))] a'∧j≤f.early.length∧(∀ i,i<j→∀ x,f.early[i]?=some x→verifyE f.pub f.many x=0)∧Ext w W∧Blk W D 48 (dg f.pub [(vi f.many),(vi f.no),(vl FA f.items.length fa),(vl FE f.early.length fe)])∧aS.heap.size≤W.heap.size) (fun a' _=>f.early.length - (intOf (a'.eval (.tmp 61))).toNat) ⟨0,U.j,(by omega),(fun i hi=>absurd hi (by omega)),eX,aa,(Nat.le_refl _)⟩ ?_
   rintro U U ⟨j,U,V,au,V,ax,aa⟩
   have aN:=U
   have aa:=V.size
   have aa:=ax.lt
   refine wr fun aa aa=>U.xv (vd (((j:Nat):Int)<(f.early.length:Int))) fun _ Z=>wn aa<|wp_seq_k fun U U=>?_
   by_cases aa:((j:Nat):Int)<(f.early.length:Int)
   ·refine Z.ct<|wp_skip<|U _ _<|wp_seq_k fun U aK=>wp_block<|wr fun U aL=>?_
    have U:=RLs.ext rVr hc.early V
    obtain ⟨aE,aR,C,V,aG,aq,V,aO,aP⟩:=RLs.get U (by omega:j<f.early.length)
    obtain ⟨U,U,U,U,rfl,G⟩:=aP
    obtain ⟨ac,aj,rfl,U,U⟩:=RLs.form G.chs
    obtain ⟨ae,ak,rfl,U,U⟩:=Fl.form G.sg.op
    obtain ⟨ah,al,rfl,U,U⟩:=Fl.form G.sg.cl
    obtain ⟨ai,am,rfl,U,U⟩:=Fl.form G.sg.path
    refine Z.xw (vq aE (aR+j*38)) (fun F=>rn_indexE uu25 inf34 ((F.get rfl).trans (by rw [aG])) (F.get rfl) (zl _) (il (by omega:j<f.early.length)) (by omega))<|Xw (ag ((vi C.no)::dg C.state [(vl ac C.chs.length aj),(vi C.sg.index),(vl ae C.sg.op.length ak),(vl ah C.sg.cl.length al),(vl ai C.sg.path.length am)])) (fun F=>rn_loadN (cs:=((vi C.no)::dg C.state [(vl ac C.chs.length aj),(vi C.sg.index),(vl ae C.sg.op.length ak),(vl ah C.sg.cl.length al),(vl ai C.sg.path.length am)])) (F.get rfl) uu34 rfl (sk inf34 (len_dig1 G.st)) aO) fun _ U=>U.xz vz 34 fun U U _ V U U U aa=>?_
    refine V.xs rfl U (fun U ab U=>?_) (hk:=len_dig1 G.st);have aa:=U.size
    refine wn aL<|wr fun aa ay=>V.xv (vp D) fun _ aa=>have V:=ax.ug U;aa.xw (.agg (byteVals f.pub).toArray) (fun F=>rn_loadN (cs:=byteVals f.pub) (F.get rfl) uu29 rfl (sk inf29 (byteVals_len hc.pub)) (Blk.part (A:=[]) (M:=byteVals f.pub) (B:=[(vi f.many),(vi f.no),(vl FA f.items.length fa),(vl FE f.early.length fe)]) V (by simp) rfl))<|Xv (vq D 32)<|Xw (vi f.many) (fun F=>rl F rfl ((V.rule.1 32).trans ((at_app (k:=0) (byteVals_len hc.pub)).trans rfl)))<|Xw (ag ((vi C.no)::dg C.state [(vl ac C.chs.length aj),(vi C.sg.index),(vl ae C.sg.op.length ak),(vl ah C.sg.cl.length al),(vl ai C.sg.path.length am)])) (fun F=>rb F rfl ab (hk:=len_dig1 G.st)) fun _ aa=>have ab:=(RLs.ug rCg G.chs U);have ac:=(G.sg.op.ug U);have ae:=(G.sg.cl.ug U);have ah:=(G.sg.path.ug U);aa.xe (verifyv_at f.pub f.many C _ (⟨G.st,RLs.sub (S':=fun _=>True) rCg ab fun _ _=>trivial,⟨Fl.any ac,Fl.any ae,Fl.any ah,G.sg.o32,G.sg.c32,G.sg.p32⟩⟩:RVp (fun _=>True) _ _ _ _ _ C) hc.pub (hde C (List.mem_of_getElem? aq)) (hG.ext eX)) fun G ab G _ G=>G.xa rfl fun _ G=>wn ay<|have U:=G.k [0,1,2,13,21,3,26,36,40,4,45,46,47,48,59,60,61,62,8,9];wr fun G aa=>U.xm rfl<|Xv (vd (((verifyE f.pub f.many C):Int)≠(0:Int))) fun _ G=>wn aa ?_
    by_cases U:((verifyE f.pub f.many C):Int)≠(0:Int)
    ·exact G.ct<|wr fun D J=>G.xm rfl<|Xa rfl fun _ D=>wn J<|wp_ret<|ret_block<|ret_then<|ret_then<|ret_block<|ret_then<|ret1 D rfl rfl<|have hm:=I;⟨ret_int (show checkFE f=(verifyE f.pub f.many C) from (if_neg (by omega)).trans ((if_neg (by omega)).trans ((if_neg O).trans ((if_neg (by omega)).trans ((if_neg (by omega)).trans ((if_neg (fun q=>q (asc_of ar (by omega)))).trans (first_at au aq (by omega)))))))).symm,eX⟩
    refine G.cf<|wp_skip<|aK _ _<|wp_region_lit<|G.xv (vi (j+1:Nat))<|Xm rfl fun _ av=>wpList_nil ?_
    have aF:=V.ext ab
    refine ⟨⟨(j+1),av.j,(by omega),(all_succ au (fun y hy=>by rw [aq] at hy;injection hy with hy;subst hy;omega)),eX,aF,(by omega)⟩,?_⟩
    rw [av.get (t:=61) rfl,aN.get (t:=61) rfl];simp [intOf] <;> omega
   exact Z.cf<|wp_exit<|exit_then<|exit_then<|exit_here<|aI _ _<|wr fun C D=>Z.xv (vi 0) fun _ C=>wn D<|wp_ret<|ret1 C rfl rfl<|have hm:=I;⟨ret_int (show checkFE f=0 from (if_neg (by omega)).trans ((if_neg (by omega)).trans ((if_neg O).trans ((if_neg (by omega)).trans ((if_neg (by omega)).trans ((if_neg (fun q=>q (asc_of ar (by omega)))).trans (first_all au (by omega)))))))).symm,eX⟩
  refine aw.xu<|Xu<|Xu<|Xu<|Xv (.bool false) fun _ ab=>wn aA<|have U:=ab.k [0,1,2,13,21,3,26,36];U.cf<|wp_skip<|az _ _<|wp_seq_k fun ab ab=>wr fun aw aw=>U.xv (vq D 35)<|Xw (vl FE f.early.length fe) (fun F=>rl F rfl ((J.rule.1 35).trans ((at_app (k:=3) (byteVals_len hc.pub)).trans rfl)))<|Xv (vi f.early.length)<|Xv (vd ((64:Int)<(f.early.length:Int))) fun _ U=>wn aw ?_
  by_cases aw:(64:Int)<(f.early.length:Int)
  ·exact U.ct<|wr fun C D=>U.xv (vi 2) fun _ C=>wn D<|wp_ret<|ret_then<|ret1 C rfl rfl<|have hm:=I;⟨ret_int (show checkFE f=2 from (if_neg (by omega)).trans ((if_neg (by omega)).trans ((if_neg O).trans ((if_neg (by omega)).trans (if_pos (by omega)))))).symm,eX⟩
  refine U.cf<|wp_skip<|ab _ _<|wr fun ab ab=>U.xv (vq D 33)<|Xw (vi f.no) (fun F=>rl F rfl ((J.rule.1 33).trans ((at_app (k:=1) (byteVals_len hc.pub)).trans rfl)))<|Xv (vi (f.no+1))<|Xa rfl fun _ U=>wn ab<|have ab:=U.k [0,1,2,13,21,3,26,36,40,4];wp_seq_k fun U aH=>wr fun U aw=>ab.xv (vq D 35)<|Xw (vl FE f.early.length fe) (fun F=>rl F rfl ((J.rule.1 35).trans ((at_app (k:=3) (byteVals_len hc.pub)).trans rfl)))<|Xv (vi f.early.length)<|Xv (vi 0) fun _ U=>wn aw<|wp_block<|wp_loop (fun a' W=>∃ (k:Nat) (la:Int),Sl 75 [(0,(ag (dg f.pub [(vi f.many),(vi f.no),(vl FA f.items.length fa),(vl FE f.early.length fe)]))),(1,(vp D)),(2,(vi 0)),(13,(.bool (!(decide (1≤f.many∧f.many≤4096))))),(21,(vd ((4096:Int)<(f.no:Int)))),(3,(vi (checkE f.items))),(26,(vd (((checkE f.items):Int)≠(0:Int)))),(36,(.bool false)),(40,(vd ((64:Int)<(f.early.length:Int)))),(4,(vi la)),(45,(vl FE f.early.length fe)),(46,(vi f.early.length)),(47,(vi k))] a'∧k≤f.early.length∧(∀ j,j<k→lastN (f.no+1) f.early j<(f.early.getD j default).no)∧la=lastN (f.no+1) f.early k∧Ext w W∧Blk W D 48 (dg f.pub [(vi f.many),(vi f.no),(vl FA f.items.length fa),(vl FE f.early.length fe)])∧aC.heap.size≤W.heap.size) (fun a' _=>f.early.length - (intOf (a'.eval (.tmp 47))).toNat) ⟨0,(f.no+1),U.j,(by omega),(fun j hj=>absurd hj (by omega)),rfl,eX,J,(Nat.le_refl _)⟩ ?_
  rintro J aS ⟨k,la,J,U,ar,U,U,aa,ab⟩
  have aM:=J
  have ab:=U.size
  have ab:=aa.lt
  refine wr fun ab ab=>J.xv (vd ((k:Int)<(f.early.length:Int))) fun _ V=>wn ab<|wp_seq_k fun J J=>?_
  by_cases ab:(k:Int)<(f.early.length:Int)
  ·refine V.ct<|wp_skip<|J _ _<|wp_seq_k fun J av=>wp_block<|wr fun J ax=>?_
   have J:=RLs.ext rVr hc.early U
   obtain ⟨aq,aG,C,U,au,Z,U,aE,aF⟩:=RLs.get J (by omega:k<f.early.length)
   obtain ⟨J,J,J,J,rfl,G⟩:=aF
   obtain ⟨ac,aj,rfl,J,J⟩:=RLs.form G.chs
   obtain ⟨ae,ak,rfl,J,J⟩:=Fl.form G.sg.op
   obtain ⟨ah,al,rfl,J,J⟩:=Fl.form G.sg.cl
   obtain ⟨ai,am,rfl,J,J⟩:=Fl.form G.sg.path
   refine V.xw (vq aq (aG+k*38)) (fun F=>rn_indexE uu25 inf34 ((F.get rfl).trans (by rw [au])) (F.get rfl) (zl _) (il (by omega:k<f.early.length)) (by omega))<|Xw (ag ((vi C.no)::dg C.state [(vl ac C.chs.length aj),(vi C.sg.index),(vl ae C.sg.op.length ak),(vl ah C.sg.cl.length al),(vl ai C.sg.path.length am)])) (fun F=>rn_loadN (cs:=((vi C.no)::dg C.state [(vl ac C.chs.length aj),(vi C.sg.index),(vl ae C.sg.op.length ak),(vl ah C.sg.cl.length al),(vl ai C.sg.path.length am)])) (F.get rfl) uu34 rfl (sk inf34 (len_dig1 G.st)) aE) fun _ D=>D.xz vz 34 fun U D _ D J J J V=>?_
   refine D.xs rfl J (fun J J V=>?_) (hk:=len_dig1 G.st);have G:=V.size
   refine wn ax<|wp_seq_k fun G Y=>wr fun G ab=>D.xv (vp U)<|Xw (vi C.no) (fun F=>rl F rfl ((J.rule.1 0).trans rfl))<|Xm rfl<|Xv (vd ((C.no:Int)≤(la:Int))) fun _ G=>wn ab ?_
   have D:=G.k [0,1,2,13,21,3,26,36,40,4,45,46,47,48,6,54]
   by_cases G:(C.no:Int)≤(la:Int)
   ·exact D.ct<|wr fun C G=>D.xv (vi 420) fun _ C=>wn G<|wp_ret<|ret_then<|ret_block<|ret_then<|ret_then<|ret_block<|ret_then<|ret1 C rfl rfl<|have hm:=I;⟨ret_int (show checkFE f=420 from (if_neg (by omega)).trans ((if_neg (by omega)).trans ((if_neg O).trans ((if_neg (by omega)).trans ((if_neg (by omega)).trans (if_pos (asc_no Z (by omega)))))))).symm,eX⟩
   refine D.cf<|wp_skip<|Y _ _<|wp_region_lit<|D.xv (vp U)<|Xw (vi C.no) (fun F=>rl F rfl ((J.rule.1 0).trans rfl))<|Xa rfl fun _ D=>wn av<|wp_region_lit<|D.xv (vi (k+1:Nat))<|Xm rfl fun _ D=>wpList_nil ?_
   have G:=aa.ug V
   refine ⟨⟨(k+1),C.no,D.j,(by omega),(all_succ ar (asc_step Z (by omega))),(lastN_succ Z),eX,G,(by omega)⟩,?_⟩
   rw [D.get (t:=47) rfl,aM.get (t:=47) rfl];simp [intOf] <;> omega
  refine V.cf<|wp_exit<|exit_then<|exit_then<|exit_here<|aH _ _<|wp_seq_k fun J aI=>wr fun J U=>V.xv (vq D 35)<|Xw (vl FE f.early.length fe) (fun F=>rl F rfl ((aa.rule.1 35).trans ((at_app (k:=3) (byteVals_len hc.pub)).trans rfl)))<|Xv (vi f.early.length)<|Xv (vi 0) fun _ J=>wn U<|wp_block<|wp_loop (fun a' W=>∃ (j:Nat),Sl 75 [(0,(ag (dg f.pub [(vi f.many),(vi f.no),(vl FA f.items.length fa),(vl FE f.early.length fe)]))),(1,(vp D)),(2,(vi 0)),(13,(.bool (!(decide (1≤f.many∧f.many≤4096))))),(21,(vd ((4096:Int)<(f.no:Int)))),(3,(vi (checkE f.items))),(26,(vd (((checkE f.items):Int)≠(0:Int)))),(36,(.bool false)),(40,(vd ((64:Int)<(f.early.length:Int)))),(4,(vi la)),(45,(vl FE f.early.length fe)),(46,(vi f.early.length)),(47,(vi k)),(48,(vd ((k:Int)<(f.early.length:Int)))),(59,(vl FE f.early.length fe)),(60,(vi f.early.length)),(61,(vi (j:Nat)))] a'∧j≤f.early.length∧(∀ i,i<j→∀ x,f.early[i]?=some x→verifyE f.pub f.many x=0)∧Ext w W∧Blk W D 48 (dg f.pub [(vi f.many),(vi f.no),(vl FA f.items.length fa),(vl FE f.early.length fe)])∧aS.heap.size≤W.heap.size) (fun a' _=>f.early.length - (intOf (a'.eval (.tmp 61))).toNat) ⟨0,J.j,(by omega),(fun i hi=>absurd hi (by omega)),eX,aa,(Nat.le_refl _)⟩ ?_
  rintro J J ⟨j,J,U,au,U,ax,V⟩
  have aN:=J
  have V:=U.size
  have V:=ax.lt
  refine wr fun V V=>J.xv (vd (((j:Nat):Int)<(f.early.length:Int))) fun _ Z=>wn V<|wp_seq_k fun J J=>?_
  by_cases V:((j:Nat):Int)<(f.early.length:Int)
  ·refine Z.ct<|wp_skip<|J _ _<|wp_seq_k fun J aK=>wp_block<|wr fun J aL=>?_
   have J:=RLs.ext rVr hc.early U
   obtain ⟨aE,aR,C,U,aG,aq,U,aO,aP⟩:=RLs.get J (by omega:j<f.early.length)
   obtain ⟨J,J,J,J,rfl,G⟩:=aP
   obtain ⟨ac,aj,rfl,J,J⟩:=RLs.form G.chs
   obtain ⟨ae,ak,rfl,J,J⟩:=Fl.form G.sg.op
   obtain ⟨ah,al,rfl,J,J⟩:=Fl.form G.sg.cl
   obtain ⟨ai,am,rfl,J,J⟩:=Fl.form G.sg.path
   refine Z.xw (vq aE (aR+j*38)) (fun F=>rn_indexE uu25 inf34 ((F.get rfl).trans (by rw [aG])) (F.get rfl) (zl _) (il (by omega:j<f.early.length)) (by omega))<|Xw (ag ((vi C.no)::dg C.state [(vl ac C.chs.length aj),(vi C.sg.index),(vl ae C.sg.op.length ak),(vl ah C.sg.cl.length al),(vl ai C.sg.path.length am)])) (fun F=>rn_loadN (cs:=((vi C.no)::dg C.state [(vl ac C.chs.length aj),(vi C.sg.index),(vl ae C.sg.op.length ak),(vl ah C.sg.cl.length al),(vl ai C.sg.path.length am)])) (F.get rfl) uu34 rfl (sk inf34 (len_dig1 G.st)) aO) fun _ J=>J.xz vz 34 fun J J _ U J J J V=>?_
   refine U.xs rfl J (fun J aa J=>?_) (hk:=len_dig1 G.st);have V:=J.size
   refine wn aL<|wr fun V aw=>U.xv (vp D) fun _ V=>have U:=ax.ug J;V.xw (.agg (byteVals f.pub).toArray) (fun F=>rn_loadN (cs:=byteVals f.pub) (F.get rfl) uu29 rfl (sk inf29 (byteVals_len hc.pub)) (Blk.part (A:=[]) (M:=byteVals f.pub) (B:=[(vi f.many),(vi f.no),(vl FA f.items.length fa),(vl FE f.early.length fe)]) U (by simp) rfl))<|Xv (vq D 32)<|Xw (vi f.many) (fun F=>rl F rfl ((U.rule.1 32).trans ((at_app (k:=0) (byteVals_len hc.pub)).trans rfl)))<|Xw (ag ((vi C.no)::dg C.state [(vl ac C.chs.length aj),(vi C.sg.index),(vl ae C.sg.op.length ak),(vl ah C.sg.cl.length al),(vl ai C.sg.path.length am)])) (fun F=>rb F rfl aa (hk:=len_dig1 G.st)) fun _ D=>have V:=(RLs.ug rCg G.chs J);have aa:=(G.sg.op.ug J);have ab:=(G.sg.cl.ug J);have ac:=(G.sg.path.ug J);D.xe (verifyv_at f.pub f.many C _ (⟨G.st,RLs.sub (S':=fun _=>True) rCg V fun _ _=>trivial,⟨Fl.any aa,Fl.any ab,Fl.any ac,G.sg.o32,G.sg.c32,G.sg.p32⟩⟩:RVp (fun _=>True) _ _ _ _ _ C) hc.pub (hde C (List.mem_of_getElem? aq)) (hG.ext eX)) fun D V D _ D=>D.xa rfl fun _ D=>wn aw<|have G:=D.k [0,1,2,13,21,3,26,36,40,4,45,46,47,48,59,60,61,62,8,9];wr fun D J=>G.xm rfl<|Xv (vd (((verifyE f.pub f.many C):Int)≠(0:Int))) fun _ D=>wn J ?_
   by_cases G:((verifyE f.pub f.many C):Int)≠(0:Int)
   ·exact D.ct<|wr fun G G=>D.xm rfl<|Xa rfl fun _ D=>wn G<|wp_ret<|ret_block<|ret_then<|ret_then<|ret_block<|ret_then<|ret1 D rfl rfl<|have hm:=I;⟨ret_int (show checkFE f=(verifyE f.pub f.many C) from (if_neg (by omega)).trans ((if_neg (by omega)).trans ((if_neg O).trans ((if_neg (by omega)).trans ((if_neg (by omega)).trans ((if_neg (fun q=>q (asc_of ar (by omega)))).trans (first_at au aq (by omega)))))))).symm,eX⟩
   refine D.cf<|wp_skip<|aK _ _<|wp_region_lit<|D.xv (vi (j+1:Nat))<|Xm rfl fun _ av=>wpList_nil ?_
   have aF:=U.ext V
   refine ⟨⟨(j+1),av.j,(by omega),(all_succ au (fun y hy=>by rw [aq] at hy;injection hy with hy;subst hy;omega)),eX,aF,(by omega)⟩,?_⟩
   rw [av.get (t:=61) rfl,aN.get (t:=61) rfl];simp [intOf] <;> omega
  exact Z.cf<|wp_exit<|exit_then<|exit_then<|exit_here<|aI _ _<|wr fun C D=>Z.xv (vi 0) fun _ C=>wn D<|wp_ret<|ret1 C rfl rfl<|have hm:=I;⟨ret_int (show checkFE f=0 from (if_neg (by omega)).trans ((if_neg (by omega)).trans ((if_neg O).trans ((if_neg (by omega)).trans ((if_neg (by omega)).trans ((if_neg (fun q=>q (asc_of ar (by omega)))).trans (first_all au (by omega)))))))).symm,eX⟩
 exact Y.ct<|wr fun C D=>Y.xv (vi 40) fun _ C=>wn D<|wp_ret<|ret_then<|ret1 C rfl rfl<|have hm:=I;⟨ret_int (show checkFE f=40 from if_pos (by omega)).symm,eX⟩
theorem fcheck_at {c:Value} (f:Fo) (w:World) (h:RFo S w c e f) (hdi:∀ x∈f.items,x.data.length≤4294967296) (hde:∀ v∈f.early,∀ x∈v.chs,x.data.length≤4294967296) (hG:Glob w) :
  Calls Tryz.prog 20 #[ag (fcs f.pub f.many f.no c e)] w (fun e w'=>e=.returned (vi (checkFE f))∧Ext w w'):=by
 obtain ⟨FA,fa,rfl,_⟩:=RLs.form h.items
 obtain ⟨FE,fe,rfl,_⟩:=RLs.form h.early
 exact fcheck_any FA fa FE fe f w h hdi hde hG
theorem Fl.len32 {l:List (List UInt8)} (h:Fl S w 32 v n (digVals l)) (h32:All32 l):Fl S w 32 v l.length (digVals l):=by rw [Fl.dlen h h32];exact h
def keyS (sd:List UInt8) (many used:Int) (nl:Nat) (a:List It) (l:List Cg):List UInt8:=if versionE sd many used nl a l=0 then sd else []
def keyM (sd:List UInt8) (many used:Int) (nl:Nat) (a:List It) (l:List Cg):Int:=if versionE sd many used nl a l=0 then many else 0
def keyU (sd:List UInt8) (many used:Int) (nl:Nat) (a:List It) (l:List Cg):Int:=if versionE sd many used nl a l=0 then used+1 else 0
theorem version_any (A:Option Addr) (c:Nat) (L:Option Addr) (ld:Nat) (B:Option Addr) (d:Nat) (C:Option Addr) (e:Nat) (sd:List UInt8) (many used:Int) (nl:Nat) (a:List It) (l:List Cg) (w:World) (hf:Fl S w 1 (vl A sd.length c) sd.length (byteVals sd)) (h1:RLs RIt 2 S w (vl B a.length d) a) (h2:RLs RCg 3 S w (vl C l.length e) l) (hsi:∀ x∈a,x.data.length≤4294967296) (hli:a.length≤4294967296) (hd:∀ x∈l,x.data.length≤4294967296) (hG:Glob w) {kv0 cv0:Value} (hkv:kv0=.slice A sd.length c) (hcv:cv0=.slice C l.length e) :
  Calls Tryz.prog 10 #[.agg #[.slice A sd.length c,.int .i64 many,.int .i64 used],.slice L nl ld,.slice B a.length d,.slice C l.length e] w (fun e w'=>∃ c o e' p A n cc,e=.returned (.tuple #[ag (vcs (versionV sd many used nl a l).no (versionV sd many used nl a l).state c (versionV sd many used nl a l).sg.index o e' p),.agg #[.slice A n cc,.int .i64 (keyM sd many used nl a l),.int .i64 (keyU sd many used nl a l)],.int .i64 (versionE sd many used nl a l)])∧RVp (Fr S w) w' c o e' p (versionV sd many used nl a l)∧Fl (Fr S w) w' 1 (vl A n cc) n (byteVals (keyS sd many used nl a l))∧RSg (fun b=>w.heap.size≤b) w' o e' p (versionV sd many used nl a l).sg∧(versionE sd many used nl a l=0→c=cv0∧Value.slice A n cc=kv0)∧Ext w w'):=by
 have hc:Fl (Clip S w) w 1 (vl A sd.length c) sd.length (byteVals sd):=hf.clip
 have hcc:=(Fl.cel hc).2.1
 have h1c:RLs RIt 2 (Clip S w) w (vl B a.length d) a:=RLs.clip rIt h1
 obtain ⟨-,h1ck,h1cm⟩:=RLs.at h1
 have h2c:RLs RCg 3 (Clip S w) w (vl C l.length e) l:=RLs.clip rCg h2
 obtain ⟨-,h2ck,h2cm⟩:=RLs.at h2
 refine calls_enter Tryz.func10 rfl rfl rfl fun _ hF=>wr fun K1 aG=>hF.xb rfl fun Y w3 _ F9 z6 z7 b4 ax=>F9.xz vz 34 fun I ax _ ax aD aD am aD=>ax.xz [v0,(vi 0),(vi 0)] 24 fun J ax _ aD ax ax aq ax=>aD.xv (vi 0) fun _ aD=>wn aG<|wp_seq_k fun aG aO=>wr fun aG aP=>have aJ:=b4.ux ax;aD.xw (.agg #[(vl A sd.length c),(vi many),(vi used)]) (fun F=>rb F rfl aJ) fun _ aD=>have aG:=(hc.ux ax);aD.xe (pub_at (v:=(vl A sd.length c)) (m:=sd.length) sd many used _ aG (hG.ext eX)) fun ax ax ax _ ax=>ax.xm rfl<|Xv (.agg (byteVals (pubF sd many used)).toArray)<|Xv (vi (pubE sd many used)) fun _ ax=>ax.xz (byteVals (List.replicate 32 0)) 29 fun ax ax _ ax aD aD aD aG=>?_
 refine ax.xs rfl aD (fun aD aD aD=>?_) (hk:=byteVals_len (pubF_len _ _ _));have aG:=aD.size
 refine ax.xa rfl fun _ ax=>wn aP<|have aG:=ax.k [0,1,2,3,4,8,9,10,12];wr fun ax aP=>aG.xm rfl<|Xv (vd (((pubE sd many used):Int)≠(0:Int))) fun _ ax=>wn aP ?_
 by_cases D:((pubE sd many used):Int)≠(0:Int)
 ·refine ax.ct<|wp_seq_k fun G V=>sX (fun G W=>Ext G W∧Blk W I 34 vz∧Blk W J 24 [v0,(vi 0),(vi 0)]) (fun i=>i==3||i==4) 6 fun G Y O=>have U:=am.ux Y;have O:=aq.ux Y;have Y:Ext G G∧Blk G I 34 vz∧Blk G J 24 [v0,(vi 0),(vi 0)]:=⟨(Ext.refl G),U,O⟩;ax.ys 0 (ag vz) rfl Y (fun F W hW=>rb F rfl hW.2.1)<|Ym 2 rfl fun _ G=>?_
  refine any_two (i:=1) (k:=3) (by decide +kernel) rfl rfl ?_ ?_
  ·refine G.ow (.agg #[v0,(vi 0),(vi 0)]) rfl (fun F=>rb F rfl O) fun _ G=>ap<|ao 3 rfl (G.os rfl U (fun I U I=>an<|have J:=I.size;have J:=(O.gn I);ao 4 rfl (G.os rfl J (fun I O I=>an<|have J:=I.size;G.yv 5 (vi (pubE sd many used)) rfl fun _ G=>nK V<|have J:=G.k [0,1,2,3,4,8,9,10,12,21];wp_ret<|ret_then<|have G:=(U.gn I);retCC1 J rfl rfl rfl rfl G uu34 rfl (sk inf34 (len_dig1 zero32_len)) O uu24 rfl inf24 ?_))))
   have hE:versionE sd many used nl a l=(pubE sd many used):=if_pos D
   have hne:versionE sd many used nl a l≠0:=by rw [hE];exact D
   have hV:versionV sd many used nl a l=vrNil:=if_neg hne
   have D:keyS sd many used nl a l=[]∧keyM sd many used nl a l=0∧keyU sd many used nl a l=0:=⟨if_neg hne,if_neg hne,if_neg hne⟩
   have hne0:=hne;rw [hE] at hne0
   rw [hV,hE,D.1,D.2.1,D.2.2]
   exact ⟨_,_,_,_,_,_,_,rfl,vrNil_at _,Fl.nil _,sgNil_at _,fun q=>absurd q hne0,eX⟩
  refine G.os rfl U (fun I U J=>an<|have I:=J.size;have I:=(O.gn J);ao 1 rfl<|G.ow (.agg #[v0,(vi 0),(vi 0)]) rfl (fun F=>rb F rfl I) fun _ G=>ap<|ao 4 rfl (G.os rfl I (fun I O I=>an<|have J:=I.size;G.yv 5 (vi (pubE sd many used)) rfl fun _ G=>nK V<|have J:=G.k [0,1,2,3,4,8,9,10,12,21];wp_ret<|ret_then<|have G:=(U.gn I);retCC1 J rfl rfl rfl rfl G uu34 rfl (sk inf34 (len_dig1 zero32_len)) O uu24 rfl inf24 ?_)))
  have hE:versionE sd many used nl a l=(pubE sd many used):=if_pos D
  have hne:versionE sd many used nl a l≠0:=by rw [hE];exact D
  have hV:versionV sd many used nl a l=vrNil:=if_neg hne
  have D:keyS sd many used nl a l=[]∧keyM sd many used nl a l=0∧keyU sd many used nl a l=0:=⟨if_neg hne,if_neg hne,if_neg hne⟩
  have hne0:=hne;rw [hE] at hne0
  rw [hV,hE,D.1,D.2.1,D.2.2]
  exact ⟨_,_,_,_,_,_,_,rfl,vrNil_at _,Fl.nil _,sgNil_at _,fun q=>absurd q hne0,eX⟩
 have hko:=kOk_iff.1 (pub_zero (Decidable.not_not.1 D))
 refine ax.cf<|wp_skip<|aO _ _<|wp_seq_k fun aG aO=>wr fun aG aP=>ax.xv (vq Y 2) fun _ ax=>have aG:=aJ.ug aD;ax.xw (vi used) (fun F=>rl F rfl (aG.rule.1 2))<|Xm rfl<|Xv (vi nl)<|Xv (vd ((used:Int)≠(nl:Int))) fun _ aJ=>wn aP ?_
 have ax:=aJ.k [0,1,2,3,4,8,9,10,12,21,29]
 by_cases O:(used:Int)≠(nl:Int)
 ·refine ax.ct<|wp_seq_k fun G Y=>sX (fun G W=>Ext G W∧Blk W I 34 vz∧Blk W J 24 [v0,(vi 0),(vi 0)]) (fun i=>i==2||i==3) 5 fun G Z U=>have V:=am.ux Z;have U:=aq.ux Z;have Z:Ext G G∧Blk G I 34 vz∧Blk G J 24 [v0,(vi 0),(vi 0)]:=⟨(Ext.refl G),V,U⟩;ax.ys 0 (ag vz) rfl Z (fun F W hW=>rb F rfl hW.2.1) fun _ G=>?_
  refine any_two (i:=1) (k:=2) (by decide +kernel) rfl rfl ?_ ?_
  ·refine G.ow (.agg #[v0,(vi 0),(vi 0)]) rfl (fun F=>rb F rfl U) fun _ G=>ap<|ao 2 rfl (G.os rfl V (fun I J I=>an<|have V:=I.size;have V:=(U.gn I);ao 3 rfl (G.os rfl V (fun I U I=>an<|have V:=I.size;G.yv 4 (vi 420) rfl fun _ G=>nK Y<|wp_ret<|ret_then<|have V:=(J.gn I);retCC1 G rfl rfl rfl rfl V uu34 rfl (sk inf34 (len_dig1 zero32_len)) U uu24 rfl inf24 ?_))))
   have hE:versionE sd many used nl a l=420:=(if_neg D).trans (if_pos O)
   have hne:versionE sd many used nl a l≠0:=by rw [hE];exact by decide
   have hV:versionV sd many used nl a l=vrNil:=if_neg hne
   have D:keyS sd many used nl a l=[]∧keyM sd many used nl a l=0∧keyU sd many used nl a l=0:=⟨if_neg hne,if_neg hne,if_neg hne⟩
   have hne0:=hne;rw [hE] at hne0
   rw [hV,hE,D.1,D.2.1,D.2.2]
   exact ⟨_,_,_,_,_,_,_,rfl,vrNil_at _,Fl.nil _,sgNil_at _,fun q=>absurd q hne0,eX⟩
  refine G.os rfl V (fun I V J=>an<|have I:=J.size;have I:=(U.gn J);ao 1 rfl<|G.ow (.agg #[v0,(vi 0),(vi 0)]) rfl (fun F=>rb F rfl I) fun _ G=>ap<|ao 3 rfl (G.os rfl I (fun I J I=>an<|have U:=I.size;G.yv 4 (vi 420) rfl fun _ G=>nK Y<|wp_ret<|ret_then<|have U:=(V.gn I);retCC1 G rfl rfl rfl rfl U uu34 rfl (sk inf34 (len_dig1 zero32_len)) J uu24 rfl inf24 ?_)))
  have hE:versionE sd many used nl a l=420:=(if_neg D).trans (if_pos O)
  have hne:versionE sd many used nl a l≠0:=by rw [hE];exact by decide
  have hV:versionV sd many used nl a l=vrNil:=if_neg hne
  have D:keyS sd many used nl a l=[]∧keyM sd many used nl a l=0∧keyU sd many used nl a l=0:=⟨if_neg hne,if_neg hne,if_neg hne⟩
  have hne0:=hne;rw [hE] at hne0
  rw [hV,hE,D.1,D.2.1,D.2.2]
  exact ⟨_,_,_,_,_,_,_,rfl,vrNil_at _,Fl.nil _,sgNil_at _,fun q=>absurd q hne0,eX⟩
 refine ax.cf<|wp_skip<|aO _ _<|wr fun aJ aP=>ax.xm rfl fun _ ax=>have aJ:=(RLs.ug rIt h1c aD);ax.xe (state_at (v:=(vl B a.length d)) a _ aJ hsi hli (hG.ext eX)) fun ax ax ax _ ax=>ax.xm rfl<|Xv (.agg (byteVals (stateD a)).toArray)<|Xv (vi (checkE a)) fun _ ax=>ax.xz (byteVals (List.replicate 32 0)) 29 fun ax ax _ ax aD aD aD aJ=>?_
 refine ax.xs rfl aD (fun aD aO aD=>?_) (hk:=byteVals_len (stateD_len _));have aJ:=aD.size
 refine ax.xa rfl fun _ ax=>wn aP<|have aJ:=ax.k [0,1,2,3,4,8,9,10,12,21,29,13];wp_seq_k fun ax aP=>wr fun ax aQ=>aJ.xm rfl<|Xv (vd (((checkE a):Int)≠(0:Int))) fun _ ax=>wn aQ ?_
 by_cases U:((checkE a):Int)≠(0:Int)
 ·refine ax.ct<|wp_seq_k fun G Z=>sX (fun G W=>Ext G W∧Blk W I 34 vz∧Blk W J 24 [v0,(vi 0),(vi 0)]) (fun i=>i==3||i==4) 6 fun G aa V=>have Y:=am.ux aa;have V:=aq.ux aa;have aa:Ext G G∧Blk G I 34 vz∧Blk G J 24 [v0,(vi 0),(vi 0)]:=⟨(Ext.refl G),Y,V⟩;ax.ys 0 (ag vz) rfl aa (fun F W hW=>rb F rfl hW.2.1)<|Ym 2 rfl fun _ G=>?_
  refine any_two (i:=1) (k:=3) (by decide +kernel) rfl rfl ?_ ?_
  ·refine G.ow (.agg #[v0,(vi 0),(vi 0)]) rfl (fun F=>rb F rfl V) fun _ G=>ap<|ao 3 rfl (G.os rfl Y (fun I Y I=>an<|have J:=I.size;have J:=(V.gn I);ao 4 rfl (G.os rfl J (fun I V I=>an<|have J:=I.size;G.yv 5 (vi (checkE a)) rfl fun _ G=>nK Z<|have J:=G.k [0,1,2,3,4,8,9,10,12,21,29,13,38];wp_ret<|ret_then<|have G:=(Y.gn I);retCC1 J rfl rfl rfl rfl G uu34 rfl (sk inf34 (len_dig1 zero32_len)) V uu24 rfl inf24 ?_))))
   have hE:versionE sd many used nl a l=(checkE a):=(if_neg D).trans ((if_neg O).trans (if_pos U))
   have hne:versionE sd many used nl a l≠0:=by rw [hE];exact U
   have hV:versionV sd many used nl a l=vrNil:=if_neg hne
   have D:keyS sd many used nl a l=[]∧keyM sd many used nl a l=0∧keyU sd many used nl a l=0:=⟨if_neg hne,if_neg hne,if_neg hne⟩
   have hne0:=hne;rw [hE] at hne0
   rw [hV,hE,D.1,D.2.1,D.2.2]
   exact ⟨_,_,_,_,_,_,_,rfl,vrNil_at _,Fl.nil _,sgNil_at _,fun q=>absurd q hne0,eX⟩
  refine G.os rfl Y (fun I Y J=>an<|have I:=J.size;have I:=(V.gn J);ao 1 rfl<|G.ow (.agg #[v0,(vi 0),(vi 0)]) rfl (fun F=>rb F rfl I) fun _ G=>ap<|ao 4 rfl (G.os rfl I (fun I V I=>an<|have J:=I.size;G.yv 5 (vi (checkE a)) rfl fun _ G=>nK Z<|have J:=G.k [0,1,2,3,4,8,9,10,12,21,29,13,38];wp_ret<|ret_then<|have G:=(Y.gn I);retCC1 J rfl rfl rfl rfl G uu34 rfl (sk inf34 (len_dig1 zero32_len)) V uu24 rfl inf24 ?_)))
  have hE:versionE sd many used nl a l=(checkE a):=(if_neg D).trans ((if_neg O).trans (if_pos U))
  have hne:versionE sd many used nl a l≠0:=by rw [hE];exact U
  have hV:versionV sd many used nl a l=vrNil:=if_neg hne
  have D:keyS sd many used nl a l=[]∧keyM sd many used nl a l=0∧keyU sd many used nl a l=0:=⟨if_neg hne,if_neg hne,if_neg hne⟩
  have hne0:=hne;rw [hE] at hne0
  rw [hV,hE,D.1,D.2.1,D.2.2]
  exact ⟨_,_,_,_,_,_,_,rfl,vrNil_at _,Fl.nil _,sgNil_at _,fun q=>absurd q hne0,eX⟩
 refine ax.cf<|wp_skip<|aP _ _<|wp_seq_k fun aJ aP=>wr fun aJ aQ=>ax.xm rfl fun _ ax=>have aJ:=(RLs.ug rCg h2c aD);ax.xe (mvalid_at (v:=(vl C l.length e)) l _ aJ) fun ax aT ax _ ax=>ax.xw (.bool (!(decide (validC l)))) (fun F=>rn_not' (F.get rfl) rfl) fun _ ay=>wn aQ ?_
 by_cases al:validC l
 ·refine ay.cf<|wp_skip<|aP _ _<|wr fun ax aJ=>ay.xm rfl<|Xv (vi nl)<|Xv (vi (nl+1:Nat)) fun _ ax=>have aD:=(aO.ext aT);ax.xw (.agg (byteVals (stateD a)).toArray) (fun F=>rb F rfl aD (hk:=byteVals_len (stateD_len _)))<|Xm rfl<|Xw (ag ((vi (nl+1:Nat))::dg (stateD a) [(vl C l.length e),(vi 0),v0,v0,v0])) (fun F=>rn_build (parts3 (F.get rfl) (F.get rfl) (F.get rfl)) (build_vr (stateD_len _))) fun _ ax=>ax.xz vz 34 fun av ax _ ax aD aD aD aO=>?_
  refine ax.xs rfl aD (fun aD aO aD=>?_) (hk:=len_dig1 (stateD_len _));have aP:=aD.size
  refine wn aJ<|have aJ:=ax.k [0,1,2,3,4,8,9,10,12,21,29,13,38,44,14];wp_seq_k fun ax aR=>wp_seq_k fun ax aS=>sX (fun V W=>Ext V W∧Blk W Y 24 [(vl A sd.length c),(vi many),(vi used)]∧Blk W av 34 ((vi (nl+1:Nat))::dg (stateD a) [(vl C l.length e),(vi 0),v0,v0,v0])) (fun i=>i==10) 12 fun V aD ax=>have aH:=aG.ux aD;have aI:=(aO.ext aD);have ax:Ext V V∧Blk V Y 24 [(vl A sd.length c),(vi many),(vi used)]∧Blk V av 34 ((vi (nl+1:Nat))::dg (stateD a) [(vl C l.length e),(vi 0),v0,v0,v0]):=⟨(Ext.refl V),aH,aI⟩;aJ.ys 0 (.agg #[(vl A sd.length c),(vi many),(vi used)]) rfl ax (fun F W hW=>rb F rfl hW.2.1)<|Yv 1 (vq Y 2) rfl<|Ys 2 (vi used) rfl ax (fun F W hW=>rl F rfl (hW.2.1.rule.1 2))<|Ys 3 (ag ((vi (nl+1:Nat))::dg (stateD a) [(vl C l.length e),(vi 0),v0,v0,v0])) rfl ax (fun F W hW=>rb F rfl hW.2.2 (hk:=len_dig1 (stateD_len _))) fun _ ax=>ao 4 rfl<|have aG:=(RLs.ux rCg h2c aD);ax.oc (message_at (⟨(nl+1:Nat),stateD a,l,⟨0,[],[],[]⟩⟩:Vr) _ (⟨(stateD_len _),RLs.sub (S':=fun _=>True) rCg aG fun _ _=>trivial,⟨Fl.any (Fl.nil _:Fl (fun _=>True) _ 32 _ _ (digVals [])),Fl.any (Fl.nil _:Fl (fun _=>True) _ 32 _ _ (digVals [])),Fl.any (Fl.nil _:Fl (fun _=>True) _ 32 _ _ (digVals [])),All32.nil,All32.nil,All32.nil⟩⟩:RVp (fun _=>True) _ _ _ _ _ (⟨(nl+1:Nat),stateD a,l,⟨0,[],[],[]⟩⟩:Vr)) al hd (show (0:Int)≤(nl+1:Nat) by omega) (show (nl+1:Nat)≤(4294967296:Int) by omega) (hG.ext eX)) ?_
  rintro _ aw ⟨aF,aM,rfl,aN,az⟩
  have ax:=(Fl.cel aN).2.1
  refine ⟨_,rfl,?_⟩;intro ax ax;have aD:=az.size
  have aD:Fl (Clip (fun b=>V.heap.size≤b) aw) aw 1 (vl aF 72 aM) 72 (byteVals ((⟨(nl+1:Nat),stateD a,l,⟨0,[],[],[]⟩⟩:Vr).msg)):=aN.clip
  have aK:=aH.ext az
  have aL:=aI.ext az
  refine ⟨fun _ _=>⟨eX,aK,aL⟩,?_⟩
  refine ao 5 rfl<|have V:=(hc.ux az);ax.oc (sign_at (v:=(vl A sd.length c)) (m:=sd.length) (u:=(vl aF 72 aM)) (n:=72) sd many used used ((⟨(nl+1:Nat),stateD a,l,⟨0,[],[],[]⟩⟩:Vr).msg) _ V aD (hG.ext eX)) ?_
  obtain ⟨G,ar⟩:∃ z,z=signF sd many used used ((⟨(nl+1:Nat),stateD a,l,⟨0,[],[],[]⟩⟩:Vr).msg):=⟨_,rfl⟩
  rw [← ar]
  rintro _ au ⟨ac,Z,ai,ae,aa,aj,ah,ab,ak,rfl,aA,aB,aC,aE⟩
  have h32327:All32 G.op:=by rw [ar];exact signF_o _ _ _ _ _
  have V:=(Fl.cel aA).2.1;have V:=Fl.dlen aA h32327
  have h32330:All32 G.cl:=by rw [ar];exact signF_c _ _ _ _ _
  have V:=(Fl.cel aB).2.1;have V:=Fl.dlen aB h32330
  have h32333:All32 G.path:=by rw [ar];exact signF_p _ _ _ _ _
  have V:=(Fl.cel aC).2.1;have V:=Fl.dlen aC h32333
  refine ⟨_,rfl,?_⟩;intro V V;have ax:=aE.size
  have aD:Fl (Clip (fun b=>aw.heap.size≤b) au) au 32 (vl ac Z ai) Z (digVals G.op):=aA.clip
  have aA:Fl (Clip (fun b=>aw.heap.size≤b) au) au 32 (vl ae aa aj) aa (digVals G.cl):=aB.clip
  have aB:Fl (Clip (fun b=>aw.heap.size≤b) au) au 32 (vl ah ab ak) ab (digVals G.path):=aC.clip
  have aw:=aK.ext aE
  have au:=aL.ext aE
  refine ⟨fun _ _=>⟨eX,aw,au⟩,?_⟩
  refine V.ym 6 rfl<|Yv 7 (.agg #[(vi G.index),(vl ac Z ai),(vl ae aa aj),(vl ah ab ak)]) rfl<|Yv 8 (vi (signE sd many used used ((⟨(nl+1:Nat),stateD a,l,⟨0,[],[],[]⟩⟩:Vr).msg))) rfl<|Yv 9 (vq av 34) rfl fun _ V=>ao 10 rfl<|o_storeMid (cells:=[(vi G.index),(vl ac Z ai),(vl ae aa aj),(vl ah ab ak)]) (new:=((vi (nl+1:Nat))::dg (stateD a) [(vl C l.length e),(vi G.index),(vl ac Z ai),(vl ae aa aj),(vl ah ab ak)])) V rfl rfl rfl rfl (V.get rfl) (V.get rfl) au inf32 (le_mid (x:=38) (y:=4) (by simp [byteVals_len (stateD_len _)]) rfl (by decide)) (one_cons rfl (one_cons rfl (one_cons rfl (one_cons rfl one_nil)))) (splice_mid (A:=((vi (nl+1:Nat))::dg (stateD a) [(vl C l.length e)])) (M:=[(vi 0),v0,v0,v0]) (B:=[]) (by simp) (by simp [byteVals_len (stateD_len _)]) rfl (by simp)) fun au aE ay=>?_;have au:=ay.size
  refine ⟨fun h=>absurd h (by decide),?_⟩
  refine V.yv 11 (vi (signE sd many used used ((⟨(nl+1:Nat),stateD a,l,⟨0,[],[],[]⟩⟩:Vr).msg))) rfl fun _ V=>nK aS<|have au:=V.k [0,1,2,3,4,8,9,10,12,21,29,13,38,44,14];wr fun V ax=>au.xm rfl<|Xv (vd (((signE sd many used used ((⟨(nl+1:Nat),stateD a,l,⟨0,[],[],[]⟩⟩:Vr).msg)):Int)≠(0:Int))) fun _ V=>wn ax ?_
  by_cases au:((signE sd many used used ((⟨(nl+1:Nat),stateD a,l,⟨0,[],[],[]⟩⟩:Vr).msg)):Int)≠(0:Int)
  ·refine V.ct<|wp_seq_k fun G aa=>sX (fun G W=>Ext G W∧Blk W I 34 vz∧Blk W J 24 [v0,(vi 0),(vi 0)]) (fun i=>i==3||i==4) 6 fun G ab Y=>have Z:=am.ux ab;have Y:=aq.ux ab;have ab:Ext G G∧Blk G I 34 vz∧Blk G J 24 [v0,(vi 0),(vi 0)]:=⟨(Ext.refl G),Z,Y⟩;V.ys 0 (ag vz) rfl ab (fun F W hW=>rb F rfl hW.2.1)<|Ym 2 rfl fun _ G=>?_
   refine any_two (i:=1) (k:=3) (by decide +kernel) rfl rfl ?_ ?_
   ·refine G.ow (.agg #[v0,(vi 0),(vi 0)]) rfl (fun F=>rb F rfl Y) fun _ G=>ap<|ao 3 rfl (G.os rfl Z (fun I V I=>an<|have J:=I.size;have J:=(Y.gn I);ao 4 rfl (G.os rfl J (fun I Y I=>an<|have J:=I.size;G.yv 5 (vi (signE sd many used used ((⟨(nl+1:Nat),stateD a,l,⟨0,[],[],[]⟩⟩:Vr).msg))) rfl fun _ G=>nK aa<|have J:=G.k [0,1,2,3,4,8,9,10,12,21,29,13,38,44,14,64];wp_ret<|ret_then<|have G:=(V.gn I);retCC1 J rfl rfl rfl rfl G uu34 rfl (sk inf34 (len_dig1 zero32_len)) Y uu24 rfl inf24 ?_))))
    have hE:versionE sd many used nl a l=(signE sd many used used ((⟨(nl+1:Nat),stateD a,l,⟨0,[],[],[]⟩⟩:Vr).msg)):=(if_neg D).trans ((if_neg O).trans ((if_neg U).trans ((if_neg (fun q=>q al)).trans rfl)))
    have hne:versionE sd many used nl a l≠0:=by rw [hE];exact au
    have hV:versionV sd many used nl a l=vrNil:=if_neg hne
    have D:keyS sd many used nl a l=[]∧keyM sd many used nl a l=0∧keyU sd many used nl a l=0:=⟨if_neg hne,if_neg hne,if_neg hne⟩
    have hne0:=hne;rw [hE] at hne0
    rw [hV,hE,D.1,D.2.1,D.2.2]
    exact ⟨_,_,_,_,_,_,_,rfl,vrNil_at _,Fl.nil _,sgNil_at _,fun q=>absurd q hne0,eX⟩
   refine G.os rfl Z (fun I V J=>an<|have I:=J.size;have I:=(Y.gn J);ao 1 rfl<|G.ow (.agg #[v0,(vi 0),(vi 0)]) rfl (fun F=>rb F rfl I) fun _ G=>ap<|ao 4 rfl (G.os rfl I (fun I Y I=>an<|have J:=I.size;G.yv 5 (vi (signE sd many used used ((⟨(nl+1:Nat),stateD a,l,⟨0,[],[],[]⟩⟩:Vr).msg))) rfl fun _ G=>nK aa<|have J:=G.k [0,1,2,3,4,8,9,10,12,21,29,13,38,44,14,64];wp_ret<|ret_then<|have G:=(V.gn I);retCC1 J rfl rfl rfl rfl G uu34 rfl (sk inf34 (len_dig1 zero32_len)) Y uu24 rfl inf24 ?_)))
   have hE:versionE sd many used nl a l=(signE sd many used used ((⟨(nl+1:Nat),stateD a,l,⟨0,[],[],[]⟩⟩:Vr).msg)):=(if_neg D).trans ((if_neg O).trans ((if_neg U).trans ((if_neg (fun q=>q al)).trans rfl)))
   have hne:versionE sd many used nl a l≠0:=by rw [hE];exact au
   have hV:versionV sd many used nl a l=vrNil:=if_neg hne
   have D:keyS sd many used nl a l=[]∧keyM sd many used nl a l=0∧keyU sd many used nl a l=0:=⟨if_neg hne,if_neg hne,if_neg hne⟩
   have hne0:=hne;rw [hE] at hne0
   rw [hV,hE,D.1,D.2.1,D.2.2]
   exact ⟨_,_,_,_,_,_,_,rfl,vrNil_at _,Fl.nil _,sgNil_at _,fun q=>absurd q hne0,eX⟩
  refine V.cf<|wp_skip<|aR _ _<|wr fun ax az=>V.xv (vq Y 2) fun _ V=>have ax:=(aw.gn ay);V.xw (vi used) (fun F=>rl F rfl (ax.rule.1 2))<|Xv (vi (used+1))<|Xv (vq Y 2) fun _ V=>wpl_op (i:=4) rfl<|o_store1 (new:=[(vl A sd.length c),(vi many),(vi (used+1))]) V rfl rfl rfl rfl (V.get rfl) (V.get rfl) ax inf3 (by simp) rfl rfl fun aw ay aw=>have ax:=aw.size;wn az<|have aC:=V.k [0,1,2,3,4,8,9,10,12,21,29,13,38,44,14,64];wp_seq_k fun V az=>sX (fun V W=>Ext V W∧Blk W av 34 ((vi (nl+1:Nat))::dg (stateD a) [(vl C l.length e),(vi G.index),(vl ac Z ai),(vl ae aa aj),(vl ah ab ak)])∧Blk W Y 24 [(vl A sd.length c),(vi many),(vi (used+1))]∧Blk W I 34 vz∧Blk W J 24 [v0,(vi 0),(vi 0)]) (fun i=>i==2||i==3) 5 fun V aw ax=>have aF:=aE.ux aw;have ax:=(ay.ext aw);have ay:=am.ux aw;have am:=aq.ux aw;have aq:Ext V V∧Blk V av 34 ((vi (nl+1:Nat))::dg (stateD a) [(vl C l.length e),(vi G.index),(vl ac Z ai),(vl ae aa aj),(vl ah ab ak)])∧Blk V Y 24 [(vl A sd.length c),(vi many),(vi (used+1))]∧Blk V I 34 vz∧Blk V J 24 [v0,(vi 0),(vi 0)]:=⟨(Ext.refl V),aF,ax,ay,am⟩;aC.ys 0 (ag ((vi (nl+1:Nat))::dg (stateD a) [(vl C l.length e),(vi G.index),(vl ac Z ai),(vl ae aa aj),(vl ah ab ak)])) rfl aq (fun F W hW=>rb F rfl hW.2.1 (hk:=len_dig1 (stateD_len _))) fun _ I=>?_
  refine any_two (i:=1) (k:=2) (by decide +kernel) rfl rfl ?_ ?_
  ·refine I.ow (.agg #[(vl A sd.length c),(vi many),(vi (used+1))]) rfl (fun F=>rb F rfl ax) fun _ J=>ap ?_
   refine ao 2 rfl (J.os rfl ay (fun I V I=>an ?_) (hk:=len_dig1 (stateD_len _)));have Y:=I.size
   have Y:=am.gn I
   refine ao 3 rfl (J.os rfl Y (fun I Y I=>an<|have Z:=I.size;J.yv 4 (vi 0) rfl fun _ J=>nK az<|wp_ret<|have Z:=(V.gn I);retCC1 J rfl rfl rfl rfl Z uu34 rfl (sk inf34 (len_dig1 (stateD_len _))) Y uu24 rfl inf24 ?_))
   have hE:versionE sd many used nl a l=0:=(if_neg D).trans ((if_neg O).trans ((if_neg U).trans ((if_neg (fun q=>q al)).trans (dec_ne0 (decide_eq_false au)))))
   have hV:versionV sd many used nl a l=⟨(nl+1:Nat),stateD a,l,G⟩:=(if_pos hE).trans (by rw [ar];rfl)
   have D:keyS sd many used nl a l=sd∧keyM sd many used nl a l=many∧keyU sd many used nl a l=used+1:=⟨if_pos hE,if_pos hE,if_pos hE⟩
   have U:=RLs.ug rCg h2c I
   have G:=aD.ug I
   have J:=aA.ug I
   have O:=aB.ug I
   have V:=hc.ug I
   rw [hV,hE,D.1,D.2.1,D.2.2]
   exact ⟨_,_,_,_,_,_,_,rfl,⟨stateD_len _,RLs.sub rCg U (fun b hb=>.inl hb.1),⟨Fl.sub (Fl.len32 G h32327) (fun b hb=>.inr (by first | omega | (simp only [Clip] at hb;omega) | (have h7:=hb.1;omega))),Fl.sub (Fl.len32 J h32330) (fun b hb=>.inr (by first | omega | (simp only [Clip] at hb;omega) | (have h7:=hb.1;omega))),Fl.sub (Fl.len32 O h32333) (fun b hb=>.inr (by first | omega | (simp only [Clip] at hb;omega) | (have h7:=hb.1;omega))),h32327,h32330,h32333⟩⟩,Fl.sub V (fun b hb=>.inl hb.1),⟨Fl.sub (Fl.len32 G h32327) (fun b hb=>by first | omega | (simp only [Clip] at hb;omega) | (have h7:=hb.1;omega)),Fl.sub (Fl.len32 J h32330) (fun b hb=>by first | omega | (simp only [Clip] at hb;omega) | (have h7:=hb.1;omega)),Fl.sub (Fl.len32 O h32333) (fun b hb=>by first | omega | (simp only [Clip] at hb;omega) | (have h7:=hb.1;omega)),h32327,h32330,h32333⟩,fun _=>⟨hcv.symm,hkv.symm⟩,eX⟩
  refine I.os rfl ay (fun J Y J=>an ?_) (hk:=len_dig1 (stateD_len _));have V:=J.size
  have V:=ax.gn J
  refine ao 1 rfl<|I.ow (.agg #[(vl A sd.length c),(vi many),(vi (used+1))]) rfl (fun F=>rb F rfl V) fun _ V=>ap<|have I:=(am.gn J);ao 3 rfl (V.os rfl I (fun I Z I=>an<|have J:=I.size;V.yv 4 (vi 0) rfl fun _ J=>nK az<|wp_ret<|have V:=(Y.gn I);retCC1 J rfl rfl rfl rfl V uu34 rfl (sk inf34 (len_dig1 (stateD_len _))) Z uu24 rfl inf24 ?_))
  have hE:versionE sd many used nl a l=0:=(if_neg D).trans ((if_neg O).trans ((if_neg U).trans ((if_neg (fun q=>q al)).trans (dec_ne0 (decide_eq_false au)))))
  have hV:versionV sd many used nl a l=⟨(nl+1:Nat),stateD a,l,G⟩:=(if_pos hE).trans (by rw [ar];rfl)
  have D:keyS sd many used nl a l=sd∧keyM sd many used nl a l=many∧keyU sd many used nl a l=used+1:=⟨if_pos hE,if_pos hE,if_pos hE⟩
  have U:=RLs.ug rCg h2c I
  have G:=aD.ug I
  have J:=aA.ug I
  have O:=aB.ug I
  have V:=hc.ug I
  rw [hV,hE,D.1,D.2.1,D.2.2]
  exact ⟨_,_,_,_,_,_,_,rfl,⟨stateD_len _,RLs.sub rCg U (fun b hb=>.inl hb.1),⟨Fl.sub (Fl.len32 G h32327) (fun b hb=>.inr (by first | omega | (simp only [Clip] at hb;omega) | (have h7:=hb.1;omega))),Fl.sub (Fl.len32 J h32330) (fun b hb=>.inr (by first | omega | (simp only [Clip] at hb;omega) | (have h7:=hb.1;omega))),Fl.sub (Fl.len32 O h32333) (fun b hb=>.inr (by first | omega | (simp only [Clip] at hb;omega) | (have h7:=hb.1;omega))),h32327,h32330,h32333⟩⟩,Fl.sub V (fun b hb=>.inl hb.1),⟨Fl.sub (Fl.len32 G h32327) (fun b hb=>by first | omega | (simp only [Clip] at hb;omega) | (have h7:=hb.1;omega)),Fl.sub (Fl.len32 J h32330) (fun b hb=>by first | omega | (simp only [Clip] at hb;omega) | (have h7:=hb.1;omega)),Fl.sub (Fl.len32 O h32333) (fun b hb=>by first | omega | (simp only [Clip] at hb;omega) | (have h7:=hb.1;omega)),h32327,h32330,h32333⟩,fun _=>⟨hcv.symm,hkv.symm⟩,eX⟩
 refine ay.ct<|wp_seq_k fun G Z=>sX (fun G W=>Ext G W∧Blk W I 34 vz∧Blk W J 24 [v0,(vi 0),(vi 0)]) (fun i=>i==2||i==3) 5 fun G aa V=>have Y:=am.ux aa;have V:=aq.ux aa;have aa:Ext G G∧Blk G I 34 vz∧Blk G J 24 [v0,(vi 0),(vi 0)]:=⟨(Ext.refl G),Y,V⟩;ay.ys 0 (ag vz) rfl aa (fun F W hW=>rb F rfl hW.2.1) fun _ G=>?_
 refine any_two (i:=1) (k:=2) (by decide +kernel) rfl rfl ?_ ?_
 ·refine G.ow (.agg #[v0,(vi 0),(vi 0)]) rfl (fun F=>rb F rfl V) fun _ G=>ap<|ao 2 rfl (G.os rfl Y (fun I Y I=>an<|have J:=I.size;have J:=(V.gn I);ao 3 rfl (G.os rfl J (fun I V I=>an<|have J:=I.size;G.yv 4 (vi 400) rfl fun _ G=>nK Z<|have J:=G.k [0,1,2,3,4,8,9,10,12,21,29,13,38,44];wp_ret<|ret_then<|have G:=(Y.gn I);retCC1 J rfl rfl rfl rfl G uu34 rfl (sk inf34 (len_dig1 zero32_len)) V uu24 rfl inf24 ?_))))
  have hE:versionE sd many used nl a l=400:=(if_neg D).trans ((if_neg O).trans ((if_neg U).trans (if_pos al)))
  have hne:versionE sd many used nl a l≠0:=by rw [hE];exact by decide
  have hV:versionV sd many used nl a l=vrNil:=if_neg hne
  have D:keyS sd many used nl a l=[]∧keyM sd many used nl a l=0∧keyU sd many used nl a l=0:=⟨if_neg hne,if_neg hne,if_neg hne⟩
  have hne0:=hne;rw [hE] at hne0
  rw [hV,hE,D.1,D.2.1,D.2.2]
  exact ⟨_,_,_,_,_,_,_,rfl,vrNil_at _,Fl.nil _,sgNil_at _,fun q=>absurd q hne0,eX⟩
 refine G.os rfl Y (fun I Y J=>an<|have I:=J.size;have I:=(V.gn J);ao 1 rfl<|G.ow (.agg #[v0,(vi 0),(vi 0)]) rfl (fun F=>rb F rfl I) fun _ G=>ap<|ao 3 rfl (G.os rfl I (fun I V I=>an<|have J:=I.size;G.yv 4 (vi 400) rfl fun _ G=>nK Z<|have J:=G.k [0,1,2,3,4,8,9,10,12,21,29,13,38,44];wp_ret<|ret_then<|have G:=(Y.gn I);retCC1 J rfl rfl rfl rfl G uu34 rfl (sk inf34 (len_dig1 zero32_len)) V uu24 rfl inf24 ?_)))
 have hE:versionE sd many used nl a l=400:=(if_neg D).trans ((if_neg O).trans ((if_neg U).trans (if_pos al)))
 have hne:versionE sd many used nl a l≠0:=by rw [hE];exact by decide
 have hV:versionV sd many used nl a l=vrNil:=if_neg hne
 have D:keyS sd many used nl a l=[]∧keyM sd many used nl a l=0∧keyU sd many used nl a l=0:=⟨if_neg hne,if_neg hne,if_neg hne⟩
 have hne0:=hne;rw [hE] at hne0
 rw [hV,hE,D.1,D.2.1,D.2.2]
 exact ⟨_,_,_,_,_,_,_,rfl,vrNil_at _,Fl.nil _,sgNil_at _,fun q=>absurd q hne0,eX⟩
theorem version_at {kv u:Value} (L:Option Addr) (ld:Nat) (sd:List UInt8) (many used:Int) (nl:Nat) (a:List It) (l:List Cg) (w:World) (hf:Fl S w 1 kv n (byteVals sd)) (h1:RLs RIt 2 S w u a) (h2:RLs RCg 3 S w v l) (hsi:∀ x∈a,x.data.length≤4294967296) (hli:a.length≤4294967296) (hd:∀ x∈l,x.data.length≤4294967296) (hG:Glob w) :
  Calls Tryz.prog 10 #[.agg #[kv,.int .i64 many,.int .i64 used],.slice L nl ld,u,v] w (fun e w'=>∃ c o e' p A n cc,e=.returned (.tuple #[ag (vcs (versionV sd many used nl a l).no (versionV sd many used nl a l).state c (versionV sd many used nl a l).sg.index o e' p),.agg #[.slice A n cc,.int .i64 (keyM sd many used nl a l),.int .i64 (keyU sd many used nl a l)],.int .i64 (versionE sd many used nl a l)])∧RVp (Fr S w) w' c o e' p (versionV sd many used nl a l)∧Fl (Fr S w) w' 1 (vl A n cc) n (byteVals (keyS sd many used nl a l))∧RSg (fun b=>w.heap.size≤b) w' o e' p (versionV sd many used nl a l).sg∧(versionE sd many used nl a l=0→c=v∧Value.slice A n cc=kv)∧Ext w w'):=by
 have hm:=hf.blen
 subst hm
 obtain ⟨A,c,rfl,_⟩:=hf.form
 obtain ⟨B,d,rfl,_⟩:=h1.form
 obtain ⟨C,e,rfl,_⟩:=h2.form
 exact version_any A c L ld B d C e sd many used nl a l w hf h1 h2 hsi hli hd hG rfl rfl
section
variable {N:Nat} {m:List (Nat × Value)} {a:Act} {ds:List Deferred}
theorem SlD.k {l:List (Nat × Value)} (hF:SlD ds N m a) (ts:List Nat) (h:pk m ts=some l:=by rfl):SlD ds N l a:=⟨hF.1.k ts h,hF.2⟩
theorem SlD.j {l:List (Nat × Value)} (hF:SlD ds N m a) (h:Pj m l:=by repeat' first | exact Pj.n | refine Pj.c rfl (by first | rfl | (congr 1;omega) | (simp only [List.length_drop]) | (congr 1;done)) ?_):SlD ds N l a:=⟨hF.1.j h,hF.2⟩
theorem calls_enterD {P:Program} {fn:Func} {c:Code} {l:List Value} {w:World} {R:Ending→World→Prop} (hf:P.funcs[f]?=some fn) (hb:fn.body=some c) (hn:fn.ntmps=N) (hl:Nat.ble l.length N=true)
  (h:∀ a,Sl N (argList 0 l) a→c.wp P (bodyPostD P fn R) a w):Calls P f l.toArray w R:=by
 refine calls_of_wp_defers hf hb (h _ ?_)
 rw [hn]
 refine Sl.args l _ N ?_
 have:l.length≤N:=by simpa using hl
 simp;omega
section
variable {P:Program} {ops:Array Oper} {Q:Exit→Act→World→Prop} {S:World→Prop} {F:Nat→Bool} {i:Nat} {w w':World} {o:Oper} {v:Value} {K:Act→World→Prop} {d:Nat}
theorem o_defer (hF:Sl N m a) (ho:ops[i]?=some o) (hw:Region.wanted o (yielded ops a.tmps)=true) (hd:o.dst=none) {D:Deferred} (hr:(execOp a.eval o).run P w=.ok (.defer D) w) (h:∀ a',SlD [D] N m a'→K a' w):wpOp P ops Q i K a w:=by
 unfold wpOp
 rw [ho]
 simp only [hw,if_true]
 refine .inl ?_
 unfold Oper.wp
 rw [hr]
 show K ({ a with defers:=D::a.defers }.put o.dst undef) w
 rw [hd,hF.2.1]
 exact h _ (SlD.of hF)
theorem oD_call (hF:SlD ds N m a) (ho:ops[i]?=some o) (hw:Region.wanted o (yielded ops a.tmps)=true) (hd:o.dst=some d) (hN:Nat.blt d N=true) {f:FuncId} {args:Array Value} (hr:(execOp a.eval o).run P w=.ok (.enter f args) w)
  {R:Ending→World→Prop} (hc:Calls P f args w R) (h:∀ e w',R e w'→∃ v,e=.returned v∧∀ a',SlD ds N ((d,v)::m) a'→K a' w'):wpOp P ops Q i K a w :=
 op_call ho hw hr hc fun e w' hR=>by
  obtain ⟨v,he,hk⟩:=h e w' hR
  exact ⟨v,he,hk _ (by rw [hd];exact hF.put hN)⟩
theorem oD_callP (_hF:SlD ds N m a) (ho:ops[i]?=some o) (hw:Region.wanted o (yielded ops a.tmps)=true) {f:FuncId} {args:Array Value} (hr:(execOp a.eval o).run P w=.ok (.enter f args) w)
  {R:Ending→World→Prop} (hc:Calls P f args w R) (h:∀ e w',R e w'→∃ ch,e=.panicked ch∧Q (.panic ch) a w'):wpOp P ops Q i K a w:=by
 unfold wpOp
 rw [ho]
 simp only [hw,if_true]
 refine .inl ?_
 unfold Oper.wp
 rw [hr]
 refine hc.mono fun e w'' hR=>?_
 obtain ⟨ch,rfl,hq⟩:=h e w'' hR
 exact hq
theorem o_panic (ho:ops[i]?=some o) (hw:Region.wanted o (yielded ops a.tmps)=true) {x:Operand} {u:TypeId} {pv:Value} (hop:o.op=.panic x) (hx:a.eval x=.iface u pv) (h:Q (.panic [{ v:=.iface u pv,recovered:=false }]) a w):wpOp P ops Q i K a w:=by
 unfold wpOp
 rw [ho]
 simp only [hw,if_true]
 refine .inl ?_
 unfold Oper.wp
 have hr:∀ ρ:Operand→Value,ρ x=.iface u pv→(execOp ρ o).run P w=.halt (.panic (.iface u pv)) w:=fun ρ h=>by simp [execOp,hop,h,Instr.panic,goPanic,go_sem]
 rw [hr _ hx]
 exact h
theorem anyD_val (hF:SlD ds N m a) (hs:Region.noSelect ops=true) (hb:lightB ops F L i=true) (hL:L.setIfInBounds i true=L') (ho:ops[i]?=some o) (hd:o.dst=some d) (hN:Nat.blt d N=true)
  (hQ:∀ c a w v,Q (.panic c) (a.put (some d) v) w→Q (.panic c) a w) (hw:Region.wanted o (yielded ops a.tmps)=true) (hS:S w)
  (hr:∀ W,S W→(execOp a.eval o).run P W=.ok (.value v) W) (h:∀ a',SlD ds N ((d,v)::m) a'→wpAnyF P ops Q S F n L' a' w):wpAnyF P ops Q S F (n+1) L a w :=
 any_light hs hb hL ho (by rw [hd];exact fun c a w=>hQ c a w _) hw hS hr (h _ (by rw [hd];exact hF.put hN))
theorem anyD_pure (hF:SlD ds N m a) (hs:Region.noSelect ops=true) (hb:freeB ops L i=true) (hL:L.setIfInBounds i true=L') (ho:ops[i]?=some o) (hd:o.dst=some d) (hN:Nat.blt d N=true)
  (hQ:∀ c a w v,Q (.panic c) (a.put (some d) v) w→Q (.panic c) a w) (hw:Region.wanted o (yielded ops a.tmps)=true)
  (hr:∀ W,(execOp a.eval o).run P W=.ok (.value v) W) (h:∀ a',SlD ds N ((d,v)::m) a'→wpAnyF P ops Q S F n L' a' w):wpAnyF P ops Q S F (n+1) L a w :=
 any_pureY hs hb hL ho (by rw [hd];exact fun c a w=>hQ c a w _) (.inl ⟨hw,hr⟩) (h _ (by rw [hd];exact hF.put hN))
theorem cD_true {t:Nat} (hF:SlD ds N m a) (hv:look m t=some (.bool b)) (hb:b=true):a.eval (.tmp t)=.bool true:=by subst hb;exact hF.get hv
theorem cD_false {t:Nat} (hF:SlD ds N m a) (hv:look m t=some (.bool b)) (hb:b=false):a.eval (.tmp t)=.bool false:=by subst hb;exact hF.get hv
end
section
variable {P:Program} {ρ:Operand→Value} {W:World} {d:Option Tmp} {t:TypeId} {p:String} {af:Array Edge} {g:Option (Nat × Bool)} {v:Value} {x y:Operand}
theorem rn_defer {first cap:Array Value} (hx:ρ x=.func (.func f) first cap):(execOp ρ ⟨d,.defer { callee:=.value x,args:=#[],argTypes:=#[] },t,p,af,g⟩).run P W=.ok (.defer { target:=.fn (.func f) cap,args:=first }) W:=by
 simp [execOp,resolve,hx,Deferred.ofValue]
theorem rn_mkIface {u:Value} (hx:ρ x=u) (hb:(Instr.makeInterface s u).run P W=.ok v W):(execOp ρ ⟨d,.makeInterface s x,t,p,af,g⟩).run P W=.ok (.value v) W:=by simp [execOp,hx,hb]
theorem rn_tassert {u:TypeId} {z:Value} (hx:ρ x=z) (hb:(Instr.typeAssert z s u b).run P W=.ok v W):(execOp ρ ⟨d,.typeAssert x s u b,t,p,af,g⟩).run P W=.ok (.value v) W:=by simp [execOp,hx,hb]
end
section
variable {P:Program} {fn:Func} {R:Ending→World→Prop} {w:World}
theorem results_put {d:Nat} {v:Value} (hr:fn.results=#[.cell 4 T1,.cell 5 T2]) (h4:d≠4) (h5:d≠5) (a:Act):results fn (a.put (some d) v).tmps=results fn a.tmps:=by
 simp [results,hr,Act.put,Array.getD_eq_getD_getElem?,Array.getElem?_setIfInBounds,h4,h5]
theorem leaves_res {t1 t2:Array Value} (h:results fn t1=results fn t2):∀ (ds:List Deferred) (u:FrameMode) (w:World),Leaves P fn t1 R ds u w→Leaves P fn t2 R ds u w
 | [],.returning,w,⟨v,h1,h2⟩=>⟨v,h ▸ h1,h2⟩
 | [],.panicking _,_,h1=>h1
 | [],.run,_,h1=>h1
 | d::ds,u,w,⟨h1,fv,cap,f,args,h2,h3,h4⟩=>⟨h1,fv,cap,f,args,h2,h3,h4.mono fun e u' w' hq=>by
   cases e with
   | returned v=>exact leaves_res h ds _ _ hq
   | panicked c=>exact leaves_res h ds _ _ hq
   | outgrown=>exact hq⟩
theorem leaves_put {d:Nat} {v:Value} (hr:fn.results=#[.cell 4 T1,.cell 5 T2]) (h4:d≠4) (h5:d≠5) (h:Leaves P fn (a.put (some d) v).tmps R (a.put (some d) v).defers u w):Leaves P fn a.tmps R a.defers u w :=
 leaves_res (results_put hr h4 h5 a) _ _ _ h
theorem results_two {tt tt2:TypeId} {b g:Nat} {td td2:TypeDesc} (hr:fn.results=#[.cell 4 T1,.cell 5 T2]) (h4:a.eval (.tmp 4)=.pointer (some ⟨b,0,none⟩)) (h5:a.eval (.tmp 5)=.pointer (some ⟨g,0,none⟩))
  (hB:Blk w b tt cs) (hty:P.underlying T1=some td) (hd:aggTy td=true) (hi:(P.info? T1).map (·.size)=some cs.length) (hG:Blk w g tt2 [v2]) (hty2:P.underlying T2=some td2) (hd2:aggTy td2=false):(results fn a.tmps).run P w=.ok (.tuple #[.agg cs.toArray,v2]) w:=by
 simp only [Act.eval,Array.getD_eq_getD_getElem?] at h4 h5
 have D:=run_loadVar_row (P:=P) w b tt T1 cs.toArray (0,0) td hB hty (by cases td <;> simp_all [aggTy]) (by simpa using hi)
 have C:(isAgg T2).run P w=.ok false w:=by cases td2 <;> simp_all [isAgg,run_underlying hty2,aggTy]
 have hc:w.cell? ⟨g,0,none⟩=some v2:=by rw [hG.rule.1];rfl
 have G:(loadVar T2 ⟨g,0,none⟩).run P w=.ok v2 w:=by simp [loadVar,go_sem,C,hc]
 simp [results,hr,h4,h5,asAddr,D,G]
end
theorem wpS_rec {P:Program} {Q:Exit→Act→List Frame→World→Prop} {cs cs':List Frame} {w:World} {v:Value} (hw0:∀ y,Region.wanted o0 y=true) (hw1:∀ y,Region.wanted o1 y=true) (h0:(execOp a.eval o0).run P w=.ok .recover w) (hd0:o0.dst=some d0)
  (hr:recoverD cs=some (v,cs')∨(recoverD cs=none∧v=.nilIface∧cs'=cs)) (h1:(execOp (a.put (some d0) v).eval o1).run P w=.ok (.value v) w) (hd1:o1.dst=some d1) (h:Q .normal ((a.put (some d0) v).put (some d1) v) cs' w):(Code.region id #[o0,o1] false).wpS P Q a cs w:=by
 refine wpS_region ?_
 show wpOpsS P #[o0,o1] Q [0,1] a cs w
 have h2:wpOpsS P #[o0,o1] Q [1] (a.put (some d0) v) cs' w:=by
  rw [wpOpsS]
  simp only [List.getElem?_toArray,List.getElem?_cons_succ,List.getElem?_cons_zero,hw1,if_true,h1,Oper.upon,hd1]
  exact h
 rw [wpOpsS]
 simp only [List.getElem?_toArray,List.getElem?_cons_zero,hw0,if_true,h0,hd0]
 rcases hr with hr | ⟨hr,rfl,rfl⟩
 ·simp only [hr];exact h2
 ·simp only [hr];exact h2
theorem pan_then {K:Act→World→Prop} {Q:Exit→Act→World→Prop} {w:World} (h:Q (.panic c) a w):Exit.then K Q (.panic c) a w:=h
theorem pan0 {P:Program} {fn:Func} {R:Ending→World→Prop} {w:World} (hF:Sl N m a) (h:R (.panicked c) w):bodyPost P fn R (.panic c) a w:=⟨hF.2.1,h⟩
theorem callsD_rec {P:Program} {fn:Func} {rest:Code} {l:List Value} {v:Value} {u':FrameMode} {w:World} {R:Ending→FrameMode→World→Prop} (hf:P.funcs[f]?=some fn) (hb:fn.body=some (.seq (.region id #[o0,o1] false) rest)) (hn:fn.ntmps=N) (hl:Nat.ble l.length N=true)
  (hw0:∀ y,Region.wanted o0 y=true) (hw1:∀ y,Region.wanted o1 y=true) (h0:∀ ρ,(execOp ρ o0).run P w=.ok .recover w) (hd0:o0.dst=some d0) (hN0:Nat.blt d0 N=true) (h1:∀ (ρ:Operand→Value),ρ (.tmp d0)=v→(execOp ρ o1).run P w=.ok (.value v) w) (hd1:o1.dst=some d1) (hN1:Nat.blt d1 N=true)
  (hr:∀ (c₀:Frame) (cs:List Frame),c₀.mode=u→recoverD (c₀::cs)=some (v,{ c₀ with mode:=u' }::cs)∨(recoverD (c₀::cs)=none∧v=.nilIface∧{ c₀ with mode:=u' }::cs=c₀::cs))
  (h:∀ a,Sl N ((d1,v)::(d0,v)::argList 0 l) a→rest.wp P (bodyPost P fn (fun e w'=>R e u' w')) a w):CallsD P f l.toArray u w R:=by
 have hlen:l.length≤N:=by simpa using hl
 refine callsD_of_wpS hf hb fun c₀ cs hu=>?_
 have hS:Sl N (argList 0 l) { tmps:=l.toArray++Array.replicate (fn.ntmps - l.toArray.size) undef,defers:=[] }:=by
  rw [hn]
  refine Sl.args l _ N ?_
  simp;omega
 refine wpS_seq<|wpS_rec hw0 hw1 (h0 _) hd0 (hr c₀ cs hu) (h1 _ ((hS.put (v:=v) hN0).get (t:=d0) (by simp [look]))) hd1<|wpS_of_wp<|Go.wp_mono (h _ ((hS.put hN0).put hN1)) fun e a' w' hq=>?_
 cases e with
 | normal=>obtain ⟨q1,v',q2,q3⟩:=hq;exact ⟨q1,u',rfl,v',q2,q3⟩
 | ret=>obtain ⟨q1,v',q2,q3⟩:=hq;exact ⟨q1,u',rfl,v',q2,q3⟩
 | panic c=>obtain ⟨q1,q2⟩:=hq;exact ⟨q1,u',rfl,q2⟩
 | outgrown=>exact ⟨u',hq⟩
 | exit id=>exact hq.elim
 | goto l=>exact hq.elim
end
theorem must_it_ok (A:Option Addr) (n c:Nat) {e:Int} (w:World) (he:e=0) :
  Calls Tryz.prog 89 #[.slice A n c,.int .i64 e] w (fun e w'=>e=.returned (vl A n c)∧Ext w w'):=by
 refine calls_enter Tryz.func89 rfl rfl rfl fun _ C=>wr fun D D=>C.xv v0 fun _ C=>wn D<|wp_seq_k fun D D=>wr fun G G=>C.xm rfl<|Xv (vd ((e:Int)≠(0:Int))) fun _ C=>wn G ?_
 by_cases G:(e:Int)≠(0:Int)
 ·refine C.ct ?_
  exfalso;omega
 exact C.cf<|wp_skip<|D _ _<|wr fun D D=>C.xm rfl<|Xa rfl fun _ C=>wn D<|wp_ret<|ret1 C rfl rfl<|⟨rfl,(Ext.refl w)⟩
theorem must_it_no (A:Option Addr) (n c:Nat) {e:Int} (w:World) (he:¬ e=0) :
  Calls Tryz.prog 89 #[.slice A n c,.int .i64 e] w (fun en w'=>en=.panicked [{ v:=.iface 116 (.agg #[]),recovered:=false }]∧Ext w w'):=by
 refine calls_enter Tryz.func89 rfl rfl rfl fun _ C=>wr fun D D=>C.xv v0 fun _ C=>wn D<|wp_seq_k fun D D=>wr fun G G=>C.xm rfl<|Xv (vd ((e:Int)≠(0:Int))) fun _ C=>wn G ?_
 by_cases G:(e:Int)≠(0:Int)
 ·exact C.ct<|wp_region_lit<|C.xw (.agg #[]) (fun F=>rn_build (parts0 ) (by kernel_rfl))<|Xw (.iface 116 (.agg #[])) (fun F=>rn_mkIface (F.get rfl) (by kernel_rfl)) fun _ C=>wpl_op (i:=2) rfl<|o_panic rfl rfl rfl (C.get rfl)<|pan_then<|pan0 C<|⟨rfl,(Ext.refl w)⟩
 refine C.cf<|wp_skip<|D _ _<|wr fun D D=>C.xm rfl<|Xa rfl fun _ C=>wn D<|wp_ret<|ret1 C rfl rfl ?_
 exfalso;omega
theorem must_d_ok (d:List UInt8) {e:Int} (w:World) (he:e=0) (hd:d.length=32) :
  Calls Tryz.prog 91 #[.agg (byteVals d).toArray,.int .i64 e] w (fun e w'=>e=.returned (.agg (byteVals d).toArray)∧Ext w w'):=by
 refine calls_enter Tryz.func91 rfl rfl rfl fun _ C=>wr fun D G=>C.xb rfl fun C C _ C D D I D=>C.xz (byteVals (List.replicate 32 0)) 29 fun C C _ C D D D M=>wn G<|wp_seq_k fun G G=>wr fun J J=>C.xm rfl<|Xv (vd ((e:Int)≠(0:Int))) fun _ C=>wn J ?_
 by_cases J:(e:Int)≠(0:Int)
 ·refine C.ct ?_
  exfalso;omega
 refine C.cf<|wp_skip<|G _ _<|wr fun G J=>have G:=(I.ext M);C.xw (.agg (byteVals d).toArray) (fun F=>rb F rfl G (hk:=byteVals_len hd)) fun _ C=>?_
 refine C.xs rfl D (fun D D G=>?_) (hk:=byteVals_len hd);have I:=G.size
 exact wn J<|wp_ret<|retC C rfl rfl D uu29 rfl (sk inf29 (byteVals_len hd))<|⟨rfl,eX⟩
theorem must_d_no (d:List UInt8) {e:Int} (w:World) (he:¬ e=0) (hd:d.length=32) :
  Calls Tryz.prog 91 #[.agg (byteVals d).toArray,.int .i64 e] w (fun en w'=>en=.panicked [{ v:=.iface 116 (.agg #[]),recovered:=false }]∧Ext w w'):=by
 refine calls_enter Tryz.func91 rfl rfl rfl fun _ C=>wr fun D G=>C.xb rfl fun C C _ C D D I D=>C.xz (byteVals (List.replicate 32 0)) 29 fun C C _ C D D D M=>wn G<|wp_seq_k fun G G=>wr fun J J=>C.xm rfl<|Xv (vd ((e:Int)≠(0:Int))) fun _ C=>wn J ?_
 by_cases J:(e:Int)≠(0:Int)
 ·exact C.ct<|wp_region_lit<|C.xw (.agg #[]) (fun F=>rn_build (parts0 ) (by kernel_rfl))<|Xw (.iface 116 (.agg #[])) (fun F=>rn_mkIface (F.get rfl) (by kernel_rfl)) fun _ C=>wpl_op (i:=2) rfl<|o_panic rfl rfl rfl (C.get rfl)<|pan_then<|pan0 C<|⟨rfl,eX⟩
 refine C.cf<|wp_skip<|G _ _<|wr fun G J=>have G:=(I.ext M);C.xw (.agg (byteVals d).toArray) (fun F=>rb F rfl G (hk:=byteVals_len hd)) fun _ C=>?_
 refine C.xs rfl D (fun D D G=>?_) (hk:=byteVals_len hd);have I:=G.size
 refine wn J<|wp_ret<|retC C rfl rfl D uu29 rfl (sk inf29 (byteVals_len hd)) ?_
 exfalso;omega
theorem catch_pan (f x k:Nat) (b0:Bool) (pub:List UInt8) (many no:Int) (FA:Option Addr) (fn fa:Nat) (FE:Option Addr) (en fe:Nat) (w:World) (hf:Blk w f 48 (dg pub [.int .i64 many,.int .i64 no,.slice FA fn fa,.slice FE en fe])) (hx:Blk w x 48 (dg zero32 [.int .i64 0,.int .i64 0,.slice none 0 0,.slice none 0 0])) (hk:Blk w k 4 [.bool b0]) (hp:pub.length=32) (h1:f≠x) (h2:f≠k) (h3:x≠k) :
  CallsD Tryz.prog 88 #[.pointer (some ⟨f,0,none⟩),.pointer (some ⟨x,0,none⟩),.pointer (some ⟨k,0,none⟩)] (.panicking [{ v:=.iface 116 (.agg #[]),recovered:=false }]) w (fun e u' w'=>e=.returned (.tuple #[])∧u'=.panicking [{ v:=.iface 116 (.agg #[]),recovered:=true }]∧Blk w' x 48 (dg pub [.int .i64 many,.int .i64 no,.slice FA fn fa,.slice FE en fe])∧Blk w' k 4 [.bool false]∧FarX (fun b=>b≠x∧b≠k∧b<w.heap.size) w w'):=by
 have hfl:=hf.lt;have hxl:=hx.lt;have hkl:=hk.lt
 refine callsD_rec (v:=(.iface 116 (.agg #[]))) (d0:=6) (d1:=3) (l:=[(vq f 0),(vq x 0),(vq k 0)]) (u':=.panicking [{ v:=.iface 116 (.agg #[]),recovered:=true }]) Tryz.func88 rfl rfl rfl (fun _=>rfl) (fun _=>rfl) (fun _=>rfl) rfl rfl (fun _ h=>rn_assign h) rfl rfl (fun c₀ cs hu=>.inl (by cases c₀;simp only at hu;subst hu;rfl)) (fun aA Z=>wr fun K1 aa=>Z.xm rfl<|Xw (.bool true) (fun F=>rn_bin (F.get rfl) rfl (by kernel_rfl) (by kernel_rfl)) fun _ J=>wn aa<|J.ct<|wp_seq_k fun K6 ac=>wr fun K7 ae=>J.xm rfl<|Xw (.tuple #[(.agg #[]),(.bool true)]) (fun F=>rn_tassert (F.get rfl) (by kernel_rfl))<|Xm rfl<|Xv (.agg #[])<|Xv (.bool true) fun _ M=>M.xz [] 116 fun ai ai _ G ai ai V ah=>G.xs rfl V (fun ai ai D=>have ai:=D.size;G.xa rfl fun _ O=>wn ae<|have U:=O.k [0,1,2,3,8,5];wr fun ai ab=>U.xm rfl<|Xw (.bool false) (fun F=>rn_not' (F.get rfl) rfl) fun _ I=>wn ab<|I.cf<|wp_skip<|ac _ _<|wp_region_lit<|have Y:=hf.ug D;I.xw (ag (dg pub [(vi many),(vi no),(vl FA fn fa),(vl FE en fe)])) (fun F=>rb F rfl Y (hk:=len_dig hp)) fun _ C=>?_))
 have G:=hx.ug D
 refine C.xs rfl G (fun G J G=>?_) (hk:=len_dig hp);have I:=G.size
 have I:=hk.ug G
 exact wpl_op (i:=2) rfl<|o_store1 (new:=[(.bool false)]) C rfl rfl rfl rfl (C.get rfl) rfl I inf4 (by simp) rfl rfl fun I M I=>have O:=I.size;wpList_nil<|ret0 C rfl<|have C:=(J.gn I);⟨rfl,rfl,C,M,(((((FarX.refl w).ext ah).grownN D (fun h=>by have h9:=h.2.2;omega)).grownN G (fun h=>h.1 rfl)).gc I)⟩
theorem catch_idle (p q r:Value) (w:World) :
  CallsD Tryz.prog 88 #[p,q,r] .returning w (fun e u' w'=>e=.returned (.tuple #[])∧u'=.returning∧w'=w):=by
 exact callsD_rec (v:=.nilIface) (d0:=6) (d1:=3) (l:=[p,q,r]) (u':=.returning) Tryz.func88 rfl rfl rfl (fun _=>rfl) (fun _=>rfl) (fun _=>rfl) rfl rfl (fun _ h=>rn_assign h) rfl rfl (fun c₀ cs hu=>.inr ⟨by cases c₀;simp only at hu;subst hu;rfl,rfl,by cases c₀;simp only at hu;subst hu;rfl⟩) (fun aA D=>wr fun I G=>D.xm rfl<|Xw (.bool false) (fun F=>rn_bin (F.get rfl) rfl (by kernel_rfl) (by kernel_rfl)) fun _ C=>wn G<|C.cf<|wp_skip<|ret0 C rfl<|⟨rfl,rfl,rfl⟩)
theorem applyV_sm {a:List It} {l:List Cg} (ha:∀ x∈a,x.data.length≤4294967296) (hl:∀ x∈l,x.data.length≤4294967296):∀ x∈applyV a l,x.data.length≤4294967296:=by
 intro x hx
 unfold applyV at hx
 split at hx
 ·obtain ⟨p,hp,hq⟩:=List.mem_flatMap.1 hx
  obtain ⟨h1,h2,-⟩:=mrg_mem a l p hp
  split at hq
  ·rcases p with ⟨_ | y,_ | z⟩ <;> simp only [astep] at hq
   ·exact absurd hq (by simp)
   ·split at hq
    ·exact absurd hq (by simp)
    ·rw [List.mem_singleton.1 hq];exact hl z (h2 z rfl)
   ·rw [List.mem_singleton.1 hq];exact ha y (h1 y rfl)
   ·split at hq
    ·exact absurd hq (by simp)
    ·rw [List.mem_singleton.1 hq];exact hl z (h2 z rfl)
  ·exact absurd hq (by simp)
 ·exact absurd hx (by simp)
theorem applyV_len (a:List It) (l:List Cg):(applyV a l).length≤65536:=by
 unfold applyV
 split
 ·rename_i h
  unfold applyE at h
  repeat (first | (split at h) | omega)
 ·simp
section
variable {N:Nat} {m:List (Nat × Value)} {a:Act} {f x k:Nat} {b0:Bool} {pub:List UInt8} {many no:Int} {FA:Option Addr} {fn fa:Nat} {FE:Option Addr} {en fe:Nat} {W:World} {R:Ending→World→Prop} {fc:List Value}
theorem ap_pan (hF:SlD [{ target:=.fn (.func 88) #[.pointer (some ⟨f,0,none⟩),.pointer (some ⟨x,0,none⟩),.pointer (some ⟨k,0,none⟩)],args:=#[] }] N m a) (h4:look m 4=some (vq x 0)) (h5:look m 5=some (vq k 0))
  (hf:Blk W f 48 (dg pub [.int .i64 many,.int .i64 no,.slice FA fn fa,.slice FE en fe])) (hx:Blk W x 48 (dg zero32 [.int .i64 0,.int .i64 0,.slice none 0 0,.slice none 0 0])) (hk:Blk W k 4 [.bool b0]) (hp:pub.length=32) (h1:f≠x) (h2:f≠k) (h3:x≠k)
  (hR:∀ W',FarX (fun b=>b≠x∧b≠k∧b<W.heap.size) W W'→R (.returned (.tuple #[ag (dg pub [.int .i64 many,.int .i64 no,.slice FA fn fa,.slice FE en fe]),.bool false])) W'):bodyPostD Tryz.prog Tryz.f45 R (.panic [{ v:=.iface 116 (.agg #[]),recovered:=false }]) a W:=by
 show Leaves Tryz.prog _ a.tmps R a.defers _ W
 rw [hF.2]
 refine leaves_cons (f:=88) (args:=#[.pointer (some ⟨f,0,none⟩),.pointer (some ⟨x,0,none⟩),.pointer (some ⟨k,0,none⟩)]) (by simp) (by simp [go_sem])<|(catch_pan f x k b0 pub many no FA fn fa FE en fe W hf hx hk hp h1 h2 h3).mono ?_
 rintro e u' W' ⟨rfl,rfl,hx',hk',hE⟩
 show Leaves Tryz.prog _ a.tmps R [] .returning W'
 exact ⟨_,results_two rfl (hF.get h4) (hF.get h5) hx' uu48 rfl (sk inf48 (len_dig hp)) hk' uu4 rfl,hR W' hE⟩
theorem ap_ret {D1 D2 D3:Value} (hF:SlD [{ target:=.fn (.func 88) #[D1,D2,D3],args:=#[] }] N m a) (h4:look m 4=some (vq x 0)) (h5:look m 5=some (vq k 0))
  (hx:Blk W x 48 fc) (hk:Blk W k 4 [v2]) (hl:fc.length=36) (hR:R (.returned (.tuple #[.agg fc.toArray,v2])) W):bodyPostD Tryz.prog Tryz.f45 R .ret a W:=by
 show Leaves Tryz.prog _ a.tmps R a.defers _ W
 rw [hF.2]
 refine leaves_cons (f:=88) (args:=#[D1,D2,D3]) (by simp) (by simp [go_sem])<|(catch_idle D1 D2 D3 W).mono ?_
 rintro e u' W' ⟨rfl,rfl,rfl⟩
 show Leaves Tryz.prog _ a.tmps R [] .returning _
 exact ⟨_,results_two rfl (hF.get h4) (hF.get h5) hx uu48 rfl (inf48.trans (congrArg some hl.symm)) hk uu4 rfl,hR⟩
end
theorem mapply_any (FA:Option Addr) (fa:Nat) (FE:Option Addr) (fe:Nat) (C:Option Addr) (cc:Nat) (O:Option Addr) (oc:Nat) (E:Option Addr) (ec:Nat) (P:Option Addr) (pc:Nat) (f:Fo) (v:Vr) (w:World) (hf:RFo S w (vl FA f.items.length fa) (vl FE f.early.length fe) f) (hv:RVp S w (vl C v.chs.length cc) (vl O v.sg.op.length oc) (vl E v.sg.cl.length ec) (vl P v.sg.path.length pc) v) (hdi:∀ x∈f.items,x.data.length≤4294967296) (hdv:∀ x∈v.chs,x.data.length≤4294967296) (hG:Glob w) :
  Calls Tryz.prog 45 #[(ag (dg f.pub [(vi f.many),(vi f.no),(vl FA f.items.length fa),(vl FE f.early.length fe)])),(ag ((vi v.no)::dg v.state [(vl C v.chs.length cc),(vi v.sg.index),(vl O v.sg.op.length oc),(vl E v.sg.cl.length ec),(vl P v.sg.path.length pc)]))] w (fun en w'=>∃ c' e',en=.returned (.tuple #[ag (fcs (stepF f v).pub (stepF f v).many (stepF f v).no c' e'),.bool (decide (fits f v))])∧RFo (Fr S w) w' c' e' (stepF f v)∧Ext w w'):=by
 have hfc:=RFo.subB (S':=Clip S w) hf (fun _ hb hs=>⟨hs,hb⟩)
 obtain ⟨-,hfc1,hfc2⟩:=RLs.at hfc.items;obtain ⟨-,hfc3,hfc4⟩:=RLs.at hfc.early
 have hvc:=RVp.subB (S':=Clip S w) hv (fun _ hb hs=>⟨hs,hb⟩)
 obtain ⟨-,hvc1,hvc2⟩:=RLs.at hvc.chs;have hvc3:=(Fl.cel hvc.sg.op).2.1;have hvc4:=(Fl.cel hvc.sg.cl).2.1;have hvc5:=(Fl.cel hvc.sg.path).2.1
 refine calls_enterD (l:=[(ag (dg f.pub [(vi f.many),(vi f.no),(vl FA f.items.length fa),(vl FE f.early.length fe)])),(ag ((vi v.no)::dg v.state [(vl C v.chs.length cc),(vi v.sg.index),(vl O v.sg.op.length oc),(vl E v.sg.cl.length ec),(vl P v.sg.path.length pc)]))]) Tryz.func45 rfl rfl rfl (fun aA hF=>wr fun K1 az=>hF.xb rfl fun g2 w3 _ F9 z6 z7 b4 ai=>F9.xb rfl fun I ai _ ai aj aj ax aj=>ai.xz fz 48 fun al ai _ ai aj aj ab aj=>ai.xz [(.bool false)] 4 fun ay aG _ aj ai ai ac ai=>wn az<|wr fun az az=>aj.xw (.func (.func 88) #[] #[(vp g2),(vp al),(vp ay)]) (fun F=>rn_makeFunc (args0 ) (args3 (F.get rfl) (F.get rfl) (F.get rfl))) fun _ aj=>wpl_op (i:=1) rfl<|o_defer aj rfl rfl rfl (rn_defer (aj.get rfl)) fun aj aj=>wn az<|wr fun ay aB=>wpl_op (i:=0) rfl<|oD_val (v:=(vq g2 34)) aj rfl rfl rfl rfl (rn_field uu48 rfl (by kernel_rfl) (aj.get rfl) rfl) fun aj aj=>have Z:=b4.ux ai;wpl_op (i:=1) rfl<|oD_val (v:=(vl FA f.items.length fa)) aj rfl rfl rfl rfl (rn_load (isAgg_no uu26 rfl) (aj.get rfl) ((Z.rule.1 34).trans ((at_app (k:=2) (byteVals_len hfc.pub)).trans rfl))) fun aj aj=>wpl_op (i:=2) rfl<|oD_val (v:=(vq I 33)) aj rfl rfl rfl rfl (rn_field uu34 rfl (by kernel_rfl) (aj.get rfl) rfl) fun aj aj=>have ak:=ax.ux ai;wpl_op (i:=3) rfl<|oD_val (v:=(vl C v.chs.length cc)) aj rfl rfl rfl rfl (rn_load (isAgg_no uu27 rfl) (aj.get rfl) ((ak.rule.1 33).trans ((at_app (k:=0) (byteVals_len hvc.st)).trans rfl))) fun aj aj=>have ax:=(RLs.ux rIt hfc.items ai);have ay:=(RLs.ux rCg hvc.chs ai);wpl_op (i:=4) rfl<|oD_call aj rfl rfl rfl rfl (rn_call (args2 (aj.get rfl) (aj.get rfl)) rfl (by kernel_rfl)) (apply_at (u:=(vl FA f.items.length fa)) (v:=(vl C v.chs.length cc)) f.items v.chs _ ax ay hdi hdv) ?_)
 rintro _ aw ⟨D,G,rfl,au,aE⟩
 refine ⟨_,rfl,?_⟩;intro ai ai;have aj:=aE.size
 have am:RLs RIt 2 (Clip (fun z=>aG.heap.size≤z) aw) aw (vl D ((applyV f.items v.chs).length) G) (applyV f.items v.chs):=RLs.clip rIt au
 obtain ⟨-,aj,aj⟩:=RLs.at au
 refine wpl_op (i:=5) rfl<|oD_val (v:=(vl D ((applyV f.items v.chs).length) G)) ai rfl rfl rfl rfl (rn_extract (ai.get rfl) rfl) fun ai ai=>wpl_op (i:=6) rfl<|oD_val (v:=(vi (applyE f.items v.chs))) ai rfl rfl rfl rfl (rn_extract (ai.get rfl) rfl) fun ai J=>?_
 by_cases U:(applyE f.items v.chs:Int)=(0:Int)
 ·refine wpl_op (i:=7) rfl (oD_call J rfl rfl rfl rfl (rn_call (args2 (J.get rfl) (J.get rfl)) rfl (by kernel_rfl)) (must_it_ok D ((applyV f.items v.chs).length) G (e:=(applyE f.items v.chs)) _ U) ?_)
  rintro _ ai ⟨rfl,aF⟩
  refine ⟨_,rfl,?_⟩;intro ai ai;have aj:=aF.size
  refine wpl_op (i:=8) rfl<|oD_val (v:=(vl D ((applyV f.items v.chs).length) G)) ai rfl rfl rfl rfl (rn_assign (ai.get rfl)) fun ai ai=>wn aB<|have aa:=ai.k [0,1,2,3,4,5,6];wp_seq_k fun ai aC=>wp_seq_k fun ai aD=>?_
  by_cases ae:(checkE (applyV f.items v.chs):Int)=(0:Int)
  ·refine sX (fun Y W=>Ext Y W∧Blk W I 34 ((vi v.no)::dg v.state [(vl C v.chs.length cc),(vi v.sg.index),(vl O v.sg.op.length oc),(vl E v.sg.cl.length ec),(vl P v.sg.path.length pc)])) (fun i=>false) 8 fun Y ai ah=>anyD_pure (i:=0) (v:=(vl D ((applyV f.items v.chs).length) G)) aa (by decide +kernel) (by decide +kernel) rfl rfl rfl rfl (fun _ _ _ _ h=>leaves_put rfl (by decide) (by decide) h) rfl (fun W=>(rn_move (aa.get rfl))) fun ah ah=>anyD_pure (i:=5) (v:=(vq I 1)) ah (by decide +kernel) (by decide +kernel) rfl rfl rfl rfl (fun _ _ _ _ h=>leaves_put rfl (by decide) (by decide) h) rfl (fun W=>(rn_field uu34 rfl (by kernel_rfl) (ah.get rfl) rfl)) fun ah ah=>have aq:=ak.ux ai;have aj:Ext Y Y∧Blk Y I 34 ((vi v.no)::dg v.state [(vl C v.chs.length cc),(vi v.sg.index),(vl O v.sg.op.length oc),(vl E v.sg.cl.length ec),(vl P v.sg.path.length pc)]):=⟨(Ext.refl Y),aq⟩;anyD_val (i:=6) (v:=(.agg (byteVals v.state).toArray)) ah (by decide +kernel) (by decide +kernel) rfl rfl rfl rfl (fun _ _ _ _ h=>leaves_put rfl (by decide) (by decide) h) rfl aj (fun W hW=>(rn_loadN (cs:=byteVals v.state) (ah.get rfl) uu29 rfl (sk inf29 (byteVals_len hvc.st)) (Blk.part (A:=[(vi v.no)]) (M:=byteVals v.state) (B:=[(vl C v.chs.length cc),(vi v.sg.index),(vl O v.sg.op.length oc),(vl E v.sg.cl.length ec),(vl P v.sg.path.length pc)]) hW.2 (by simp) rfl))) fun Y Y=>ao 1 rfl<|have ah:=(RLs.ux rIt am ai);oD_call Y rfl rfl rfl rfl (rn_call (args1 (Y.get rfl)) rfl (by kernel_rfl)) (state_at (v:=(vl D ((applyV f.items v.chs).length) G)) (applyV f.items v.chs) _ ah (applyV_sm hdi hdv) (by have:=applyV_len f.items v.chs;omega) (hG.ext eX)) ?_
   rintro _ Y ⟨rfl,av⟩
   refine ⟨_,rfl,?_⟩;intro Y Y;have ah:=av.size
   have ar:=aq.ext av
   refine ⟨fun _ _=>⟨eX,ar⟩,?_⟩
   refine anyD_pure (i:=2) (v:=(.agg (byteVals (stateD (applyV f.items v.chs))).toArray)) Y (by decide +kernel) (by decide +kernel) rfl rfl rfl rfl (fun _ _ _ _ h=>leaves_put rfl (by decide) (by decide) h) rfl (fun W=>(rn_extract (Y.get rfl) rfl)) fun Y Y=>anyD_pure (i:=3) (v:=(vi (checkE (applyV f.items v.chs)))) Y (by decide +kernel) (by decide +kernel) rfl rfl rfl rfl (fun _ _ _ _ h=>leaves_put rfl (by decide) (by decide) h) rfl (fun W=>(rn_extract (Y.get rfl) rfl)) fun Y Y=>ao 4 rfl<|oD_call Y rfl rfl rfl rfl (rn_call (args2 (Y.get rfl) (Y.get rfl)) rfl (by kernel_rfl)) (must_d_ok (stateD (applyV f.items v.chs)) (e:=(checkE (applyV f.items v.chs))) _ ae (stateD_len _)) ?_
   rintro _ Y ⟨rfl,V⟩
   refine ⟨_,rfl,?_⟩;intro J J;have Y:=V.size
   have aa:=ar.ext V
   refine ⟨fun _ _=>⟨eX,aa⟩,?_⟩
   refine anyD_pure (i:=7) (v:=(.bool (!decide (stateD (applyV f.items v.chs)=v.state)))) J (by decide +kernel) (by decide +kernel) rfl rfl rfl rfl (fun _ _ _ _ h=>leaves_put rfl (by decide) (by decide) h) rfl (fun W=>(rn_neA uu29 uu5 inf5 (by kernel_rfl) (J.get rfl) (J.get rfl) (stateD_len _) hvc.st)) fun J Y=>nK aD ?_
   have J:=Y.k [0,1,2,3,4,5,6,23]
   by_cases Y:stateD (applyV f.items v.chs)=v.state
   ·refine wp_cond_false (cD_false J rfl (not_t (decide_eq_true Y)))<|wp_skip<|aC _ _<|wr fun ah ai=>have ah:=Z.ux V;wpl_op (i:=0) rfl<|oD_val (v:=(ag (dg f.pub [(vi f.many),(vi f.no),(vl FA f.items.length fa),(vl FE f.early.length fe)]))) J rfl rfl rfl rfl (rn_loadBlk (J.get rfl) ah uu48 rfl (sk inf48 (len_dig hfc.pub))) fun J J=>have Z:=ab.ux V;wpl_op (i:=1) rfl<|oD_store (cells:=(dg f.pub [(vi f.many),(vi f.no),(vl FA f.items.length fa),(vl FE f.early.length fe)])) J rfl rfl rfl rfl (J.get rfl) (J.get rfl) Z (sk inf48 (len_dig hfc.pub)) (show List.length fz=List.length (dg f.pub [(vi f.many),(vi f.no),(vl FA f.items.length fa),(vl FE f.early.length fe)]) from (show List.length fz=36 from (by simp [byteVals_len zero32_len])).trans (Eq.symm (show List.length (dg f.pub [(vi f.many),(vi f.no),(vl FA f.items.length fa),(vl FE f.early.length fe)])=36 from (by simp [byteVals_len hfc.pub])))) (one_app (byteVals_one _) (one_cons rfl (one_cons rfl (one_cons rfl (one_cons rfl one_nil))))) fun V Z V=>have ab:=V.size;wn ai<|wr fun ab ab=>wpl_op (i:=0) rfl<|oD_val (v:=(vp I)) J rfl rfl rfl rfl (rn_field uu34 rfl (by kernel_rfl) (J.get rfl) rfl) fun I I=>have J:=(aa.gn V);wpl_op (i:=1) rfl<|oD_val (v:=(vi v.no)) I rfl rfl rfl rfl (rn_load (isAgg_no uu3 rfl) (I.get rfl) ((J.rule.1 0).trans rfl)) fun I I=>wpl_op (i:=2) rfl<|oD_val (v:=(vl D ((applyV f.items v.chs).length) G)) I rfl rfl rfl rfl (rn_move (I.get rfl)) fun I I=>wpl_op (i:=3) rfl<|oD_val (v:=(vq al 33)) I rfl rfl rfl rfl (rn_field uu48 rfl (by kernel_rfl) (I.get rfl) rfl) fun I I=>wpl_op (i:=4) rfl<|oD_store1 (new:=(dg f.pub [(vi f.many),(vi v.no),(vl FA f.items.length fa),(vl FE f.early.length fe)])) I rfl rfl rfl rfl (I.get rfl) (I.get rfl) Z inf3 (le_mid (x:=36) (b:=1) (y:=1) (by simp [byteVals_len hfc.pub]) rfl (by decide)) rfl (set_app (k:=1) (byteVals_len hfc.pub)) fun J J V=>have Z:=V.size;wpl_op (i:=5) rfl<|oD_val (v:=(vq al 34)) I rfl rfl rfl rfl (rn_field uu48 rfl (by kernel_rfl) (I.get rfl) rfl) fun I I=>wpl_op (i:=6) rfl<|oD_store1 (new:=(dg f.pub [(vi f.many),(vi v.no),(vl D ((applyV f.items v.chs).length) G),(vl FE f.early.length fe)])) I rfl rfl rfl rfl (I.get rfl) (I.get rfl) J inf26 (le_mid (x:=36) (b:=1) (y:=1) (by simp [byteVals_len hfc.pub]) rfl (by decide)) rfl (set_app (k:=2) (byteVals_len hfc.pub)) fun J V J=>have Z:=J.size;wn ab<|have J:=I.k [0,1,2,3,4,5,6,23];wr fun I Z=>?_
    refine wpl_op (i:=0) rfl<|oD_val (v:=(ag (dg f.pub [(vi f.many),(vi v.no),(vl D ((applyV f.items v.chs).length) G),(vl FE f.early.length fe)]))) J rfl rfl rfl rfl (rn_loadBlk (J.get rfl) V uu48 rfl (sk inf48 (len_dig hfc.pub))) fun I I=>wpl_op (i:=1) rfl<|oD_store (cells:=(dg f.pub [(vi f.many),(vi v.no),(vl D ((applyV f.items v.chs).length) G),(vl FE f.early.length fe)])) I rfl rfl rfl rfl (I.get rfl) (I.get rfl) V (sk inf48 (len_dig hfc.pub)) (show List.length (dg f.pub [(vi f.many),(vi v.no),(vl D ((applyV f.items v.chs).length) G),(vl FE f.early.length fe)])=List.length (dg f.pub [(vi f.many),(vi v.no),(vl D ((applyV f.items v.chs).length) G),(vl FE f.early.length fe)]) from (show List.length (dg f.pub [(vi f.many),(vi v.no),(vl D ((applyV f.items v.chs).length) G),(vl FE f.early.length fe)])=36 from (by simp [byteVals_len hfc.pub])).trans (Eq.symm (show List.length (dg f.pub [(vi f.many),(vi v.no),(vl D ((applyV f.items v.chs).length) G),(vl FE f.early.length fe)])=36 from (by simp [byteVals_len hfc.pub])))) (one_app (byteVals_one _) (one_cons rfl (one_cons rfl (one_cons rfl (one_cons rfl one_nil))))) fun D G D=>have J:=D.size;have J:=ac.ug D;wpl_op (i:=2) rfl<|oD_store1 (new:=[(.bool true)]) I rfl rfl rfl rfl (I.get rfl) rfl J inf4 (by simp) rfl rfl fun D J D=>have V:=D.size;wn Z<|wp_ret<|have V:=ah.ug D;have V:=(G.gn D);ap_ret I rfl rfl V J (by simp [byteVals_len hfc.pub]) ?_
    have hA:applyV f.items v.chs=appL f.items v.chs:=if_pos U
    have hfit:fits f v:=⟨U,by rw [← hA];exact ae,by rw [← hA];exact Y⟩
    have hst:stepF f v={ f with no:=v.no,items:=applyV f.items v.chs }:=(if_pos hfit).trans (by rw [hA])
    rw [hst,decide_eq_true hfit]
    have G:=RLs.ug rIt am D
    have I:=RLs.ug rVr hfc.early D
    exact ⟨_,_,rfl,⟨hfc.pub,RLs.sub rIt G (fun b hb=>.inr (by first | omega | (simp only [Clip] at hb;omega))),RLs.sub rVr I (fun b hb=>.inl hb.1)⟩,eX⟩
   refine wp_cond_true (cD_true J rfl (not_f (decide_eq_false Y)))<|wp_region_lit<|wpl_op (i:=0) rfl<|oD_val (v:=(.agg #[])) J rfl rfl rfl rfl (rn_build (parts0 ) (by kernel_rfl)) fun D D=>wpl_op (i:=1) rfl<|oD_val (v:=(.iface 116 (.agg #[]))) D rfl rfl rfl rfl (rn_mkIface (D.get rfl) (by kernel_rfl)) fun D D=>wpl_op (i:=2) rfl<|o_panic rfl rfl rfl (D.get rfl)<|pan_then<|have G:=Z.ux V;have I:=ab.ux V;have J:=ac.ux V;ap_pan D rfl rfl G I J hfc.pub (by omega) (by omega) (by omega) (fun W' hW=>?_)
   have hX165:Ext w W':=FarX.toExt ((FarX.of_ext eX).trans (hW.sub (S:=fun b=>b<w.heap.size) (fun b hb=>⟨by omega,by omega,by omega⟩))) (fun b hb=>hb)
   have hA:applyV f.items v.chs=appL f.items v.chs:=if_pos U
   have hnf:¬ fits f v:=(fun q=>Y (by rw [hA];exact q.2.2))
   have hst:stepF f v=f:=if_neg hnf
   rw [hst,decide_eq_false hnf]
   exact ⟨_,_,rfl,RFo.subB (RFo.pres hfc (Pres.of_ext hX165)) (fun b _ hb=>.inl hb.1),hX165⟩
  refine sX (fun V W=>Ext V W∧Blk W I 34 ((vi v.no)::dg v.state [(vl C v.chs.length cc),(vi v.sg.index),(vl O v.sg.op.length oc),(vl E v.sg.cl.length ec),(vl P v.sg.path.length pc)])) (fun i=>false) 8 fun V ai aj=>anyD_pure (i:=0) (v:=(vl D ((applyV f.items v.chs).length) G)) aa (by decide +kernel) (by decide +kernel) rfl rfl rfl rfl (fun _ _ _ _ h=>leaves_put rfl (by decide) (by decide) h) rfl (fun W=>(rn_move (aa.get rfl))) fun aa aa=>anyD_pure (i:=5) (v:=(vq I 1)) aa (by decide +kernel) (by decide +kernel) rfl rfl rfl rfl (fun _ _ _ _ h=>leaves_put rfl (by decide) (by decide) h) rfl (fun W=>(rn_field uu34 rfl (by kernel_rfl) (aa.get rfl) rfl)) fun aa aa=>have aq:=ak.ux ai;have aj:Ext V V∧Blk V I 34 ((vi v.no)::dg v.state [(vl C v.chs.length cc),(vi v.sg.index),(vl O v.sg.op.length oc),(vl E v.sg.cl.length ec),(vl P v.sg.path.length pc)]):=⟨(Ext.refl V),aq⟩;anyD_val (i:=6) (v:=(.agg (byteVals v.state).toArray)) aa (by decide +kernel) (by decide +kernel) rfl rfl rfl rfl (fun _ _ _ _ h=>leaves_put rfl (by decide) (by decide) h) rfl aj (fun W hW=>(rn_loadN (cs:=byteVals v.state) (aa.get rfl) uu29 rfl (sk inf29 (byteVals_len hvc.st)) (Blk.part (A:=[(vi v.no)]) (M:=byteVals v.state) (B:=[(vl C v.chs.length cc),(vi v.sg.index),(vl O v.sg.op.length oc),(vl E v.sg.cl.length ec),(vl P v.sg.path.length pc)]) hW.2 (by simp) rfl))) fun I I=>ao 1 rfl<|have V:=(RLs.ux rIt am ai);oD_call I rfl rfl rfl rfl (rn_call (args1 (I.get rfl)) rfl (by kernel_rfl)) (state_at (v:=(vl D ((applyV f.items v.chs).length) G)) (applyV f.items v.chs) _ V (applyV_sm hdi hdv) (by have:=applyV_len f.items v.chs;omega) (hG.ext eX)) ?_
  rintro _ I ⟨rfl,ar⟩
  refine ⟨_,rfl,?_⟩;intro I I;have V:=ar.size
  have V:=aq.ext ar
  refine ⟨fun _ _=>⟨eX,V⟩,?_⟩
  refine anyD_pure (i:=2) (v:=(.agg (byteVals (stateD (applyV f.items v.chs))).toArray)) I (by decide +kernel) (by decide +kernel) rfl rfl rfl rfl (fun _ _ _ _ h=>leaves_put rfl (by decide) (by decide) h) rfl (fun W=>(rn_extract (I.get rfl) rfl)) fun I I=>anyD_pure (i:=3) (v:=(vi (checkE (applyV f.items v.chs)))) I (by decide +kernel) (by decide +kernel) rfl rfl rfl rfl (fun _ _ _ _ h=>leaves_put rfl (by decide) (by decide) h) rfl (fun W=>(rn_extract (I.get rfl) rfl)) fun I Y=>ao 4 rfl<|oD_callP Y rfl rfl (rn_call (args2 (Y.get rfl) (Y.get rfl)) rfl (by kernel_rfl)) (must_d_no (stateD (applyV f.items v.chs)) (e:=(checkE (applyV f.items v.chs))) _ ae (stateD_len _)) ?_
  rintro _ I ⟨rfl,ah⟩
  refine ⟨_,rfl,?_⟩;have D:=ah.size
  refine pan_then<|pan_then<|have D:=Z.ux ah;have G:=ab.ux ah;have I:=ac.ux ah;ap_pan Y rfl rfl D G I hfc.pub (by omega) (by omega) (by omega) (fun W' hW=>?_)
  have hX195:Ext w W':=FarX.toExt ((FarX.of_ext eX).trans (hW.sub (S:=fun b=>b<w.heap.size) (fun b hb=>⟨by omega,by omega,by omega⟩))) (fun b hb=>hb)
  have hA:applyV f.items v.chs=appL f.items v.chs:=if_pos U
  have hnf:¬ fits f v:=(fun q=>ae (by rw [hA];exact q.2.1))
  have hst:stepF f v=f:=if_neg hnf
  rw [hst,decide_eq_false hnf]
  exact ⟨_,_,rfl,RFo.subB (RFo.pres hfc (Pres.of_ext hX195)) (fun b _ hb=>.inl hb.1),hX195⟩
 refine wpl_op (i:=7) rfl (oD_callP J rfl rfl (rn_call (args2 (J.get rfl) (J.get rfl)) rfl (by kernel_rfl)) (must_it_no D ((applyV f.items v.chs).length) G (e:=(applyE f.items v.chs)) _ U) ?_)
 rintro _ D ⟨rfl,V⟩
 refine ⟨_,rfl,?_⟩;have D:=V.size
 refine pan_then<|have D:=Z.ux V;have G:=ab.ux V;have I:=ac.ux V;ap_pan J rfl rfl D G I hfc.pub (by omega) (by omega) (by omega) (fun W' hW=>?_)
 have hX202:Ext w W':=FarX.toExt ((FarX.of_ext eX).trans (hW.sub (S:=fun b=>b<w.heap.size) (fun b hb=>⟨by omega,by omega,by omega⟩))) (fun b hb=>hb)
 have hnf:¬ fits f v:=(fun q=>U q.1)
 have hst:stepF f v=f:=if_neg hnf
 rw [hst,decide_eq_false hnf]
 exact ⟨_,_,rfl,RFo.subB (RFo.pres hfc (Pres.of_ext hX202)) (fun b _ hb=>.inl hb.1),hX202⟩
theorem mapply_at {c c1 o1 e1 p1:Value} (f:Fo) (v:Vr) (w:World) (hf:RFo S w c e f) (hv:RVp S w c1 o1 e1 p1 v) (hdi:∀ x∈f.items,x.data.length≤4294967296) (hdv:∀ x∈v.chs,x.data.length≤4294967296) (hG:Glob w) :
  Calls Tryz.prog 45 #[ag (fcs f.pub f.many f.no c e),ag (vcs v.no v.state c1 v.sg.index o1 e1 p1)] w (fun en w'=>∃ c' e',en=.returned (.tuple #[ag (fcs (stepF f v).pub (stepF f v).many (stepF f v).no c' e'),.bool (decide (fits f v))])∧RFo (Fr S w) w' c' e' (stepF f v)∧Ext w w'):=by
 obtain ⟨FA,fa,rfl,_⟩:=RLs.form hf.items
 obtain ⟨FE,fe,rfl,_⟩:=RLs.form hf.early
 obtain ⟨C,cc,rfl,_⟩:=RLs.form hv.chs
 obtain ⟨O,oc,rfl,_⟩:=Fl.form hv.sg.op
 obtain ⟨E,ec,rfl,_⟩:=Fl.form hv.sg.cl
 obtain ⟨P,pc,rfl,_⟩:=Fl.form hv.sg.path
 exact mapply_any FA fa FE fe C cc O oc E ec P pc f v w hf hv hdi hdv hG
def noAt (l:List Vr) (i:Nat):Int:=(l.getD i default).no
theorem noAt_of (h:l[i]?=some x):noAt l i=x.no:=by simp [noAt,List.getD_eq_getElem?_getD,h]
def upV (l:List Vr):Prop:=∀ p q,p<q→q<l.length→noAt l p<noAt l q
theorem up_of_asc {n:Int} (h:asc n l):upV l:=by
 have key:∀ d p,p+d+1<l.length→noAt l p<noAt l (p+d+1):=by
  intro d
  induction d with
  | zero=>intro p hp;have:=h (p+1) (by omega);simpa [noAt] using this
  | succ d ih=>intro p hp;have h1:=ih p (by omega);have h2:=h (p+(d+1)+1) (by omega);rw [if_neg (by omega),show p+(d+1)+1 - 1=p+d+1 by omega] at h2;exact Int.lt_trans h1 h2
 intro p q hpq hq
 have:=key (q - p - 1) p (by omega)
 rwa [show p+(q - p - 1)+1=q by omega] at this
theorem cmpI_spec (a b:Int):(cmpI a b<0↔a<b)∧(cmpI a b=0↔a=b):=by
 unfold cmpI;split
 ·omega
 ·split <;> omega
theorem bs_lo (hu:upV l) (hx:l[h]?=some x) (hl:x.no<t):∀ p,p<h+1→noAt l p<t:=fun p hp=>by
 have hh:h<l.length:=(List.getElem?_eq_some_iff.1 hx).1
 have e:=noAt_of hx
 by_cases q:p=h
 ·rw [q,e];exact hl
 ·have:=hu p h (by omega) hh;omega
theorem bs_hi (hu:upV l) (hx:l[h]?=some x) (hl:¬ x.no<t):∀ p,h≤p→p<l.length→t≤noAt l p:=fun p hp hq=>by
 have e:=noAt_of hx
 by_cases q:p=h
 ·rw [q,e];omega
 ·have:=hu h p (by omega) hq;omega
theorem below_eq:∀ {l:List Vr} {t:Int} {i:Nat},(∀ p,p<i→noAt l p<t)→(∀ p,i≤p→p<l.length→t≤noAt l p)→i≤l.length→below t l=i
 | [],_,i,_,_,h=>by simp at h;subst h;rfl
 | x::l,t,0,_,h2,_=>by
  have h3:=h2 0 (Nat.le_refl _) (by simp)
  have e:noAt (x::l) 0=x.no:=rfl
  rw [e] at h3
  unfold below
  rw [List.takeWhile_cons,if_neg (by simp;omega)];rfl
 | x::l,t,i+1,h1,h2,h=>by
  have h3:=h1 0 (by omega)
  have e:noAt (x::l) 0=x.no:=rfl
  rw [e] at h3
  have ih:=below_eq (l:=l) (t:=t) (i:=i) (fun p hp=>h1 (p+1) (by omega)) (fun p hp hq=>h2 (p+1) (by omega) (by simp;omega)) (by simpa using h)
  unfold below at ih ⊢
  rw [List.takeWhile_cons,if_pos (by simpa using h3),List.length_cons,ih]
theorem met_eq (h1:∀ p,p<i→noAt l p<t) (hu:upV l) (h2:∀ p,i≤p→p<l.length→t≤noAt l p):(∃ w∈l,w.no=t)↔∃ x,l[i]?=some x∧x.no=t:=by
 constructor
 ·rintro ⟨w,hw,e⟩
  obtain ⟨j,hj,rfl⟩:=List.getElem_of_mem hw
  have ej:noAt l j=t:=by rw [noAt_of (List.getElem?_eq_getElem hj)];exact e
  by_cases q:j=i
  ·subst q;exact ⟨_,List.getElem?_eq_getElem hj,e⟩
  ·by_cases q2:j<i
   ·have:=h1 j q2;omega
   ·have h3:=h2 i (Nat.le_refl _) (by omega);have h4:=hu i j (by omega) hj;omega
 ·rintro ⟨x,hx,e⟩
  exact ⟨x,List.mem_of_getElem? hx,e⟩
theorem met_fin (hm:(∃ w∈l,w.no=t)↔∃ x,l[i]?=some x∧x.no=t) (hx:l[i]?=some x):decide ((cmpI x.no t:Int)=(0:Int))=decide (∃ w∈l,w.no=t) :=
 decide_eq_decide.2 ⟨fun h=>hm.2 ⟨x,hx,(cmpI_spec _ _).2.1 h⟩,fun h=>by
  obtain ⟨y,hy,e⟩:=hm.1 h
  rw [hx] at hy;injection hy with hy;subst hy
  exact (cmpI_spec _ _).2.2 e⟩
theorem met_no (hm:(∃ w∈l,w.no=t)↔∃ x,l[i]?=some x∧x.no=t) (hi:l.length≤i):¬ ∃ w∈l,w.no=t:=fun q=>by
 obtain ⟨x,hx,_⟩:=hm.1 q
 have:=(List.getElem?_eq_some_iff.1 hx).1
 omega
theorem rcv1_any (no:Int) (st:List UInt8) (c:Value) (i:Int) (o e p:Value) (t:Int) (w:World) (hst:st.length=32) :
  Calls Tryz.prog 42 #[ag (vcs no st c i o e p),.int .i64 t] w (fun e w'=>e=.returned (vi (cmpI no t))∧Ext w w'):=by
 exact calls_enter Tryz.func42 rfl rfl rfl fun _ C=>wr fun D I=>C.xb rfl fun G C _ C D D D J=>C.xv (vi 0) fun _ C=>wn I<|wr fun I I=>C.xv (vp G)<|Xw (vi no) (fun F=>rl F rfl ((D.rule.1 0).trans rfl))<|Xm rfl fun _ C=>C.xe (cmpi_any no t _) fun C C C _ C=>C.xa rfl fun _ C=>wn I<|have D:=C.k [0,1,2,4];wp_ret<|ret1 D rfl rfl<|⟨rfl,eX⟩
theorem bsearch_any (A:Option Addr) (c:Nat) (l:List Vr) (t:Int) (w:World) (h:RLs RVr 38 S w (vl A l.length c) l) (hu:upV l) (hl:l.length≤4294967296) :
  Calls Tryz.prog 41 #[.slice A l.length c,.int .i64 t,.func (.func 42) #[] #[]] w (fun e w'=>e=.returned (.tuple #[.int .i64 (below t l:Nat),.bool (decide (∃ w∈l,w.no=t))])∧Ext w w'):=by
 have hc:RLs RVr 38 (Clip S w) w (vl A l.length c) l:=RLs.clip rVr h
 obtain ⟨-,hck,hcm⟩:=RLs.at h
 refine calls_enter Tryz.func41 rfl rfl rfl fun _ hF=>wr fun K1 ab=>hF.xv (vi 0)<|Xv (.bool false) fun _ F5=>wn ab<|wr fun K6 aq=>F5.xm rfl<|Xv (vi l.length)<|Xa rfl fun _ ab=>wn aq<|wr fun aq aq=>ab.xm rfl<|Xv (vi 0)<|Xa rfl fun _ ab=>wn aq<|wp_seq_k fun aq ar=>wp_block<|wp_loop (fun a' W=>∃ (i1:Nat) (j1:Nat),Sl 49 [(0,(vl A l.length c)),(1,(vi t)),(2,(.func (.func 42) #[] #[])),(6,(vi 0)),(7,(.bool false)),(8,(vi l.length)),(9,(vi i1)),(10,(vi j1))] a'∧(i1≤j1∧j1≤l.length)∧(∀ p,p<i1→noAt l p<t)∧(∀ p,j1≤p→p<l.length→t≤noAt l p)∧Ext w W∧w.heap.size≤W.heap.size) (fun a' _=>(intOf (a'.eval (.tmp 10))).toNat - (intOf (a'.eval (.tmp 9))).toNat) ⟨0,l.length,ab.j,⟨by omega,by omega⟩,(fun p hp=>absurd hp (by omega)),(fun p hp hq=>absurd hq (by omega)),(Ext.refl w),(Nat.le_refl _)⟩ ?_
 rintro ab ab ⟨i1,j1,ab,aq,G,I,O,aq⟩
 have M:=ab
 have aq:=O.size
 refine wp_seq_k fun aq aq=>wr fun au au=>ab.xm rfl<|Xm rfl<|Xv (vd ((i1:Int)<(j1:Int))) fun _ J=>wn au ?_
 by_cases ab:(i1:Int)<(j1:Int)
 ·refine J.ct<|wp_skip<|aq _ _<|wp_block<|wr fun ab aj=>J.xm rfl<|Xm rfl<|Xv (vi (i1+j1:Nat))<|Xw (.int .u64 (i1+j1:Nat)) (fun F=>rn_convW uu3 uu112 (F.get rfl) (cvn_64 (i1+j1) (by omega)))<|Xw (.int .u64 ((i1+j1) / 2 ^ 1:Nat)) (fun F=>rn_shrU (a:=i1+j1) (n:=1) (F.get rfl) rfl (by omega))<|Xw (vi ((i1+j1) / 2 ^ 1:Nat)) (fun F=>rn_conv uu112 uu3 (F.get rfl) (IntWalk.i64_in _ (by omega)))<|Xa rfl fun _ ab=>wn aj<|have aj:=ab.k [0,1,2,6,7,8,9,10,17,11];wr fun ab av=>aj.xm rfl<|Xm rfl<|Xm rfl fun _ ak=>?_
  have ab:=RLs.ext rVr hc O
  obtain ⟨al,ay,C,aj,am,ai,aj,aw,ax⟩:=RLs.get ab (by omega:((i1+j1) / 2 ^ 1)<l.length)
  obtain ⟨ab,ab,ab,ab,rfl,D⟩:=ax
  obtain ⟨U,aa,rfl,ab,ab⟩:=RLs.form D.chs
  obtain ⟨V,ac,rfl,ab,ab⟩:=Fl.form D.sg.op
  obtain ⟨Y,ae,rfl,ab,ab⟩:=Fl.form D.sg.cl
  obtain ⟨Z,ah,rfl,ab,ab⟩:=Fl.form D.sg.path
  refine ak.xw (.pointer (some ⟨al,ay+((i1+j1) / 2 ^ 1)*38,none⟩)) (fun F=>rn_indexE uu25 inf34 ((F.get rfl).trans (by rw [am])) (F.get rfl) (by omega:(0:Int)≤((i1+j1) / 2 ^ 1:Nat)) (by omega:(((i1+j1) / 2 ^ 1:Nat):Int)<(l.length:Int)) (by omega))<|Xw (ag ((vi C.no)::dg C.state [(vl U C.chs.length aa),(vi C.sg.index),(vl V C.sg.op.length ac),(vl Y C.sg.cl.length ae),(vl Z C.sg.path.length ah)])) (fun F=>rn_loadN (cs:=((vi C.no)::dg C.state [(vl U C.chs.length aa),(vi C.sg.index),(vl V C.sg.op.length ac),(vl Y C.sg.cl.length ae),(vl Z C.sg.path.length ah)])) (F.get rfl) uu34 rfl (sk inf34 (len_dig1 D.st)) aw)<|Xm rfl fun _ J=>have O:=cmpI_spec C.no t;J.xE (c:=rcv1_any C.no C.state _ C.sg.index _ _ _ t _ D.st) (k:=fun D D D _ D=>D.xv (vd (((cmpI C.no t):Int)<(0:Int))) fun _ J=>wn av ?_)
  have D:=J.k [0,1,2,6,7,8,9,10,17,11,31]
  by_cases J:((cmpI C.no t):Int)<(0:Int)
  ·refine D.ct<|wp_region_lit<|D.xm rfl<|Xw (vi (((i1+j1) / 2 ^ 1)+1:Nat)) (fun F=>rn_addN (a:=(i1+j1) / 2 ^ 1) (b:=1) (F.get rfl) rfl (by omega))<|Xa rfl fun _ C=>wpList_nil ?_
   refine ⟨⟨(((i1+j1) / 2 ^ 1)+1),j1,C.j,⟨by omega,by omega⟩,(bs_lo hu ai (by omega)),I,eX,(by omega)⟩,?_⟩
   rw [C.get (t:=9) rfl,C.get (t:=10) rfl,M.get (t:=9) rfl,M.get (t:=10) rfl];simp only [intOf];omega
  refine D.cf<|wp_region_lit<|D.xm rfl<|Xa rfl fun _ C=>wpList_nil ?_
  refine ⟨⟨i1,((i1+j1) / 2 ^ 1),C.j,⟨by omega,by omega⟩,G,(bs_hi hu ai (by omega)),eX,(by omega)⟩,?_⟩
  rw [C.get (t:=9) rfl,C.get (t:=10) rfl,M.get (t:=9) rfl,M.get (t:=10) rfl];simp only [intOf];omega
 refine J.cf<|wp_exit<|exit_then<|exit_then<|exit_here<|ar _ _<|wr fun M aj=>J.xm rfl<|Xm rfl<|Xm rfl<|Xv (vd ((i1:Int)<(l.length:Int)))<|Xm rfl fun _ aa=>?_
 by_cases J:(i1:Int)<(l.length:Int)
 ·refine aa.xg (.func (.func 42) #[] #[])<|Xg (vl A l.length c)<|Xg (vi i1)<|fun _ ak=>?_
  have J:=RLs.ext rVr hc O
  obtain ⟨al,ay,C,M,am,aw,M,av,ax⟩:=RLs.get J (by omega:i1<l.length)
  obtain ⟨J,J,J,J,rfl,D⟩:=ax
  obtain ⟨U,ac,rfl,J,J⟩:=RLs.form D.chs
  obtain ⟨V,ae,rfl,J,J⟩:=Fl.form D.sg.op
  obtain ⟨Y,ah,rfl,J,J⟩:=Fl.form D.sg.cl
  obtain ⟨Z,ai,rfl,J,J⟩:=Fl.form D.sg.path
  refine ak.xgw (vq al (ay+i1*38)) (fun F=>rn_indexE uu25 inf34 ((F.get rfl).trans (by rw [am])) (F.get rfl) (zl _) (il (by omega:i1<l.length)) (by omega))<|Xgw (ag ((vi C.no)::dg C.state [(vl U C.chs.length ac),(vi C.sg.index),(vl V C.sg.op.length ae),(vl Y C.sg.cl.length ah),(vl Z C.sg.path.length ai)])) (fun F=>rn_loadN (cs:=((vi C.no)::dg C.state [(vl U C.chs.length ac),(vi C.sg.index),(vl V C.sg.op.length ae),(vl Y C.sg.cl.length ah),(vl Z C.sg.path.length ai)])) (F.get rfl) uu34 rfl (sk inf34 (len_dig1 D.st)) av)<|Xg (vi t) fun _ J=>have M:=cmpI_spec C.no t;wpl_op (i:=11) rfl (J.gE (c:=rcv1_any C.no C.state _ C.sg.index _ _ _ t _ D.st) (k:=fun D D D _ D=>D.xg (vd (((cmpI C.no t):Int)=(0:Int)))<|Xv (vd (((cmpI C.no t):Int)=(0:Int)))<|Xa rfl<|Xa rfl fun _ C=>wn aj<|have D:=C.k [0,1,2,6,7,8,9,10,17];wp_ret<|ret2 D rfl rfl rfl ?_))
  have hij:j1=i1:=by omega
  subst hij
  have hb:=below_eq G I (by omega)
  have hm:=met_eq G hu I
  exact ⟨by rw [hb,← met_fin hm aw],eX⟩
 refine aa.xu<|Xu<|Xu<|Xu<|Xu<|Xu<|Xu<|Xu<|Xv (.bool false)<|Xa rfl<|Xa rfl fun _ C=>wn aj<|have D:=C.k [0,1,2,6,7,8,9,10,17];wp_ret<|ret2 D rfl rfl rfl ?_
 have hij:j1=i1:=by omega
 subst hij
 have hb:=below_eq G I (by omega)
 have hm:=met_eq G hu I
 exact ⟨by rw [hb,decide_eq_false (met_no hm (by clear hm;omega))],eX⟩
theorem bsearch_at (l:List Vr) (t:Int) (w:World) (h:RLs RVr 38 S w v l) (hu:upV l) (hl:l.length≤4294967296) :
  Calls Tryz.prog 41 #[v,.int .i64 t,.func (.func 42) #[] #[]] w (fun e w'=>e=.returned (.tuple #[.int .i64 (below t l:Nat),.bool (decide (∃ w∈l,w.no=t))])∧Ext w w'):=by
 obtain ⟨A,c,rfl,_⟩:=h.form
 exact bsearch_any A c l t w h hu hl
theorem El25:El Tryz.prog 25 34 (ag (vcs 0 zero32 v0 0 v0 v0 v0)) 38 144:=⟨uu25,by kernel_rfl,rfl,by decide⟩
def RVv (S:Nat→Prop) (w:World) (cs:List Value) (l:List Vr):Prop:=∃ u,cs=[u]∧RLs RVr 38 S w u l
theorem rVv:Rel RVv:=⟨fun ⟨u,h1,h2⟩ hp=>⟨u,h1,h2.pres rVr hp⟩,fun ⟨u,h1,h2⟩ hs=>⟨u,h1,h2.subB rVr hs⟩⟩
theorem vs_three {t:TypeId} {v1 v3:Value} {l1 l3:List Vr} (h:Blk w g t [v1,v2,v3]) (h1:RLs RVr 38 S w v1 l1) (h2:RLs RVr 38 S w v2 l2) (h3:RLs RVr 38 S w v3 l3) (hg:S g):RLs RVv 1 S w (vl (some ⟨g,0,none⟩) 3 3) [l1,l2,l3]:=by
 obtain ⟨C,C,rfl,_⟩:=h1.form
 obtain ⟨C,C,rfl,_⟩:=h2.form
 obtain ⟨C,C,rfl,_⟩:=h3.form
 refine ⟨some ⟨g,0,none⟩,3,_,rfl,⟨Nat.le_refl _,by omega⟩,⟨rfl,one_cons rfl (one_cons rfl (one_cons rfl one_nil)),fun _=>⟨g,0,rfl,h.lt,fun j u hu=>by rw [Nat.zero_add,h.rule.1];exact hu⟩⟩,fun i hi=>?_,fun _=>⟨g,0,rfl,hg⟩⟩
 simp only [List.length_cons,List.length_nil] at hi
 rcases (show i=0∨i=1∨i=2 by omega) with rfl | rfl | rfl
 ·exact ⟨_,rfl,h1⟩
 ·exact ⟨_,rfl,h2⟩
 ·exact ⟨_,rfl,h3⟩
def OwnV (S:Nat→Prop) (base:Nat) (w:World) (v:Value) (n:Nat) (xs:List Value) (l:List Vr):Prop :=
 w.ownsRow base 34 38 v n xs∧n=l.length∧(∀ u∈xs,u.oneCell'=true)∧(∀ b,S b→b<base)∧∀ i (h:i<l.length),RVr S w (chunk 38 xs i) l[i]
theorem OwnV.app (h:OwnV S base w v n xs l) (hr:w'.ownsRow base 34 38 v' (n+l2.length) (xs++ys)) (hg:w.grownBy w' v.ownBlock)
  (h1:∀ u∈ys,u.oneCell'=true) (hx:∀ i (h:i<l2.length),RVr S w (chunk 38 ys i) l2[i]):OwnV S base w' v' (n+l2.length) (xs++ys) (l++l2):=by
 obtain ⟨q1,q2,q3,q5,q4⟩:=h
 have hge:∀ b,S b→some b≠v.ownBlock:=fun b hb e=>by have:=own_ge q1 b e;have:=q5 b hb;omega
 have mv:∀ {cs:List Value} {x:Vr},RVr S w cs x→RVr S w' cs x:=fun hq=>rVr.pres hq ⟨hg.size,fun b hb hl=>hg.block b hl (hge b hb)⟩
 have hxl:xs.length=n*38:=q1.1
 refine ⟨hr,by simp [q2],fun u hu=>?_,q5,fun i hi=>?_⟩
 ·rcases List.mem_append.1 hu with hu | hu
  ·exact q3 u hu
  ·exact h1 u hu
 ·by_cases C:i<l.length
  ·rw [List.getElem_append_left C,chunk_append_left hxl (by omega)]
   exact mv (q4 i C)
  ·simp only [List.length_append] at hi
   have C:chunk 38 (xs++ys) i=chunk 38 ys (i - l.length):=by rw [chunk_append_right hxl (by omega),q2]
   rw [C,List.getElem_append_right (by omega)]
   exact mv (hx (i - l.length) (by omega))
theorem OwnV.ext (h:OwnV S base w v n xs l) (he:Ext w w'):OwnV S base w' v n xs l:=⟨own_ext h.1 he,h.2.1,h.2.2.1,h.2.2.2.1,fun i hi=>rVr.ext (h.2.2.2.2 i hi) he⟩
theorem OwnV.rls (h:OwnV S base w v n xs l):RLs RVr 38 (fun b=>S b∨base≤b) w v l:=by
 obtain ⟨h1,h2,h3,_,h4⟩:=h
 exact RSl.own h1 (fun b hb=>.inr hb) h2 h3 fun i hi=>rVr.sub (h4 i hi) fun b hb=>.inl hb
theorem fl_len_take {k:Nat} {x:List Vr} (hx:ll[k]?=some x):(ll.take (k+1)).flatten=(ll.take k).flatten++x:=by
 rw [List.take_add_one,hx,List.flatten_append];simp
theorem fl_len_le {k:Nat} {x:List Vr} (hx:ll[k]?=some x):(ll.take k).flatten.length+x.length≤ll.flatten.length:=by
 have h1:(ll.take (k+1)).flatten.length≤ll.flatten.length:=by
  have h2:=congrArg (fun z=>z.flatten.length) (List.take_append_drop (k+1) ll)
  simp only [List.flatten_append,List.length_append] at h2
  omega
 rw [fl_len_take hx,List.length_append] at h1
 exact h1
theorem growv_any (n:Nat) (w:World) (hn:n≤4294967296) :
  Calls Tryz.prog 87 #[.slice none 0 0,.int .i64 (n:Nat)] w (fun e w'=>∃ A c,e=.returned (vl A 0 c)∧w'.ownsRow w.heap.size 34 38 (vl A 0 c) 0 []∧Ext w w'):=by
 refine calls_enter Tryz.func87 rfl rfl rfl fun _ C=>wr fun D D=>C.xv v0 fun _ C=>wn D<|wp_seq_k fun D D=>wr fun G G=>C.xm rfl<|Xv (vd ((n:Int)<(0:Int))) fun _ C=>wn G ?_
 by_cases G:(n:Int)<(0:Int)
 ·refine C.ct ?_
  exfalso;omega
 refine C.cf<|wp_skip<|D _ _<|wp_seq_k fun D D=>wr fun G G=>C.xm rfl<|Xm rfl<|Xw (vi 0) (fun F=>rn_cap uu25 (F.get rfl))<|Xm rfl<|Xv (vi 0)<|Xv (vi 0)<|Xw (vi (n - 0:Nat)) (fun F=>rn_subN (a:=n) (b:=0) (F.get rfl) (F.get rfl) (by omega) (by omega))<|Xa rfl fun _ C=>wn G<|have G:=C.k [0,1,4,6];wr fun C I=>G.xm rfl<|Xv (vd ((0:Int)<((n - 0:Nat):Int))) fun _ C=>wn I ?_
 by_cases G:(0:Int)<((n - 0:Nat):Int)
 ·exact C.ct<|wp_region_lit<|C.xm rfl<|Xm rfl<|Xw (vi 0) (fun F=>rn_cap uu25 (F.get rfl))<|Xw v0 (fun F=>rn_sliceHi uu25 inf34 (F.get rfl) (F.get rfl) (by omega:(0:Int)≤0) (by omega:(0:Int)≤((0:Nat):Int)))<|Xm rfl fun _ C=>wpl_op (i:=5) rfl<|o_zeros El25 C rfl rfl rfl rfl rfl uu3 (C.get rfl) (C.get rfl) (by omega) (by omega) (by omega) fun J C G G G I G G G G M=>have M:=own_lt G;I.xm rfl<|Xv (vi 0)<|Xw (vl (some ⟨J,0,none⟩) 0 C) (fun F=>rn_sliceHi uu25 inf34 (F.get rfl) (F.get rfl) (by omega:(0:Int)≤0) (by omega:(0:Int)≤((C:Nat):Int)))<|Xa rfl fun _ C=>wn D<|have D:=C.k [0,1,4,6,16];wr fun C I=>D.xm rfl<|Xa rfl fun _ C=>wn I<|wp_ret<|ret1 C rfl rfl<|⟨_,_,rfl,own_zero G,eX⟩
 exact C.cf<|wp_skip<|D _ _<|wr fun D D=>C.xm rfl<|Xa rfl fun _ C=>wn D<|wp_ret<|ret1 C rfl rfl<|⟨none,0,rfl,own_nil _ _ _ _,(Ext.refl w)⟩
theorem concatv_any (A:Option Addr) (c:Nat) (ll:List (List Vr)) (w:World) (h:RLs RVv 1 S w (vl A ll.length c) ll) (hS:∀ b,S b→b<w.heap.size) (hn:ll.flatten.length≤1000000) :
  Calls Tryz.prog 44 #[.slice A ll.length c] w (fun e w'=>∃ A c,e=.returned (vl A ll.flatten.length c)∧RLs RVr 38 (Fr S w) w' (vl A ll.flatten.length c) ll.flatten∧Ext w w'):=by
 obtain ⟨-,C,ae⟩:=RLs.at h
 refine calls_enter Tryz.func44 rfl rfl rfl fun _ C=>wr fun U U=>C.xv v0 fun _ C=>wn U<|wr fun U U=>C.xv (vi 0) fun _ C=>wn U<|wp_seq_k fun U aw=>wr fun U U=>C.xm rfl<|Xv (vi ll.length)<|Xv (vi 0) fun _ C=>wn U<|wp_block<|wp_loop (fun a' W=>∃ (k:Nat),Sl 36 [(0,(vl A ll.length c)),(2,v0),(3,(vi ((ll.take k).flatten.length:Nat))),(9,(vl A ll.length c)),(10,(vi ll.length)),(11,(vi k))] a'∧k≤ll.length∧(ll.take k).flatten.length≤ll.flatten.length∧Ext w W∧w.heap.size≤W.heap.size) (fun a' _=>ll.length - (intOf (a'.eval (.tmp 11))).toNat) ⟨0,((((((C.nil.cons (q_get C (t:=11) rfl (by first | rfl | (congr 1;omega)))).cons (q_get C (t:=10) rfl rfl)).cons (q_get C (t:=9) rfl rfl)).cons (q_get C (t:=3) rfl (by first | rfl | (congr 1;omega)))).cons (q_get C (t:=2) rfl rfl)).cons (q_get C (t:=0) rfl rfl)),(by omega),(by simp),(Ext.refl w),(Nat.le_refl _)⟩ ?_
 rintro C ai ⟨k,C,U,U,U,av⟩
 have aA:=C
 have av:=U.size
 refine wr fun av av=>C.xv (vd ((k:Int)<(ll.length:Int))) fun _ M=>wn av<|wp_seq_k fun C C=>?_
 by_cases av:(k:Int)<(ll.length:Int)
 ·refine M.ct<|wp_skip<|C _ _<|wp_seq_k fun C Z=>wp_block<|wr fun C aa=>?_
  have C:=RLs.ext rVv h U
  obtain ⟨O,ag,D,U,Y,I,U,G,ac⟩:=RLs.get C (by omega:k<ll.length)
  obtain ⟨C,rfl,ab⟩:=ac
  obtain ⟨J,V,rfl,C,C⟩:=RLs.form ab
  have C:=fl_len_le I
  have hz9:=congrArg List.length (fl_len_take I);simp only [List.length_append] at hz9
  simp only [Nat.mul_one] at G
  refine M.xw (vq O (ag+k)) (fun F=>rn_index1 uu113 inf25 ((F.get rfl).trans (by rw [Y])) (F.get rfl) (zl _) (il (by omega:k<ll.length)))<|Xw (vl J D.length V) (fun F=>rl F rfl (G 0 _ rfl))<|Xa rfl fun _ C=>wn aa<|wr fun G G=>C.xm rfl<|Xm rfl<|Xv (vi D.length)<|Xw (vi (((ll.take k).flatten.length)+D.length:Nat)) (fun F=>rn_addN (a:=(ll.take k).flatten.length) (b:=D.length) (F.get rfl) (F.get rfl) (by omega))<|Xa rfl fun _ C=>wn G<|have G:=C.k [0,2,3,9,10,11,12,5];wr fun C I=>G.xm rfl<|Xv (vd (((((ll.take k).flatten.length)+D.length:Nat):Int)<(0:Int))) fun _ C=>wn I ?_
  by_cases G:((((ll.take k).flatten.length)+D.length:Nat):Int)<(0:Int)
  ·refine C.ct ?_
   exfalso;omega
  refine C.cf<|wp_skip<|Z _ _<|wp_region_lit<|C.xv (vi (k+1:Nat))<|Xm rfl fun _ C=>wpList_nil ?_
  refine ⟨⟨(k+1),((((((C.nil.cons (q_get C (t:=11) rfl (by first | rfl | (congr 1;omega)))).cons (q_get C (t:=10) rfl rfl)).cons (q_get C (t:=9) rfl rfl)).cons (q_get C (t:=3) rfl (by first | rfl | (congr 1;omega)))).cons (q_get C (t:=2) rfl rfl)).cons (q_get C (t:=0) rfl rfl)),(by omega),(by omega),eX,(by omega)⟩,?_⟩
  rw [C.get (t:=11) rfl,aA.get (t:=11) rfl];simp [intOf] <;> omega
 refine M.cf<|wp_exit<|exit_then<|exit_then<|exit_here<|aw _ _<|wr fun C ax=>M.xm rfl fun _ C=>C.xC (c:=growv_any ((ll.take k).flatten.length) _ (by omega)) (k:= ?_)
 rintro _ aj ⟨Z,aa,rfl,ah,aC⟩
 have C:=own_form0 ah
 refine ⟨_,rfl,?_⟩;intro C C;have M:=aC.size
 have av:OwnV S ai.heap.size aj (vl Z 0 aa) 0 [] []:=⟨ah,rfl,one_nil,fun b hb=>by have:=hS b hb;omega,fun i hi=>absurd hi (by simp)⟩
 refine C.xa rfl fun _ C=>wn ax<|wp_seq_k fun M ay=>wr fun M M=>C.xm rfl<|Xv (vi ll.length)<|Xv (vi 0) fun _ C=>wn M<|wp_block<|wp_loop (fun a' W=>∃ (D:Nat) (M:Option Addr) (U:Nat) (I:Nat) (O:List Value) (l6:List Vr),Sl 36 [(0,(vl A ll.length c)),(2,v0),(3,(vi ((ll.take k).flatten.length:Nat))),(9,(vl A ll.length c)),(10,(vi ll.length)),(11,(vi k)),(12,(vd ((k:Int)<(ll.length:Int)))),(6,(vl M I U)),(25,(vl A ll.length c)),(26,(vi ll.length)),(27,(vi D))] a'∧(D≤ll.length∧I=(ll.take D).flatten.length)∧l6=(ll.take D).flatten∧Ext w W∧OwnV S ai.heap.size W (vl M I U) I O l6∧aj.heap.size≤W.heap.size) (fun a' _=>ll.length - (intOf (a'.eval (.tmp 27))).toNat) ⟨0,Z,aa,0,[],[],(((((((((((C.nil.cons (q_get C (t:=27) rfl (by first | rfl | (congr 1;omega)))).cons (q_get C (t:=26) rfl rfl)).cons (q_get C (t:=25) rfl rfl)).cons (q_get C (t:=6) rfl (by first | rfl | (congr 1;omega)))).cons (q_get C (t:=12) rfl rfl)).cons (q_get C (t:=11) rfl rfl)).cons (q_get C (t:=10) rfl rfl)).cons (q_get C (t:=9) rfl rfl)).cons (q_get C (t:=3) rfl rfl)).cons (q_get C (t:=2) rfl rfl)).cons (q_get C (t:=0) rfl rfl)),⟨by omega,by simp⟩,(by simp),eX,av,(Nat.le_refl _)⟩ ?_
 rintro C C ⟨D,M,U,I,O,l6,C,M,ag,M,G,U⟩
 have az:=C
 have U:=M.size
 have U:=own_form0 G.1
 refine wr fun U U=>C.xv (vd ((D:Int)<(ll.length:Int))) fun _ J=>wn U<|wp_seq_k fun C C=>?_
 by_cases U:(D:Int)<(ll.length:Int)
 ·refine J.ct<|wp_skip<|C _ _<|wp_seq_k fun C ar=>wp_block<|wr fun C au=>?_
  have C:=RLs.ext rVv h M
  obtain ⟨al,aD,Y,M,aq,V,M,ab,aB⟩:=RLs.get C (by omega:D<ll.length)
  obtain ⟨C,rfl,ac⟩:=aB
  obtain ⟨ak,am,rfl,C,C⟩:=RLs.form ac
  have C:=fl_len_le V
  have hz9:=congrArg List.length (fl_len_take V);simp only [List.length_append] at hz9
  simp only [Nat.mul_one] at ab
  refine J.xw (vq al (aD+D)) (fun F=>rn_index1 uu113 inf25 ((F.get rfl).trans (by rw [aq])) (F.get rfl) (zl _) (il (by omega:D<ll.length)))<|Xw (vl ak Y.length am) (fun F=>rl F rfl (ab 0 _ rfl))<|Xa rfl fun _ C=>wn au<|wp_region_lit<|C.xm rfl<|Xm rfl fun _ C=>?_
  obtain ⟨J,J,U,M,he146⟩:=RSl.cel ac
  refine wpl_op (i:=2) rfl<|o_appB (zs:=O++U) El25 C rfl rfl rfl rfl rfl (C.get rfl) (C.get rfl) G.1 M (by omega) (by omega) (by omega) rfl fun Z aa C C C ac J ab ab ab=>have ab:=J.size;have ab:=OwnV.app G ac J M.2.1 he146;C.xa rfl fun _ C=>wn ar<|have M:=C.k [0,2,3,9,10,11,12,6,25,26,27,28,8];wp_region_lit<|M.xv (vi (D+1:Nat))<|Xm rfl fun _ C=>wpList_nil ?_
  refine ⟨⟨(D+1),Z,aa,I+Y.length,(O++U),(l6++Y),(((((((((((C.nil.cons (q_get C (t:=27) rfl (by first | rfl | (congr 1;omega)))).cons (q_get C (t:=26) rfl rfl)).cons (q_get C (t:=25) rfl rfl)).cons (q_get C (t:=6) rfl (by first | rfl | (congr 1;omega)))).cons (q_get C (t:=12) rfl rfl)).cons (q_get C (t:=11) rfl rfl)).cons (q_get C (t:=10) rfl rfl)).cons (q_get C (t:=9) rfl rfl)).cons (q_get C (t:=3) rfl rfl)).cons (q_get C (t:=2) rfl rfl)).cons (q_get C (t:=0) rfl rfl)),⟨by omega,by omega⟩,(by rw [fl_len_take V,← ag]),(ext_row eX J G.1 (by omega)),ab,(by omega)⟩,?_⟩
  rw [C.get (t:=27) rfl,az.get (t:=27) rfl];simp [intOf] <;> omega
 refine J.cf<|wp_exit<|exit_then<|exit_then<|exit_here<|ay _ _<|wr fun C I=>J.xm rfl<|Xa rfl fun _ C=>wn I<|wp_ret<|ret1 C rfl rfl ?_
 have ae:D=ll.length:=by omega
 have hfl:=ag;rw [ae,List.take_length] at hfl
 obtain rfl:=G.2.1
 subst hfl
 exact ⟨_,_,rfl,RLs.sub rVr (OwnV.rls G) (fun b hb=>hb.elim .inl (fun h=>.inr (by omega))),eX⟩
theorem concatv_at (ll:List (List Vr)) (w:World) (h:RLs RVv 1 S w v ll) (hS:∀ b,S b→b<w.heap.size) (hn:ll.flatten.length≤1000000) :
  Calls Tryz.prog 44 #[v] w (fun e w'=>∃ A c,e=.returned (vl A ll.flatten.length c)∧RLs RVr 38 (Fr S w) w' (vl A ll.flatten.length c) ll.flatten∧Ext w w'):=by
 obtain ⟨A,c,rfl,_⟩:=h.form
 exact concatv_any A c ll w h hS hn
end Go.Proofs.YtihgmaoghbnnaaaGreatDoor
