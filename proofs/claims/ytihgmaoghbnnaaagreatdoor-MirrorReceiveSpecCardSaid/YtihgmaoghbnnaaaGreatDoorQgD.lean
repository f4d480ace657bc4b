/- Several texts in one: RefE3, RefF3, SealB, SealC, CloneB, SealD, SealE, SealF, SealG, SealH, SealI, SealJ, SealK, SealL, JrA, MrB. -/
import Derived.Test.YtihgmaoghbnnaaaGreatDoorProg
import Derived.Test.YtihgmaoghbnnaaaGreatDoorQgC
import Derived.KernelRfl
import Derived.Test.YtihgmaoghbnnaaaGreatDoorQgA
import Derived.Test.YtihgmaoghbnnaaaGreatDoorQgB
import Derived.WalkSpells
import Derived.Handy
set_option linter.unusedVariables false
set_option linter.unusedSimpArgs false
set_option maxRecDepth 100000
set_option maxHeartbeats 1000000
namespace Go.Proofs.YtihgmaoghbnnaaaGreatDoor
open Go.RowKit
variable {b:Bool} {i idx many used:Int} {l p x:List (List UInt8)} {bs:List Bool} {d root sd:List UInt8} {a k m n:Nat} {S S' S2:Nat→Prop} {s:Sg} {u v:Value}
theorem rtree_ind:∀ (N:Nat) (l:List (List UInt8)) (S:Nat→Prop) (w:World) {n:Nat} (v:Value) (_:All32 l) (_:Fl S w 32 v n (digVals l)) (_:l.length≤4398046511104)  (_:l.length<N),
  Calls Tryz.prog 69 #[v] w (fun e w'=>e=.returned (.agg (byteVals (treeD l)).toArray)∧Ext w w'):=by
 intro N
 induction N with
 | zero=>intro l;intros;omega
 | succ N ih0 =>
 intro l S w n v h32 C hbig  hN
 have ih:∀ (l':List (List UInt8)) (w':World) {n:Nat} {S:Nat→Prop} (v':Value) (_:All32 l') (_:Fl S w' 32 v' n (digVals l')) (_:l'.length≤4398046511104)  (_:l'.length<l.length),Calls Tryz.prog 69 #[v'] w' (fun e w''=>e=.returned (.agg (byteVals (treeD l')).toArray)∧Ext w' w''):=by
  intros;apply ih0 <;> first | assumption | omega
 clear ih0
 have hm:=Fl.dlen C h32
 subst hm
 obtain ⟨A,c,rfl,hcc0⟩:=C.form
 have hf:=C
 have hc:Fl (Clip S w) w 32 (vl A l.length c) l.length (digVals l):=hf.clip
 have hcc:=(Fl.cel hc).2.1
 refine calls_enter Tryz.func69 rfl rfl rfl fun _ C=>wr fun D G=>C.xz (byteVals (List.replicate 32 0)) 29 fun I M _ C D D D U=>wn G<|wp_seq_k fun G G=>wr fun J J=>C.xm rfl<|Xv (vi l.length)<|Xv (vd ((l.length:Int)=(0:Int))) fun _ C=>wn J ?_
 by_cases J:(l.length:Int)=(0:Int)
 ·refine C.ct<|wr fun G I=>C.xE (c:=rtagged_at ([101,109,112,116,121]) (v:=v0) (n:=0) ([]) _ (show Fl (fun _=>False) M 1 v0 0 (byteVals []) from Fl.nil _) (by decide) (by omega)) (k:=fun C J C _ C=>?_)
  have G:=D.ext J
  refine C.xs rfl G (fun D D G=>?_) (hk:=byteVals_len (tagged_len _ _));have J:=G.size
  exact wn I<|wp_ret<|ret_then<|retC C rfl rfl D uu29 rfl (sk inf29 (byteVals_len (tagged_len _ _)))<|⟨by rw [tree_nil' (l:=l) (by omega)],eX⟩
 refine C.cf<|wp_skip<|G _ _<|wp_seq_k fun G J=>wr fun G M=>C.xm rfl<|Xv (vi l.length)<|Xv (vd ((l.length:Int)=(1:Int))) fun _ G=>wn M ?_
 have C:=G.k [0,2,6,10]
 by_cases G:(l.length:Int)=(1:Int)
 ·refine C.ct<|wr fun G O=>C.xm rfl fun _ M=>?_
  have I:=hc.ext U
  obtain ⟨C,G,J,-⟩:=Fl.at I (by omega)
  refine M.xw (vq C (G+0*32)) (fun F=>rn_indexE uu30 inf29 ((F.get rfl).trans (by rw [J])) rfl (by omega:(0:Int)≤0) (by omega:(0:Int)<(l.length:Int)) (by omega))<|Xw (vl (some ⟨C,G+0*32,none⟩) 32 32) (fun F=>rn_arrAll uu29 inf5 (F.get rfl)) fun _ M=>M.xE (c:=rtagged_at ([108,101,97,102]) (v:=(vl (some ⟨C,G+0*32,none⟩) 32 32)) (n:=32) (l.getD 0 []) _ (Fl.digPart (i:=0) I J h32 (by omega) (by omega)) (by decide) (by omega)) (k:=fun C I C _ C=>?_)
  have G:=D.ext I
  refine C.xs rfl G (fun D G D=>?_) (hk:=byteVals_len (tagged_len _ _));have I:=D.size
  exact wn O<|have D:=C.k [0,2,6,10];wp_ret<|ret_then<|retC D rfl rfl G uu29 rfl (sk inf29 (byteVals_len (tagged_len _ _)))<|⟨by rw [tree_one' (l:=l) (by omega),leafD],eX⟩
 refine C.cf<|wp_skip<|J _ _<|wr fun G J=>C.xm rfl<|Xv (vi l.length) fun _ C=>have G:=half_lt (n:=l.length) (by omega);have G:=half_pos l.length;C.xE (c:=rhalf_any l.length _ (by omega) (by omega)) (k:=fun C C C _ C=>C.xa rfl fun _ G=>wn J<|wp_seq_k fun C V=>sX (fun C W=>Ext C W∧Blk W I 29 (byteVals (List.replicate 32 0))) (fun i=>i==9) 10 fun C I C=>G.ym 0 rfl<|Ym 1 rfl<|Yw 2 (vl A (half l.length) c) rfl (fun F W=>rn_sliceHi uu30 inf29 (F.get rfl) (F.get rfl) (by omega:(0:Int)≤(half l.length:Nat)) (by omega:((half l.length:Nat):Int)≤(c:Int)))<|Ym 4 rfl<|Ym 5 rfl fun _ J=>?_)
 have C:=hc.ux I
 obtain ⟨G,M,I,-⟩:=Fl.at C (by omega)
 refine J.yw 6 (vl (some ⟨G,M+(half l.length)*32,none⟩) (l.length - (half l.length)) (c - (half l.length))) rfl (fun F W=>rn_sliceLo (l:=(half l.length)) uu30 inf29 ((F.get rfl).trans (by rw [I])) (F.get rfl) (by omega:(half l.length)≤l.length) (by omega:(half l.length)<c)) fun _ O=>ao 3 rfl<|have J:=(Fl.take_eq (j:=(half l.length)) C (by omega) (digVals_take h32 _));have C:=Fl.dlen J (All32.take h32 _);O.oE (c:=ih (l.take (half l.length)) _ (n:=(half l.length)) (vl A (half l.length) c) (All32.take h32 _) J (by omega) (by omega)) (k:=fun C J C _ O=>?_)
 have C:=D.ux J
 refine ⟨fun _ _=>⟨eX,C⟩,?_⟩
 refine ao 7 rfl<|have U:=(hc.ux J);have D:=(Fl.drop_eq (j:=(half l.length)) U I (by omega) (digVals_drop h32 _));have I:=Fl.dlen D (All32.drop h32 _);O.oE (c:=ih (l.drop (half l.length)) _ (n:=l.length - (half l.length)) (vl (some ⟨G,M+(half l.length)*32,none⟩) (l.length - (half l.length)) (c - (half l.length))) (All32.drop h32 _) D (by omega) (by omega)) (k:=fun D I D _ G=>?_)
 have D:=C.ext I
 refine ⟨fun _ _=>⟨eX,D⟩,?_⟩
 refine ao 8 rfl<|G.oe (rnode_any (treeD (l.take (half l.length))) (treeD (l.drop (half l.length))) _ (treeD_len _) (treeD_len _)) fun C I C _ C=>?_
 have G:=D.ext I
 refine ⟨fun _ _=>⟨eX,G⟩,?_⟩
 refine ao 9 rfl (C.os rfl G (fun D G D=>an ?_) (hk:=byteVals_len (nodeD_len _ _)));have I:=D.size
 exact nK V<|have D:=C.k [0,2,6,10,3];wp_ret<|retC D rfl rfl G uu29 rfl (sk inf29 (byteVals_len (nodeD_len _ _)))<|⟨by rw [tree_two' (l:=l) (by omega)],eX⟩
theorem rtree_at (l:List (List UInt8)) (w:World) {n:Nat} {v:Value} (h32:All32 l) (hf:Fl S w 32 v n (digVals l)) (hbig:n≤4398046511104):Calls Tryz.prog 69 #[v] w (fun e w'=>e=.returned (.agg (byteVals (treeD l)).toArray)∧Ext w w'):=rtree_ind _ l S w v h32 hf (by have:=Fl.dlen hf h32;omega) (Nat.lt_succ_self _)
theorem climb_first' (h:2≤n) (h2:a<half n) (hp:p.length=(dirs a n).length) (hm:m=p.length):climbL nodeD leafD d a n p=nodeD (climbL nodeD leafD d a (half n) (p.take (m - 1))) (p.getD (m - 1) [])∧(p.take (m - 1)).length=(dirs a (half n)).length∧0<m:=by
 subst hm
 have h3:(dirs a n).length=(dirs a (half n)).length+1:=by rw [dirs_first h h2];rfl
 have h4:p=p.take (p.length - 1)++[p.getD (p.length - 1) []]:=by
  rw [List.getD_eq_getElem?_getD,List.getElem?_eq_getElem (by omega),Option.getD_some]
  have:=List.take_append_drop (p.length - 1) p
  rw [List.drop_eq_getElem_cons (by omega),List.drop_eq_nil_of_le (by omega)] at this
  exact this.symm
 refine ⟨?_,by rw [List.length_take];omega,by omega⟩
 conv=>lhs;rw [h4]
 exact climb_first nodeD leafD h h2 (by rw [← h4];exact hp)
theorem climb_second' (h:2≤n) (h2:¬ a<half n) (hp:p.length=(dirs a n).length) (hm:m=p.length):climbL nodeD leafD d a n p=nodeD (p.getD (m - 1) []) (climbL nodeD leafD d (a - half n) (n - half n) (p.take (m - 1)))∧(p.take (m - 1)).length=(dirs (a - half n) (n - half n)).length∧0<m:=by
 subst hm
 have h3:(dirs a n).length=(dirs (a - half n) (n - half n)).length+1:=by rw [dirs_second h h2];rfl
 have h4:p=p.take (p.length - 1)++[p.getD (p.length - 1) []]:=by
  rw [List.getD_eq_getElem?_getD,List.getElem?_eq_getElem (by omega),Option.getD_some]
  have:=List.take_append_drop (p.length - 1) p
  rw [List.drop_eq_getElem_cons (by omega),List.drop_eq_nil_of_le (by omega)] at this
  exact this.symm
 refine ⟨?_,by rw [List.length_take];omega,by omega⟩
 conv=>lhs;rw [h4]
 exact climb_second nodeD leafD h h2 (by rw [← h4];exact hp)
theorem rlength_ind:∀ (N:Nat) (a n:Nat) (w:World) (_:a<n) (_:n≤4611686018427387904) (_:n<N),Calls Tryz.prog 107 #[.int .i64 (a:Nat),.int .i64 (n:Nat)] w (fun e w'=>e=.returned (vi ((dirs a n).length:Nat))∧Ext w w'):=by
 intro N
 induction N with
 | zero=>intro a n w _ _ _;omega
 | succ N ih0 =>
 intro a n w ha hbig hN
 have ih:∀ (a' n':Nat) (w':World) (_:a'<n') (_:n'≤4611686018427387904) (_:n'<n),Calls Tryz.prog 107 #[.int .i64 (a':Nat),.int .i64 (n':Nat)] w' (fun e w''=>e=.returned (vi ((dirs a' n').length:Nat))∧Ext w' w''):=fun a' n' w' h1 h2 h3=>ih0 a' n' w' h1 h2 (by omega)
 clear ih0
 refine calls_enter Tryz.func107 rfl rfl rfl fun _ C=>wr fun D D=>C.xv (vi 0) fun _ C=>wn D<|wp_seq_k fun D D=>wr fun G G=>C.xm rfl<|Xv (vd ((n:Int)=(1:Int))) fun _ C=>wn G ?_
 by_cases G:(n:Int)=(1:Int)
 ·exact C.ct<|wr fun D D=>C.xv (vi 0) fun _ C=>wn D<|wp_ret<|ret_then<|ret1 C rfl rfl<|⟨by rw [dirs_one (by omega)];simp only [List.length_cons,List.length_nil];congr 2 <;> omega,(Ext.refl w)⟩
 refine C.cf<|wp_skip<|D _ _<|wr fun D D=>C.xm rfl fun _ C=>have G:=half_lt (n:=n) (by omega);have G:=half_pos n;C.xE (c:=rhalf_any n _ (by omega) (by omega)) (k:=fun C C C _ C=>C.xa rfl fun _ C=>wn D<|wp_seq_k fun D G=>wr fun D I=>C.xm rfl<|Xm rfl<|Xv (vd ((a:Int)<((half n:Nat):Int))) fun _ D=>wn I ?_)
 have C:=D.k [0,1,4,7,5,12]
 by_cases D:(a:Int)<((half n:Nat):Int)
 ·exact C.ct<|wr fun D D=>C.xm rfl<|Xm rfl fun _ C=>have G:=dirs_le _ a (half n) (Nat.le_refl _);C.xE (c:=ih a (half n) _ (by omega) (by omega) (by omega)) (k:=fun C C C _ C=>C.xw (vi (1+((dirs a (half n)).length):Nat)) (fun F=>rn_addN (a:=1) (b:=(dirs a (half n)).length) rfl (F.get rfl) (by omega))<|Xa rfl fun _ C=>wn D<|have D:=C.k [0,1,4,7,5,12];wp_ret<|ret_then<|ret1 D rfl rfl<|⟨by rw [dirs_first (at_:=a) (n:=n) (by omega) (by omega)];simp only [List.length_cons,List.length_nil];congr 2 <;> omega,eX⟩)
 exact C.cf<|wp_skip<|G _ _<|wr fun D D=>C.xm rfl<|Xm rfl<|Xw (vi (a - (half n):Nat)) (fun F=>rn_subN (a:=a) (b:=half n) (F.get rfl) (F.get rfl) (by omega) (by omega))<|Xm rfl<|Xm rfl<|Xw (vi (n - (half n):Nat)) (fun F=>rn_subN (a:=n) (b:=half n) (F.get rfl) (F.get rfl) (by omega) (by omega)) fun _ C=>have G:=dirs_le _ (a - (half n)) (n - (half n)) (Nat.le_refl _);C.xE (c:=ih (a - (half n)) (n - (half n)) _ (by omega) (by omega) (by omega)) (k:=fun C C C _ C=>C.xw (vi (1+((dirs (a - (half n)) (n - (half n))).length):Nat)) (fun F=>rn_addN (a:=1) (b:=(dirs (a - (half n)) (n - (half n))).length) rfl (F.get rfl) (by omega))<|Xa rfl fun _ C=>wn D<|have D:=C.k [0,1,4,7,5,12];wp_ret<|ret1 D rfl rfl<|⟨by rw [dirs_second (at_:=a) (n:=n) (by omega) (by omega)];simp only [List.length_cons,List.length_nil];congr 2 <;> omega,eX⟩)
theorem rlength_at (a n:Int) (w:World) (h0:0≤a) (h1:a<n) (h2:n≤4611686018427387904) :
  Calls Tryz.prog 107 #[.int .i64 a,.int .i64 n] w (fun e w'=>e=.returned (vi ((dirs a.toNat n.toNat).length:Nat))∧Ext w w'):=by
 obtain ⟨an,rfl⟩:∃ an:Nat,a=(an:Int):=⟨a.toNat,by omega⟩
 obtain ⟨nn,rfl⟩:∃ nn:Nat,n=(nn:Int):=⟨n.toNat,by omega⟩
 exact rlength_ind _ an nn w (by omega) (by omega) (Nat.lt_succ_self _)
theorem rclimb_ind (d:List UInt8) (hd:d.length=32):∀ (N:Nat) (a n:Nat) (p:List (List UInt8)) (S:Nat→Prop) (w:World) {m:Nat} {v:Value} (_:All32 p) (_:Fl S w 32 v m (digVals p)) (_:p.length=(dirs a n).length) (_:a<n) (_:n≤4611686018427387904) (_:n<N),Calls Tryz.prog 108 #[.agg (byteVals d).toArray,.int .i64 (a:Nat),.int .i64 (n:Nat),v] w (fun e w'=>e=.returned (.agg (byteVals (climbL nodeD leafD d a n p)).toArray)∧Ext w w'):=by
 intro N
 induction N with
 | zero=>intros;omega
 | succ N ih0 =>
 intro a n p S w m v h32 C hp ha hbig hN
 have ih:∀ (a' n':Nat) (p':List (List UInt8)) (w':World) {S:Nat→Prop} {m':Nat} {v':Value} (_:All32 p') (_:Fl S w' 32 v' m' (digVals p')) (_:p'.length=(dirs a' n').length) (_:a'<n') (_:n'≤4611686018427387904) (_:n'<n),Calls Tryz.prog 108 #[.agg (byteVals d).toArray,.int .i64 (a':Nat),.int .i64 (n':Nat),v'] w' (fun e w''=>e=.returned (.agg (byteVals (climbL nodeD leafD d a' n' p')).toArray)∧Ext w' w''):=by
  intros;apply ih0 <;> first | assumption | omega
 clear ih0
 have hm:=Fl.dlen C h32
 subst hm
 obtain ⟨A,c,rfl,hcc0⟩:=C.form
 have hf:=C
 have hc:Fl (Clip S w) w 32 (vl A p.length c) p.length (digVals p):=hf.clip
 have hcc:=(Fl.cel hc).2.1
 refine calls_enter Tryz.func108 rfl rfl rfl fun _ C=>wr fun D G=>C.xb rfl fun D C _ C I I U I=>C.xz (byteVals (List.replicate 32 0)) 29 fun I C _ C J J O M=>wn G<|wp_seq_k fun G G=>wr fun J J=>C.xm rfl<|Xv (vd ((n:Int)=(1:Int))) fun _ C=>wn J ?_
 by_cases J:(n:Int)=(1:Int)
 ·refine C.ct<|wr fun G I=>C.xw (vl (some ⟨D,0,none⟩) 32 32) (fun F=>rn_arrAll uu29 inf5 (F.get rfl)) fun _ C=>have G:=(U.ext M);C.xE (c:=rtagged_at ([108,101,97,102]) (v:=(vl (some ⟨D,0,none⟩) 32 32)) (n:=32) d _ (Fl.blk (S:=fun b=>b=D) (k:=1) (n:=32) (c:=32) G (by rw [byteVals_len hd,Nat.mul_one]) (byteVals_one _) (by omega) rfl) (by decide) (by omega)) (k:=fun C G C _ C=>?_)
  have D:=O.ext G
  refine C.xs rfl D (fun D D G=>?_) (hk:=byteVals_len (tagged_len _ _));have J:=G.size
  exact wn I<|wp_ret<|ret_then<|retC C rfl rfl D uu29 rfl (sk inf29 (byteVals_len (tagged_len _ _)))<|⟨by rw [climb_one' (d:=d) (a:=a) (n:=n) (p:=p) (by omega),leafD],eX⟩
 refine C.cf<|wp_skip<|G _ _<|wr fun G G=>C.xm rfl fun _ C=>have J:=half_lt (n:=n) (by omega);have J:=half_pos n;C.xE (c:=rhalf_any n _ (by omega) (by omega)) (k:=fun C M C _ C=>C.xa rfl fun _ C=>wn G<|wp_seq_k fun G V=>?_)
 have G:0<p.length:=by
  by_cases hq:a<half n
  ·exact (climb_first' (d:=d) (by omega) hq hp rfl).2.2
  ·exact (climb_second' (d:=d) (by omega) hq hp rfl).2.2
 refine wp_region_lit<|C.xm rfl<|Xm rfl<|Xv (vi p.length)<|Xw (vi (p.length - 1:Nat)) (fun F=>rn_subN (a:=p.length) (b:=1) (F.get rfl) rfl (by omega) (by omega)) fun _ J=>?_
 have C:=hc.ux M
 obtain ⟨M,Y,G,-⟩:=Fl.at C (by omega)
 refine J.xw (.pointer (some ⟨M,Y+(p.length - 1)*32,none⟩)) (fun F=>rn_indexE uu30 inf29 ((F.get rfl).trans (by rw [G])) (F.get rfl) (by omega:(0:Int)≤(p.length - 1:Nat)) (by omega:((p.length - 1:Nat):Int)<(p.length:Int)) (by omega))<|Xw (.agg (byteVals (p.getD (p.length - 1) [])).toArray) (fun F=>rn_loadN (cs:=byteVals (p.getD (p.length - 1) [])) (F.get rfl) uu29 rfl (sk inf29 (byteVals_len (dig_len h32 (p.length - 1) (by omega)))) (Fl.digAt C G h32 (by omega))) fun _ C=>C.xz (byteVals (List.replicate 32 0)) 29 fun J C _ C G G G M=>?_
 refine C.xs rfl G (fun G Y G=>?_) (hk:=byteVals_len (dig_len h32 (p.length - 1) (by omega)));have M:=G.size
 refine wn V<|have G:=C.k [0,1,2,3,4,8,12,9,10];wp_seq_k fun C C=>wr fun M M=>G.xm rfl<|Xm rfl<|Xv (vd ((a:Int)<((half n:Nat):Int))) fun _ G=>wn M ?_
 by_cases M:(a:Int)<((half n:Nat):Int)
 ·refine G.ct<|wp_seq_k fun C Z=>sX (fun C W=>Ext C W∧Blk W D 29 (byteVals d)∧Blk W J 29 (byteVals (p.getD (p.length - 1) []))∧Blk W I 29 (byteVals (List.replicate 32 0))) (fun i=>i==11) 12 fun C M V=>have V:=U.ux M;have U:=(Y.ext M);have Y:=O.ux M;have O:Ext C C∧Blk C D 29 (byteVals d)∧Blk C J 29 (byteVals (p.getD (p.length - 1) []))∧Blk C I 29 (byteVals (List.replicate 32 0)):=⟨(Ext.refl C),V,U,Y⟩;G.ys 0 (.agg (byteVals d).toArray) rfl O (fun F W hW=>rb F rfl hW.2.1 (hk:=byteVals_len hd))<|Ym 1 rfl<|Ym 2 rfl<|Ym 3 rfl<|Ym 4 rfl<|Yv 5 (vi p.length) rfl<|Yw 6 (vi (p.length - 1:Nat)) rfl (fun F W=>rn_subN (a:=p.length) (b:=1) (F.get rfl) rfl (by omega) (by omega))<|Yw 7 (vl A (p.length - 1) c) rfl (fun F W=>rn_sliceHi uu30 inf29 (F.get rfl) (F.get rfl) (by omega:(0:Int)≤(p.length - 1:Nat)) (by omega:((p.length - 1:Nat):Int)≤(c:Int)))<|Ys 9 (.agg (byteVals (p.getD (p.length - 1) [])).toArray) rfl O (fun F W hW=>rb F rfl hW.2.2.1 (hk:=byteVals_len (dig_len h32 (p.length - 1) (by omega)))) fun _ C=>ao 8 rfl<|have D:=(hc.ux M);have G:=(Fl.take_eq (j:=(p.length - 1)) D (by omega) (digVals_take h32 _));have hcl120:=climb_first' (d:=d) (a:=a) (n:=n) (p:=p) (m:=p.length) (by omega) (by omega) hp rfl;C.oE (c:=ih a (half n) (p.take (p.length - 1)) _ (All32.take h32 _) G hcl120.2.1 (by omega) (by omega) (by omega)) (k:=fun C C D _ D=>?_)
  have G:=V.ext C
  have I:=U.ext C
  have J:=Y.ext C
  refine ⟨fun _ _=>⟨eX,G,I,J⟩,?_⟩
  refine ao 10 rfl<|D.oE (c:=rnode_any (climbL nodeD leafD d a (half n) (p.take (p.length - 1))) (p.getD (p.length - 1) []) _ (climbL_len _ _ _ _) (dig_len h32 (p.length - 1) (by omega))) (k:=fun C C D _ D=>?_)
  have M:=G.ext C
  have O:=I.ext C
  have G:=J.ext C
  refine ⟨fun _ _=>⟨eX,M,O,G⟩,?_⟩
  refine ao 11 rfl (D.os rfl G (fun C G C=>an ?_) (hk:=byteVals_len (nodeD_len _ _)));have I:=C.size
  exact nK Z<|have C:=D.k [0,1,2,3,4,8,12,9,10,25];wp_ret<|ret_then<|retC C rfl rfl G uu29 rfl (sk inf29 (byteVals_len (nodeD_len _ _)))<|⟨by rw [hcl120.1],eX⟩
 refine G.cf<|wp_skip<|C _ _<|wp_seq_k fun C Z=>sX (fun C W=>Ext C W∧Blk W J 29 (byteVals (p.getD (p.length - 1) []))∧Blk W D 29 (byteVals d)∧Blk W I 29 (byteVals (List.replicate 32 0))) (fun i=>i==15) 16 fun C M V=>have V:=(Y.ext M);have Y:=U.ux M;have U:=O.ux M;have O:Ext C C∧Blk C J 29 (byteVals (p.getD (p.length - 1) []))∧Blk C D 29 (byteVals d)∧Blk C I 29 (byteVals (List.replicate 32 0)):=⟨(Ext.refl C),V,Y,U⟩;G.ys 0 (.agg (byteVals (p.getD (p.length - 1) [])).toArray) rfl O (fun F W hW=>rb F rfl hW.2.1 (hk:=byteVals_len (dig_len h32 (p.length - 1) (by omega))))<|Ys 1 (.agg (byteVals d).toArray) rfl O (fun F W hW=>rb F rfl hW.2.2.1 (hk:=byteVals_len hd))<|Ym 2 rfl<|Ym 3 rfl<|Yw 4 (vi (a - (half n):Nat)) rfl (fun F W=>rn_subN (a:=a) (b:=half n) (F.get rfl) (F.get rfl) (by omega) (by omega))<|Ym 5 rfl<|Ym 6 rfl<|Yw 7 (vi (n - (half n):Nat)) rfl (fun F W=>rn_subN (a:=n) (b:=half n) (F.get rfl) (F.get rfl) (by omega) (by omega))<|Ym 8 rfl<|Ym 9 rfl<|Yv 10 (vi p.length) rfl<|Yw 11 (vi (p.length - 1:Nat)) rfl (fun F W=>rn_subN (a:=p.length) (b:=1) (F.get rfl) rfl (by omega) (by omega))<|Yw 12 (vl A (p.length - 1) c) rfl (fun F W=>rn_sliceHi uu30 inf29 (F.get rfl) (F.get rfl) (by omega:(0:Int)≤(p.length - 1:Nat)) (by omega:((p.length - 1:Nat):Int)≤(c:Int))) fun _ C=>ao 13 rfl<|have D:=(hc.ux M);have G:=(Fl.take_eq (j:=(p.length - 1)) D (by omega) (digVals_take h32 _));have hcl179:=climb_second' (d:=d) (a:=a) (n:=n) (p:=p) (m:=p.length) (by omega) (by omega) hp rfl;C.oE (c:=ih (a - (half n)) (n - (half n)) (p.take (p.length - 1)) _ (All32.take h32 _) G hcl179.2.1 (by omega) (by omega) (by omega)) (k:=fun C C D _ D=>?_)
 have G:=V.ext C
 have I:=Y.ext C
 have J:=U.ext C
 refine ⟨fun _ _=>⟨eX,G,I,J⟩,?_⟩
 refine ao 14 rfl<|D.oE (c:=rnode_any (p.getD (p.length - 1) []) (climbL nodeD leafD d (a - (half n)) (n - (half n)) (p.take (p.length - 1))) _ (dig_len h32 (p.length - 1) (by omega)) (climbL_len _ _ _ _)) (k:=fun C C D _ D=>?_)
 have M:=G.ext C
 have O:=I.ext C
 have G:=J.ext C
 refine ⟨fun _ _=>⟨eX,M,O,G⟩,?_⟩
 refine ao 15 rfl (D.os rfl G (fun C G C=>an ?_) (hk:=byteVals_len (nodeD_len _ _)));have I:=C.size
 exact nK Z<|have C:=D.k [0,1,2,3,4,8,12,9,10,25];wp_ret<|retC C rfl rfl G uu29 rfl (sk inf29 (byteVals_len (nodeD_len _ _)))<|⟨by rw [hcl179.1],eX⟩
theorem rclimb_at (d:List UInt8) (a n:Int) (p:List (List UInt8)) (w:World) {m:Nat} {v:Value} (hd:d.length=32) (h32:All32 p) (hf:Fl S w 32 v m (digVals p)) (hp:p.length=(dirs a.toNat n.toNat).length) (h0:0≤a) (h1:a<n) (h2:n≤4611686018427387904) :
  Calls Tryz.prog 108 #[.agg (byteVals d).toArray,.int .i64 a,.int .i64 n,v] w (fun e w'=>e=.returned (.agg (byteVals (climbL nodeD leafD d a.toNat n.toNat p)).toArray)∧Ext w w'):=by
 obtain ⟨an,rfl⟩:∃ an:Nat,a=(an:Int):=⟨a.toNat,by omega⟩
 obtain ⟨nn,rfl⟩:∃ nn:Nat,n=(nn:Int):=⟨n.toNat,by omega⟩
 exact rclimb_ind d hd _ an nn p S w h32 hf hp (by omega) (by omega) (Nat.lt_succ_self _)
theorem rClimb_any (d:List UInt8) (at_ n:Int) (A:Option Addr) (c:Nat) (p:List (List UInt8)) (w:World) (hd:d.length=32) (h32:All32 p) (hf:Fl S w 32 (vl A p.length c) p.length (digVals p)) :
  Calls Tryz.prog 84 #[.agg (byteVals d).toArray,.int .i64 at_,.int .i64 n,.slice A p.length c] w (fun e w'=>e=.returned (.tuple #[.agg (byteVals (climbF d at_ n p).1).toArray,.int .i64 (climbF d at_ n p).2])∧Ext w w'):=by
 have hc:Fl (Clip S w) w 32 (vl A p.length c) p.length (digVals p):=hf.clip
 have hcc:=(Fl.cel hc).2.1
 refine calls_enter Tryz.func84 rfl rfl rfl fun _ C=>wr fun D I=>C.xb rfl fun C C _ C D D J D=>C.xz (byteVals (List.replicate 32 0)) 29 fun C C _ D C C C G=>D.xv (vi 0) fun _ G=>wn I<|wp_seq_k fun D M=>wr fun D D=>G.xm rfl<|Xv (vd ((n:Int)<(1:Int)))<|Xm rfl fun _ G=>?_
 by_cases I:(n:Int)<(1:Int)
 ·refine G.xu<|Xu<|Xv (.bool true)<|Xm rfl<|Xu<|Xu<|Xv (.bool true)<|Xm rfl<|Xu<|Xu<|Xu<|Xv (.bool true)<|Xm rfl<|Xu<|Xu<|Xu<|Xu<|Xu<|Xu<|Xv (.bool true) fun _ G=>wn D<|have D:=G.k [0,1,2,3,4,8,9,32];D.ct<|wr fun G I=>D.xw (.agg (byteVals (List.replicate 32 0)).toArray) (fun F=>rn_build parts0 (by kernel_rfl)) fun _ D=>?_
  refine D.xs rfl C (fun C G C=>?_) (hk:=byteVals_len (show List.length (List.replicate 32 0)=_ from List.length_replicate));have J:=C.size
  refine D.xv (vi 1) fun _ C=>wn I<|wp_ret<|ret_then ?_
  refine retC1 C rfl rfl rfl G uu29 rfl (sk inf29 (byteVals_len (show List.length (List.replicate 32 0)=_ from List.length_replicate))) ?_
  have hcl:climbF d at_ n p=(zero32,1):=by rw [climbF,if_pos (by omega)]
  exact ⟨by rw [hcl];rfl,eX⟩
 refine G.xg (vi n)<|Xg (vd ((1099511627776:Int)<(n:Int)))<|Xv (vd ((1099511627776:Int)<(n:Int)))<|Xm rfl<|fun _ G=>?_
 by_cases I:(1099511627776:Int)<(n:Int)
 ·refine G.xu<|Xu<|Xv (.bool true)<|Xm rfl<|Xu<|Xu<|Xu<|Xv (.bool true)<|Xm rfl<|Xu<|Xu<|Xu<|Xu<|Xu<|Xu<|Xv (.bool true) fun _ G=>wn D<|have D:=G.k [0,1,2,3,4,8,9,32];D.ct<|wr fun G I=>D.xw (.agg (byteVals (List.replicate 32 0)).toArray) (fun F=>rn_build parts0 (by kernel_rfl)) fun _ D=>?_
  refine D.xs rfl C (fun C G C=>?_) (hk:=byteVals_len (show List.length (List.replicate 32 0)=_ from List.length_replicate));have J:=C.size
  refine D.xv (vi 1) fun _ C=>wn I<|wp_ret<|ret_then ?_
  refine retC1 C rfl rfl rfl G uu29 rfl (sk inf29 (byteVals_len (show List.length (List.replicate 32 0)=_ from List.length_replicate))) ?_
  have hcl:climbF d at_ n p=(zero32,1):=by rw [climbF,if_pos (by omega)]
  exact ⟨by rw [hcl];rfl,eX⟩
 refine G.xg (vi at_)<|Xg (vd ((at_:Int)<(0:Int)))<|Xv (vd ((at_:Int)<(0:Int)))<|Xm rfl<|fun _ G=>?_
 by_cases I:(at_:Int)<(0:Int)
 ·refine G.xu<|Xu<|Xu<|Xv (.bool true)<|Xm rfl<|Xu<|Xu<|Xu<|Xu<|Xu<|Xu<|Xv (.bool true) fun _ G=>wn D<|have D:=G.k [0,1,2,3,4,8,9,32];D.ct<|wr fun G I=>D.xw (.agg (byteVals (List.replicate 32 0)).toArray) (fun F=>rn_build parts0 (by kernel_rfl)) fun _ D=>?_
  refine D.xs rfl C (fun C G C=>?_) (hk:=byteVals_len (show List.length (List.replicate 32 0)=_ from List.length_replicate));have J:=C.size
  refine D.xv (vi 1) fun _ C=>wn I<|wp_ret<|ret_then ?_
  refine retC1 C rfl rfl rfl G uu29 rfl (sk inf29 (byteVals_len (show List.length (List.replicate 32 0)=_ from List.length_replicate))) ?_
  have hcl:climbF d at_ n p=(zero32,1):=by rw [climbF,if_pos (by omega)]
  exact ⟨by rw [hcl];rfl,eX⟩
 refine G.xg (vi at_)<|Xg (vi n)<|Xg (vd ((n:Int)≤(at_:Int)))<|Xv (vd ((n:Int)≤(at_:Int)))<|Xm rfl<|fun _ G=>?_
 by_cases I:(n:Int)≤(at_:Int)
 ·refine G.xu<|Xu<|Xu<|Xu<|Xu<|Xu<|Xv (.bool true) fun _ G=>wn D<|have D:=G.k [0,1,2,3,4,8,9,32];D.ct<|wr fun G I=>D.xw (.agg (byteVals (List.replicate 32 0)).toArray) (fun F=>rn_build parts0 (by kernel_rfl)) fun _ D=>?_
  refine D.xs rfl C (fun C G C=>?_) (hk:=byteVals_len (show List.length (List.replicate 32 0)=_ from List.length_replicate));have J:=C.size
  refine D.xv (vi 1) fun _ C=>wn I<|wp_ret<|ret_then ?_
  refine retC1 C rfl rfl rfl G uu29 rfl (sk inf29 (byteVals_len (show List.length (List.replicate 32 0)=_ from List.length_replicate))) ?_
  have hcl:climbF d at_ n p=(zero32,1):=by rw [climbF,if_pos (by omega)]
  exact ⟨by rw [hcl];rfl,eX⟩
 refine G.xg (vl A p.length c)<|Xg (vi p.length)<|Xg (vi at_)<|Xg (vi n) fun _ G=>wpl_op (i:=20) rfl (G.gE (c:=rlength_at at_ n _ (by omega) (by omega) (by omega)) (k:=fun G G I _ I=>I.xg (vd ((p.length:Int)≠(((dirs at_.toNat n.toNat).length:Nat):Int)))<|Xv (vd ((p.length:Int)≠(((dirs at_.toNat n.toNat).length:Nat):Int))) fun _ I=>wn D ?_))
 have D:=I.k [0,1,2,3,4,8,9,32]
 by_cases I:(p.length:Int)≠(((dirs at_.toNat n.toNat).length:Nat):Int)
 ·refine D.ct<|wr fun I J=>D.xw (.agg (byteVals (List.replicate 32 0)).toArray) (fun F=>rn_build parts0 (by kernel_rfl)) fun _ D=>?_
  have I:=C.ext G
  refine D.xs rfl I (fun C G C=>?_) (hk:=byteVals_len (show List.length (List.replicate 32 0)=_ from List.length_replicate));have I:=C.size
  refine D.xv (vi 1) fun _ C=>wn J<|wp_ret<|ret_then ?_
  refine retC1 C rfl rfl rfl G uu29 rfl (sk inf29 (byteVals_len (show List.length (List.replicate 32 0)=_ from List.length_replicate))) ?_
  have hcl:climbF d at_ n p=(zero32,1):=by rw [climbF,if_pos (by omega)]
  exact ⟨by rw [hcl];rfl,eX⟩
 refine D.cf<|wp_skip<|M _ _<|wr fun I M=>have I:=J.ux G;D.xw (.agg (byteVals d).toArray) (fun F=>rb F rfl I (hk:=byteVals_len hd))<|Xm rfl<|Xm rfl<|Xm rfl fun _ D=>have I:=(hc.ux G);D.xE (c:=rclimb_at d at_ n p _ hd h32 I (by omega) (by omega) (by omega) (by omega)) (k:=fun D I D _ D=>?_)
 have G:=C.ux I
 refine D.xs rfl G (fun C G C=>?_) (hk:=byteVals_len (climbL_len _ _ _ _));have I:=C.size
 refine D.xv (vi 0) fun _ C=>wn M<|have D:=C.k [0,1,2,3,4,8,9,32];wp_ret ?_
 refine retC1 D rfl rfl rfl G uu29 rfl (sk inf29 (byteVals_len (climbL_len _ _ _ _))) ?_
 have hcl:climbF d at_ n p=(climbL nodeD leafD d at_.toNat n.toNat p,0):=by rw [climbF,if_neg (by omega)]
 exact ⟨by rw [hcl],eX⟩
theorem rClimb_at (d:List UInt8) (at_ n:Int) (p:List (List UInt8)) (w:World) (hd:d.length=32) (h32:All32 p) (hf:Fl S w 32 v m (digVals p)):Calls Tryz.prog 84 #[.agg (byteVals d).toArray,.int .i64 at_,.int .i64 n,v] w (fun e w'=>e=.returned (.tuple #[.agg (byteVals (climbF d at_ n p).1).toArray,.int .i64 (climbF d at_ n p).2])∧Ext w w'):=by
 have hm:=Fl.dlen hf h32
 subst hm
 obtain ⟨A,c,rfl,_⟩:=hf.form
 exact rClimb_any d at_ n A c p w hd h32 hf
theorem valid_any (A:Option Addr) (c:Nat) (sd:List UInt8) (many used:Int) (w:World) (hf:Fl S w 1 (vl A sd.length c) sd.length (byteVals sd)) :
  Calls Tryz.prog 52 #[.agg #[.slice A sd.length c,.int .i64 many,.int .i64 used]] w (fun e w'=>e=.returned (.bool (kOk sd many used))∧Ext w w'):=by
 have hc:Fl (Clip S w) w 1 (vl A sd.length c) sd.length (byteVals sd):=hf.clip
 have hcc:=(Fl.cel hc).2.1
 refine calls_enter Tryz.func52 rfl rfl rfl fun _ C=>wr fun D J=>C.xb rfl fun D C _ G C C C I=>G.xv (.bool false) fun _ I=>wn J<|wr fun G G=>I.xv (vp D)<|Xw (vl A sd.length c) (fun F=>rl F rfl (C.rule.1 0))<|Xv (vi sd.length)<|Xv (vd ((1:Int)≤(sd.length:Int)))<|Xm rfl fun _ I=>?_
 by_cases J:(1:Int)≤(sd.length:Int)
 ·refine I.xg (vp D)<|Xgw (vl A sd.length c) (fun F=>rl F rfl (C.rule.1 0))<|Xg (vi sd.length)<|Xg (vd ((sd.length:Int)≤(64:Int)))<|Xv (vd ((sd.length:Int)≤(64:Int)))<|Xm rfl<|fun _ I=>?_
  by_cases J:(sd.length:Int)≤(64:Int)
  ·refine I.xg (vq D 1)<|Xgw (vi many) (fun F=>rl F rfl (C.rule.1 1))<|Xg (vd ((1:Int)≤(many:Int)))<|Xv (vd ((1:Int)≤(many:Int)))<|Xm rfl<|fun _ I=>?_
   by_cases J:(1:Int)≤(many:Int)
   ·refine I.xg (vq D 1)<|Xgw (vi many) (fun F=>rl F rfl (C.rule.1 1))<|Xg (vd ((many:Int)≤(4096:Int)))<|Xv (vd ((many:Int)≤(4096:Int)))<|Xm rfl<|fun _ I=>?_
    by_cases J:(many:Int)≤(4096:Int)
    ·refine I.xg (vq D 2)<|Xgw (vi used) (fun F=>rl F rfl (C.rule.1 2))<|Xg (vd ((0:Int)≤(used:Int)))<|Xv (vd ((0:Int)≤(used:Int)))<|Xm rfl<|fun _ I=>?_
     by_cases J:(0:Int)≤(used:Int)
     ·exact I.xg (vq D 2)<|Xgw (vi used) (fun F=>rl F rfl (C.rule.1 2))<|Xg (vq D 1)<|Xgw (vi many) (fun F=>rl F rfl (C.rule.1 1))<|Xg (vd ((used:Int)≤(many:Int)))<|Xv (vd ((used:Int)≤(many:Int)))<|Xa rfl fun _ C=>wn G<|have D:=C.k [0,1,2];wp_ret<|ret1 D rfl rfl<|⟨congrArg (fun b=>Ending.returned (.bool b)) (show (decide ((used:Int)≤(many:Int)))=kOk sd many used from by unfold kOk;exact decide_eq_decide.2 ⟨fun h=>by omega,fun h=>by omega⟩),eX⟩
     exact I.xu<|Xu<|Xu<|Xu<|Xu<|Xv (.bool false)<|Xa rfl fun _ C=>wn G<|have D:=C.k [0,1,2];wp_ret<|ret1 D rfl rfl<|⟨by rw [kOk,decide_eq_false (by omega)],eX⟩
    exact I.xu<|Xu<|Xu<|Xv (.bool false)<|Xm rfl<|Xu<|Xu<|Xu<|Xu<|Xu<|Xv (.bool false)<|Xa rfl fun _ C=>wn G<|have D:=C.k [0,1,2];wp_ret<|ret1 D rfl rfl<|⟨by rw [kOk,decide_eq_false (by omega)],eX⟩
   exact I.xu<|Xu<|Xu<|Xv (.bool false)<|Xm rfl<|Xu<|Xu<|Xu<|Xv (.bool false)<|Xm rfl<|Xu<|Xu<|Xu<|Xu<|Xu<|Xv (.bool false)<|Xa rfl fun _ C=>wn G<|have D:=C.k [0,1,2];wp_ret<|ret1 D rfl rfl<|⟨by rw [kOk,decide_eq_false (by omega)],eX⟩
  exact I.xu<|Xu<|Xu<|Xv (.bool false)<|Xm rfl<|Xu<|Xu<|Xu<|Xv (.bool false)<|Xm rfl<|Xu<|Xu<|Xu<|Xv (.bool false)<|Xm rfl<|Xu<|Xu<|Xu<|Xu<|Xu<|Xv (.bool false)<|Xa rfl fun _ C=>wn G<|have D:=C.k [0,1,2];wp_ret<|ret1 D rfl rfl<|⟨by rw [kOk,decide_eq_false (by omega)],eX⟩
 exact I.xu<|Xu<|Xu<|Xu<|Xv (.bool false)<|Xm rfl<|Xu<|Xu<|Xu<|Xv (.bool false)<|Xm rfl<|Xu<|Xu<|Xu<|Xv (.bool false)<|Xm rfl<|Xu<|Xu<|Xu<|Xv (.bool false)<|Xm rfl<|Xu<|Xu<|Xu<|Xu<|Xu<|Xv (.bool false)<|Xa rfl fun _ C=>wn G<|have D:=C.k [0,1,2];wp_ret<|ret1 D rfl rfl<|⟨by rw [kOk,decide_eq_false (by omega)],eX⟩
theorem valid_at (sd:List UInt8) (many used:Int) (w:World) (hf:Fl S w 1 v m (byteVals sd)) :
  Calls Tryz.prog 52 #[.agg #[v,.int .i64 many,.int .i64 used]] w (fun e w'=>e=.returned (.bool (kOk sd many used))∧Ext w w'):=by
 have hm:=hf.blen
 subst hm
 obtain ⟨A,c,rfl,_⟩:=hf.form
 exact valid_any A c sd many used w hf
theorem two_any (n:Nat) (w:World) (hn:n<65536) :
  Calls Tryz.prog 101 #[.int .i64 (n:Nat)] w (fun e w'=>∃ A c,e=.returned (vl A 2 c)∧Fl (fun b=>w.heap.size≤b) w' 1 (vl A 2 c) 2 (byteVals (two n))∧Ext w w'):=by
 exact calls_enter Tryz.func101 rfl rfl rfl fun _ C=>wr fun D D=>C.xv v0 fun _ C=>wn D<|wr fun D D=>C.xm rfl<|Xw (vi (n / 256:Nat)) (fun F=>rn_shrN (a:=n) (n:=8) (m:=n / 256) (F.get rfl) rfl (by omega) (by rw [show 2 ^ 8=256 from rfl]))<|Xw (.int .u8 ((UInt8.ofNat (n / 256)).toNat:Nat)) (fun F=>rn_convW uu3 uu5 (F.get rfl) (cvi_8 (n / 256)))<|Xm rfl<|Xw (.int .u8 ((UInt8.ofNat n).toNat:Nat)) (fun F=>rn_convW uu3 uu5 (F.get rfl) (cvi_8 n)) fun _ C=>C.xn (fun g=>(vl (some ⟨g,0,none⟩) 2 2)) [(.int .u8 ((UInt8.ofNat (n / 256)).toNat:Nat)),(.int .u8 ((UInt8.ofNat n).toNat:Nat))] 5 (fun F=>rn_buildSlice (parts2 (F.get rfl) (F.get rfl)) (by kernel_rfl)) fun I C _ C G G G J=>C.xa rfl fun _ C=>wn D<|have D:=C.k [0,2];wp_ret<|ret1 D rfl rfl<|⟨_,_,rfl,(Fl.sub (Fl.blk (S:=fun b=>b=I) (k:=1) (n:=2) (c:=2) (cs:=byteVals [(UInt8.ofNat (n / 256)),(UInt8.ofNat n)]) G rfl (byteVals_one _) (by omega) rfl) (fun b hb=>by omega)),eX⟩
theorem rtwo_any (n:Nat) (w:World) (hn:n<65536) :
  Calls Tryz.prog 105 #[.int .i64 (n:Nat)] w (fun e w'=>∃ A c,e=.returned (vl A 2 c)∧Fl (fun b=>w.heap.size≤b) w' 1 (vl A 2 c) 2 (byteVals (two n))∧Ext w w'):=by
 exact calls_enter Tryz.func105 rfl rfl rfl fun _ C=>wr fun D D=>C.xv v0 fun _ C=>wn D<|wr fun D D=>C.xm rfl<|Xw (vi (n / 256:Nat)) (fun F=>rn_shrN (a:=n) (n:=8) (m:=n / 256) (F.get rfl) rfl (by omega) (by rw [show 2 ^ 8=256 from rfl]))<|Xw (.int .u8 ((UInt8.ofNat (n / 256)).toNat:Nat)) (fun F=>rn_convW uu3 uu5 (F.get rfl) (cvi_8 (n / 256)))<|Xm rfl<|Xw (.int .u8 ((UInt8.ofNat n).toNat:Nat)) (fun F=>rn_convW uu3 uu5 (F.get rfl) (cvi_8 n)) fun _ C=>C.xn (fun g=>(vl (some ⟨g,0,none⟩) 2 2)) [(.int .u8 ((UInt8.ofNat (n / 256)).toNat:Nat)),(.int .u8 ((UInt8.ofNat n).toNat:Nat))] 5 (fun F=>rn_buildSlice (parts2 (F.get rfl) (F.get rfl)) (by kernel_rfl)) fun I C _ C G G G J=>C.xa rfl fun _ C=>wn D<|have D:=C.k [0,2];wp_ret<|ret1 D rfl rfl<|⟨_,_,rfl,(Fl.sub (Fl.blk (S:=fun b=>b=I) (k:=1) (n:=2) (c:=2) (cs:=byteVals [(UInt8.ofNat (n / 256)),(UInt8.ofNat n)]) G rfl (byteVals_one _) (by omega) rfl) (fun b hb=>by omega)),eX⟩
theorem open_any (d:List UInt8) (w:World) (hd:d.length=32) (hG:Glob w) :
  Calls Tryz.prog 81 #[.agg (byteVals d).toArray] w (fun e w'=>e=.returned (.agg (byteVals (openD d)).toArray)∧Ext w w'):=by
 refine calls_enter Tryz.func81 rfl rfl rfl fun _ C=>wr fun D I=>C.xb rfl fun C D _ D G G J G=>D.xz (byteVals (List.replicate 32 0)) 29 fun D D _ D G G G O=>wn I<|wr fun I M=>D.xw (vl (some ⟨C,0,none⟩) 32 32) (fun F=>rn_arrAll uu29 inf5 (F.get rfl)) fun _ D=>have I:=(J.ext O);D.xE (c:=tagged_at ([111,112,101,110]) (v:=(vl (some ⟨C,0,none⟩) 32 32)) (n:=32) d _ (Fl.blk (S:=fun b=>b=C) (k:=1) (n:=32) (c:=32) I (by rw [byteVals_len hd,Nat.mul_one]) (byteVals_one _) (by omega) rfl) (hG.ext eX) (by simp <;> omega) (by omega)) (k:=fun C I C _ C=>?_)
 have D:=G.ext I
 refine C.xs rfl D (fun D D G=>?_) (hk:=byteVals_len (tagged_len _ _));have I:=G.size
 exact wn M<|wp_ret<|retC C rfl rfl D uu29 rfl (sk inf29 (byteVals_len (tagged_len _ _)))<|⟨rfl,eX⟩
theorem rhash_any (d:List UInt8) (w:World) (hd:d.length=32) :
  Calls Tryz.prog 75 #[.agg (byteVals d).toArray] w (fun e w'=>e=.returned (.agg (byteVals (openD d)).toArray)∧Ext w w'):=by
 refine calls_enter Tryz.func75 rfl rfl rfl fun _ C=>wr fun D I=>C.xb rfl fun C D _ D G G J G=>D.xz (byteVals (List.replicate 32 0)) 29 fun D D _ D G G G O=>wn I<|wr fun I M=>D.xw (vl (some ⟨C,0,none⟩) 32 32) (fun F=>rn_arrAll uu29 inf5 (F.get rfl)) fun _ D=>have I:=(J.ext O);D.xE (c:=rtagged_at ([111,112,101,110]) (v:=(vl (some ⟨C,0,none⟩) 32 32)) (n:=32) d _ (Fl.blk (S:=fun b=>b=C) (k:=1) (n:=32) (c:=32) I (by rw [byteVals_len hd,Nat.mul_one]) (byteVals_one _) (by omega) rfl) (by decide) (by omega)) (k:=fun C I C _ C=>?_)
 have D:=G.ext I
 refine C.xs rfl D (fun D D G=>?_) (hk:=byteVals_len (tagged_len _ _));have I:=G.size
 exact wn M<|wp_ret<|retC C rfl rfl D uu29 rfl (sk inf29 (byteVals_len (tagged_len _ _)))<|⟨rfl,eX⟩
theorem secret_any (A:Option Addr) (c:Nat) (sd:List UInt8) (i j:Nat) (b:Bool) (w:World) (hf:Fl S w 1 (vl A sd.length c) sd.length (byteVals sd)) (hG:Glob w) (hsd:sd.length≤4194304) (hi:i<65536) (hj:j<256) :
  Calls Tryz.prog 64 #[.agg #[.slice A sd.length c,.int .i64 (i:Nat)],.int .i64 (j:Nat),.bool b] w (fun e w'=>e=.returned (.agg (byteVals (secretD sd i j b)).toArray)∧Ext w w'):=by
 have hc:Fl (Clip S w) w 1 (vl A sd.length c) sd.length (byteVals sd):=hf.clip
 have hcc:=(Fl.cel hc).2.1
 refine calls_enter Tryz.func64 rfl rfl rfl fun _ G=>wr fun J J=>G.xb rfl fun D G _ G V V U V=>G.xz (byteVals (List.replicate 32 0)) 29 fun I G _ G V V O V=>wn J<|wr fun J J=>G.xv (.int .u8 0) fun _ G=>wn J<|wp_seq_k fun J aj=>wr fun J J=>G.xm rfl fun _ M=>wn J ?_
 rcases Bool.eq_false_or_eq_true b with ab | ab
 ·refine M.ct<|wp_region_lit<|M.xv (.int .u8 1) fun _ av=>wn aj<|wp_seq_k fun G az=>sX (fun C W=>Ext C W∧Blk W D 97 [(vl A sd.length c),(vi (i:Nat))]∧Blk W I 29 (byteVals (List.replicate 32 0))) (fun i=>i==12) 13 fun C al G=>?_
  refine any_have (n1:=4) (L1:=#[true,true,true,true,true,true,true,true,true,false,false,false,false]) (fun a' W=>∃ (J:Option Addr) (V:Nat) (G:Nat),Sl 21 [(0,(.agg #[(vl A sd.length c),(vi (i:Nat))])),(1,(vi j)),(2,(.bool b)),(3,(vp D)),(6,(vp I)),(7,(.int .u8 1)),(8,(.bool b)),(10,(vl A sd.length c)),(13,(vl J 2 V)),(17,(vl (some ⟨G,0,none⟩) 2 2))] a'∧Ext C W∧Blk W G 5 [(.int .u8 ((UInt8.ofNat j).toNat:Nat)),(.int .u8 1)]∧C.heap.size≤G∧Fl (fun b=>C.heap.size≤b) W 1 (vl J 2 V) 2 (byteVals (two i))) ?_ (fun am=>?_)
  ·rintro G G ⟨J,V,G,ah,ai,ac,Y,Y⟩
   have ar:=ai.size
   have ai:=ac.lt
   have ai:=(Fl.cel Y).2.1
   have ai:=Fl.blen Y
   refine ao 9 rfl (ah.on (fun g=>(vl (some ⟨g,0,none⟩) 3 3)) [(vl A sd.length c),(vl J 2 V),(vl (some ⟨G,0,none⟩) 2 2)] 22 rfl (fun F=>rn_buildSlice (parts3 (F.get rfl) (F.get rfl) (F.get rfl)) (by kernel_rfl)) fun J J _ ar J J aw J=>?_)
   have ae:=U.ux J
   have ag:=O.ux J
   refine ⟨fun _ _=>⟨eX,ae,ag⟩,?_⟩
   refine ao 10 rfl ?_
   have ah:=hc.ux J
   have ai:=Y.ext J
   have V:=ac.ext J
   have hn148:=Fl.blen ah
   have hn149:=Fl.blen ai
   have hn150:=Fl.blen (Fl.blk (S:=fun b=>b=G) (k:=1) (n:=2) (c:=2) (cs:=byteVals [(UInt8.ofNat j),(1:UInt8)]) V rfl (byteVals_one _) (by omega) rfl)
   have hn151:([sd,two i,[(UInt8.ofNat j),(1:UInt8)]]).flatten.length=sd.length+2+2:=by simp only [List.flatten_cons,List.flatten_nil,List.length_append,List.length_nil];omega
   refine ar.oC (c:=concat_at [sd,two i,[(UInt8.ofNat j),(1:UInt8)]] _ (RBss.three aw ah ai (Fl.blk (S:=fun b=>b=G) (k:=1) (n:=2) (c:=2) (cs:=byteVals [(UInt8.ofNat j),(1:UInt8)]) V rfl (byteVals_one _) (by omega) rfl)) hn151 (by omega)) (k:=?_)
   rintro _ G ⟨aq,ay,rfl,ak,Z⟩
   rw [show ([sd,two i,[(UInt8.ofNat j),(1:UInt8)]]).flatten=sd++(two i)++([(UInt8.ofNat j),(1:UInt8)]) from by simp] at ak
   refine ⟨_,rfl,?_⟩;intro G V;have G:=Z.size
   have G:=ae.ext Z
   have J:=ag.ext Z
   refine ⟨fun _ _=>⟨eX,G,J⟩,?_⟩
   refine ao 11 rfl<|V.oE (c:=tagged_at ([115,101,99,114,101,116]) (v:=(vl aq (sd.length+2+2) ay)) (n:=(sd.length+2+2)) (sd++(two i)++([(UInt8.ofNat j),(1:UInt8)])) _ ak (hG.ext eX) (by simp <;> omega) (by omega)) (k:=fun V V Y _ aa=>?_)
   have Y:=G.ext V
   have G:=J.ext V
   refine ⟨fun _ _=>⟨eX,Y,G⟩,?_⟩
   refine ao 12 rfl (aa.os rfl G (fun G ax G=>an ?_) (hk:=byteVals_len (tagged_len _ _)));have J:=G.size
   exact nK az<|have au:=aa.k [0,1,2,3,6,7,8];wp_ret<|retC au rfl rfl ax uu29 rfl (sk inf29 (byteVals_len (tagged_len _ _)))<|⟨by subst ab;rfl,eX⟩
  refine av.yv 0 (vp D) rfl fun _ J=>have Z:=U.ux al;have aa:=(O.ext al);have G:Ext C C∧Blk C D 97 [(vl A sd.length c),(vi (i:Nat))]∧Blk C I 29 (byteVals (List.replicate 32 0)):=⟨(Ext.refl C),Z,aa⟩;J.ys 1 (vl A sd.length c) rfl G (fun F W hW=>rl F rfl (hW.2.1.rule.1 0))<|Yv 2 (vq D 1) rfl<|Ys 3 (vi (i:Nat)) rfl G (fun F W hW=>rl F rfl (hW.2.1.rule.1 1))<|Ym 5 rfl<|Ys 6 (.int .u8 ((UInt8.ofNat j).toNat:Nat)) rfl G (fun F W hW=>rn_convW uu3 uu5 (F.get rfl) (cvi_8 j))<|Ym 7 rfl fun _ ae=>?_
  refine any_two (i:=4) (k:=8) (by decide +kernel) rfl rfl ?_ ?_
  ·refine ae.oC (c:=two_any i _ (by omega)) (k:=?_)
   rintro _ ai ⟨ac,ag,rfl,ah,Y⟩
   have D:=(Fl.cel ah).2.1
   refine ⟨_,rfl,?_⟩;intro D I;have D:=Y.size
   have U:Fl (Clip (fun b=>C.heap.size≤b) ai) ai 1 (vl ac 2 ag) 2 (byteVals (two i)):=ah.clip
   have D:=Z.ext Y
   have G:=aa.ext Y
   refine ⟨fun _ _=>⟨eX,D,G⟩,?_⟩
   refine ao 8 rfl (I.on (fun g=>(vl (some ⟨g,0,none⟩) 2 2)) [(.int .u8 ((UInt8.ofNat j).toNat:Nat)),(.int .u8 1)] 5 rfl (fun F=>rn_buildSlice (parts2 (F.get rfl) (F.get rfl)) (by kernel_rfl)) fun O C _ I C C J C=>?_)
   have M:=D.ext C
   have D:=G.ext C
   refine ⟨fun _ _=>⟨eX,M,D⟩,?_⟩
   have D:=U.ext C
   exact am _ _ ⟨ac,ag,O,I.j,eX,J,(by omega),(Fl.sub D (fun b hb=>by first | omega | (simp only [Clip] at hb;omega)))⟩
  refine ae.on (fun g=>(vl (some ⟨g,0,none⟩) 2 2)) [(.int .u8 ((UInt8.ofNat j).toNat:Nat)),(.int .u8 1)] 5 rfl (fun F=>rn_buildSlice (parts2 (F.get rfl) (F.get rfl)) (by kernel_rfl)) fun au aw _ G C C ar C=>?_
  have ag:=Z.ext C
  have ah:=aa.ext C
  refine ⟨fun _ _=>⟨eX,ag,ah⟩,?_⟩
  refine ao 4 rfl<|G.oC (c:=two_any i _ (by omega)) (k:= ?_)
  rintro _ aq ⟨ac,ai,rfl,ak,Y⟩
  have C:=(Fl.cel ak).2.1
  refine ⟨_,rfl,?_⟩;intro C C;have D:=Y.size
  have I:Fl (Clip (fun b=>aw.heap.size≤b) aq) aq 1 (vl ac 2 ai) 2 (byteVals (two i)):=ak.clip
  have D:=ag.ext Y
  have G:=ah.ext Y
  refine ⟨fun _ _=>⟨eX,D,G⟩,?_⟩
  have D:=ar.ext Y
  exact am _ _ ⟨ac,ai,au,C.j,eX,D,(by omega),(Fl.sub I (fun b hb=>by first | omega | (simp only [Clip] at hb;omega)))⟩
 refine M.cf<|wp_skip<|aj _ _<|wp_seq_k fun G ax=>sX (fun C W=>Ext C W∧Blk W D 97 [(vl A sd.length c),(vi (i:Nat))]∧Blk W I 29 (byteVals (List.replicate 32 0))) (fun i=>i==12) 13 fun C al G=>?_
 refine any_have (n1:=4) (L1:=#[true,true,true,true,true,true,true,true,true,false,false,false,false]) (fun a' W=>∃ (J:Option Addr) (V:Nat) (G:Nat),Sl 21 [(0,(.agg #[(vl A sd.length c),(vi (i:Nat))])),(1,(vi j)),(2,(.bool b)),(3,(vp D)),(6,(vp I)),(7,(.int .u8 0)),(8,(.bool b)),(10,(vl A sd.length c)),(13,(vl J 2 V)),(17,(vl (some ⟨G,0,none⟩) 2 2))] a'∧Ext C W∧Blk W G 5 [(.int .u8 ((UInt8.ofNat j).toNat:Nat)),(.int .u8 0)]∧C.heap.size≤G∧Fl (fun b=>C.heap.size≤b) W 1 (vl J 2 V) 2 (byteVals (two i))) ?_ (fun am=>?_)
 ·rintro G G ⟨J,V,G,ah,ai,ac,Y,Y⟩
  have aj:=ai.size
  have ai:=ac.lt
  have ai:=(Fl.cel Y).2.1
  have ai:=Fl.blen Y
  refine ao 9 rfl (ah.on (fun g=>(vl (some ⟨g,0,none⟩) 3 3)) [(vl A sd.length c),(vl J 2 V),(vl (some ⟨G,0,none⟩) 2 2)] 22 rfl (fun F=>rn_buildSlice (parts3 (F.get rfl) (F.get rfl) (F.get rfl)) (by kernel_rfl)) fun J J _ aj J J au J=>?_)
  have ae:=U.ux J
  have ag:=O.ux J
  refine ⟨fun _ _=>⟨eX,ae,ag⟩,?_⟩
  refine ao 10 rfl ?_
  have ah:=hc.ux J
  have ai:=Y.ext J
  have V:=ac.ext J
  have hn354:=Fl.blen ah
  have hn355:=Fl.blen ai
  have hn356:=Fl.blen (Fl.blk (S:=fun b=>b=G) (k:=1) (n:=2) (c:=2) (cs:=byteVals [(UInt8.ofNat j),(0:UInt8)]) V rfl (byteVals_one _) (by omega) rfl)
  have hn357:([sd,two i,[(UInt8.ofNat j),(0:UInt8)]]).flatten.length=sd.length+2+2:=by simp only [List.flatten_cons,List.flatten_nil,List.length_append,List.length_nil];omega
  refine aj.oC (c:=concat_at [sd,two i,[(UInt8.ofNat j),(0:UInt8)]] _ (RBss.three au ah ai (Fl.blk (S:=fun b=>b=G) (k:=1) (n:=2) (c:=2) (cs:=byteVals [(UInt8.ofNat j),(0:UInt8)]) V rfl (byteVals_one _) (by omega) rfl)) hn357 (by omega)) (k:=?_)
  rintro _ G ⟨aq,aw,rfl,ak,Z⟩
  rw [show ([sd,two i,[(UInt8.ofNat j),(0:UInt8)]]).flatten=sd++(two i)++([(UInt8.ofNat j),(0:UInt8)]) from by simp] at ak
  refine ⟨_,rfl,?_⟩;intro G V;have G:=Z.size
  have G:=ae.ext Z
  have J:=ag.ext Z
  refine ⟨fun _ _=>⟨eX,G,J⟩,?_⟩
  refine ao 11 rfl<|V.oE (c:=tagged_at ([115,101,99,114,101,116]) (v:=(vl aq (sd.length+2+2) aw)) (n:=(sd.length+2+2)) (sd++(two i)++([(UInt8.ofNat j),(0:UInt8)])) _ ak (hG.ext eX) (by simp <;> omega) (by omega)) (k:=fun V V Y _ aa=>?_)
  have Y:=G.ext V
  have G:=J.ext V
  refine ⟨fun _ _=>⟨eX,Y,G⟩,?_⟩
  refine ao 12 rfl (aa.os rfl G (fun G av G=>an ?_) (hk:=byteVals_len (tagged_len _ _)));have J:=G.size
  exact nK ax<|have ar:=aa.k [0,1,2,3,6,7,8];wp_ret<|retC ar rfl rfl av uu29 rfl (sk inf29 (byteVals_len (tagged_len _ _)))<|⟨by subst ab;rfl,eX⟩
 refine M.yv 0 (vp D) rfl fun _ J=>have Z:=U.ux al;have aa:=(O.ext al);have G:Ext C C∧Blk C D 97 [(vl A sd.length c),(vi (i:Nat))]∧Blk C I 29 (byteVals (List.replicate 32 0)):=⟨(Ext.refl C),Z,aa⟩;J.ys 1 (vl A sd.length c) rfl G (fun F W hW=>rl F rfl (hW.2.1.rule.1 0))<|Yv 2 (vq D 1) rfl<|Ys 3 (vi (i:Nat)) rfl G (fun F W hW=>rl F rfl (hW.2.1.rule.1 1))<|Ym 5 rfl<|Ys 6 (.int .u8 ((UInt8.ofNat j).toNat:Nat)) rfl G (fun F W hW=>rn_convW uu3 uu5 (F.get rfl) (cvi_8 j))<|Ym 7 rfl fun _ ae=>?_
 refine any_two (i:=4) (k:=8) (by decide +kernel) rfl rfl ?_ ?_
 ·refine ae.oC (c:=two_any i _ (by omega)) (k:=?_)
  rintro _ ai ⟨ac,ag,rfl,ah,Y⟩
  have D:=(Fl.cel ah).2.1
  refine ⟨_,rfl,?_⟩;intro D I;have D:=Y.size
  have U:Fl (Clip (fun b=>C.heap.size≤b) ai) ai 1 (vl ac 2 ag) 2 (byteVals (two i)):=ah.clip
  have D:=Z.ext Y
  have G:=aa.ext Y
  refine ⟨fun _ _=>⟨eX,D,G⟩,?_⟩
  refine ao 8 rfl (I.on (fun g=>(vl (some ⟨g,0,none⟩) 2 2)) [(.int .u8 ((UInt8.ofNat j).toNat:Nat)),(.int .u8 0)] 5 rfl (fun F=>rn_buildSlice (parts2 (F.get rfl) (F.get rfl)) (by kernel_rfl)) fun O C _ I C C J C=>?_)
  have M:=D.ext C
  have D:=G.ext C
  refine ⟨fun _ _=>⟨eX,M,D⟩,?_⟩
  have D:=U.ext C
  exact am _ _ ⟨ac,ag,O,I.j,eX,J,(by omega),(Fl.sub D (fun b hb=>by first | omega | (simp only [Clip] at hb;omega)))⟩
 refine ae.on (fun g=>(vl (some ⟨g,0,none⟩) 2 2)) [(.int .u8 ((UInt8.ofNat j).toNat:Nat)),(.int .u8 0)] 5 rfl (fun F=>rn_buildSlice (parts2 (F.get rfl) (F.get rfl)) (by kernel_rfl)) fun au av _ D C C ar C=>?_
 have ag:=Z.ext C
 have ah:=aa.ext C
 refine ⟨fun _ _=>⟨eX,ag,ah⟩,?_⟩
 refine ao 4 rfl<|D.oC (c:=two_any i _ (by omega)) (k:= ?_)
 rintro _ aq ⟨ac,ai,rfl,ak,Y⟩
 have C:=(Fl.cel ak).2.1
 refine ⟨_,rfl,?_⟩;intro C C;have D:=Y.size
 have I:Fl (Clip (fun b=>av.heap.size≤b) aq) aq 1 (vl ac 2 ai) 2 (byteVals (two i)):=ak.clip
 have D:=ag.ext Y
 have G:=ah.ext Y
 refine ⟨fun _ _=>⟨eX,D,G⟩,?_⟩
 have D:=ar.ext Y
 exact am _ _ ⟨ac,ai,au,C.j,eX,D,(by omega),(Fl.sub I (fun b hb=>by first | omega | (simp only [Clip] at hb;omega)))⟩
theorem secret_at (sd:List UInt8) (i j:Nat) (b:Bool) (w:World) (hf:Fl S w 1 v m (byteVals sd)) (hG:Glob w) (hsd:m≤4194304) (hi:i<65536) (hj:j<256) :
  Calls Tryz.prog 64 #[.agg #[v,.int .i64 (i:Nat)],.int .i64 (j:Nat),.bool b] w (fun e w'=>e=.returned (.agg (byteVals (secretD sd i j b)).toArray)∧Ext w w'):=by
 have hm:=hf.blen
 subst hm
 obtain ⟨A,c,rfl,_⟩:=hf.form
 exact secret_any A c sd i j b w hf hG hsd hi hj
theorem hash_any (A:Option Addr) (c:Nat) (sd:List UInt8) (i j:Nat) (b:Bool) (w:World) (hf:Fl S w 1 (vl A sd.length c) sd.length (byteVals sd)) (hG:Glob w) (hsd:sd.length≤4194304) (hi:i<65536) (hj:j<256) :
  Calls Tryz.prog 65 #[.agg #[.slice A sd.length c,.int .i64 (i:Nat)],.int .i64 (j:Nat),.bool b] w (fun e w'=>e=.returned (.agg (byteVals (hashD sd i j b)).toArray)∧Ext w w'):=by
 have hc:Fl (Clip S w) w 1 (vl A sd.length c) sd.length (byteVals sd):=hf.clip
 have hcc:=(Fl.cel hc).2.1
 refine calls_enter Tryz.func65 rfl rfl rfl fun _ C=>wr fun D I=>C.xb rfl fun C C _ C D D J D=>C.xz (byteVals (List.replicate 32 0)) 29 fun C C _ D C C G C=>wn I<|wr fun I M=>have I:=(J.ext C);D.xw (.agg #[(vl A sd.length c),(vi i)]) (fun F=>rb F rfl I)<|Xm rfl<|Xm rfl fun _ D=>have I:=(hc.ux C);D.xE (c:=secret_at (v:=(vl A sd.length c)) (m:=sd.length) sd i j b _ I (hG.ext eX) (by omega) (by omega) (by omega)) (k:=fun C C C _ C=>C.xe (open_any (secretD sd i j b) _ (secretD_len _ _ _ _) (hG.ext eX)) fun C I C _ C=>?_)
 have D:=G.ux I
 refine C.xs rfl D (fun D G D=>?_) (hk:=byteVals_len (openD_len _));have I:=D.size
 exact wn M<|have D:=C.k [0,1,2,3,6];wp_ret<|retC D rfl rfl G uu29 rfl (sk inf29 (byteVals_len (openD_len _)))<|⟨rfl,eX⟩
theorem hash_at (sd:List UInt8) (i j:Nat) (b:Bool) (w:World) (hf:Fl S w 1 v m (byteVals sd)) (hG:Glob w) (hsd:m≤4194304) (hi:i<65536) (hj:j<256) :
  Calls Tryz.prog 65 #[.agg #[v,.int .i64 (i:Nat)],.int .i64 (j:Nat),.bool b] w (fun e w'=>e=.returned (.agg (byteVals (hashD sd i j b)).toArray)∧Ext w w'):=by
 have hm:=hf.blen
 subst hm
 obtain ⟨A,c,rfl,_⟩:=hf.form
 exact hash_any A c sd i j b w hf hG hsd hi hj
theorem eqnilBy (w:World) (A:Option Addr) (n c:Nat):(binOp .eql 22 (vl A n c) v0).run Tryz.prog w=.ok (.bool A.isNone) w:=Lib.run_eql_slice_nil w _ _ A n c 0 0 uu22
attribute [local go_sem] eqnilBy
theorem cloneBy_any (A:Option Addr) (n cap:Nat) (xs:List Value) (w:World) (hc:Cel w 1 A n xs) (hn:n≤140737488355328) :
  Calls Tryz.prog 51 #[.slice A n cap] w (fun en w'=>∃ v,en=.returned v∧w'.ownsRow w.heap.size 5 1 v n xs∧Ext w w'):=by
 rcases A with _ | ad
 ·have hn0:n=0:=by
   rcases Nat.eq_zero_or_pos n with h | h
   ·exact h
   ·obtain ⟨b,off,h,_⟩:=hc.2.2 h;cases h
  subst hn0
  have hx:xs=[]:=List.eq_nil_of_length_eq_zero (by have:=hc.1;omega)
  have HX:=Lib.hid hx
  clear hx hc
  go_enter Tryz.func51,Tryz.ntmps51
  go_wp2
  go_ret
  exact ⟨_,rfl,by rw [HX.out];exact World.ownsRow_nil _ _ _ _,Ext.refl _⟩
 ·have HC:=Lib.hid hc
  clear hc
  go_enter Tryz.func51,Tryz.ntmps51
  go_wp2_with (with_reducible refine stop_append ?_)
  refine Lib.hid (wpList_app El22 rfl rfl rfl rfl (World.ownsRow_lit w #[] 0 (Nat.le_refl _) (Nat.zero_le _) (by simp)) (HC.out.ext ((Ext.refl _).alloc _)) (by simp) (by omega) (by omega) ?_)
  intro v' w' hown hg hat
  have HO:=Lib.hid hown
  have HE:Hid (Ext w w'):=((Ext.refl w).alloc _).grown hg (fun k hk=>by have hk:some w.heap.size=some k:=hk;injection hk;omega)
  clear hown hg hat
  go_wp2
  go_ret
  exact ⟨_,rfl,by simpa using HO.out,HE.out⟩
theorem clone_at (l:List UInt8) (w:World) (hf:Fl S w 1 v n (byteVals l)) (hn:n≤140737488355328) :
  Calls Tryz.prog 51 #[v] w (fun en w'=>∃ A c,en=.returned (vl A n c)∧Fl (fun b=>w.heap.size≤b) w' 1 (vl A n c) n (byteVals l)∧Ext w w'):=by
 obtain ⟨A,c,rfl,_⟩:=hf.form
 refine (cloneBy_any A n c _ w hf.cel.2.2 hn).mono fun e w' ⟨u,he,ho,hx⟩=>?_
 have h:=Fl.own (S:=fun b=>w.heap.size≤b) ho (fun b hb=>hb) (byteVals_one l)
 obtain ⟨A',c',rfl,_⟩:=h.form
 exact ⟨A',c',he,h,hx⟩
def newS (sd:List UInt8) (many:Int):List UInt8:=if kOk sd many 0=true then sd else []
def newM (sd:List UInt8) (many:Int):Int:=if kOk sd many 0=true then many else 0
def newE (sd:List UInt8) (many:Int):Int:=if kOk sd many 0=true then 0 else 40
theorem new_any (A:Option Addr) (c:Nat) (sd:List UInt8) (many:Int) (w:World) (hf:Fl S w 1 (vl A sd.length c) sd.length (byteVals sd)) (hsd:sd.length≤140737488355328) :
  Calls Tryz.prog 24 #[.slice A sd.length c,.int .i64 many] w (fun e w'=>∃ A m c,e=.returned (.tuple #[.agg #[.slice A m c,.int .i64 (newM sd many),.int .i64 0],.int .i64 (newE sd many)])∧Fl (fun b=>w.heap.size≤b) w' 1 (vl A m c) m (byteVals (newS sd many))∧Ext w w'):=by
 have hc:Fl (Clip S w) w 1 (vl A sd.length c) sd.length (byteVals sd):=hf.clip
 have hcc:=(Fl.cel hc).2.1
 refine calls_enter Tryz.func24 rfl rfl rfl fun _ J=>wr fun M M=>J.xz [v0,(vi 0),(vi 0)] 24 fun J Z _ J Y Y O Y=>J.xv (vi 0) fun _ J=>wn M<|wr fun M V=>J.xm rfl fun _ J=>have M:=(hc.ext Y);J.xC (c:=clone_at (v:=(vl A sd.length c)) (n:=sd.length) sd _ M (by omega)) (k:= ?_)
 rintro _ I ⟨C,D,rfl,G,U⟩
 have J:=(Fl.cel G).2.1
 refine ⟨_,rfl,?_⟩;intro J J;have M:=U.size
 have U:Fl (Clip (fun b=>Z.heap.size≤b) I) I 1 (vl C sd.length D) sd.length (byteVals sd):=G.clip
 refine J.xm rfl<|Xw (.agg #[(vl C sd.length D),(vi many),(vi 0)]) (fun F=>rn_build (parts2 (F.get rfl) (F.get rfl)) (by kernel_rfl)) fun _ G=>G.xz [v0,(vi 0),(vi 0)] 24 fun G G _ G I I I J=>G.xs rfl I (fun I M I=>have J:=I.size;wn V<|have J:=G.k [0,1,4,5,6];wp_seq_k fun G V=>wr fun G Y=>J.xw (.agg #[(vl C sd.length D),(vi many),(vi 0)]) (fun F=>rb F rfl M) fun _ G=>have J:=(U.ug I);G.xe (valid_at (v:=(vl C sd.length D)) (m:=sd.length) sd many 0 _ J) fun G J G _ G=>G.xw (.bool (!(kOk sd many 0))) (fun F=>rn_not' (F.get rfl) rfl) fun _ I=>wn Y ?_)
 rcases Bool.eq_false_or_eq_true (kOk sd many 0) with G | G
 ·refine I.cf<|wp_skip<|V _ _<|wr fun V Y=>have V:=(M.ext J);I.xw (.agg #[(vl C sd.length D),(vi many),(vi 0)]) (fun F=>rb F rfl V) fun _ C=>have D:=O.ux J;C.xs rfl D (fun D I D=>have J:=D.size;C.xv (vi 0) fun _ C=>wn Y<|wp_ret ?_)
  exact retC1 C rfl rfl rfl I uu24 rfl inf24<|have C:=(U.ug D);⟨_,_,_,by rw [newM,newE,G];rfl,by rw [newS,G];exact Fl.sub C (fun b hb=>by first | omega | (simp only [Clip] at hb;omega)),eX⟩
 refine I.ct<|wr fun C M=>have D:=O.ux J;I.xw (.agg #[v0,(vi 0),(vi 0)]) (fun F=>rb F rfl D) fun _ C=>C.xs rfl D (fun D D I=>have J:=I.size;C.xv (vi 40) fun _ C=>wn M<|wp_ret<|ret_then ?_)
 exact retC1 C rfl rfl rfl D uu24 rfl inf24<|⟨none,0,0,by rw [newM,newE,G];rfl,by rw [newS,G];exact Fl.nil _,eX⟩
theorem new_at (sd:List UInt8) (many:Int) (w:World) (hf:Fl S w 1 v m (byteVals sd)) (hsd:m≤140737488355328) :
  Calls Tryz.prog 24 #[v,.int .i64 many] w (fun e w'=>∃ A m c,e=.returned (.tuple #[.agg #[.slice A m c,.int .i64 (newM sd many),.int .i64 0],.int .i64 (newE sd many)])∧Fl (fun b=>w.heap.size≤b) w' 1 (vl A m c) m (byteVals (newS sd many))∧Ext w w'):=by
 have hm:=hf.blen
 subst hm
 obtain ⟨A,c,rfl,_⟩:=hf.form
 exact new_any A c sd many w hf hsd
theorem public_any (f:FuncId) (first cap:Array Value) (h:Nat→Bool→List UInt8) (w:World) (hen:∀ (vs:Array Value) (W:World),(callFunc f vs).run Tryz.prog W=.ok (.enter f vs) W) (arg:Value→Value→Array Value) (harg:∀ u v,(first++#[u,v])++cap=arg u v)
  (hp:∀ (j:Nat) (b:Bool) (W:World),j<64→Ext w W→Calls Tryz.prog f (arg (vi (j:Nat)) (.bool b)) W (fun e w'=>e=.returned (.agg (byteVals (h j b)).toArray)∧Ext W w')) (hl:∀ j b,j<64→(h j b).length=32) (hG:Glob w) :
  Calls Tryz.prog 83 #[.func (.func f) first cap] w (fun e w'=>e=.returned (.agg (byteVals (publicD h)).toArray)∧Ext w w'):=by
 refine calls_enter Tryz.func83 rfl rfl rfl fun _ C=>wr fun D G=>C.xz (byteVals (List.replicate 32 0)) 29 fun C D _ D I I J I=>wn G<|wr fun G M=>D.xn (fun g=>(vl (some ⟨g,0,none⟩) 0 4096)) (byteVals (List.replicate 4096 0)) 5 (fun F=>rn_makeC El22 rfl rfl rfl (by decide) (by decide) (by simp [byteVals])) fun D V _ G I I I U=>have O:=own_room (c:=4096) I (by rw [byteVals_len (show List.length (List.replicate 4096 (0:UInt8))=_ from List.length_replicate)]) (by decide);G.xa rfl fun _ G=>wn M<|wp_seq_k fun I M=>wr fun I I=>G.xv (vi 0) fun _ G=>wn I<|wp_block<|have I:=(J.ext U);wp_loop (fun a' W=>∃ (k:Nat) (Ap:Option Addr) (np:Nat) (cp:Nat) (l:List UInt8),Sl 25 [(0,(.func (.func f) first cap)),(2,(vp C)),(3,(vl Ap np cp)),(8,(vi k))] a'∧(k≤64∧np=64*k)∧l=manyD h k∧Ext w W∧Blk W C 29 (byteVals (List.replicate 32 0))∧W.ownsRow D 5 1 (vl Ap np cp) np (byteVals l)∧D≤W.heap.size∧V.heap.size≤W.heap.size) (fun a' _=>64 - (intOf (a'.eval (.tmp 8))).toNat) ⟨0,(some ⟨D,0,none⟩),0,4096,[],G.j,⟨by omega,by omega⟩,rfl,eX,I,O,(by omega),(Nat.le_refl _)⟩ ?_
 rintro C C ⟨k,Ap,np,cp,l,C,G,ac,G,U,I,J,J⟩
 have al:=C
 have J:=G.size
 have G:=U.lt
 have G:=own_form0 I
 refine wr fun G G=>C.xv (vd ((k:Int)<(64:Int))) fun _ C=>wn G<|wp_seq_k fun G G=>?_
 by_cases J:(k:Int)<(64:Int)
 ·refine C.ct<|wp_skip<|G _ _<|wp_seq_k fun D ak=>wp_block<|wr fun D D=>C.xm rfl<|Xa rfl fun _ C=>wn D<|wr fun D aj=>C.xm rfl<|Xm rfl fun _ C=>wpl_op (i:=2) rfl (o_callE C rfl rfl rfl rfl (rn_callvc (C.get rfl) (argsw_2 harg (C.get rfl) rfl) (hen _ _)) (hp k false _ (by omega) eX) (fun C ae C _ C=>C.xm rfl<|Xm rfl fun _ C=>wpl_op (i:=5) rfl (o_callE C rfl rfl rfl rfl (rn_callvc (C.get rfl) (argsw_2 harg (C.get rfl) rfl) (hen _ _)) (hp k true _ (by omega) eX) (fun C ag C _ C=>C.xz (byteVals (List.replicate 32 0)) 29 fun G C _ C D D D ah=>C.xz (byteVals (List.replicate 32 0)) 29 fun V C _ C J J M Z=>?_))))
  have O:=D.ext Z
  refine C.xs rfl O (fun D ab J=>?_) (hk:=byteVals_len (hl k false (by omega)));have D:=J.size
  have aa:=M.gn J
  refine C.xs rfl aa (fun D ai Y=>?_) (hk:=byteVals_len (hl k true (by omega)));have D:=Y.size
  refine wn aj<|have D:=C.k [0,2,3,8,9,4,5,6];sX (fun C W=>True∧Blk W G 29 (byteVals (h k false))∧Blk W V 29 (byteVals (h k true))) (fun i=>false) 6 fun C M C=>D.ym 0 rfl<|Yw 1 (vl (some ⟨G,0,none⟩) 32 32) rfl (fun F W=>rn_arrAll uu29 inf5 (F.get rfl))<|Yw 3 (vl (some ⟨V,0,none⟩) 32 32) rfl (fun F W=>rn_arrAll uu29 inf5 (F.get rfl)) fun _ D=>ao 2 rfl<|have aj:=(own_ext (own_grownT (own_grownT (own_ext (own_ext (own_ext (own_ext I ae) ag) ah) Z) O J (by decide)) aa Y (by decide)) M);have O:=ab.ux M;have C:=aj;o_appB (zs:=byteVals (l++(h k false))) El22 D rfl rfl rfl rfl rfl (D.get rfl) (D.get rfl) C (Fl.cel (Fl.blk (S:=fun b=>b=G) (k:=1) (n:=32) (c:=32) O (by rw [byteVals_len (hl k false (by omega)),Nat.mul_one]) (byteVals_one _) (by omega) rfl)).2.2 (by omega) (by omega) (by omega) (byteVals_app _ _) fun D D D D I ab G D D D=>?_;have D:=G.size
  have aa:=grown_blk C G O (by decide)
  have O:=grown_blk C G (ai.ext M) (by decide)
  refine ⟨fun _ _=>⟨trivial,aa,O⟩,?_⟩
  refine ao 4 rfl<|have D:=ab;o_appB (zs:=byteVals ((l++(h k false))++(h k true))) El22 I rfl rfl rfl rfl rfl (I.get rfl) (I.get rfl) D (Fl.cel (Fl.blk (S:=fun b=>b=V) (k:=1) (n:=32) (c:=32) O (by rw [byteVals_len (hl k true (by omega)),Nat.mul_one]) (byteVals_one _) (by omega) rfl)).2.2 (by omega) (by omega) (by omega) (byteVals_app _ _) fun V ab I I ai am I aj aj aj=>?_;have aj:=I.size
  have aj:=grown_blk D I aa (by decide)
  have aa:=grown_blk D I O (by decide)
  refine ⟨fun _ _=>⟨trivial,aj,aa⟩,?_⟩
  refine ai.yv 5 (vl V ((np+32)+32) ab) rfl fun _ O=>nK ak<|have aa:=O.k [0,2,3,8,9,4,5,6];wp_region_lit<|aa.xv (vi (k+1:Nat))<|Xm rfl fun _ O=>wpList_nil ?_
  have aa:=grown_blk D I (grown_blk C G (((((((U.ext ae).ext ag).ext ah).ext Z).gn J).gn Y).ext M) (by decide)) (by decide)
  refine ⟨⟨(k+1),V,(np+32)+32,ab,(l++(h k false))++(h k true),O.j,⟨by omega,by omega⟩,(by rw [ac];exact manyD_step h k),(ext_row (ext_row eX G C (by omega)) I D (by omega)),aa,am,(by omega),(by omega)⟩,?_⟩
  rw [O.get (t:=8) rfl,al.get (t:=8) rfl];simp [intOf] <;> omega
 refine C.cf<|wp_exit<|exit_then<|exit_then<|exit_here<|M _ _<|wr fun G G=>C.xm rfl fun _ C=>C.xE (c:=tagged_at ([111,110,101]) (v:=(vl Ap np cp)) (n:=np) l _ (Fl.own (S:=fun b=>D≤b) I (fun b hb=>hb) (byteVals_one _)) (hG.ext eX) (by simp <;> omega) (by omega)) (k:=fun C I C _ C=>?_)
 have D:=U.ext I
 refine C.xs rfl D (fun D D I=>?_) (hk:=byteVals_len (tagged_len _ _));have J:=I.size
 refine wn G<|wp_ret<|retC C rfl rfl D uu29 rfl (sk inf29 (byteVals_len (tagged_len _ _))) ?_
 have hk:k=64:=by omega
 subst hk
 exact ⟨by rw [publicD,← ac],eX⟩
theorem publics_any (A:Option Addr) (c:Nat) (sd:List UInt8) (many:Nat) (used:Int) (w:World) (hf:Fl S w 1 (vl A sd.length c) sd.length (byteVals sd)) (hG:Glob w) (hsd:sd.length≤64) (hm:many≤4096) :
  Calls Tryz.prog 54 #[.agg #[.slice A sd.length c,.int .i64 (many:Nat),.int .i64 used]] w (fun e w'=>∃ A c,e=.returned (vl A many c)∧Fl (fun b=>w.heap.size≤b) w' 32 (vl A many c) many (digVals (pubsL sd many))∧Ext w w'):=by
 have hc:Fl (Clip S w) w 1 (vl A sd.length c) sd.length (byteVals sd):=hf.clip
 have hcc:=(Fl.cel hc).2.1
 refine calls_enter Tryz.func54 rfl rfl rfl fun _ C=>wr fun D J=>C.xb rfl fun D C _ I G G G M=>I.xv v0 fun _ I=>wn J<|wp_seq_k fun J O=>wr fun J J=>I.xv (vq D 1)<|Xw (vi many) (fun F=>rl F rfl (G.rule.1 1))<|Xv (vi 0) fun _ I=>wn J<|wp_block<|wp_loop (fun a' W=>∃ (k:Nat) (Ap:Option Addr) (np:Nat) (cp:Nat) (l:List (List UInt8)),Sl 20 [(0,(.agg #[(vl A sd.length c),(vi many),(vi used)])),(1,(vp D)),(2,(vl Ap np cp)),(5,(vi many)),(6,(vi k))] a'∧(k≤many∧np=k)∧l=pubsL sd k∧Ext w W∧Blk W D 24 [(vl A sd.length c),(vi many),(vi used)]∧W.ownsRow C.heap.size 29 32 (vl Ap np cp) np (digVals l)∧C.heap.size≤W.heap.size∧C.heap.size≤W.heap.size) (fun a' _=>many - (intOf (a'.eval (.tmp 6))).toNat) ⟨0,none,0,0,[],I.j,⟨by omega,by omega⟩,rfl,eX,G,(own_nil C C.heap.size 29 32),(by omega),(Nat.le_refl _)⟩ ?_
 rintro C C ⟨k,Ap,np,cp,l,C,G,J,G,I,M,U,U⟩
 have aa:=C
 have U:=G.size
 have U:=I.lt
 have U:=own_form0 M
 have U:All32 l:=by rw [J];exact pubsL_32 _ _
 refine wr fun U U=>C.xv (vd ((k:Int)<(many:Int))) fun _ C=>wn U<|wp_seq_k fun U U=>?_
 by_cases V:(k:Int)<(many:Int)
 ·refine C.ct<|wp_skip<|U _ _<|wp_seq_k fun O Z=>wp_block<|wr fun O O=>C.xm rfl<|Xa rfl fun _ C=>wn O<|wp_region_lit<|C.xm rfl<|Xv (vp D)<|Xw (vl A sd.length c) (fun F=>rl F rfl (I.rule.1 0))<|Xm rfl<|Xw (.agg #[(vl A sd.length c),(vi k)]) (fun F=>rn_build (parts2 (F.get rfl) (F.get rfl)) (by kernel_rfl))<|Xw (.func (.func 65) #[(.agg #[(vl A sd.length c),(vi k)])] #[]) (fun F=>rn_makeFunc (args1 (F.get rfl)) (args0)) fun _ D=>have C:=(hc.ext G);have O:=C;have C:=(hG.ext ((Ext.refl w).trans G));D.xE (c:=public_any 65 #[(.agg #[(vl A sd.length c),(vi k)])] #[] (hashD sd k) _ (fun _ _=>by kernel_rfl) (fun u v=>#[(.agg #[(vl A sd.length c),(vi k)]),u,v]) (fun u v=>by simp) (fun j b W hj hx=>hash_at (v:=(vl A sd.length c)) (m:=sd.length) sd k j b W (O.ext hx) (C.ext hx) (by omega) (by omega) (by omega)) (fun _ _ _=>hashD_len _ _ _ _) C) (k:=fun C O C _ C=>have G:=(own_ext M O);have V:=G;C.xn (fun g=>(vl (some ⟨g,0,none⟩) 1 1)) (byteVals ((publicD (hashD sd k)))) 29 (fun F=>rn_buildSlice (parts1 (F.get rfl)) (build_wholeE (vs:=[(.agg (byteVals (publicD (hashD sd k))).toArray)]) El30 rfl rfl (fun v hv=>by rw [List.mem_singleton.1 hv];exact (byteVals_len (publicD_len _))) (by decide) (by decide) (by simp [Value.cells,byteVals]))) fun C D _ D M M M U=>have Y:=own_new (g:=C) V (by omega);have V:=(own_ext G U);have G:=V;have ac:some C≠(Value.slice Ap np cp).ownBlock:=Y;have V:=M.lt;wpl_op (i:=8) rfl<|o_appB (zs:=digVals (l++([publicD (hashD sd k)]))) El30 D rfl rfl rfl rfl rfl (D.get rfl) (D.get rfl) G (Fl.cel (Fl.digblk (S:=fun b=>b=C) M (All32.sing (publicD_len _)) (by simp [digVals,byteVals]))).2.2 (by omega) (by omega) (by omega) (digVals_app _ _) fun M Y D D V ae D ab ab ab=>have ag:=D.size;have ag:=ab C (by omega) ac;V.xa rfl fun _ C=>wn Z<|have V:=C.k [0,1,2,5,6,7,3];wp_region_lit<|V.xv (vi (k+1:Nat))<|Xm rfl fun _ C=>wpList_nil ?_)
  have V:=grown_blk G D ((I.ext O).ext U) (by decide)
  refine ⟨⟨(k+1),M,np+1,Y,l++([publicD (hashD sd k)]),C.j,⟨by omega,by omega⟩,(by rw [J];exact pubsL_step sd k),(ext_row eX D G (by omega)),V,ae,(by omega),(by omega)⟩,?_⟩
  rw [C.get (t:=6) rfl,aa.get (t:=6) rfl];simp [intOf] <;> omega
 refine C.cf<|wp_exit<|exit_then<|exit_then<|exit_here<|O _ _<|wr fun D D=>C.xm rfl<|Xa rfl fun _ C=>wn D<|wp_ret<|ret1 C rfl rfl ?_
 have hk:k=many:=by omega
 have hrow:=Fl.own (S:=fun b=>w.heap.size≤b) M (fun b hb=>by omega) (digVals_one _)
 have hnp:np=many:=by omega
 have hx:=(Ext.refl w).trans G
 have hl:=J
 subst hk
 subst hl
 subst hnp
 exact ⟨Ap,cp,rfl,hrow,hx⟩
theorem publics_at (sd:List UInt8) (many:Nat) (used:Int) (w:World) (hf:Fl S w 1 v m (byteVals sd)) (hG:Glob w) (hsd:m≤64) (hm:many≤4096) :
  Calls Tryz.prog 54 #[.agg #[v,.int .i64 (many:Nat),.int .i64 used]] w (fun e w'=>∃ A c,e=.returned (vl A many c)∧Fl (fun b=>w.heap.size≤b) w' 32 (vl A many c) many (digVals (pubsL sd many))∧Ext w w'):=by
 have hm:=hf.blen
 subst hm
 obtain ⟨A,c,rfl,_⟩:=hf.form
 exact publics_any A c sd many used w hf hG hsd hm
def pairsL (h:Nat→Bool→List UInt8) (k:Nat):List (List UInt8):=(List.range k).flatMap fun j=>[h j false,h j true]
theorem pairsL_step (h:Nat→Bool→List UInt8) (k:Nat):pairsL h k++[h k false,h k true]=pairsL h (k+1):=by
 rw [pairsL,pairsL,List.range_succ,List.flatMap_append,List.flatMap_cons,List.flatMap_nil,List.append_nil]
theorem pairsL_flat (h:Nat→Bool→List UInt8):∀ k,(pairsL h k).flatten=manyD h k
 | 0=>rfl
 | k+1=>by rw [← pairsL_step,← manyD_step,List.flatten_append,pairsL_flat h k];simp
theorem flatten_step {x:List UInt8} (h:k<l.length) (hx:x=(l.take k).flatten):x++l.getD k []=(l.take (k+1)).flatten:=by
 rw [hx,List.take_add_one,List.getD_eq_getElem?_getD,List.getElem?_eq_getElem h,List.flatten_append];simp
theorem rone_any (A:Option Addr) (c:Nat) (l:List (List UInt8)) (w:World) (h32:All32 l) (hf:Fl S w 32 (vl A l.length c) l.length (digVals l)) (hb:l.length≤128) :
  Calls Tryz.prog 85 #[.slice A l.length c] w (fun e w'=>e=.returned (.agg (byteVals (tagged [111,110,101] l.flatten)).toArray)∧Ext w w'):=by
 have hc:Fl (Clip S w) w 32 (vl A l.length c) l.length (digVals l):=hf.clip
 have hcc:=(Fl.cel hc).2.1
 refine calls_enter Tryz.func85 rfl rfl rfl fun _ C=>wr fun D G=>C.xz (byteVals (List.replicate 32 0)) 29 fun C D _ D I I M I=>wn G<|wr fun G O=>D.xn (fun g=>(vl (some ⟨g,0,none⟩) 0 0)) [] 5 (fun F=>rn_buildSlice (parts0 ) (by kernel_rfl)) fun D Y _ G I I I V=>G.xa rfl fun _ G=>wn O<|wp_seq_k fun O U=>wr fun O O=>G.xv (vi 0) fun _ G=>wn O<|wp_block<|have O:=own_blk0 (k:=1) I;have I:=(M.ext V);wp_loop (fun a' W=>∃ (k:Nat) (Ap:Option Addr) (np:Nat) (cp:Nat) (x:List UInt8),Sl 20 [(0,(vl A l.length c)),(2,(vp C)),(3,(vl Ap np cp)),(4,(vi k))] a'∧(k≤l.length∧np=32*k)∧x=(l.take k).flatten∧Ext w W∧Blk W C 29 (byteVals (List.replicate 32 0))∧W.ownsRow D 5 1 (vl Ap np cp) np (byteVals x)∧D≤W.heap.size∧Y.heap.size≤W.heap.size) (fun a' _=>l.length - (intOf (a'.eval (.tmp 4))).toNat) ⟨0,(some ⟨D,0,none⟩),0,0,[],G.j,⟨by omega,by omega⟩,rfl,eX,I,O,(by omega),(Nat.le_refl _)⟩ ?_
 rintro C C ⟨k,Ap,np,cp,x,C,G,O,M,G,I,V,V⟩
 have Z:=C
 have V:=M.size
 have V:=G.lt
 have V:=own_form0 I
 refine wp_seq_k fun V V=>wr fun Y Y=>C.xm rfl<|Xm rfl<|Xv (vi l.length)<|Xv (vd ((k:Int)<(l.length:Int))) fun _ C=>wn Y ?_
 by_cases Y:(k:Int)<(l.length:Int)
 ·refine C.ct<|wp_skip<|V _ _<|wp_seq_k fun D V=>wp_block<|wp_region_lit<|C.xm rfl<|Xm rfl<|Xm rfl fun _ U=>?_
  have J:=hc.ext M
  obtain ⟨C,D,M,-⟩:=Fl.at J (by omega)
  refine U.xw (vq C (D+k*32)) (fun F=>rn_indexE uu30 inf29 ((F.get rfl).trans (by rw [M])) (F.get rfl) (zl _) (il (by omega:k<l.length)) (by omega))<|Xw (vl (some ⟨C,D+k*32,none⟩) 32 32) (fun F=>rn_arrAll uu29 inf5 (F.get rfl)) fun _ C=>have D:=I;wpl_op (i:=5) rfl<|o_appB (zs:=byteVals (x++(l.getD k []))) El22 C rfl rfl rfl rfl rfl (C.get rfl) (C.get rfl) D (Fl.cel (Fl.digPart (i:=k) J M h32 (by omega) (by omega))).2.2 (by omega) (by omega) (by omega) (byteVals_app _ _) fun J U C C I Y C M M M=>have M:=C.size;I.xa rfl fun _ I=>wn V<|have M:=I.k [0,2,3,4,9];wp_region_lit<|M.xm rfl<|Xv (vi (k+1:Nat))<|Xa rfl fun _ I=>wpList_nil ?_
  have M:=grown_blk D C G (by decide)
  refine ⟨⟨(k+1),J,np+32,U,x++(l.getD k []),I.j,⟨by omega,by omega⟩,(flatten_step (by omega) O),(ext_row eX C D (by omega)),M,Y,(by omega),(by omega)⟩,?_⟩
  rw [I.get (t:=4) rfl,Z.get (t:=4) rfl];simp [intOf] <;> omega
 refine C.cf<|wp_exit<|exit_then<|exit_then<|exit_here<|U _ _<|wr fun M M=>C.xm rfl fun _ C=>C.xE (c:=rtagged_at ([111,110,101]) (v:=(vl Ap np cp)) (n:=np) x _ (Fl.own (S:=fun b=>D≤b) I (fun b hb=>hb) (byteVals_one _)) (by decide) (by omega)) (k:=fun C I C _ C=>?_)
 have D:=G.ext I
 refine C.xs rfl D (fun D G D=>?_) (hk:=byteVals_len (tagged_len _ _));have I:=D.size
 refine wn M<|have D:=C.k [0,2,3,4,9];wp_ret<|retC D rfl rfl G uu29 rfl (sk inf29 (byteVals_len (tagged_len _ _))) ?_
 have hk:k=l.length:=by omega
 have J:=O
 rw [hk,List.take_length] at J
 subst J
 exact ⟨rfl,eX⟩
theorem rone_at (l:List (List UInt8)) (w:World) (h32:All32 l) (hf:Fl S w 32 v m (digVals l)) (hb:m≤128) :
  Calls Tryz.prog 85 #[v] w (fun e w'=>e=.returned (.agg (byteVals (tagged [111,110,101] l.flatten)).toArray)∧Ext w w'):=by
 have hm:=Fl.dlen hf h32
 subst hm
 obtain ⟨A,c,rfl,_⟩:=hf.form
 exact rone_any A c l w h32 hf hb
theorem rtwo_int (i:Int) (w:World) (h0:0≤i) (h1:i<65536):Calls Tryz.prog 105 #[.int .i64 i] w (fun e w'=>∃ A c,e=.returned (vl A 2 c)∧Fl (fun b=>w.heap.size≤b) w' 1 (vl A 2 c) 2 (byteVals (two i.toNat))∧Ext w w'):=by
 obtain ⟨k,rfl⟩:∃ k:Nat,i=(k:Int):=⟨i.toNat,by omega⟩
 exact rtwo_any k w (by omega)
def bitsUp (d:List UInt8) (k:Nat):List Bool:=bitsTo d k++List.replicate (64 - k) false
theorem bitsUp_len (d:List UInt8) {k:Nat} (h:k≤64):(bitsUp d k).length=64:=by rw [bitsUp,List.length_append,bitsTo_len,List.length_replicate];omega
theorem bitsUp_step {l:List Bool} (h:k<64) (hl:l=bitsUp d k) (hb:b=bitOf d k):l.set k b=bitsUp d (k+1):=by
 rw [hl,hb,bitsUp,bitsUp,List.set_append_right _ _ (by rw [bitsTo_len];omega),bitsTo_len,Nat.sub_self,← bitsTo_step,List.append_assoc,show 64 - k=(64 - (k+1))+1 by omega,List.replicate_succ]
 rfl
theorem bitsUp_all (d:List UInt8):bitsUp d 64=bitsTo d 64:=by simp [bitsUp]
def bitsR (root:List UInt8) (i:Int) (msg:List UInt8):List Bool:=if i<0∨4096≤i then [] else bitsL root i.toNat msg
theorem bitsR_out {msg:List UInt8} (h:i<0∨4096≤i):bitsR root i msg=[]:=by rw [bitsR,if_pos h]
theorem bitsR_in {msg:List UInt8} (h:¬ (i<0∨4096≤i)):bitsR root i msg=bitsL root i.toNat msg:=by rw [bitsR,if_neg h]
theorem Fl.blen2 {w:World} {l:List Bool} (h:Fl S w 1 v n (boolVals l)):l.length=n:=by
 have:=h.len;simp [boolVals] at this;omega
theorem signed_any (A:Option Addr) (c:Nat) (root:List UInt8) (i:Nat) (msg:List UInt8) (w:World) (hd:root.length=32) (hf:Fl S w 1 (vl A msg.length c) msg.length (byteVals msg)) (hG:Glob w) (hm:msg.length≤4194304) (hi:i<65536) :
  Calls Tryz.prog 63 #[.agg (byteVals root).toArray,.int .i64 (i:Nat),.slice A msg.length c] w (fun e w'=>e=.returned (.agg (boolVals (bitsL root i msg)).toArray)∧Ext w w'):=by
 have hc:Fl (Clip S w) w 1 (vl A msg.length c) msg.length (byteVals msg):=hf.clip
 have hcc:=(Fl.cel hc).2.1
 refine calls_enter Tryz.func63 rfl rfl rfl fun _ hF=>wr fun K1 ag=>hF.xb rfl fun I w3 _ F9 z6 z7 V ac=>F9.xz (boolVals (List.replicate 64 false)) 99 fun O ac _ aC ac ac ac aD=>wn ag<|wp_seq_k fun ag ag=>sX (fun G W=>Ext G W∧Blk W I 29 (byteVals root)) (fun i=>i==8) 9 fun G aD aD=>?_
 refine any_have (n1:=1) (L1:=#[true,true,true,true,true,true,true,true,false]) (fun a' W=>∃ (M:Nat) (J:Nat) (C:Option Addr) (D:Nat),Sl 33 [(0,(.agg (byteVals root).toArray)),(1,(vi (i:Nat))),(2,(vl A msg.length c)),(3,(vp I)),(6,(vp O)),(7,(vp M)),(15,(.agg (byteVals (tagged ([109,101,115,115,97,103,101]) (root++(two i)++msg))).toArray))] a'∧Ext G W∧Blk W J 22 [(vl (some ⟨I,0,none⟩) 32 32),(vl C 2 D),(vl A msg.length c)]∧G.heap.size≤J∧Blk W M 29 (byteVals (List.replicate 32 0))∧G.heap.size≤M∧J≠M∧Fl (fun b=>G.heap.size≤b) W 1 (vl C 2 D) 2 (byteVals (two i))) ?_ (fun ax=>?_)
 ·rintro U U ⟨M,J,C,D,Y,ae,ab,U,U,Z,Z,Z⟩
  have ah:=ae.size
  have ae:=ab.lt
  have ab:=U.lt
  have ab:=(Fl.cel Z).2.1
  have ab:=Fl.blen Z
  refine ao 8 rfl (Y.os rfl U (fun ah Z U=>an ?_) (hk:=byteVals_len (tagged_len _ _)));have ab:=U.size
  refine nK ag<|wp_seq_k fun ab ag=>wr fun ab ab=>Y.xv (vi 0) fun _ Y=>wn ab<|wp_block<|have ab:=V.ug U;have ae:=ac.ug U;wp_loop (fun a' W=>∃ (k:Nat) (bb:List Bool),Sl 33 [(0,(.agg (byteVals root).toArray)),(1,(vi (i:Nat))),(2,(vl A msg.length c)),(3,(vp I)),(6,(vp O)),(7,(vp M)),(16,(vi k))] a'∧k≤64∧bb=bitsUp (tagged ([109,101,115,115,97,103,101]) (root++(two i)++msg)) k∧Ext w W∧Blk W I 29 (byteVals root)∧Blk W O 99 (boolVals bb)∧Blk W M 29 (byteVals (tagged ([109,101,115,115,97,103,101]) (root++(two i)++msg)))∧ah.heap.size≤W.heap.size) (fun a' _=>64 - (intOf (a'.eval (.tmp 16))).toNat) ⟨0,(List.replicate 64 false),Y.j,(by omega),rfl,eX,ab,ae,Z,(Nat.le_refl _)⟩ ?_
  rintro U U ⟨k,bb,U,Y,aa,ac,ab,Y,Z,ae⟩
  have ae:=U
  have ah:=ac.size
  have ac:=ab.lt
  have ac:=Y.lt
  have ac:=Z.lt
  have hbl:bb.length=64:=by rw [aa];exact bitsUp_len _ (by omega)
  refine wr fun ac ac=>U.xv (vd ((k:Int)<(64:Int))) fun _ U=>wn ac<|wp_seq_k fun ac ac=>?_
  by_cases ah:(k:Int)<(64:Int)
  ·refine U.ct<|wp_skip<|ac _ _<|wp_seq_k fun C G=>wp_block<|wr fun C D=>U.xm rfl<|Xa rfl fun _ C=>wn D<|wp_region_lit<|C.xm rfl<|Xm rfl<|Xw (vi (k / 8:Nat)) (fun F=>rn_quoN (a:=k) (b:=8) (F.get rfl) rfl (by omega) (by omega))<|Xw (.pointer (some ⟨M,0+(k / 8),none⟩)) (fun F=>rn_indexArr uu29 inf5 (F.get rfl) (F.get rfl) (by omega:(0:Int)≤(k / 8:Nat)) (by omega:((k / 8:Nat):Int)<((32:Nat):Int)))<|Xw (.int .u8 (((tagged ([109,101,115,115,97,103,101]) (root++(two i)++msg)).getD (k / 8) 0).toNat:Nat)) (fun F=>rl F rfl (blk_byte Z (by omega) (by have:=(show List.length (tagged ([109,101,115,115,97,103,101]) (root++(two i)++msg))=_ from (tagged_len _ _));omega)))<|Xm rfl<|Xw (vi (k % 8:Nat)) (fun F=>rn_remN (a:=k) (b:=8) (F.get rfl) rfl (by omega))<|Xw (vi (7 - (k % 8):Nat)) (fun F=>rn_subN (a:=7) (b:=k % 8) rfl (F.get rfl) (by omega) (by omega))<|Xw (.int .u8 ((((tagged ([109,101,115,115,97,103,101]) (root++(two i)++msg)).getD (k / 8) 0) >>> UInt8.ofNat (7 - (k % 8))).toNat:Nat)) (fun F=>rn_shr8 (a:=((tagged ([109,101,115,115,97,103,101]) (root++(two i)++msg)).getD (k / 8) 0)) (n:=7 - (k % 8)) (F.get rfl) (F.get rfl) (by omega))<|Xw (.int .u8 (((((tagged ([109,101,115,115,97,103,101]) (root++(two i)++msg)).getD (k / 8) 0) >>> UInt8.ofNat (7 - (k % 8))) &&& (1:UInt8)).toNat:Nat)) (fun F=>rn_and8 (a:=(((tagged ([109,101,115,115,97,103,101]) (root++(two i)++msg)).getD (k / 8) 0) >>> UInt8.ofNat (7 - (k % 8)))) (b:=(1:UInt8)) (F.get rfl) rfl)<|Xv (vd (((((((tagged ([109,101,115,115,97,103,101]) (root++(two i)++msg)).getD (k / 8) 0) >>> UInt8.ofNat (7 - (k % 8))) &&& (1:UInt8)).toNat:Nat):Int)=(1:Int)))<|Xw (vq O (0+k)) (fun F=>rn_indexArr uu99 inf4 (F.get rfl) (F.get rfl) (zl _) (by omega:(k:Int)<((64:Nat):Int))) fun _ C=>wpl_op (i:=12) rfl<|o_store1 (new:=(boolVals (bb.set k (decide (((((((tagged ([109,101,115,115,97,103,101]) (root++(two i)++msg)).getD (k / 8) 0) >>> UInt8.ofNat (7 - (k % 8))) &&& (1:UInt8)).toNat:Nat):Int)=(1:Int)))))) C rfl rfl rfl rfl (C.get rfl) (C.get rfl) Y inf4 (by rw [boolVals_len hbl];omega) rfl (boolVals_set (by omega)) fun D I D=>have J:=D.size;wn G<|have G:=C.k [0,1,2,3,6,7,16,17,8];wp_region_lit<|G.xv (vi (k+1:Nat))<|Xm rfl fun _ C=>wpList_nil ?_
   have G:=ab.gn D
   have J:=Z.gn D
   refine ⟨⟨(k+1),bb.set k (decide (((((((tagged ([109,101,115,115,97,103,101]) (root++(two i)++msg)).getD (k / 8) 0) >>> UInt8.ofNat (7 - (k % 8))) &&& (1:UInt8)).toNat:Nat):Int)=(1:Int))),C.j,(by omega),(bitsUp_step (by omega) aa rfl),eX,G,I,J,(by omega)⟩,?_⟩
   rw [C.get (t:=16) rfl,ae.get (t:=16) rfl];simp [intOf] <;> omega
  refine U.cf<|wp_exit<|exit_then<|exit_then<|exit_here<|ag _ _<|wr fun Z Z=>U.xw (.agg (boolVals bb).toArray) (fun F=>rb F rfl Y (hk:=boolVals_len hbl)) fun _ U=>?_
  refine U.xs rfl Y (fun Y Y ab=>?_) (hk:=boolVals_len hbl) (hl:=boolVals_len hbl);have ac:=ab.size
  refine wn Z<|wp_ret<|retC U rfl rfl Y uu99 rfl (sk inf99 (boolVals_len hbl)) ?_
  have hk:k=64:=by omega
  subst hk
  exact ⟨by rw [aa,bitsUp_all];rfl,eX⟩
 refine any_have (n1:=2) (L1:=#[true,true,true,true,true,true,false,true,false]) (fun a' W=>∃ (M:Nat) (ac:Option Addr) (ag:Nat) (J:Nat) (C:Option Addr) (D:Nat),Sl 33 [(0,(.agg (byteVals root).toArray)),(1,(vi (i:Nat))),(2,(vl A msg.length c)),(3,(vp I)),(6,(vp O)),(7,(vp M)),(14,(vl ac (32+2+msg.length) ag))] a'∧Ext G W∧Blk W J 22 [(vl (some ⟨I,0,none⟩) 32 32),(vl C 2 D),(vl A msg.length c)]∧G.heap.size≤J∧Blk W M 29 (byteVals (List.replicate 32 0))∧G.heap.size≤M∧J≠M∧Fl (fun b=>G.heap.size≤b) W 1 (vl C 2 D) 2 (byteVals (two i))∧Fl (fun b=>G.heap.size≤b) W 1 (vl ac (32+2+msg.length) ag) (32+2+msg.length) (byteVals (root++(two i)++msg))) ?_ (fun ay=>?_)
 ·rintro C C ⟨M,ac,ag,J,C,D,Y,Z,O,G,U,G,G,I,G⟩
  have aa:=Z.size
  have Z:=O.lt
  have Z:=U.lt
  have Z:=(Fl.cel I).2.1
  have Z:=Fl.blen I
  have Z:=(Fl.cel G).2.1
  have Z:=Fl.blen G
  refine ao 6 rfl<|Y.oE (c:=tagged_at ([109,101,115,115,97,103,101]) (v:=(vl ac (32+2+msg.length) ag)) (n:=(32+2+msg.length)) (root++(two i)++msg) _ G (hG.ext eX) (by simp <;> omega) (by omega)) (k:=fun G G Y _ Y=>?_)
  have Z:=V.ux G
  refine ⟨fun _ _=>⟨eX,Z⟩,?_⟩
  have V:=O.ext G
  have O:=U.ext G
  have U:=I.ext G
  exact ax _ _ ⟨M,J,C,D,Y.j,eX,V,(by omega),O,(by omega),(by omega),(Fl.sub U (fun b hb=>by first | omega | (simp only [Clip] at hb;omega)))⟩
 refine any_have (n1:=3) (L1:=#[true,true,true,true,true,false,false,true,false]) (fun a' W=>∃ (Z:Nat) (J:Nat) (C:Option Addr) (D:Nat),Sl 33 [(0,(.agg (byteVals root).toArray)),(1,(vi (i:Nat))),(2,(vl A msg.length c)),(3,(vp I)),(6,(vp O)),(7,(vp Z)),(13,(vl (some ⟨J,0,none⟩) 3 3))] a'∧Ext G W∧Blk W J 22 [(vl (some ⟨I,0,none⟩) 32 32),(vl C 2 D),(vl A msg.length c)]∧G.heap.size≤J∧Blk W Z 29 (byteVals (List.replicate 32 0))∧G.heap.size≤Z∧J≠Z∧Fl (fun b=>G.heap.size≤b) W 1 (vl C 2 D) 2 (byteVals (two i))) ?_ (fun az=>?_)
 ·rintro M M ⟨Z,J,C,D,ag,M,aa,ac,ae,ac,ac,U⟩
  have ac:=M.size
  have ac:=aa.lt
  have ac:=ae.lt
  have ac:=(Fl.cel U).2.1
  have ac:=Fl.blen U
  refine ao 5 rfl ?_
  have ab:=V.ux M
  have ac:=hc.ux M
  have hn261:=Fl.blen (Fl.blk (S:=fun b=>b=I) (k:=1) (n:=32) (c:=32) ab (by rw [byteVals_len hd,Nat.mul_one]) (byteVals_one _) (by omega) rfl)
  have hn262:=Fl.blen U
  have hn263:=Fl.blen ac
  have hn264:([root,two i,msg]).flatten.length=32+2+msg.length:=by simp only [List.flatten_cons,List.flatten_nil,List.length_append,List.length_nil];omega
  refine ag.oC (c:=concat_at [root,two i,msg] _ (RBss.three aa (Fl.blk (S:=fun b=>b=I) (k:=1) (n:=32) (c:=32) ab (by rw [byteVals_len hd,Nat.mul_one]) (byteVals_one _) (by omega) rfl) U ac) hn264 (by omega)) (k:=?_)
  rintro _ M ⟨ai,aj,rfl,ah,Y⟩
  rw [show ([root,two i,msg]).flatten=root++(two i)++msg from by simp] at ah
  refine ⟨_,rfl,?_⟩;intro G G;have I:=Y.size
  have I:=ab.ext Y
  refine ⟨fun _ _=>⟨eX,I⟩,?_⟩
  have I:=aa.ext Y
  have M:=ae.ext Y
  have O:=U.ext Y
  exact ay _ _ ⟨Z,ai,aj,J,C,D,G.j,eX,I,(by omega),M,(by omega),(by omega),(Fl.sub O (fun b hb=>by first | omega | (simp only [Clip] at hb;omega))),(Fl.sub ah (fun b hb=>by first | omega | (simp only [Clip] at hb;omega)))⟩
 refine any_have (n1:=4) (L1:=#[true,true,true,true,false,false,false,true,false]) (fun a' W=>∃ (J:Nat) (C:Option Addr) (D:Nat),Sl 33 [(0,(.agg (byteVals root).toArray)),(1,(vi (i:Nat))),(2,(vl A msg.length c)),(3,(vp I)),(6,(vp O)),(7,(vp J)),(9,(vl (some ⟨I,0,none⟩) 32 32)),(11,(vl C 2 D)),(12,(vl A msg.length c))] a'∧Ext G W∧Blk W J 29 (byteVals (List.replicate 32 0))∧G.heap.size≤J∧Fl (fun b=>G.heap.size≤b) W 1 (vl C 2 D) 2 (byteVals (two i))) ?_ (fun aA=>?_)
 ·rintro C C ⟨J,C,D,O,U,M,G,G⟩
  have Y:=U.size
  have U:=M.lt
  have U:=(Fl.cel G).2.1
  have U:=Fl.blen G
  refine ao 4 rfl (O.on (fun g=>(vl (some ⟨g,0,none⟩) 3 3)) [(vl (some ⟨I,0,none⟩) 32 32),(vl C 2 D),(vl A msg.length c)] 22 rfl (fun F=>rn_buildSlice (parts3 (F.get rfl) (F.get rfl) (F.get rfl)) (by kernel_rfl)) fun Z I _ O I I U I=>?_)
  have Y:=V.ux I
  refine ⟨fun _ _=>⟨eX,Y⟩,?_⟩
  have V:=M.ext I
  have M:=G.ext I
  exact az _ _ ⟨J,Z,C,D,O.j,eX,U,(by omega),V,(by omega),(by omega),(Fl.sub M (fun b hb=>by first | omega | (simp only [Clip] at hb;omega)))⟩
 refine aC.yw 0 (vl (some ⟨I,0,none⟩) 32 32) rfl (fun F W=>rn_arrAll uu29 inf5 (F.get rfl))<|Ym 1 rfl<|Ym 3 rfl<|fun _ al=>?_
 refine any_two (i:=2) (k:=7) (by decide +kernel) rfl rfl ?_ ?_
 ·refine al.oC (c:=two_any i _ (by omega)) (k:=?_)
  rintro _ aB ⟨U,Y,rfl,au,av⟩
  have C:=(Fl.cel au).2.1
  refine ⟨_,rfl,?_⟩;intro C am;have C:=av.size
  have ab:Fl (Clip (fun b=>G.heap.size≤b) aB) aB 1 (vl U 2 Y) 2 (byteVals (two i)):=au.clip
  have ah:=V.ux av
  refine ⟨fun _ _=>⟨eX,ah⟩,?_⟩
  refine any_two (i:=4) (k:=7) (by decide +kernel) rfl rfl ?_ ?_
  ·refine am.on (fun g=>(vl (some ⟨g,0,none⟩) 3 3)) [(vl (some ⟨I,0,none⟩) 32 32),(vl U 2 Y),(vl A msg.length c)] 22 rfl (fun F=>rn_buildSlice (parts3 (F.get rfl) (F.get rfl) (F.get rfl)) (by kernel_rfl)) fun ai C _ aq C C ae C=>?_
   have aa:=ah.ext C
   refine ⟨fun _ _=>⟨eX,aa⟩,?_⟩
   refine any_two (i:=5) (k:=7) (by decide +kernel) rfl rfl ?_ ?_
   ·have D:=(ab.ext C)
    have G:=hc.ux C
    have hn328:=Fl.blen (Fl.blk (S:=fun b=>b=I) (k:=1) (n:=32) (c:=32) aa (by rw [byteVals_len hd,Nat.mul_one]) (byteVals_one _) (by omega) rfl)
    have hn329:=Fl.blen D
    have hn330:=Fl.blen G
    have hn331:([root,two i,msg]).flatten.length=32+2+msg.length:=by simp only [List.flatten_cons,List.flatten_nil,List.length_append,List.length_nil];omega
    refine aq.oC (c:=concat_at [root,two i,msg] _ (RBss.three ae (Fl.blk (S:=fun b=>b=I) (k:=1) (n:=32) (c:=32) aa (by rw [byteVals_len hd,Nat.mul_one]) (byteVals_one _) (by omega) rfl) D G) hn331 (by omega)) (k:=?_)
    rintro _ C ⟨ak,ar,rfl,aj,aw⟩
    rw [show ([root,two i,msg]).flatten=root++(two i)++msg from by simp] at aj
    refine ⟨_,rfl,?_⟩;intro C C;have D:=aw.size
    have D:=aa.ext aw
    refine ⟨fun _ _=>⟨eX,D⟩,?_⟩
    refine any_two (i:=6) (k:=7) (by decide +kernel) rfl rfl ?_ ?_
    ·refine C.oE (c:=tagged_at ([109,101,115,115,97,103,101]) (v:=(vl ak (32+2+msg.length) ar)) (n:=(32+2+msg.length)) (root++(two i)++msg) _ aj (hG.ext eX) (by simp <;> omega) (by omega)) (k:=fun C I C _ C=>?_)
     have G:=D.ext I
     refine ⟨fun _ _=>⟨eX,G⟩,?_⟩
     refine ao 7 rfl (C.oz (byteVals (List.replicate 32 0)) 29 rfl fun M C _ D C C I C=>?_)
     have J:=G.ext C
     refine ⟨fun _ _=>⟨eX,J⟩,?_⟩
     have G:=ae.ux C
     have J:=ab.ux C
     exact ax _ _ ⟨M,ai,U,Y,D.j,eX,G,(by omega),I,(by omega),(by omega),(Fl.sub J (fun b hb=>by first | omega | (simp only [Clip] at hb;omega)))⟩
    refine C.oz (byteVals (List.replicate 32 0)) 29 rfl fun O C _ G C C I C=>?_
    have J:=D.ext C
    refine ⟨fun _ _=>⟨eX,J⟩,?_⟩
    have D:=ae.ux C
    have J:=ab.ux C
    have M:=aj.ext C
    exact ay _ _ ⟨O,ak,ar,ai,U,Y,G.j,eX,D,(by omega),I,(by omega),(by omega),(Fl.sub J (fun b hb=>by first | omega | (simp only [Clip] at hb;omega))),(Fl.sub M (fun b hb=>by first | omega | (simp only [Clip] at hb;omega)))⟩
   refine aq.oz (byteVals (List.replicate 32 0)) 29 rfl fun M C _ D C C G C=>?_
   have I:=aa.ext C
   refine ⟨fun _ _=>⟨eX,I⟩,?_⟩
   have I:=ae.ext C
   have J:=ab.ux C
   exact az _ _ ⟨M,ai,U,Y,D.j,eX,I,(by omega),G,(by omega),(by omega),(Fl.sub J (fun b hb=>by first | omega | (simp only [Clip] at hb;omega)))⟩
  refine am.oz (byteVals (List.replicate 32 0)) 29 rfl fun J C _ D C C G C=>?_
  have I:=ah.ext C
  refine ⟨fun _ _=>⟨eX,I⟩,?_⟩
  have I:=ab.ext C
  exact aA _ _ ⟨J,U,Y,D.j,eX,G,(by omega),(Fl.sub I (fun b hb=>by first | omega | (simp only [Clip] at hb;omega)))⟩
 refine al.oz (byteVals (List.replicate 32 0)) 29 rfl fun aj ak _ C D D ai D=>?_
 have aa:=V.ux D
 refine ⟨fun _ _=>⟨eX,aa⟩,?_⟩
 refine ao 2 rfl<|C.oC (c:=two_any i _ (by omega)) (k:= ?_)
 rintro _ ah ⟨Y,ab,rfl,ae,U⟩
 have C:=(Fl.cel ae).2.1
 refine ⟨_,rfl,?_⟩;intro C C;have D:=U.size
 have G:Fl (Clip (fun b=>ak.heap.size≤b) ah) ah 1 (vl Y 2 ab) 2 (byteVals (two i)):=ae.clip
 have D:=aa.ext U
 refine ⟨fun _ _=>⟨eX,D⟩,?_⟩
 have D:=ai.ext U
 exact aA _ _ ⟨aj,Y,ab,C.j,eX,D,(by omega),(Fl.sub G (fun b hb=>by first | omega | (simp only [Clip] at hb;omega)))⟩
theorem signed_at (root:List UInt8) (i:Nat) (msg:List UInt8) (w:World) (hd:root.length=32) (hf:Fl S w 1 v m (byteVals msg)) (hG:Glob w) (hm:m≤4194304) (hi:i<65536) :
  Calls Tryz.prog 63 #[.agg (byteVals root).toArray,.int .i64 (i:Nat),v] w (fun e w'=>e=.returned (.agg (boolVals (bitsL root i msg)).toArray)∧Ext w w'):=by
 have hmm:=hf.blen
 subst hmm
 obtain ⟨A,c,rfl,_⟩:=hf.form
 exact signed_any A c root i msg w hd hf hG hm hi
theorem signed_int (root:List UInt8) (i:Int) (msg:List UInt8) (w:World) (hd:root.length=32) (hf:Fl S w 1 v m (byteVals msg)) (hG:Glob w) (hm:m≤4194304) (h0:0≤i) (hi:i<65536) :
  Calls Tryz.prog 63 #[.agg (byteVals root).toArray,.int .i64 i,v] w (fun e w'=>e=.returned (.agg (boolVals (bitsL root i.toNat msg)).toArray)∧Ext w w'):=by
 obtain ⟨k,rfl⟩:∃ k:Nat,i=(k:Int):=⟨i.toNat,by omega⟩
 exact signed_at root k msg w hd hf hG hm (by omega)
theorem rbits_any (A:Option Addr) (c:Nat) (root:List UInt8) (i:Int) (msg:List UInt8) (w:World) (hd:root.length=32) (hf:Fl S w 1 (vl A msg.length c) msg.length (byteVals msg)) (hm:msg.length≤4194304) :
  Calls Tryz.prog 73 #[.agg (byteVals root).toArray,.int .i64 i,.slice A msg.length c] w (fun e w'=>∃ A m c,e=.returned (vl A m c)∧Fl (fun b=>w.heap.size≤b) w' 1 (vl A m c) m (boolVals (bitsR root i msg))∧Ext w w'):=by
 have hc:Fl (Clip S w) w 1 (vl A msg.length c) msg.length (byteVals msg):=hf.clip
 have hcc:=(Fl.cel hc).2.1
 refine calls_enter Tryz.func73 rfl rfl rfl fun _ C=>wr fun D D=>C.xb rfl fun G C _ C z6 z7 b4 ah=>C.xv v0 fun _ C=>wn D<|wp_seq_k fun D ae=>wr fun D D=>C.xm rfl<|Xv (vd ((i:Int)<(0:Int)))<|Xm rfl fun _ C=>?_
 by_cases ab:(i:Int)<(0:Int)
 ·exact C.xu<|Xu<|Xv (.bool true) fun _ G=>wn D<|have C:=G.k [0,1,2,3,6,16];C.ct<|wr fun D D=>C.xv v0 fun _ C=>wn D<|wp_ret<|ret_then<|ret1 C rfl rfl<|⟨none,0,0,rfl,by rw [bitsR_out (by omega)];exact Fl.nil _,eX⟩
 refine C.xg (vi i)<|Xg (vd ((4096:Int)≤(i:Int)))<|Xv (vd ((4096:Int)≤(i:Int))) fun _ ab=>wn D ?_
 have C:=ab.k [0,1,2,3,6,16]
 by_cases D:(4096:Int)≤(i:Int)
 ·exact C.ct<|wr fun D D=>C.xv v0 fun _ C=>wn D<|wp_ret<|ret_then<|ret1 C rfl rfl<|⟨none,0,0,rfl,by rw [bitsR_out (by omega)];exact Fl.nil _,eX⟩
 refine C.cf<|wp_skip<|ae _ _<|wr fun D ag=>C.xn (fun g=>(vl (some ⟨g,0,none⟩) 0 0)) [] 5 (fun F=>rn_buildSlice (parts0 ) (by kernel_rfl)) fun M ae _ C D D D O=>C.xw (vl (some ⟨G,0,none⟩) 32 32) (fun F=>rn_arrAll uu29 inf5 (F.get rfl)) fun _ C=>have Z:=(b4.ext O);have ab:=(own_blk0 (k:=1) D);wpl_op (i:=2) rfl<|o_appB (zs:=byteVals root) El22 C rfl rfl rfl rfl rfl (C.get rfl) (C.get rfl) ab (Fl.cel (Fl.blk (S:=fun b=>b=G) (k:=1) (n:=32) (c:=32) Z (by rw [byteVals_len hd,Nat.mul_one]) (byteVals_one _) (by omega) rfl)).2.2 (by omega) (by omega) (by omega) (List.nil_append _) fun C C U C D ai C ab ab ab=>have ab:=C.size;have aa:ae.grownBy U (some M):=C;D.xm rfl fun _ C=>C.xC (c:=rtwo_int i _ (by omega) (by omega)) (k:= ?_)
 rintro _ V ⟨Y,ac,rfl,I,J⟩
 have C:=(Fl.cel I).2.1
 refine ⟨_,rfl,?_⟩;intro C D;have C:=J.size
 have ab:Fl (Clip (fun b=>U.heap.size≤b) V) V 1 (vl Y 2 ac) 2 (byteVals (two (i:Int).toNat)):=I.clip
 have I:=own_ext ai J
 have C:=I
 refine wpl_op (i:=5) rfl<|o_appB (zs:=byteVals (root++(two (i:Int).toNat))) El22 D rfl rfl rfl rfl rfl (D.get rfl) (D.get rfl) C (Fl.cel ab).2.2 (by omega) (by omega) (by omega) (byteVals_app _ _) fun ae aj D D D V I U U U=>have U:=I.size;D.xa rfl fun _ D=>wn ag<|have U:=D.k [0,1,2,3,6,16,7];wr fun D ag=>U.xm rfl<|Xm rfl fun _ D=>have U:=(hc.pres (Pres.row (((((Pres.refl w).ext ah).ext O).gc aa).ext J) I C (fun b hb h=>by simp only [Clip] at h;omega)));have O:=V;wpl_op (i:=2) rfl<|o_appB (zs:=byteVals ((root++(two (i:Int).toNat))++msg)) El22 D rfl rfl rfl rfl rfl (D.get rfl) (D.get rfl) O (Fl.cel U).2.2 (by omega) (by omega) (by omega) (byteVals_app _ _) fun D Y U U V ab U ac ac ac=>have ac:=U.size;V.xE (c:=rtagged_at ([109,101,115,115,97,103,101]) (v:=(vl D (((0+32)+2)+msg.length) Y)) (n:=((0+32)+2)+msg.length) ((root++(two (i:Int).toNat))++msg) _ (Fl.own (S:=fun b=>M≤b) ab (fun b hb=>hb) (byteVals_one _)) (by decide) (by omega)) (k:=fun D ab D _ D=>D.xz (byteVals (List.replicate 32 0)) 29 fun M D _ D V V V ac=>?_)
 refine D.xs rfl V (fun V ah V=>?_) (hk:=byteVals_len (tagged_len _ _));have Y:=V.size
 refine wn ag<|have Y:=D.k [0,1,2,3,6,16,7,8];wr fun D ak=>Y.xn (fun g=>(vl (some ⟨g,0,none⟩) 0 0)) [] 4 (fun F=>rn_buildSlice (parts0 ) (by kernel_rfl)) fun D am _ ag Y Y ai Y=>ag.xa rfl fun _ ag=>wn ak<|wp_seq_k fun ak ak=>wr fun al al=>ag.xv (vi 0) fun _ ag=>wn al<|wp_block<|have al:=own_blk0 (k:=1) ai;have ai:=(((((grown_blk O U (grown_blk C I ((Z.gn aa).ext J) (by decide)) (by decide)).ext ab).ext ac).gn V).ext Y);have J:=(ah.ext Y);wp_loop (fun a' W=>∃ (k:Nat) (Ap:Option Addr) (np:Nat) (cp:Nat) (bb:List Bool),Sl 46 [(0,(.agg (byteVals root).toArray)),(1,(vi i)),(2,(vl A msg.length c)),(3,(vp G)),(6,v0),(16,(vd ((4096:Int)≤(i:Int)))),(7,(vl ae ((0+32)+2) aj)),(8,(vp M)),(9,(vl Ap np cp)),(10,(vi k))] a'∧(k≤64∧np=k)∧bb=bitsTo (tagged ([109,101,115,115,97,103,101]) ((root++(two (i:Int).toNat))++msg)) k∧Ext w W∧Blk W G 29 (byteVals root)∧Blk W M 29 (byteVals (tagged ([109,101,115,115,97,103,101]) ((root++(two (i:Int).toNat))++msg)))∧W.ownsRow D 4 1 (vl Ap np cp) np (boolVals bb)∧D≤W.heap.size∧am.heap.size≤W.heap.size) (fun a' _=>64 - (intOf (a'.eval (.tmp 10))).toNat) ⟨0,(some ⟨D,0,none⟩),0,0,[],ag.j,⟨by omega,by omega⟩,rfl,(((((ext_row (ext_row eX I C (by omega)) U O (by omega)).trans ab).trans ac).gn V).trans Y),ai,J,al,(by omega),(Nat.le_refl _)⟩ ?_
 rintro C C ⟨k,Ap,np,cp,bb,C,G,V,I,O,J,G,U,U⟩
 have aa:=C
 have U:=I.size
 have I:=O.lt
 have I:=J.lt
 have I:=own_form0 G
 refine wp_seq_k fun I I=>wr fun U U=>C.xm rfl<|Xv (vd ((k:Int)<(64:Int))) fun _ C=>wn U ?_
 by_cases U:(k:Int)<(64:Int)
 ·refine C.ct<|wp_skip<|I _ _<|wp_seq_k fun D Z=>wp_block<|wp_region_lit<|C.xm rfl<|Xm rfl<|Xw (vi (k / 8:Nat)) (fun F=>rn_quoN (a:=k) (b:=8) (F.get rfl) rfl (by omega) (by omega))<|Xw (.pointer (some ⟨M,0+(k / 8),none⟩)) (fun F=>rn_indexArr uu29 inf5 (F.get rfl) (F.get rfl) (by omega:(0:Int)≤(k / 8:Nat)) (by omega:((k / 8:Nat):Int)<((32:Nat):Int)))<|Xw (.int .u8 (((tagged ([109,101,115,115,97,103,101]) ((root++(two (i:Int).toNat))++msg)).getD (k / 8) 0).toNat:Nat)) (fun F=>rl F rfl (blk_byte J (by omega) (by have:=(show List.length (tagged ([109,101,115,115,97,103,101]) ((root++(two (i:Int).toNat))++msg))=_ from (tagged_len _ _));omega)))<|Xm rfl<|Xw (vi (k % 8:Nat)) (fun F=>rn_remN (a:=k) (b:=8) (F.get rfl) rfl (by omega))<|Xw (vi (7 - (k % 8):Nat)) (fun F=>rn_subN (a:=7) (b:=k % 8) rfl (F.get rfl) (by omega) (by omega))<|Xw (.int .u8 ((((tagged ([109,101,115,115,97,103,101]) ((root++(two (i:Int).toNat))++msg)).getD (k / 8) 0) >>> UInt8.ofNat (7 - (k % 8))).toNat:Nat)) (fun F=>rn_shr8 (a:=((tagged ([109,101,115,115,97,103,101]) ((root++(two (i:Int).toNat))++msg)).getD (k / 8) 0)) (n:=7 - (k % 8)) (F.get rfl) (F.get rfl) (by omega))<|Xw (.int .u8 (((((tagged ([109,101,115,115,97,103,101]) ((root++(two (i:Int).toNat))++msg)).getD (k / 8) 0) >>> UInt8.ofNat (7 - (k % 8))) &&& (1:UInt8)).toNat:Nat)) (fun F=>rn_and8 (a:=(((tagged ([109,101,115,115,97,103,101]) ((root++(two (i:Int).toNat))++msg)).getD (k / 8) 0) >>> UInt8.ofNat (7 - (k % 8)))) (b:=(1:UInt8)) (F.get rfl) rfl)<|Xv (vd (((((((tagged ([109,101,115,115,97,103,101]) ((root++(two (i:Int).toNat))++msg)).getD (k / 8) 0) >>> UInt8.ofNat (7 - (k % 8))) &&& (1:UInt8)).toNat:Nat):Int)=(1:Int))) fun _ C=>have D:=G;C.xn (fun g=>(vl (some ⟨g,0,none⟩) 1 1)) [(vd (((((((tagged ([109,101,115,115,97,103,101]) ((root++(two (i:Int).toNat))++msg)).getD (k / 8) 0) >>> UInt8.ofNat (7 - (k % 8))) &&& (1:UInt8)).toNat:Nat):Int)=(1:Int)))] 4 (fun F=>rn_buildSlice (parts1 (F.get rfl)) (by kernel_rfl)) fun C I _ I M M U M=>?_
  have Y:=own_new (g:=C) D (by omega)
  have ab:=own_ext G M
  have D:=ab
  have ac:some C≠(Value.slice Ap np cp).ownBlock:=Y
  have G:=U.lt
  refine wpl_op (i:=12) rfl<|o_appB (zs:=boolVals (bb++([decide (((((((tagged ([109,101,115,115,97,103,101]) ((root++(two (i:Int).toNat))++msg)).getD (k / 8) 0) >>> UInt8.ofNat (7 - (k % 8))) &&& (1:UInt8)).toNat:Nat):Int)=(1:Int))]))) El104 I rfl rfl rfl rfl rfl (I.get rfl) (I.get rfl) D (Fl.cel (Fl.blk (S:=fun b=>b=C) (k:=1) (n:=1) (c:=1) (cs:=boolVals [decide (((((((tagged ([109,101,115,115,97,103,101]) ((root++(two (i:Int).toNat))++msg)).getD (k / 8) 0) >>> UInt8.ofNat (7 - (k % 8))) &&& (1:UInt8)).toNat:Nat):Int)=(1:Int))]) U rfl (boolVals_one _) (by omega) rfl)).2.2 (by omega) (by omega) (by omega) (boolVals_app _ _) fun I Y G G U ae G ab ab ab=>have ag:=G.size;have ag:=ab C (by omega) ac;U.xa rfl fun _ C=>wn Z<|have U:=C.k [0,1,2,3,6,16,7,8,9,10,29];wp_region_lit<|U.xm rfl<|Xv (vi (k+1:Nat))<|Xa rfl fun _ C=>wpList_nil ?_
  have U:=grown_blk D G (O.ext M) (by decide)
  have O:=grown_blk D G (J.ext M) (by decide)
  refine ⟨⟨(k+1),I,np+1,Y,bb++([decide (((((((tagged ([109,101,115,115,97,103,101]) ((root++(two (i:Int).toNat))++msg)).getD (k / 8) 0) >>> UInt8.ofNat (7 - (k % 8))) &&& (1:UInt8)).toNat:Nat):Int)=(1:Int))]),C.j,⟨by omega,by omega⟩,(by rw [V];exact bitsTo_step _ k),(ext_row eX G D (by omega)),U,O,ae,(by omega),(by omega)⟩,?_⟩
  rw [C.get (t:=10) rfl,aa.get (t:=10) rfl];simp [intOf] <;> omega
 refine C.cf<|wp_exit<|exit_then<|exit_then<|exit_here<|ak _ _<|wr fun I I=>C.xm rfl<|Xa rfl fun _ C=>wn I<|wp_ret<|ret1 C rfl rfl ?_
 have hbr:=bitsR_in (root:=root) (i:=i) (msg:=msg) (by omega)
 have hk:k=64:=by omega
 have hb1:=V
 rw [hk] at hb1
 have hb2:bitsR root i msg=bb:=by rw [hbr,hb1];rfl
 exact ⟨_,_,_,rfl,by rw [hb2];exact Fl.sub (Fl.own (S:=fun b=>D≤b) G (fun b hb=>hb) (boolVals_one _)) (fun b hb=>by omega),eX⟩
theorem rbits_at (root:List UInt8) (i:Int) (msg:List UInt8) (w:World) (hd:root.length=32) (hf:Fl S w 1 v m (byteVals msg)) (hm:m≤4194304) :
  Calls Tryz.prog 73 #[.agg (byteVals root).toArray,.int .i64 i,v] w (fun e w'=>∃ A m c,e=.returned (vl A m c)∧Fl (fun b=>w.heap.size≤b) w' 1 (vl A m c) m (boolVals (bitsR root i msg))∧Ext w w'):=by
 have hmm:=hf.blen
 subst hmm
 obtain ⟨A,c,rfl,_⟩:=hf.form
 exact rbits_any A c root i msg w hd hf hm
theorem publics_int (sd:List UInt8) (many used:Int) (w:World) (hf:Fl S w 1 v m (byteVals sd)) (hG:Glob w) (hsd:m≤64) (h0:0≤many) (hm:many≤4096) :
  Calls Tryz.prog 54 #[.agg #[v,.int .i64 many,.int .i64 used]] w (fun e w'=>∃ A c,e=.returned (vl A many.toNat c)∧Fl (fun b=>w.heap.size≤b) w' 32 (vl A many.toNat c) many.toNat (digVals (pubsL sd many.toNat))∧Ext w w'):=by
 obtain ⟨k,rfl⟩:∃ k:Nat,many=(k:Int):=⟨many.toNat,by omega⟩
 exact publics_at sd k used w hf hG hsd (by omega)
theorem secret_int (sd:List UInt8) (i:Int) (j:Nat) (b:Bool) (w:World) (hf:Fl S w 1 v m (byteVals sd)) (hG:Glob w) (hsd:m≤4194304) (h0:0≤i) (hi:i<65536) (hj:j<256) :
  Calls Tryz.prog 64 #[.agg #[v,.int .i64 i],.int .i64 (j:Nat),.bool b] w (fun e w'=>e=.returned (.agg (byteVals (secretD sd i.toNat j b)).toArray)∧Ext w w'):=by
 obtain ⟨k,rfl⟩:∃ k:Nat,i=(k:Int):=⟨i.toNat,by omega⟩
 exact secret_at sd k j b w hf hG hsd (by omega) hj
theorem hash_int (sd:List UInt8) (i:Int) (j:Nat) (b:Bool) (w:World) (hf:Fl S w 1 v m (byteVals sd)) (hG:Glob w) (hsd:m≤4194304) (h0:0≤i) (hi:i<65536) (hj:j<256) :
  Calls Tryz.prog 65 #[.agg #[v,.int .i64 i],.int .i64 (j:Nat),.bool b] w (fun e w'=>e=.returned (.agg (byteVals (hashD sd i.toNat j b)).toArray)∧Ext w w'):=by
 obtain ⟨k,rfl⟩:∃ k:Nat,i=(k:Int):=⟨i.toNat,by omega⟩
 exact hash_at sd k j b w hf hG hsd (by omega) hj
theorem rbits_in (root:List UInt8) (i:Int) (msg:List UInt8) (w:World) (hd:root.length=32) (hf:Fl S w 1 v m (byteVals msg)) (hm:m≤4194304) (h0:0≤i) (h1:i<4096) :
  Calls Tryz.prog 73 #[.agg (byteVals root).toArray,.int .i64 i,v] w (fun e w'=>∃ A c,e=.returned (vl A 64 c)∧Fl (fun b=>w.heap.size≤b) w' 1 (vl A 64 c) 64 (boolVals (bitsL root i.toNat msg))∧Ext w w'):=by
 refine (rbits_at root i msg w hd hf hm).mono ?_
 rintro e w' ⟨A,m,c,rfl,h,hx⟩
 rw [bitsR_in (by omega)] at h
 have:=Fl.blen2 h
 rw [bitsL_len] at this
 subst this
 exact ⟨A,c,rfl,h,hx⟩
theorem opTo_step' {i:Nat} (hl:l=opTo sd i bs k) (h:bs.getD k false=b):l++[secretD sd i k b]=opTo sd i bs (k+1):=by rw [hl,← h];exact opTo_step _ _ _ _
theorem clTo_step' {i:Nat} {c:Bool} (hl:l=clTo sd i bs k) (h:bs.getD k false=b) (hc:c=!b):l++[hashD sd i k c]=clTo sd i bs (k+1):=by rw [hl,hc,← h];exact clTo_step _ _ _ _
def pubF (sd:List UInt8) (many used:Int):List UInt8:=if kOk sd many used=true then pubD sd many.toNat else zero32
def pubE (sd:List UInt8) (many used:Int):Int:=if kOk sd many used=true then 0 else 40
theorem pubF_len (sd:List UInt8) (many used:Int):(pubF sd many used).length=32:=by unfold pubF;split;exact treeD_len _;rfl
theorem signF_no {msg:List UInt8} {e:Int} (he:signE sd many used idx msg=e) (h0:e≠0):signF sd many used idx msg=sgNil:=by rw [signF,he,if_neg h0]
theorem signE1 {msg:List UInt8} (h:kOk sd many used=false):signE sd many used idx msg=40:=by rw [signE,if_pos h]
theorem signE2 {msg:List UInt8} (h:kOk sd many used=true) (h2:65536<msg.length):signE sd many used idx msg=2:=by rw [signE,if_neg (by rw [h];decide),if_pos h2]
theorem signE3 {msg:List UInt8} (h:kOk sd many used=true) (h2:¬ 65536<msg.length) (h3:idx<0∨many≤idx):signE sd many used idx msg=40:=by rw [signE,if_neg (by rw [h];decide),if_neg h2,if_pos h3]
theorem signE4 {msg:List UInt8} (h:kOk sd many used=true) (h2:¬ 65536<msg.length) (h3:¬ (idx<0∨many≤idx)):signE sd many used idx msg=0:=by rw [signE,if_neg (by rw [h];decide),if_neg h2,if_neg h3]
theorem signF_yes {msg:List UInt8} (h:kOk sd many used=true) (h2:¬ 65536<msg.length) (h3:¬ (idx<0∨many≤idx)) :
  signF sd many used idx msg=⟨idx,opTo sd idx.toNat (bitsL (treeD (pubsL sd many.toNat)) idx.toNat msg) 64,clTo sd idx.toNat (bitsL (treeD (pubsL sd many.toNat)) idx.toNat msg) 64,(pathF (pubsL sd many.toNat) idx).1⟩:=by
 have hp:(pathF (pubsL sd many.toNat) idx).1=pathD (pubsL sd many.toNat) idx.toNat:=by rw [pathF,if_neg (by rw [pubsL_len];omega)]
 rw [signF,if_pos (signE4 h h2 h3),sgOf,hp]
 congr 1
 omega
theorem pub_any (A:Option Addr) (c:Nat) (sd:List UInt8) (many used:Int) (w:World) (hf:Fl S w 1 (vl A sd.length c) sd.length (byteVals sd)) (hG:Glob w) :
  Calls Tryz.prog 25 #[.agg #[.slice A sd.length c,.int .i64 many,.int .i64 used]] w (fun e w'=>e=.returned (.tuple #[.agg (byteVals (pubF sd many used)).toArray,.int .i64 (pubE sd many used)])∧Ext w w'):=by
 have hc:Fl (Clip S w) w 1 (vl A sd.length c) sd.length (byteVals sd):=hf.clip
 have hcc:=(Fl.cel hc).2.1
 refine calls_enter Tryz.func25 rfl rfl rfl fun _ M=>wr fun V aa=>M.xb rfl fun M M _ M V V b4 V=>M.xz (byteVals (List.replicate 32 0)) 29 fun M M _ M V V J V=>M.xv (vi 0) fun _ Z=>wn aa<|wp_seq_k fun M ab=>wr fun M ac=>have M:=(b4.ext V);Z.xw (.agg #[(vl A sd.length c),(vi many),(vi used)]) (fun F=>rb F rfl M) fun _ Z=>have aa:=(hc.ux V);Z.xe (valid_at (v:=(vl A sd.length c)) (m:=sd.length) sd many used _ aa) fun ah G V _ V=>V.xw (.bool (!(kOk sd many used))) (fun F=>rn_not' (F.get rfl) rfl) fun _ C=>wn ac ?_
 rcases Bool.eq_false_or_eq_true (kOk sd many used) with D | D
 ·refine C.cf<|wp_skip<|ab _ _<|wp_seq_k fun V ae=>have hko35:=kOk_iff.1 D;wp_region_lit<|have V:=(M.ext G);C.xw (.agg #[(vl A sd.length c),(vi many),(vi used)]) (fun F=>rb F rfl V) fun _ M=>have V:=(hc.ux G);M.xC (c:=publics_int (v:=(vl A sd.length c)) (m:=sd.length) sd many used _ V (hG.ext eX) (by omega) (by omega) (by omega)) (k:= ?_)
  rintro _ Y ⟨I,O,rfl,U,ag⟩
  have C:=(Fl.cel U).2.1
  refine ⟨_,rfl,?_⟩;intro C C;have G:=ag.size
  have G:Fl (Clip (fun b=>ah.heap.size≤b) Y) Y 32 (vl I ((many:Int).toNat) O) ((many:Int).toNat) (digVals (pubsL sd ((many:Int).toNat))):=U.clip
  have M:=G
  refine C.xe (tree_at (pubsL sd ((many:Int).toNat)) _ (n:=(many:Int).toNat) (v:=(vl I ((many:Int).toNat) O)) (pubsL_32 _ _) M (hG.ext eX)) fun C I C _ C=>?_
  have G:=J.ux I
  refine C.xs rfl G (fun G I G=>?_) (hk:=byteVals_len (treeD_len _));have J:=G.size
  refine C.xv (vi 0) fun _ C=>wn ae<|have G:=C.k [0,1,2,3,6];wp_ret ?_
  exact retC1 G rfl rfl rfl I uu29 rfl (sk inf29 (byteVals_len (treeD_len _)))<|⟨by rw [pubF,pubE,D];rfl,eX⟩
 refine C.ct<|wr fun I M=>have I:=(J.ext G);C.xw (.agg (byteVals (List.replicate 32 0)).toArray) (fun F=>rb F rfl I (hk:=byteVals_len (show List.length (List.replicate 32 0)=_ from List.length_replicate))) fun _ C=>?_
 refine C.xs rfl I (fun G G I=>?_) (hk:=byteVals_len (show List.length (List.replicate 32 0)=_ from List.length_replicate));have J:=I.size
 refine C.xv (vi 40) fun _ C=>wn M<|wp_ret<|ret_then ?_
 exact retC1 C rfl rfl rfl G uu29 rfl (sk inf29 (byteVals_len (show List.length (List.replicate 32 0)=_ from List.length_replicate)))<|⟨by rw [pubF,pubE,D];rfl,eX⟩
theorem pub_at (sd:List UInt8) (many used:Int) (w:World) (hf:Fl S w 1 v m (byteVals sd)) (hG:Glob w) :
  Calls Tryz.prog 25 #[.agg #[v,.int .i64 many,.int .i64 used]] w (fun e w'=>e=.returned (.tuple #[.agg (byteVals (pubF sd many used)).toArray,.int .i64 (pubE sd many used)])∧Ext w w'):=by
 have hm:=hf.blen
 subst hm
 obtain ⟨A,c,rfl,_⟩:=hf.form
 exact pub_any A c sd many used w hf hG
theorem sign_any (A:Option Addr) (c:Nat) (sd:List UInt8) (many used idx:Int) (B:Option Addr) (cb:Nat) (msg:List UInt8) (w:World) (hf:Fl S w 1 (vl A sd.length c) sd.length (byteVals sd)) (hm:Fl S w 1 (vl B msg.length cb) msg.length (byteVals msg)) (hG:Glob w) :
  Calls Tryz.prog 30 #[.agg #[.slice A sd.length c,.int .i64 many,.int .i64 used],.int .i64 idx,.slice B msg.length cb] w (fun e w'=>∃ A1 n1 c1 A2 n2 c2 A3 n3 c3,e=.returned (.tuple #[.agg #[.int .i64 (signF sd many used idx msg).index,.slice A1 n1 c1,.slice A2 n2 c2,.slice A3 n3 c3],.int .i64 (signE sd many used idx msg)])∧Fl (fun b=>w.heap.size≤b) w' 32 (vl A1 n1 c1) n1 (digVals (signF sd many used idx msg).op)∧Fl (fun b=>w.heap.size≤b) w' 32 (vl A2 n2 c2) n2 (digVals (signF sd many used idx msg).cl)∧Fl (fun b=>w.heap.size≤b) w' 32 (vl A3 n3 c3) n3 (digVals (signF sd many used idx msg).path)∧Ext w w'):=by
 have hc:Fl (Clip S w) w 1 (vl A sd.length c) sd.length (byteVals sd):=hf.clip
 have hcc:=(Fl.cel hc).2.1
 have hb:Fl (Clip S w) w 1 (vl B msg.length cb) msg.length (byteVals msg):=hm.clip
 have hbc:=(Fl.cel hb).2.1
 refine calls_enter Tryz.func30 rfl rfl rfl fun _ hF=>wr fun K1 aR=>hF.xb rfl fun g2 w3 _ F9 z6 z7 b4 bC=>F9.xz [(vi 0),v0,v0,v0] 32 fun I av _ av aZ aZ ar aI=>av.xv (vi 0) fun _ av=>wn aR<|wp_seq_k fun aR bt=>wp_block<|wr fun aR bu=>have aR:=(b4.ext aI);av.xw (.agg #[(vl A sd.length c),(vi many),(vi used)]) (fun F=>rb F rfl aR) fun _ av=>have aZ:=(hc.ux aI);av.xe (valid_at (v:=(vl A sd.length c)) (m:=sd.length) sd many used _ aZ) fun a9 ag av _ av=>av.xw (.bool (!(kOk sd many used))) (fun F=>rn_not' (F.get rfl) rfl)<|Xa rfl fun _ ay=>wn bu ?_
 rcases Bool.eq_false_or_eq_true (kOk sd many used) with aa | aa
 ·refine ay.cf<|wr fun av av=>ay.xm rfl<|Xv (vi msg.length)<|Xv (vd ((65536:Int)<(msg.length:Int)))<|Xa rfl fun _ aZ=>wn av ?_
  have av:=aZ.k [0,1,2,3,6,7,12,17]
  by_cases aZ:(65536:Int)<(msg.length:Int)
  ·refine av.ct<|wr fun C G=>have D:=(ar.ext ag);av.xw (.agg #[(vi 0),v0,v0,v0]) (fun F=>rb F rfl D) fun _ C=>C.xs rfl D (fun D D I=>have J:=I.size;C.xv (vi 2) fun _ C=>wn G<|wp_ret<|ret_block<|ret_then ?_)
   exact retC1 C rfl rfl rfl D uu32 rfl inf32<|have he:signE sd many used idx msg=2:=signE2 aa (by omega);have hn:=signF_no he (by decide);⟨none,0,0,none,0,0,none,0,0,by rw [he,hn];rfl,by rw [hn];exact Fl.nil _,by rw [hn];exact Fl.nil _,by rw [hn];exact Fl.nil _,eX⟩
  refine av.cf<|wr fun aZ aZ=>av.xm rfl<|Xv (vd ((idx:Int)<(0:Int)))<|Xm rfl fun _ av=>?_
  by_cases bu:(idx:Int)<(0:Int)
  ·refine av.xu<|Xu<|Xu<|Xu<|Xv (.bool true)<|Xa rfl fun _ D=>wn aZ<|have C:=D.k [0,1,2,3,6,7,12,17,22];C.ct<|wr fun D G=>have D:=(ar.ext ag);C.xw (.agg #[(vi 0),v0,v0,v0]) (fun F=>rb F rfl D) fun _ C=>C.xs rfl D (fun D D I=>have J:=I.size;C.xv (vi 40) fun _ C=>wn G<|wp_ret<|ret_block<|ret_then ?_)
   exact retC1 C rfl rfl rfl D uu32 rfl inf32<|have he:signE sd many used idx msg=40:=signE3 aa (by omega) (by omega);have hn:=signF_no he (by decide);⟨none,0,0,none,0,0,none,0,0,by rw [he,hn];rfl,by rw [hn];exact Fl.nil _,by rw [hn];exact Fl.nil _,by rw [hn];exact Fl.nil _,eX⟩
  refine av.xg (vi idx)<|Xg (vq g2 1) fun _ av=>have aB:=(aR.ext ag);av.xgw (vi many) (fun F=>rl F rfl (aB.rule.1 1))<|Xg (vd ((many:Int)≤(idx:Int)))<|Xv (vd ((many:Int)≤(idx:Int)))<|Xa rfl fun _ aR=>wn aZ ?_
  have av:=aR.k [0,1,2,3,6,7,12,17,22]
  by_cases aR:(many:Int)≤(idx:Int)
  ·refine av.ct<|wr fun C G=>have D:=(ar.ext ag);av.xw (.agg #[(vi 0),v0,v0,v0]) (fun F=>rb F rfl D) fun _ C=>C.xs rfl D (fun D D I=>have J:=I.size;C.xv (vi 40) fun _ C=>wn G<|wp_ret<|ret_block<|ret_then ?_)
   exact retC1 C rfl rfl rfl D uu32 rfl inf32<|have he:signE sd many used idx msg=40:=signE3 aa (by omega) (by omega);have hn:=signF_no he (by decide);⟨none,0,0,none,0,0,none,0,0,by rw [he,hn];rfl,by rw [hn];exact Fl.nil _,by rw [hn];exact Fl.nil _,by rw [hn];exact Fl.nil _,eX⟩
  refine av.cf<|wp_skip<|bt _ _<|wp_seq_k fun aR bq=>have hko114:=kOk_iff.1 aa;wp_region_lit<|av.xw (.agg #[(vl A sd.length c),(vi many),(vi used)]) (fun F=>rb F rfl aB) fun _ av=>have aR:=(hc.ux ag);av.xC (c:=publics_int (v:=(vl A sd.length c)) (m:=sd.length) sd many used _ aR (hG.ext eX) (by omega) (by omega) (by omega)) (k:= ?_)
  rintro _ aM ⟨aq,au,rfl,a2,aH⟩
  have av:=(Fl.cel a2).2.1
  refine ⟨_,rfl,?_⟩;intro av av;have aR:=aH.size
  have aC:Fl (Clip (fun b=>a9.heap.size≤b) aM) aM 32 (vl aq ((many:Int).toNat) au) ((many:Int).toNat) (digVals (pubsL sd ((many:Int).toNat))):=a2.clip
  refine av.xa rfl fun _ av=>wn bq<|wr fun aR aZ=>av.xm rfl<|Xv (vp I) fun _ av=>have aR:=ar.ux aH;wpl_op (i:=2) rfl<|o_store1 (new:=[(vi idx),v0,v0,v0]) av rfl rfl rfl rfl (av.get rfl) (av.get rfl) aR inf3 (by simp) rfl rfl fun a7 bm aE=>have aR:=aE.size;wn aZ<|have aR:=av.k [0,1,2,3,6,7,12,17,22,8];wr fun av br=>aR.xm rfl<|Xm rfl fun _ av=>have aR:=(aC.ug aE);av.xC (c:=path_at (pubsL sd ((many:Int).toNat)) idx _ (v:=(vl aq ((many:Int).toNat) au)) (n:=(many:Int).toNat) (pubsL_32 _ _) aR (hG.ext eX) (by omega)) (k:= ?_)
  rintro _ aN ⟨D,C,G,rfl,aD,h32151,aJ⟩
  have av:=(Fl.cel aD).2.1
  have av:=Fl.dlen aD h32151
  refine ⟨_,rfl,?_⟩;intro av av;have aR:=aJ.size
  have bt:Fl (Clip (fun b=>a7.heap.size≤b) aN) aN 32 (vl D C G) C (digVals ((pathF (pubsL sd ((many:Int).toNat)) idx).1)):=aD.clip
  refine av.xm rfl<|Xv (vl D C G)<|Xv (vi ((pathF (pubsL sd ((many:Int).toNat)) idx).2))<|Xv (vq I 3) fun _ av=>have aD:=(bm.ext aJ);wpl_op (i:=7) rfl<|o_store1 (new:=[(vi idx),v0,v0,(vl D C G)]) av rfl rfl rfl rfl (av.get rfl) (av.get rfl) aD inf30 (by simp) rfl rfl fun aD a2 aD=>have aR:=aD.size;wn br<|have aR:=av.k [0,1,2,3,6,7,12,17,22,8];wr fun av aZ=>aR.xv (vp g2) fun _ av=>have aR:=aB.ug aD;av.xw (vl A sd.length c) (fun F=>rl F rfl (aR.rule.1 0))<|Xm rfl<|Xw (.agg #[(vl A sd.length c),(vi idx)]) (fun F=>rn_build (parts2 (F.get rfl) (F.get rfl)) (by kernel_rfl)) fun _ av=>av.xz [v0,(vi 0)] 97 fun am av _ aB av av av bu=>aB.xs rfl av (fun av bm av=>have bq:=av.size;wn aZ<|have aZ:=aB.k [0,1,2,3,6,7,12,17,22,8,9];wp_seq_k fun aB bs=>wr fun aB bq=>aZ.xm rfl fun _ aB=>have aZ:=(aC.ug av);have br:=aZ;aB.xe (tree_at (pubsL sd ((many:Int).toNat)) _ (n:=(many:Int).toNat) (v:=(vl aq ((many:Int).toNat) au)) (pubsL_32 _ _) br (hG.ext eX)) fun aB br aB _ aB=>aB.xm rfl<|Xm rfl fun _ aB=>?_)
  have aZ:=hb.pres (((((((((((Pres.refl w).ext bC).ext aI).ext ag).ext aH).gc aE).ext aJ).gc aD).ext bu).gc av).ext br)
  have av:(((idx:Int).toNat:Nat):Int)=idx:=by omega
  refine aB.xE (c:=signed_int (v:=(vl B msg.length cb)) (m:=msg.length) (treeD (pubsL sd ((many:Int).toNat))) idx msg _ (treeD_len _) aZ (hG.ext eX) (by omega) (by omega) (by omega)) (k:=fun U av aB _ aB=>aB.xv (vi 0) fun _ aB=>wn bq<|have aD:=aB.k [0,1,2,3,6,7,12,17,22,8,9,51,52];wp_block<|have aH:=(aC.ux av);have aI:=(bt.ux av);have aB:=aR.ux av;have aC:=a2.ux av;have aE:=bm.ux av;wp_loop (fun a' W=>∃ (k:Nat) (Ao:Option Addr) (no:Nat) (co:Nat) (lo:List (List UInt8)) (Ac:Option Addr) (nc:Nat) (cc:Nat) (lc:List (List UInt8)),Sl 77 [(0,(.agg #[(vl A sd.length c),(vi many),(vi used)])),(1,(vi idx)),(2,(vl B msg.length cb)),(3,(vp g2)),(6,(vp I)),(7,(vi 0)),(12,(.bool (!(kOk sd many used)))),(17,(vd ((65536:Int)<(msg.length:Int)))),(22,(vd ((many:Int)≤(idx:Int)))),(8,(vl aq ((many:Int).toNat) au)),(9,(vp am)),(51,(.agg (boolVals (bitsL (treeD (pubsL sd ((many:Int).toNat))) ((idx:Int).toNat) msg)).toArray)),(52,(vi k))] a'∧(k≤64∧no=k∧nc=k)∧lo=opTo sd (idx:Int).toNat (bitsL (treeD (pubsL sd ((many:Int).toNat))) (idx:Int).toNat msg) k∧lc=clTo sd (idx:Int).toNat (bitsL (treeD (pubsL sd ((many:Int).toNat))) (idx:Int).toNat msg) k∧Ext w W∧Blk W g2 24 [(vl A sd.length c),(vi many),(vi used)]∧Blk W I 32 [(vi idx),(vl Ao no co),(vl Ac nc cc),(vl D C G)]∧Blk W am 97 [(vl A sd.length c),(vi idx)]∧W.ownsRow U.heap.size 29 32 (vl Ao no co) no (digVals lo)∧W.ownsRow U.heap.size 29 32 (vl Ac nc cc) nc (digVals lc)∧Fl (Clip (fun b=>a9.heap.size≤b) aM) W 32 (vl aq ((many:Int).toNat) au) ((many:Int).toNat) (digVals (pubsL sd ((many:Int).toNat)))∧Fl (Clip (fun b=>a7.heap.size≤b) aN) W 32 (vl D C G) C (digVals ((pathF (pubsL sd ((many:Int).toNat)) idx).1))∧Apart (vl Ao no co) (vl Ac nc cc)∧U.heap.size≤W.heap.size∧U.heap.size≤W.heap.size∧U.heap.size≤W.heap.size) (fun a' _=>64 - (intOf (a'.eval (.tmp 52))).toNat) ⟨0,none,0,0,[],none,0,0,[],aD.j,⟨by omega,by omega,by omega⟩,rfl,rfl,eX,aB,aC,aE,(own_nil U U.heap.size 29 32),(own_nil U U.heap.size 29 32),aH,aI,(Apart.symm (Apart.nil v0 0 0)),(by omega),(by omega),(Nat.le_refl _)⟩ ?_)
  rintro aq a8 ⟨k,Ao,no,co,lo,Ac,nc,cc,lc,aq,au,aF,aG,a4,aS,ak,aT,aK,aL,bA,a3,bB,au,au,au⟩
  have bz:=aq
  have au:=a4.size
  have au:=aS.lt
  have au:=ak.lt
  have au:=aT.lt
  have au:=own_form0 aK
  have au:=own_form0 aL
  have hlo32:All32 lo:=by rw [aF];exact opTo_32 _ _ _ _
  have hlc32:All32 lc:=by rw [aG];exact clTo_32 _ _ _ _
  refine wr fun au au=>aq.xv (vd ((k:Int)<(64:Int))) fun _ aw=>wn au<|wp_seq_k fun aq aq=>?_
  by_cases au:(k:Int)<(64:Int)
  ·refine aw.ct<|wp_skip<|aq _ _<|wp_seq_k fun aq bv=>wp_block<|wr fun aq bw=>?_
   refine aw.xm rfl<|Xw (.bool ((bitsL (treeD (pubsL sd ((many:Int).toNat))) ((idx:Int).toNat) msg).getD k false)) (fun F=>rn_indexA1 uu99 uu4 rfl inf4 (F.get rfl) (F.get rfl) (zl _) (by omega:(k:Int)<((64:Nat):Int)) (by rw [Int.toNat_natCast,List.getElem?_toArray];exact boolVals_at (l:=bitsL (treeD (pubsL sd ((many:Int).toNat))) ((idx:Int).toNat) msg) (i:=k) (by have:=(bitsL_len (treeD (pubsL sd ((many:Int).toNat))) ((idx:Int).toNat) msg);omega)))<|Xa rfl<|Xa rfl<|fun _ ba=>?_
   refine wn bw<|wp_seq_k fun aq bx=>sX (fun ah W=>Ext ah W∧Blk W I 32 [(vi idx),(vl Ao no co),(vl Ac nc cc),(vl D C G)]∧Blk W am 97 [(vl A sd.length c),(vi idx)]) (fun i=>i==7||i==9) 10 fun ah Y aq=>ba.yv 0 (vq I 1) rfl fun _ bb=>have aU:=(ak.ext Y);have aV:=(aT.ext Y);have a0:Ext ah ah∧Blk ah I 32 [(vi idx),(vl Ao no co),(vl Ac nc cc),(vl D C G)]∧Blk ah am 97 [(vl A sd.length c),(vi idx)]:=⟨(Ext.refl ah),aU,aV⟩;bb.ys 1 (vl Ao no co) rfl a0 (fun F W hW=>rl F rfl (hW.2.1.rule.1 1)) fun _ aO=>anyt_val (i:=2) (v:=(.agg #[(vl A sd.length c),(vi idx)])) [5,6,7,8,9] aO (fun j hj=>by simp at hj;first | (subst hj;decide) | (rcases hj with rfl | rfl <;> decide)) (by decide +kernel) (by decide +kernel) rfl rfl rfl rfl (fun _ _ _ _ h=>h) rfl a0 (fun W hW=>(rb aO rfl hW.2.2)) fun aq bc=>bc.ym 3 rfl<|Ym 4 rfl fun _ bd=>ao 5 rfl<|have bo:=(hc.ux Y);bd.oE (c:=secret_int (v:=(vl A sd.length c)) (m:=sd.length) sd idx k ((bitsL (treeD (pubsL sd ((many:Int).toNat))) ((idx:Int).toNat) msg).getD k false) _ bo (hG.ext eX) (by omega) (by omega) (by omega) (by omega)) (k:=fun aq ab aq _ bf=>?_)
   have aq:=aU.ext ab
   have au:=aV.ext ab
   refine ⟨fun _ _=>⟨eX,aq,au⟩,?_⟩
   have aB:=own_ext (own_ext aK Y) ab
   have av:=aB
   have aC:=own_ext (own_ext aL Y) ab
   have aD:=aC
   refine ao 6 rfl (bf.on (fun g=>(vl (some ⟨g,0,none⟩) 1 1)) (byteVals ((secretD sd (idx:Int).toNat k ((bitsL (treeD (pubsL sd ((many:Int).toNat))) ((idx:Int).toNat) msg).getD k false)))) 29 rfl (fun F=>rn_buildSlice (parts1 (F.get rfl)) (build_wholeE (vs:=[(.agg (byteVals (secretD sd (idx:Int).toNat k ((bitsL (treeD (pubsL sd ((many:Int).toNat))) ((idx:Int).toNat) msg).getD k false))).toArray)]) El30 rfl rfl (fun v hv=>by rw [List.mem_singleton.1 hv];exact (byteVals_len (secretD_len _ _ _ _))) (by decide) (by decide) (by simp [Value.cells,byteVals]))) fun ae ah _ ah aE aE az ac=>?_)
   have aE:=own_new (g:=ae) av (by omega)
   have bD:=own_new (g:=ae) aD (by omega)
   have av:=aq.ext ac
   have aW:=au.ext ac
   refine ⟨fun _ _=>⟨eX,av,aW⟩,?_⟩
   refine ao 7 rfl<|have aq:=(own_ext aB ac);have V:=aq;have a5:some ae≠(Value.slice Ao no co).ownBlock:=aE;have aq:=az.lt;have a6:=(own_ext aC ac);have au:=a6;have aQ:Apart (vl Ac nc cc) (vl Ao no co):=(Apart.symm bB);o_appB (zs:=digVals (lo++([secretD sd (idx:Int).toNat k ((bitsL (treeD (pubsL sd ((many:Int).toNat))) ((idx:Int).toNat) msg).getD k false)]))) El30 ah rfl rfl rfl rfl rfl (ah.get rfl) (ah.get rfl) V (Fl.cel (Fl.digblk (S:=fun b=>b=ae) az (All32.sing (secretD_len _ _ _ _)) (by simp [digVals,byteVals]))).2.2 (by omega) (by omega) (by omega) (digVals_app _ _) fun aj al ah ah aq bE J ah ah ah=>?_;have aB:=J.size
   have aB:=ah ae (by omega) a5
   have bl:=Apart.app au aQ ah
   refine ⟨fun h=>absurd h (by decide),?_⟩
   refine aq.yv 8 (vq I 1) rfl fun _ ax=>ao 9 rfl<|have aA:=(grown_blk V J av (by decide));o_store1 (new:=[(vi idx),(vl aj (no+1) al),(vl Ac nc cc),(vl D C G)]) ax rfl rfl rfl rfl (ax.get rfl) (ax.get rfl) aA inf30 (by simp) rfl rfl fun ah bn M=>?_;have ah:=M.size
   refine ⟨fun h=>absurd h (by decide),?_⟩
   refine nK bx<|have bg:=ax.k [0,1,2,3,6,7,12,17,22,8,9,51,52,53,10,11];sX (fun ai W=>Ext ai W∧Blk W I 32 [(vi idx),(vl aj (no+1) al),(vl Ac nc cc),(vl D C G)]∧Blk W am 97 [(vl A sd.length c),(vi idx)]) (fun i=>i==8||i==10) 11 fun ai O ah=>bg.yv 0 (vq I 2) rfl fun _ bh=>have aX:=(bn.ext O);have aY:=(((grown_blk V J aW (by decide)).gn M).ext O);have a1:Ext ai ai∧Blk ai I 32 [(vi idx),(vl aj (no+1) al),(vl Ac nc cc),(vl D C G)]∧Blk ai am 97 [(vl A sd.length c),(vi idx)]:=⟨(Ext.refl ai),aX,aY⟩;bh.ys 1 (vl Ac nc cc) rfl a1 (fun F W hW=>rl F rfl (hW.2.1.rule.1 2)) fun _ aP=>anyt_val (i:=2) (v:=(.agg #[(vl A sd.length c),(vi idx)])) [6,7,8,9,10] aP (fun j hj=>by simp at hj;first | (subst hj;decide) | (rcases hj with rfl | rfl <;> decide)) (by decide +kernel) (by decide +kernel) rfl rfl rfl rfl (fun _ _ _ _ h=>h) rfl a1 (fun W hW=>(rb aP rfl hW.2.2)) fun ah bi=>bi.ym 3 rfl<|Ym 4 rfl<|Yw 5 (.bool (!((bitsL (treeD (pubsL sd ((many:Int).toNat))) ((idx:Int).toNat) msg).getD k false))) rfl (fun F W=>rn_not' (F.get rfl) rfl) fun _ bj=>ao 6 rfl<|have bp:=(hc.pres (((Pres.row (((((Pres.refl w).ext a4).ext Y).ext ab).ext ac) J V (fun b hb h=>by simp only [Clip] at h;omega)).gc M).ext O));bj.oE (c:=hash_int (v:=(vl A sd.length c)) (m:=sd.length) sd idx k (!((bitsL (treeD (pubsL sd ((many:Int).toNat))) ((idx:Int).toNat) msg).getD k false)) _ bp (hG.ext (((ext_row eX J V (by omega)).gn M).trans O)) (by omega) (by omega) (by omega) (by omega)) (k:=fun ah Z ah _ bk=>?_)
   have ag:=aX.ext Z
   have ai:=aY.ext Z
   refine ⟨fun _ _=>⟨eX,ag,ai⟩,?_⟩
   have am:=own_ext (own_ext (own_grownT bE aA M (by decide)) O) Z
   have aq:=am
   have au:=own_ext (own_ext (own_grownT (own_grownR a6 J aQ) aA M (by decide)) O) Z
   have ar:=au
   refine ao 7 rfl (bk.on (fun g=>(vl (some ⟨g,0,none⟩) 1 1)) (byteVals ((hashD sd (idx:Int).toNat k (!((bitsL (treeD (pubsL sd ((many:Int).toNat))) ((idx:Int).toNat) msg).getD k false))))) 29 rfl (fun F=>rn_buildSlice (parts1 (F.get rfl)) (build_wholeE (vs:=[(.agg (byteVals (hashD sd (idx:Int).toNat k (!((bitsL (treeD (pubsL sd ((many:Int).toNat))) ((idx:Int).toNat) msg).getD k false)))).toArray)]) El30 rfl rfl (fun v hv=>by rw [List.mem_singleton.1 hv];exact (byteVals_len (hashD_len _ _ _ _))) (by decide) (by decide) (by simp [Value.cells,byteVals]))) fun ah U _ aa U U ak U=>?_)
   have av:=own_new (g:=ah) aq (by omega)
   have av:=own_new (g:=ah) ar (by omega)
   have aq:=ag.ext U
   have ar:=ai.ext U
   refine ⟨fun _ _=>⟨eX,aq,ar⟩,?_⟩
   refine ao 8 rfl<|have ai:=(own_ext au U);have ag:=ai;have ai:=(((((az.grown J a5).gn M).ext O).ext Z).ext U);have ay:some ae≠(Value.slice Ac nc cc).ownBlock:=bD;have au:=ai.lt;have az:some ah≠(Value.slice Ac nc cc).ownBlock:=av;have ai:=ak.lt;have av:=(own_ext am U);have ax:=av;have am:Apart (vl aj (no+1) al) (vl Ac nc cc):=(Apart.symm bl);o_appB (zs:=digVals (lc++([hashD sd (idx:Int).toNat k (!((bitsL (treeD (pubsL sd ((many:Int).toNat))) ((idx:Int).toNat) msg).getD k false))]))) El30 aa rfl rfl rfl rfl rfl (aa.get rfl) (aa.get rfl) ag (Fl.cel (Fl.digblk (S:=fun b=>b=ah) ak (All32.sing (hashD_len _ _ _ _)) (by simp [digVals,byteVals]))).2.2 (by omega) (by omega) (by omega) (digVals_app _ _) fun ak au aa aa aw aA aa ai ai ai=>?_;have aB:=aa.size
   have aB:=ai ae (by omega) ay
   have ae:=ai ah (by omega) az
   have ah:=Apart.app ax am ai
   refine ⟨fun h=>absurd h (by decide),?_⟩
   refine aw.yv 9 (vq I 2) rfl fun _ I=>ao 10 rfl<|have ae:=(grown_blk ag aa aq (by decide));o_store1 (new:=[(vi idx),(vl aj (no+1) al),(vl ak (nc+1) au),(vl D C G)]) I rfl rfl rfl rfl (I.get rfl) (I.get rfl) ae inf30 (by simp) rfl rfl fun C G C=>?_;have D:=C.size
   refine ⟨fun h=>absurd h (by decide),?_⟩
   refine nK bv<|have D:=I.k [0,1,2,3,6,7,12,17,22,8,9,51,52,53,10,11];wp_region_lit<|D.xv (vi (k+1:Nat))<|Xm rfl fun _ D=>wpList_nil ?_
   have ai:=bA.pres ((Pres.row (((((Pres.row ((((Pres.refl a8).ext Y).ext ab).ext ac) J V (fun b hb h=>by simp only [Clip] at h;omega)).gc M).ext O).ext Z).ext U) aa ag (fun b hb h=>by simp only [Clip] at h;omega)).gc C)
   have aq:=a3.pres ((Pres.row (((((Pres.row ((((Pres.refl a8).ext Y).ext ab).ext ac) J V (fun b hb h=>by simp only [Clip] at h;omega)).gc M).ext O).ext Z).ext U) aa ag (fun b hb h=>by simp only [Clip] at h;omega)).gc C)
   have I:=(grown_blk ag aa (((((grown_blk V J (((aS.ext Y).ext ab).ext ac) (by decide)).gn M).ext O).ext Z).ext U) (by decide)).gn C
   have Y:=(grown_blk ag aa ar (by decide)).gn C
   have ab:=own_grownT (own_grownR av aa am) ae C (by decide)
   have ac:=own_grownT aA ae C (by decide)
   refine ⟨⟨(k+1),aj,no+1,al,lo++([secretD sd (idx:Int).toNat k ((bitsL (treeD (pubsL sd ((many:Int).toNat))) ((idx:Int).toNat) msg).getD k false)]),ak,nc+1,au,lc++([hashD sd (idx:Int).toNat k (!((bitsL (treeD (pubsL sd ((many:Int).toNat))) ((idx:Int).toNat) msg).getD k false))]),D.j,⟨by omega,by omega,by omega⟩,(opTo_step' aF rfl),(clTo_step' aG rfl rfl),((ext_row (((((ext_row eX J V (by omega)).gn M).trans O).trans Z).trans U) aa ag (by omega)).gn C),I,G,Y,ab,ac,ai,aq,ah,(by omega),(by omega),(by omega)⟩,?_⟩
   rw [D.get (t:=52) rfl,bz.get (t:=52) rfl];simp [intOf] <;> omega
  refine aw.cf<|wp_exit<|exit_then<|exit_then<|exit_here<|bs _ _<|wr fun I I=>aw.xw (.agg #[(vi idx),(vl Ao no co),(vl Ac nc cc),(vl D C G)]) (fun F=>rb F rfl ak) fun _ D=>D.xs rfl ak (fun C G C=>have J:=C.size;D.xv (vi 0) fun _ D=>wn I<|wp_ret ?_)
  refine retC1 D rfl rfl rfl G uu32 rfl inf32 ?_
  have hk:k=64:=by omega
  have ho:=aF
  have hcl:=aG
  rw [hk] at ho hcl
  have he:=signE4 (idx:=idx) (msg:=msg) aa (by omega) (by omega)
  have hn:=signF_yes (idx:=idx) (msg:=msg) aa (by omega) (by omega)
  rw [← ho,← hcl] at hn
  have G:=own_grownT aK ak C (by decide)
  have I:=own_grownT aL ak C (by decide)
  have D:=a3.ug C
  exact ⟨_,_,_,_,_,_,_,_,_,by rw [he,hn],by rw [hn];exact Fl.sub (Fl.own (S:=fun b=>U.heap.size≤b) G (fun b hb=>hb) (digVals_one _)) (fun b hb=>by first | omega | (simp only [Clip] at hb;omega)),by rw [hn];exact Fl.sub (Fl.own (S:=fun b=>U.heap.size≤b) I (fun b hb=>hb) (digVals_one _)) (fun b hb=>by first | omega | (simp only [Clip] at hb;omega)),by rw [hn];exact Fl.sub D (fun b hb=>by first | omega | (simp only [Clip] at hb;omega)),eX⟩
 refine ay.ct<|wr fun C I=>have D:=(ar.ext ag);ay.xw (.agg #[(vi 0),v0,v0,v0]) (fun F=>rb F rfl D) fun _ C=>C.xs rfl D (fun D G D=>have J:=D.size;C.xv (vi 40) fun _ C=>wn I<|have D:=C.k [0,1,2,3,6,7,12];wp_ret<|ret_block<|ret_then ?_)
 exact retC1 D rfl rfl rfl G uu32 rfl inf32<|have he:signE sd many used idx msg=40:=signE1 aa;have hn:=signF_no he (by decide);⟨none,0,0,none,0,0,none,0,0,by rw [he,hn];rfl,by rw [hn];exact Fl.nil _,by rw [hn];exact Fl.nil _,by rw [hn];exact Fl.nil _,eX⟩
theorem sign_at (sd:List UInt8) (many used idx:Int) (msg:List UInt8) (w:World) (hf:Fl S w 1 v m (byteVals sd)) (hm:Fl S2 w 1 u n (byteVals msg)) (hG:Glob w) :
  Calls Tryz.prog 30 #[.agg #[v,.int .i64 many,.int .i64 used],.int .i64 idx,u] w (fun e w'=>∃ A1 n1 c1 A2 n2 c2 A3 n3 c3,e=.returned (.tuple #[.agg #[.int .i64 (signF sd many used idx msg).index,.slice A1 n1 c1,.slice A2 n2 c2,.slice A3 n3 c3],.int .i64 (signE sd many used idx msg)])∧Fl (fun b=>w.heap.size≤b) w' 32 (vl A1 n1 c1) n1 (digVals (signF sd many used idx msg).op)∧Fl (fun b=>w.heap.size≤b) w' 32 (vl A2 n2 c2) n2 (digVals (signF sd many used idx msg).cl)∧Fl (fun b=>w.heap.size≤b) w' 32 (vl A3 n3 c3) n3 (digVals (signF sd many used idx msg).path)∧Ext w w'):=by
 have h1:=hf.blen
 have h2:=hm.blen
 subst h1
 subst h2
 obtain ⟨A,c,rfl,_⟩:=hf.form
 obtain ⟨B,cb,rfl,_⟩:=hm.form
 exact sign_any (S:=fun _=>True) A c sd many used idx B cb msg w (hf.sub fun _ _=>trivial) (hm.sub fun _ _=>trivial) hG
theorem shown_len {j:Nat} (ho:All32 s.op) (hc:All32 s.cl) (h1:j<s.op.length) (h2:j<s.cl.length):(shown bs s j b).length=32:=by
 unfold shown
 split
 ·exact openD_len _
 ·exact dig_len hc j h2
theorem pairs_32 {h:Nat→Bool→List UInt8} (hl:∀ j b,j<k→(h j b).length=32):All32 (pairsL h k):=fun x hx=>by
 simp only [pairsL,List.mem_flatMap] at hx
 obtain ⟨j,hj,hx⟩:=hx
 have hj:=List.mem_range.1 hj
 rcases List.mem_cons.1 hx with rfl | hx
 ·exact hl _ _ hj
 ·rw [List.mem_singleton.1 hx];exact hl _ _ hj
theorem pair_t (hx:x=pairsL (shown bs s) k) (h:bs.getD k false=true):x++[s.cl.getD k [],openD (s.op.getD k [])]=pairsL (shown bs s) (k+1):=by
 rw [hx,← pairsL_step];unfold shown;rw [h];rfl
theorem pair_f (hx:x=pairsL (shown bs s) k) (h:bs.getD k false=false):x++[openD (s.op.getD k []),s.cl.getD k []]=pairsL (shown bs s) (k+1):=by
 rw [hx,← pairsL_step];unfold shown;rw [h];rfl
theorem publicD_pairs (h:Nat→Bool→List UInt8):tagged [111,110,101] (pairsL h 64).flatten=publicD h:=by rw [pairsL_flat];rfl
theorem shown_any (j:Nat) (b:Bool) (gb gs:Nat) (bs:List Bool) (idx:Int) (O:Option Addr) (oc:Nat) (op:List (List UInt8)) (C:Option Addr) (ec:Nat) (cl pa:List (List UInt8)) (pv:Value) (w:World) (hb:Blk w gb 99 (boolVals bs)) (hs:Blk w gs 32 [.int .i64 idx,.slice O op.length oc,.slice C cl.length ec,pv]) (ho:Fl S w 32 (vl O op.length oc) op.length (digVals op)) (he:Fl S w 32 (vl C cl.length ec) cl.length (digVals cl)) (h32o:All32 op) (h32c:All32 cl) (hG:Glob w) (hbs:bs.length=64) (hj:j<64) (h1:op.length=64) (h2:cl.length=64) :
  Calls Tryz.prog 80 #[.int .i64 (j:Nat),.bool b,.pointer (some ⟨gb,0,none⟩),.pointer (some ⟨gs,0,none⟩)] w (fun e w'=>e=.returned (.agg (byteVals (shown bs ⟨idx,op,cl,pa⟩ j b)).toArray)∧Ext w w'):=by
 have hco:Fl (Clip S w) w 32 (vl O op.length oc) op.length (digVals op):=ho.clip
 have hcoc:=(Fl.cel hco).2.1
 have hce:Fl (Clip S w) w 32 (vl C cl.length ec) cl.length (digVals cl):=he.clip
 have hcec:=(Fl.cel hce).2.1
 have hgb:=hb.lt
 have hgs:=hs.lt
 refine calls_enter Tryz.func80 rfl rfl rfl fun _ D=>wr fun G I=>D.xz (byteVals (List.replicate 32 0)) 29 fun D D _ D G G M G=>wn I<|wp_seq_k fun I V=>wr fun I U=>D.xm rfl<|Xw (vq gb (0+j)) (fun F=>rn_indexArr uu99 inf4 (F.get rfl) (F.get rfl) (zl _) (by omega:(j:Int)<((64:Nat):Int))) fun _ D=>have I:=(hb.ext G);D.xw (.bool (bs.getD j false)) (fun F=>rl F rfl (blk_boolVals I (by omega) (by have:=(show List.length bs=_ from hbs);omega)))<|Xm rfl fun _ J=>?_
 rcases Bool.eq_false_or_eq_true (bs.getD j false) with D | D
 ·rcases Bool.eq_false_or_eq_true b with I | I
  ·refine J.xw (.bool true) (fun F=>rn_eqB uu4 (F.get rfl) (F.get rfl) (show _=true from D) (show _=true from I) rfl) fun _ V=>wn U<|have J:=V.k [0,1,2,3,6,11];J.ct<|wr fun U Y=>J.xv (vq gs 1) fun _ J=>have U:=(hs.ext G);J.xw (vl O op.length oc) (fun F=>rl F rfl (U.rule.1 1))<|Xm rfl fun _ U=>?_
   have J:=hco.ext G
   obtain ⟨V,Z,G,-⟩:=Fl.at J (by omega)
   refine U.xw (vq V (Z+j*32)) (fun F=>rn_indexE uu30 inf29 ((F.get rfl).trans (by rw [G])) (F.get rfl) (zl _) (il (by omega:j<op.length)) (by omega))<|Xw (.agg (byteVals (op.getD j [])).toArray) (fun F=>rn_loadN (cs:=byteVals (op.getD j [])) (F.get rfl) uu29 rfl (sk inf29 (byteVals_len (dig_len h32o j (by omega)))) (Fl.digAt J G h32o (by omega))) fun _ G=>G.xE (c:=open_any (op.getD j []) _ (dig_len h32o j (by omega)) (hG.ext eX)) (k:=fun G U G _ G=>?_)
   have J:=M.ext U
   refine G.xs rfl J (fun J M J=>?_) (hk:=byteVals_len (openD_len _));have U:=J.size
   exact wn Y<|have J:=G.k [0,1,2,3,6,11];wp_ret<|ret_then<|retC J rfl rfl M uu29 rfl (sk inf29 (byteVals_len (openD_len _)))<|⟨by rw [shown,if_pos (D.trans I.symm)],eX⟩
  refine J.xw (.bool false) (fun F=>rn_eqB uu4 (F.get rfl) (F.get rfl) (show _=true from D) (show _=false from I) rfl) fun _ Y=>wn U<|have J:=Y.k [0,1,2,3,6,11];J.cf<|wp_skip<|V _ _<|wr fun U Y=>J.xv (vq gs 2) fun _ J=>have U:=(hs.ext G);J.xw (vl C cl.length ec) (fun F=>rl F rfl (U.rule.1 2))<|Xm rfl fun _ U=>?_
  have J:=hce.ext G
  obtain ⟨V,Z,G,-⟩:=Fl.at J (by omega)
  refine U.xw (vq V (Z+j*32)) (fun F=>rn_indexE uu30 inf29 ((F.get rfl).trans (by rw [G])) (F.get rfl) (zl _) (il (by omega:j<cl.length)) (by omega))<|Xw (.agg (byteVals (cl.getD j [])).toArray) (fun F=>rn_loadN (cs:=byteVals (cl.getD j [])) (F.get rfl) uu29 rfl (sk inf29 (byteVals_len (dig_len h32c j (by omega)))) (Fl.digAt J G h32c (by omega)))<|fun _ G=>?_
  refine G.xs rfl M (fun J M J=>?_) (hk:=byteVals_len (dig_len h32c j (by omega)));have U:=J.size
  exact wn Y<|have J:=G.k [0,1,2,3,6,11];wp_ret<|retC J rfl rfl M uu29 rfl (sk inf29 (byteVals_len (dig_len h32c j (by omega))))<|⟨by rw [shown,if_neg (by rw [D,I];decide)],eX⟩
 rcases Bool.eq_false_or_eq_true b with I | I
 ·refine J.xw (.bool false) (fun F=>rn_eqB uu4 (F.get rfl) (F.get rfl) (show _=false from D) (show _=true from I) rfl) fun _ Y=>wn U<|have J:=Y.k [0,1,2,3,6,11];J.cf<|wp_skip<|V _ _<|wr fun U Y=>J.xv (vq gs 2) fun _ J=>have U:=(hs.ext G);J.xw (vl C cl.length ec) (fun F=>rl F rfl (U.rule.1 2))<|Xm rfl fun _ U=>?_
  have J:=hce.ext G
  obtain ⟨V,Z,G,-⟩:=Fl.at J (by omega)
  refine U.xw (vq V (Z+j*32)) (fun F=>rn_indexE uu30 inf29 ((F.get rfl).trans (by rw [G])) (F.get rfl) (zl _) (il (by omega:j<cl.length)) (by omega))<|Xw (.agg (byteVals (cl.getD j [])).toArray) (fun F=>rn_loadN (cs:=byteVals (cl.getD j [])) (F.get rfl) uu29 rfl (sk inf29 (byteVals_len (dig_len h32c j (by omega)))) (Fl.digAt J G h32c (by omega)))<|fun _ G=>?_
  refine G.xs rfl M (fun J M J=>?_) (hk:=byteVals_len (dig_len h32c j (by omega)));have U:=J.size
  exact wn Y<|have J:=G.k [0,1,2,3,6,11];wp_ret<|retC J rfl rfl M uu29 rfl (sk inf29 (byteVals_len (dig_len h32c j (by omega))))<|⟨by rw [shown,if_neg (by rw [D,I];decide)],eX⟩
 refine J.xw (.bool true) (fun F=>rn_eqB uu4 (F.get rfl) (F.get rfl) (show _=false from D) (show _=false from I) rfl) fun _ V=>wn U<|have J:=V.k [0,1,2,3,6,11];J.ct<|wr fun U Y=>J.xv (vq gs 1) fun _ J=>have U:=(hs.ext G);J.xw (vl O op.length oc) (fun F=>rl F rfl (U.rule.1 1))<|Xm rfl fun _ U=>?_
 have J:=hco.ext G
 obtain ⟨V,Z,G,-⟩:=Fl.at J (by omega)
 refine U.xw (vq V (Z+j*32)) (fun F=>rn_indexE uu30 inf29 ((F.get rfl).trans (by rw [G])) (F.get rfl) (zl _) (il (by omega:j<op.length)) (by omega))<|Xw (.agg (byteVals (op.getD j [])).toArray) (fun F=>rn_loadN (cs:=byteVals (op.getD j [])) (F.get rfl) uu29 rfl (sk inf29 (byteVals_len (dig_len h32o j (by omega)))) (Fl.digAt J G h32o (by omega))) fun _ G=>G.xE (c:=open_any (op.getD j []) _ (dig_len h32o j (by omega)) (hG.ext eX)) (k:=fun G U G _ G=>?_)
 have J:=M.ext U
 refine G.xs rfl J (fun J M J=>?_) (hk:=byteVals_len (openD_len _));have U:=J.size
 exact wn Y<|have J:=G.k [0,1,2,3,6,11];wp_ret<|ret_then<|retC J rfl rfl M uu29 rfl (sk inf29 (byteVals_len (openD_len _)))<|⟨by rw [shown,if_pos (D.trans I.symm)],eX⟩
theorem verify_any (root:List UInt8) (n:Int) (B:Option Addr) (cb:Nat) (msg:List UInt8) (idx:Int) (O:Option Addr) (oc:Nat) (op:List (List UInt8)) (C:Option Addr) (ec:Nat) (cl:List (List UInt8)) (P:Option Addr) (pc:Nat) (pa:List (List UInt8)) (w:World) (hd:root.length=32) (hm:Fl S w 1 (vl B msg.length cb) msg.length (byteVals msg)) (ho:Fl S w 32 (vl O op.length oc) op.length (digVals op)) (he:Fl S w 32 (vl C cl.length ec) cl.length (digVals cl)) (hp:Fl S w 32 (vl P pa.length pc) pa.length (digVals pa)) (h32o:All32 op) (h32c:All32 cl) (h32p:All32 pa) (hG:Glob w) :
  Calls Tryz.prog 39 #[.agg (byteVals root).toArray,.int .i64 n,.slice B msg.length cb,.agg #[.int .i64 idx,.slice O op.length oc,.slice C cl.length ec,.slice P pa.length pc]] w (fun e w'=>e=.returned (.bool (verifyF root n msg ⟨idx,op,cl,pa⟩))∧Ext w w'):=by
 have hb:Fl (Clip S w) w 1 (vl B msg.length cb) msg.length (byteVals msg):=hm.clip
 have hbc:=(Fl.cel hb).2.1
 have hco:Fl (Clip S w) w 32 (vl O op.length oc) op.length (digVals op):=ho.clip
 have hcoc:=(Fl.cel hco).2.1
 have hce:Fl (Clip S w) w 32 (vl C cl.length ec) cl.length (digVals cl):=he.clip
 have hcec:=(Fl.cel hce).2.1
 have hcp:Fl (Clip S w) w 32 (vl P pa.length pc) pa.length (digVals pa):=hp.clip
 have hcpc:=(Fl.cel hcp).2.1
 refine calls_enter Tryz.func39 rfl rfl rfl fun _ D=>wr fun G V=>D.xb rfl fun g2 D _ D G G J Y=>D.xb rfl fun D G _ G I I U M=>G.xv (.bool false) fun _ I=>wn V<|wp_seq_k fun G V=>wr fun G G=>I.xm rfl<|Xv (vd ((n:Int)<(1:Int)))<|Xm rfl fun _ I=>?_
 by_cases Z:(n:Int)<(1:Int)
 ·exact I.xu<|Xu<|Xv (.bool true)<|Xm rfl<|Xu<|Xu<|Xu<|Xv (.bool true)<|Xm rfl<|Xu<|Xu<|Xu<|Xu<|Xv (.bool true)<|Xm rfl<|Xu<|Xu<|Xu<|Xu<|Xv (.bool true)<|Xm rfl<|Xu<|Xu<|Xu<|Xu<|Xv (.bool true)<|Xm rfl<|Xu<|Xu<|Xu<|Xv (.bool true) fun _ I=>wn G<|have D:=I.k [0,1,2,3,4,7,8,46];D.ct<|wr fun G G=>D.xv (.bool false) fun _ D=>wn G<|wp_ret<|ret_then<|ret1 D rfl rfl<|⟨by rw [verify_not (s:=⟨idx,op,cl,pa⟩) (by unfold vShape;simp only;omega)],eX⟩
 refine I.xg (vi n)<|Xg (vd ((4096:Int)<(n:Int)))<|Xv (vd ((4096:Int)<(n:Int)))<|Xm rfl<|fun _ I=>?_
 by_cases Z:(4096:Int)<(n:Int)
 ·exact I.xu<|Xu<|Xu<|Xv (.bool true)<|Xm rfl<|Xu<|Xu<|Xu<|Xu<|Xv (.bool true)<|Xm rfl<|Xu<|Xu<|Xu<|Xu<|Xv (.bool true)<|Xm rfl<|Xu<|Xu<|Xu<|Xu<|Xv (.bool true)<|Xm rfl<|Xu<|Xu<|Xu<|Xv (.bool true) fun _ I=>wn G<|have D:=I.k [0,1,2,3,4,7,8,46];D.ct<|wr fun G G=>D.xv (.bool false) fun _ D=>wn G<|wp_ret<|ret_then<|ret1 D rfl rfl<|⟨by rw [verify_not (s:=⟨idx,op,cl,pa⟩) (by unfold vShape;simp only;omega)],eX⟩
 refine I.xg (vp D)<|Xgw (vi idx) (fun F=>rl F rfl (U.rule.1 0))<|Xg (vd ((idx:Int)<(0:Int)))<|Xv (vd ((idx:Int)<(0:Int)))<|Xm rfl<|fun _ I=>?_
 by_cases Z:(idx:Int)<(0:Int)
 ·exact I.xu<|Xu<|Xu<|Xu<|Xv (.bool true)<|Xm rfl<|Xu<|Xu<|Xu<|Xu<|Xv (.bool true)<|Xm rfl<|Xu<|Xu<|Xu<|Xu<|Xv (.bool true)<|Xm rfl<|Xu<|Xu<|Xu<|Xv (.bool true) fun _ I=>wn G<|have D:=I.k [0,1,2,3,4,7,8,46];D.ct<|wr fun G G=>D.xv (.bool false) fun _ D=>wn G<|wp_ret<|ret_then<|ret1 D rfl rfl<|⟨by rw [verify_not (s:=⟨idx,op,cl,pa⟩) (by unfold vShape;simp only;omega)],eX⟩
 refine I.xg (vp D)<|Xgw (vi idx) (fun F=>rl F rfl (U.rule.1 0))<|Xg (vi n)<|Xg (vd ((n:Int)≤(idx:Int)))<|Xv (vd ((n:Int)≤(idx:Int)))<|Xm rfl<|fun _ I=>?_
 by_cases Z:(n:Int)≤(idx:Int)
 ·exact I.xu<|Xu<|Xu<|Xu<|Xv (.bool true)<|Xm rfl<|Xu<|Xu<|Xu<|Xu<|Xv (.bool true)<|Xm rfl<|Xu<|Xu<|Xu<|Xv (.bool true) fun _ I=>wn G<|have D:=I.k [0,1,2,3,4,7,8,46];D.ct<|wr fun G G=>D.xv (.bool false) fun _ D=>wn G<|wp_ret<|ret_then<|ret1 D rfl rfl<|⟨by rw [verify_not (s:=⟨idx,op,cl,pa⟩) (by unfold vShape;simp only;omega)],eX⟩
 refine I.xg (vq D 1)<|Xgw (vl O op.length oc) (fun F=>rl F rfl (U.rule.1 1))<|Xg (vi op.length)<|Xg (vd ((op.length:Int)≠(64:Int)))<|Xv (vd ((op.length:Int)≠(64:Int)))<|Xm rfl<|fun _ I=>?_
 by_cases Z:(op.length:Int)≠(64:Int)
 ·exact I.xu<|Xu<|Xu<|Xu<|Xv (.bool true)<|Xm rfl<|Xu<|Xu<|Xu<|Xv (.bool true) fun _ I=>wn G<|have D:=I.k [0,1,2,3,4,7,8,46];D.ct<|wr fun G G=>D.xv (.bool false) fun _ D=>wn G<|wp_ret<|ret_then<|ret1 D rfl rfl<|⟨by rw [verify_not (s:=⟨idx,op,cl,pa⟩) (by unfold vShape;simp only;omega)],eX⟩
 refine I.xg (vq D 2)<|Xgw (vl C cl.length ec) (fun F=>rl F rfl (U.rule.1 2))<|Xg (vi cl.length)<|Xg (vd ((cl.length:Int)≠(64:Int)))<|Xv (vd ((cl.length:Int)≠(64:Int)))<|Xm rfl<|fun _ I=>?_
 by_cases Z:(cl.length:Int)≠(64:Int)
 ·exact I.xu<|Xu<|Xu<|Xv (.bool true) fun _ I=>wn G<|have D:=I.k [0,1,2,3,4,7,8,46];D.ct<|wr fun G G=>D.xv (.bool false) fun _ D=>wn G<|wp_ret<|ret_then<|ret1 D rfl rfl<|⟨by rw [verify_not (s:=⟨idx,op,cl,pa⟩) (by unfold vShape;simp only;omega)],eX⟩
 refine I.xg (vl B msg.length cb)<|Xg (vi msg.length)<|Xg (vd ((65536:Int)<(msg.length:Int)))<|Xv (vd ((65536:Int)<(msg.length:Int))) fun _ I=>wn G ?_
 have G:=I.k [0,1,2,3,4,7,8,46]
 by_cases I:(65536:Int)<(msg.length:Int)
 ·exact G.ct<|wr fun D I=>G.xv (.bool false) fun _ D=>wn I<|wp_ret<|ret_then<|ret1 D rfl rfl<|⟨by rw [verify_not (s:=⟨idx,op,cl,pa⟩) (by unfold vShape;simp only;omega)],eX⟩
 refine G.cf<|wp_skip<|V _ _<|wr fun I ab=>have ac:=(J.ext M);G.xw (.agg (byteVals root).toArray) (fun F=>rb F rfl ac (hk:=byteVals_len hd))<|Xv (vp D)<|Xw (vi idx) (fun F=>rl F rfl (U.rule.1 0))<|Xm rfl fun _ G=>?_
 have I:=(hb.ext Y).ext M
 have J:(((idx:Int).toNat:Nat):Int)=idx:=by omega
 refine G.xE (c:=signed_int (v:=(vl B msg.length cb)) (m:=msg.length) root idx msg _ hd I (hG.ext eX) (by omega) (by omega) (by omega)) (k:=fun G Z G _ G=>G.xz (boolVals (List.replicate 64 false)) 99 fun G I _ I J J J aa=>?_)
 refine I.xs rfl J (fun J ae V=>?_) (hk:=boolVals_len (bitsL_len root ((idx:Int).toNat) msg)) (hl:=boolVals_len (show List.length (List.replicate 64 false)=_ from List.length_replicate));have J:=V.size
 refine wn ab<|have J:=I.k [0,1,2,3,4,7,8,46,9];wr fun I I=>J.xw (.func (.func 80) #[] #[(vp G),(vp D)]) (fun F=>rn_makeFunc (args0 ) (args2 (F.get rfl) (F.get rfl)))<|Xa rfl fun _ ah=>wn I<|wp_seq_k fun I ai=>sX (fun I W=>Ext I W∧Blk W D 32 [(vi idx),(vl O op.length oc),(vl C cl.length ec),(vl P pa.length pc)]) (fun i=>i==12) 14 fun I J ab=>?_
 refine any_have (n1:=2) (L1:=#[true,true,true,true,true,true,true,true,true,true,true,true,false,false]) (fun a' W=>∃ (ab:Nat),Sl 71 [(0,(.agg (byteVals root).toArray)),(1,(vi n)),(2,(vl B msg.length cb)),(3,(.agg #[(vi idx),(vl O op.length oc),(vl C cl.length ec),(vl P pa.length pc)])),(4,(vp g2)),(7,(vp D)),(8,(.bool false)),(9,(vp G)),(10,(.func (.func 80) #[] #[(vp G),(vp D)])),(11,(vp ab)),(46,(vd ((65536:Int)<(msg.length:Int)))),(62,(.agg (byteVals ((climbF (publicD (shown (bitsL root ((idx:Int).toNat) msg) ⟨idx,op,cl,pa⟩)) idx n pa).1)).toArray)),(63,(vi ((climbF (publicD (shown (bitsL root ((idx:Int).toNat) msg) ⟨idx,op,cl,pa⟩)) idx n pa).2)))] a'∧Ext I W∧Blk W ab 29 (byteVals (List.replicate 32 0))∧I.heap.size≤ab) ?_ (fun ag=>?_)
 ·rintro D D ⟨ab,D,I,G,J⟩
  have J:=I.size
  have I:=G.lt
  refine ao 12 rfl (D.os rfl G (fun G M J=>an ?_) (hk:=byteVals_len (climbF_len _ _ _ _)));have G:=J.size
  refine D.yv 13 (vi ((climbF (publicD (shown (bitsL root ((idx:Int).toNat) msg) ⟨idx,op,cl,pa⟩)) idx n pa).2)) rfl fun _ D=>nK ai<|wr fun G G=>D.xm rfl<|Xv (vd (((climbF (publicD (shown (bitsL root ((idx:Int).toNat) msg) ⟨idx,op,cl,pa⟩)) idx n pa).2:Int)=(0:Int)))<|Xm rfl fun _ D=>?_
  by_cases I:((climbF (publicD (shown (bitsL root ((idx:Int).toNat) msg) ⟨idx,op,cl,pa⟩)) idx n pa).2:Int)=(0:Int)
  ·refine D.xgw (.agg (byteVals ((climbF (publicD (shown (bitsL root ((idx:Int).toNat) msg) ⟨idx,op,cl,pa⟩)) idx n pa).1)).toArray) (fun F=>rb F rfl M (hk:=byteVals_len (climbF_len _ _ _ _))) fun _ D=>have M:=ac.ug J;D.xgw (.agg (byteVals root).toArray) (fun F=>rb F rfl M (hk:=byteVals_len hd))<|Xgw (vd ((climbF (publicD (shown (bitsL root ((idx:Int).toNat) msg) ⟨idx,op,cl,pa⟩)) idx n pa).1=root)) (fun F=>rn_eqA uu29 uu5 inf5 (by kernel_rfl) (F.get rfl) (F.get rfl) (climbF_len _ _ _ _) hd)<|Xv (vd ((climbF (publicD (shown (bitsL root ((idx:Int).toNat) msg) ⟨idx,op,cl,pa⟩)) idx n pa).1=root))<|Xa rfl fun _ D=>wn G<|have G:=D.k [0,1,2,3,4,7,8,9,10,11,46,12];wp_ret<|ret1 G rfl rfl ?_
   have hv:vShape n msg ⟨idx,op,cl,pa⟩:=by unfold vShape;simp only;omega
   have hcs:climbS root n msg ⟨idx,op,cl,pa⟩=climbF (publicD (shown (bitsL root ((idx:Int).toNat) msg) ⟨idx,op,cl,pa⟩)) idx n pa:=rfl
   exact ⟨by rw [verify_yes hv,hcs,show decide (_=(0:Int))=true from (decide_eq_true I),Bool.true_and],eX⟩
  refine D.xu<|Xu<|Xu<|Xv (.bool false)<|Xa rfl fun _ D=>wn G<|have G:=D.k [0,1,2,3,4,7,8,9,10,11,46,12];wp_ret<|ret1 G rfl rfl ?_
  have hv:vShape n msg ⟨idx,op,cl,pa⟩:=by unfold vShape;simp only;omega
  have hcs:climbS root n msg ⟨idx,op,cl,pa⟩=climbF (publicD (shown (bitsL root ((idx:Int).toNat) msg) ⟨idx,op,cl,pa⟩)) idx n pa:=rfl
  exact ⟨by rw [verify_yes hv,hcs,show decide (_=(0:Int))=false from (decide_eq_false I)];rfl,eX⟩
 refine any_have (n1:=6) (L1:=#[true,true,true,true,true,true,true,false,false,false,false,true,false,false]) (fun a' W=>∃ (ab:Nat),Sl 71 [(0,(.agg (byteVals root).toArray)),(1,(vi n)),(2,(vl B msg.length cb)),(3,(.agg #[(vi idx),(vl O op.length oc),(vl C cl.length ec),(vl P pa.length pc)])),(4,(vp g2)),(7,(vp D)),(8,(.bool false)),(9,(vp G)),(10,(.func (.func 80) #[] #[(vp G),(vp D)])),(11,(vp ab)),(46,(vd ((65536:Int)<(msg.length:Int)))),(55,(.agg (byteVals (publicD (shown (bitsL root ((idx:Int).toNat) msg) ⟨idx,op,cl,pa⟩))).toArray)),(57,(vi idx)),(58,(vi n)),(60,(vl P pa.length pc))] a'∧Ext I W∧Blk W ab 29 (byteVals (List.replicate 32 0))∧I.heap.size≤ab) ?_ (fun ac=>?_)
 ·rintro D D ⟨ab,I,G,D,ac⟩
  have ac:=G.size
  have ac:=D.lt
  refine ao 7 rfl<|have ac:=(hcp.pres ((((((((Pres.refl w).ext Y).ext M).ext Z).ext aa).gc V).ext J).ext G));I.oe (climb_at (publicD (shown (bitsL root ((idx:Int).toNat) msg) ⟨idx,op,cl,pa⟩)) idx n pa _ (v:=(vl P pa.length pc)) (m:=pa.length) (publicD_len _) h32p ac (hG.ext eX)) fun G G I _ I=>?_
  have J:=U.ux G
  refine ⟨fun _ _=>⟨eX,J⟩,?_⟩
  exact I.ym 8 rfl<|Yv 9 (.agg (byteVals ((climbF (publicD (shown (bitsL root ((idx:Int).toNat) msg) ⟨idx,op,cl,pa⟩)) idx n pa).1)).toArray) rfl<|Yv 10 (vi ((climbF (publicD (shown (bitsL root ((idx:Int).toNat) msg) ⟨idx,op,cl,pa⟩)) idx n pa).2)) rfl fun _ I=>have J:=(D.ext G);ag _ _ ⟨ab,I.j,eX,J,(by omega)⟩
 refine ah.ym 0 rfl<|Yv 2 (vp D) rfl fun _ ah=>have ab:=U.ux J;have U:Ext I I∧Blk I D 32 [(vi idx),(vl O op.length oc),(vl C cl.length ec),(vl P pa.length pc)]:=⟨(Ext.refl I),ab⟩;ah.ys 3 (vi idx) rfl U (fun F W hW=>rl F rfl (hW.2.rule.1 0))<|Ym 4 rfl<|Yv 5 (vq D 3) rfl<|Ys 6 (vl P pa.length pc) rfl U (fun F W hW=>rl F rfl (hW.2.rule.1 3)) fun _ I=>?_
 refine any_two (i:=1) (k:=11) (by decide +kernel) rfl rfl ?_ ?_
 ·have U:=(ae.ext J)
  have ae:=U
  have ah:=ab
  have U:=hco.pres (((((((Pres.refl w).ext Y).ext M).ext Z).ext aa).gc V).ext J)
  have ai:=U
  have U:=hce.pres (((((((Pres.refl w).ext Y).ext M).ext Z).ext aa).gc V).ext J)
  have aj:=U
  have U:=hG.ext (.trans eX J)
  refine I.oE (c:=public_any 80 #[] #[(vp G),(vp D)] (shown (bitsL root ((idx:Int).toNat) msg) ⟨idx,op,cl,pa⟩) _ (fun _ _=>by kernel_rfl) (fun u v=>#[u,v,(vp G),(vp D)]) (fun u v=>by simp) (fun j b W hj hx=>shown_any j b G D (bitsL root ((idx:Int).toNat) msg) idx O oc op C ec cl pa _ W (ae.ext hx) (ah.ext hx) (ai.ext hx) (aj.ext hx) h32o h32c (U.ext hx) (bitsL_len root ((idx:Int).toNat) msg) hj (by omega) (by omega)) (fun j b hj=>shown_len h32o h32c (show j<op.length by omega) (show j<cl.length by omega)) U) (k:=fun D I D _ G=>?_)
  have D:=ab.ext I
  refine ⟨fun _ _=>⟨eX,D⟩,?_⟩
  refine any_two (i:=7) (k:=11) (by decide +kernel) rfl rfl ?_ ?_
  ·have U:=(hcp.pres ((((((((Pres.refl w).ext Y).ext M).ext Z).ext aa).gc V).ext J).ext I))
   refine G.oe (climb_at (publicD (shown (bitsL root ((idx:Int).toNat) msg) ⟨idx,op,cl,pa⟩)) idx n pa _ (v:=(vl P pa.length pc)) (m:=pa.length) (publicD_len _) h32p U (hG.ext eX)) fun G J G _ I=>?_
   have G:=D.ext J
   refine ⟨fun _ _=>⟨eX,G⟩,?_⟩
   refine I.ym 8 rfl<|Yv 9 (.agg (byteVals ((climbF (publicD (shown (bitsL root ((idx:Int).toNat) msg) ⟨idx,op,cl,pa⟩)) idx n pa).1)).toArray) rfl<|Yv 10 (vi ((climbF (publicD (shown (bitsL root ((idx:Int).toNat) msg) ⟨idx,op,cl,pa⟩)) idx n pa).2)) rfl fun _ D=>ao 11 rfl<|D.oz (byteVals (List.replicate 32 0)) 29 rfl fun M D _ D I I I U=>?_
   have J:=G.ext U
   refine ⟨fun _ _=>⟨eX,J⟩,?_⟩
   exact ag _ _ ⟨M,D.j,eX,I,(by omega)⟩
  refine G.oz (byteVals (List.replicate 32 0)) 29 rfl fun M G _ G I I I U=>?_
  have J:=D.ext U
  refine ⟨fun _ _=>⟨eX,J⟩,?_⟩
  exact ac _ _ ⟨M,G.j,eX,I,(by omega)⟩
 refine I.oz (byteVals (List.replicate 32 0)) 29 rfl fun ai I _ ag I I ah I=>?_
 have U:=ab.ext I
 refine ⟨fun _ _=>⟨eX,U⟩,?_⟩
 refine ao 1 rfl<|have ab:=ae.ux I;have ae:=ab;have aj:=U;have ab:=(hco.pres ((((((((Pres.refl w).ext Y).ext M).ext Z).ext aa).gc V).ext J).ext I));have ak:=ab;have ab:=(hce.pres ((((((((Pres.refl w).ext Y).ext M).ext Z).ext aa).gc V).ext J).ext I));have M:=ab;have J:=(hG.ext (.trans eX I));ag.oE (c:=public_any 80 #[] #[(vp G),(vp D)] (shown (bitsL root ((idx:Int).toNat) msg) ⟨idx,op,cl,pa⟩) _ (fun _ _=>by kernel_rfl) (fun u v=>#[u,v,(vp G),(vp D)]) (fun u v=>by simp) (fun j b W hj hx=>shown_any j b G D (bitsL root ((idx:Int).toNat) msg) idx O oc op C ec cl pa _ W (ae.ext hx) (aj.ext hx) (ak.ext hx) (M.ext hx) h32o h32c (J.ext hx) (bitsL_len root ((idx:Int).toNat) msg) hj (by omega) (by omega)) (fun j b hj=>shown_len h32o h32c (show j<op.length by omega) (show j<cl.length by omega)) J) (k:=fun D D G _ G=>?_)
 have I:=U.ext D
 refine ⟨fun _ _=>⟨eX,I⟩,?_⟩
 have I:=ah.ext D
 exact ac _ _ ⟨ai,G.j,eX,I,(by omega)⟩
theorem rverify_any (root:List UInt8) (n:Int) (B:Option Addr) (cb:Nat) (msg:List UInt8) (idx:Int) (O:Option Addr) (oc:Nat) (op:List (List UInt8)) (C:Option Addr) (ec:Nat) (cl:List (List UInt8)) (P:Option Addr) (pc:Nat) (pa:List (List UInt8)) (w:World) (hd:root.length=32) (hm:Fl S w 1 (vl B msg.length cb) msg.length (byteVals msg)) (ho:Fl S w 32 (vl O op.length oc) op.length (digVals op)) (he:Fl S w 32 (vl C cl.length ec) cl.length (digVals cl)) (hp:Fl S w 32 (vl P pa.length pc) pa.length (digVals pa)) (h32o:All32 op) (h32c:All32 cl) (h32p:All32 pa) :
  Calls Tryz.prog 40 #[.agg (byteVals root).toArray,.int .i64 n,.slice B msg.length cb,.agg #[.int .i64 idx,.slice O op.length oc,.slice C cl.length ec,.slice P pa.length pc]] w (fun e w'=>e=.returned (.bool (verifyF root n msg ⟨idx,op,cl,pa⟩))∧Ext w w'):=by
 have hb:Fl (Clip S w) w 1 (vl B msg.length cb) msg.length (byteVals msg):=hm.clip
 have hbc:=(Fl.cel hb).2.1
 have hco:Fl (Clip S w) w 32 (vl O op.length oc) op.length (digVals op):=ho.clip
 have hcoc:=(Fl.cel hco).2.1
 have hce:Fl (Clip S w) w 32 (vl C cl.length ec) cl.length (digVals cl):=he.clip
 have hcec:=(Fl.cel hce).2.1
 have hcp:Fl (Clip S w) w 32 (vl P pa.length pc) pa.length (digVals pa):=hp.clip
 have hcpc:=(Fl.cel hcp).2.1
 refine calls_enter Tryz.func40 rfl rfl rfl fun _ I=>wr fun K1 aU=>I.xb rfl fun G I _ I z6 z7 b4 aY=>I.xb rfl fun D aJ _ I ar ar U aH=>I.xv (.bool false) fun _ ar=>wn aU<|wp_seq_k fun I aU=>wr fun I I=>ar.xm rfl<|Xv (vd ((n:Int)<(1:Int)))<|Xm rfl fun _ ar=>?_
 by_cases a1:(n:Int)<(1:Int)
 ·exact ar.xu<|Xu<|Xv (.bool true)<|Xm rfl<|Xu<|Xu<|Xu<|Xv (.bool true)<|Xm rfl<|Xu<|Xu<|Xu<|Xu<|Xv (.bool true)<|Xm rfl<|Xu<|Xu<|Xu<|Xu<|Xv (.bool true)<|Xm rfl<|Xu<|Xu<|Xu<|Xu<|Xv (.bool true)<|Xm rfl<|Xu<|Xu<|Xu<|Xv (.bool true) fun _ G=>wn I<|have D:=G.k [0,1,2,3,4,7,8,47];D.ct<|wr fun G G=>D.xv (.bool false) fun _ D=>wn G<|wp_ret<|ret_then<|ret1 D rfl rfl<|⟨by rw [verify_not (s:=⟨idx,op,cl,pa⟩) (by unfold vShape;simp only;omega)],eX⟩
 refine ar.xg (vi n)<|Xg (vd ((4096:Int)<(n:Int)))<|Xv (vd ((4096:Int)<(n:Int)))<|Xm rfl<|fun _ ar=>?_
 by_cases a1:(4096:Int)<(n:Int)
 ·exact ar.xu<|Xu<|Xu<|Xv (.bool true)<|Xm rfl<|Xu<|Xu<|Xu<|Xu<|Xv (.bool true)<|Xm rfl<|Xu<|Xu<|Xu<|Xu<|Xv (.bool true)<|Xm rfl<|Xu<|Xu<|Xu<|Xu<|Xv (.bool true)<|Xm rfl<|Xu<|Xu<|Xu<|Xv (.bool true) fun _ G=>wn I<|have D:=G.k [0,1,2,3,4,7,8,47];D.ct<|wr fun G G=>D.xv (.bool false) fun _ D=>wn G<|wp_ret<|ret_then<|ret1 D rfl rfl<|⟨by rw [verify_not (s:=⟨idx,op,cl,pa⟩) (by unfold vShape;simp only;omega)],eX⟩
 refine ar.xg (vp D)<|Xgw (vi idx) (fun F=>rl F rfl (U.rule.1 0))<|Xg (vd ((idx:Int)<(0:Int)))<|Xv (vd ((idx:Int)<(0:Int)))<|Xm rfl<|fun _ ar=>?_
 by_cases a1:(idx:Int)<(0:Int)
 ·exact ar.xu<|Xu<|Xu<|Xu<|Xv (.bool true)<|Xm rfl<|Xu<|Xu<|Xu<|Xu<|Xv (.bool true)<|Xm rfl<|Xu<|Xu<|Xu<|Xu<|Xv (.bool true)<|Xm rfl<|Xu<|Xu<|Xu<|Xv (.bool true) fun _ G=>wn I<|have D:=G.k [0,1,2,3,4,7,8,47];D.ct<|wr fun G G=>D.xv (.bool false) fun _ D=>wn G<|wp_ret<|ret_then<|ret1 D rfl rfl<|⟨by rw [verify_not (s:=⟨idx,op,cl,pa⟩) (by unfold vShape;simp only;omega)],eX⟩
 refine ar.xg (vp D)<|Xgw (vi idx) (fun F=>rl F rfl (U.rule.1 0))<|Xg (vi n)<|Xg (vd ((n:Int)≤(idx:Int)))<|Xv (vd ((n:Int)≤(idx:Int)))<|Xm rfl<|fun _ ar=>?_
 by_cases a1:(n:Int)≤(idx:Int)
 ·exact ar.xu<|Xu<|Xu<|Xu<|Xv (.bool true)<|Xm rfl<|Xu<|Xu<|Xu<|Xu<|Xv (.bool true)<|Xm rfl<|Xu<|Xu<|Xu<|Xv (.bool true) fun _ G=>wn I<|have D:=G.k [0,1,2,3,4,7,8,47];D.ct<|wr fun G G=>D.xv (.bool false) fun _ D=>wn G<|wp_ret<|ret_then<|ret1 D rfl rfl<|⟨by rw [verify_not (s:=⟨idx,op,cl,pa⟩) (by unfold vShape;simp only;omega)],eX⟩
 refine ar.xg (vq D 1)<|Xgw (vl O op.length oc) (fun F=>rl F rfl (U.rule.1 1))<|Xg (vi op.length)<|Xg (vd ((op.length:Int)≠(64:Int)))<|Xv (vd ((op.length:Int)≠(64:Int)))<|Xm rfl<|fun _ ar=>?_
 by_cases a1:(op.length:Int)≠(64:Int)
 ·exact ar.xu<|Xu<|Xu<|Xu<|Xv (.bool true)<|Xm rfl<|Xu<|Xu<|Xu<|Xv (.bool true) fun _ G=>wn I<|have D:=G.k [0,1,2,3,4,7,8,47];D.ct<|wr fun G G=>D.xv (.bool false) fun _ D=>wn G<|wp_ret<|ret_then<|ret1 D rfl rfl<|⟨by rw [verify_not (s:=⟨idx,op,cl,pa⟩) (by unfold vShape;simp only;omega)],eX⟩
 refine ar.xg (vq D 2)<|Xgw (vl C cl.length ec) (fun F=>rl F rfl (U.rule.1 2))<|Xg (vi cl.length)<|Xg (vd ((cl.length:Int)≠(64:Int)))<|Xv (vd ((cl.length:Int)≠(64:Int)))<|Xm rfl<|fun _ ar=>?_
 by_cases a1:(cl.length:Int)≠(64:Int)
 ·exact ar.xu<|Xu<|Xu<|Xv (.bool true) fun _ G=>wn I<|have D:=G.k [0,1,2,3,4,7,8,47];D.ct<|wr fun G G=>D.xv (.bool false) fun _ D=>wn G<|wp_ret<|ret_then<|ret1 D rfl rfl<|⟨by rw [verify_not (s:=⟨idx,op,cl,pa⟩) (by unfold vShape;simp only;omega)],eX⟩
 refine ar.xg (vl B msg.length cb)<|Xg (vi msg.length)<|Xg (vd ((65536:Int)<(msg.length:Int)))<|Xv (vd ((65536:Int)<(msg.length:Int))) fun _ ar=>wn I ?_
 have I:=ar.k [0,1,2,3,4,7,8,47]
 by_cases ar:(65536:Int)<(msg.length:Int)
 ·exact I.ct<|wr fun D G=>I.xv (.bool false) fun _ D=>wn G<|wp_ret<|ret_then<|ret1 D rfl rfl<|⟨by rw [verify_not (s:=⟨idx,op,cl,pa⟩) (by unfold vShape;simp only;omega)],eX⟩
 refine I.cf<|wp_skip<|aU _ _<|wr fun ar aV=>have ay:=(b4.ext aH);I.xw (.agg (byteVals root).toArray) (fun F=>rb F rfl ay (hk:=byteVals_len hd))<|Xv (vp D)<|Xw (vi idx) (fun F=>rl F rfl (U.rule.1 0))<|Xm rfl fun _ I=>have ar:=((hb.ext aY).ext aH);I.xC (c:=rbits_in (v:=(vl B msg.length cb)) (m:=msg.length) root idx msg _ hd ar (by omega) (by omega) (by omega)) (k:= ?_)
 rintro _ aq ⟨Y,aa,rfl,aG,aX⟩
 have I:=(Fl.cel aG).2.1
 refine ⟨_,rfl,?_⟩;intro I I;have ar:=aX.size
 have aU:Fl (Clip (fun b=>aJ.heap.size≤b) aq) aq 1 (vl Y 64 aa) 64 (boolVals (bitsL root (idx:Int).toNat msg)):=aG.clip
 refine I.xa rfl fun _ I=>wn aV<|have ar:=I.k [0,1,2,3,4,7,8,47,9];wr fun I aH=>ar.xn (fun g=>(vl (some ⟨g,0,none⟩) 0 0)) [] 29 (fun F=>rn_buildSlice (parts0 ) (by kernel_rfl)) fun J aX _ ar I I aG I=>ar.xa rfl fun _ ar=>wn aH<|wp_seq_k fun aH aW=>wr fun aH aH=>ar.xv (vi 0) fun _ ar=>wn aH<|wp_block<|have aV:=own_blk0 (k:=32) aG;have aH:=(aU.ext I);have aG:=ay.ux I;have ay:=U.ux I;wp_loop (fun a' W=>∃ (k:Nat) (Ap:Option Addr) (np:Nat) (cp:Nat) (x:List (List UInt8)),Sl 108 [(0,(.agg (byteVals root).toArray)),(1,(vi n)),(2,(vl B msg.length cb)),(3,(.agg #[(vi idx),(vl O op.length oc),(vl C cl.length ec),(vl P pa.length pc)])),(4,(vp G)),(7,(vp D)),(8,(.bool false)),(47,(vd ((65536:Int)<(msg.length:Int)))),(9,(vl Y 64 aa)),(10,(vl Ap np cp)),(11,(vi k))] a'∧(k≤64∧np=2*k)∧x=pairsL (shown (bitsL root ((idx:Int).toNat) msg) ⟨idx,op,cl,pa⟩) k∧Ext w W∧Blk W G 29 (byteVals root)∧Blk W D 32 [(vi idx),(vl O op.length oc),(vl C cl.length ec),(vl P pa.length pc)]∧W.ownsRow J 29 32 (vl Ap np cp) np (digVals x)∧Fl (Clip (fun b=>aJ.heap.size≤b) aq) W 1 (vl Y 64 aa) 64 (boolVals (bitsL root (idx:Int).toNat msg))∧J≤W.heap.size∧aX.heap.size≤W.heap.size) (fun a' _=>64 - (intOf (a'.eval (.tmp 11))).toNat) ⟨0,(some ⟨J,0,none⟩),0,0,[],ar.j,⟨by omega,by omega⟩,rfl,eX,aG,ay,aV,aH,(by omega),(Nat.le_refl _)⟩ ?_
 rintro I aK ⟨k,Ap,np,cp,x,I,U,ak,M,ah,Z,ac,aj,U,U⟩
 have aF:=I
 have U:=M.size
 have U:=ah.lt
 have U:=Z.lt
 have U:=own_form0 ac
 have aI:All32 x:=by rw [ak];exact pairs_32 fun j b hj=>shown_len h32o h32c (show j<op.length by omega) (show j<cl.length by omega)
 refine wp_seq_k fun U U=>wr fun aq aq=>I.xm rfl<|Xv (vd ((k:Int)<(64:Int))) fun _ ae=>wn aq ?_
 by_cases I:(k:Int)<(64:Int)
 ·refine ae.ct<|wp_skip<|U _ _<|wp_seq_k fun I aE=>wp_block<|wr fun I ar=>ae.xm rfl<|Xm rfl fun _ U=>?_
  obtain ⟨aq,ay,I,-⟩:=Fl.at aj (by omega)
  refine U.xw (vq aq (ay+k)) (fun F=>rn_index1 uu104 inf4 ((F.get rfl).trans (by rw [I])) (F.get rfl) (zl _) (by omega:(k:Int)<((64:Nat):Int)))<|Xw (.bool ((bitsL root (idx:Int).toNat msg).getD k false)) (fun F=>rl F rfl (Fl.cellAt aj I (boolVals_at (i:=k) (by have:=(bitsL_len root (idx:Int).toNat msg);omega)))) fun _ I=>wn ar ?_
  have ag:=I.k [0,1,2,3,4,7,8,47,9,10,11,55,61]
  rcases Bool.eq_false_or_eq_true ((bitsL root (idx:Int).toNat msg).getD k false) with al | al
  ·refine ag.ct<|sX (fun V W=>Ext V W∧Blk W D 32 [(vi idx),(vl O op.length oc),(vl C cl.length ec),(vl P pa.length pc)]) (fun i=>i==13) 15 fun V ab I=>ag.ym 0 rfl<|Yv 1 (vq D 2) rfl fun _ au=>have az:=(Z.ext ab);have ai:Ext V V∧Blk V D 32 [(vi idx),(vl O op.length oc),(vl C cl.length ec),(vl P pa.length pc)]:=⟨(Ext.refl V),az⟩;anyt_val (i:=2) (v:=(vl C cl.length ec)) [4,5,12,13] au (fun j hj=>by simp at hj;first | (subst hj;decide) | (rcases hj with rfl | rfl <;> decide)) (by decide +kernel) (by decide +kernel) rfl rfl rfl rfl (fun _ _ _ _ h=>h) rfl ai (fun W hW=>(rl au rfl (hW.2.rule.1 2))) fun I aL=>aL.ym 3 rfl fun _ aM=>?_
   have aA:=(hce.ext M).ext ab
   obtain ⟨aS,aZ,aC,-⟩:=Fl.at aA (by omega)
   refine aM.yw 4 (vq aS (aZ+k*32)) rfl (fun F W=>rn_indexE uu30 inf29 ((F.get rfl).trans (by rw [aC])) (F.get rfl) (zl _) (il (by omega:k<cl.length)) (by omega)) fun _ av=>anyt_val (i:=5) (v:=(.agg (byteVals (cl.getD k [])).toArray)) [12,13] av (fun j hj=>by simp at hj;first | (subst hj;decide) | (rcases hj with rfl | rfl <;> decide)) (by decide +kernel) (by decide +kernel) rfl rfl rfl rfl (fun _ _ _ _ h=>h) rfl ai (fun W hW=>(rn_loadN (cs:=byteVals (cl.getD k [])) (av.get rfl) uu29 rfl (sk inf29 (byteVals_len (dig_len h32c k (by omega)))) (Fl.digAt (aA.ext hW.1) aC h32c (by omega)))) fun I aN=>aN.yv 6 (vq D 1) rfl fun _ aw=>anyt_val (i:=7) (v:=(vl O op.length oc)) [9,10,11,12,13] aw (fun j hj=>by simp at hj;first | (subst hj;decide) | (rcases hj with rfl | rfl <;> decide)) (by decide +kernel) (by decide +kernel) rfl rfl rfl rfl (fun _ _ _ _ h=>h) rfl ai (fun W hW=>(rl aw rfl (hW.2.rule.1 1))) fun I aO=>aO.ym 8 rfl fun _ aP=>?_
   have aB:=(hco.ext M).ext ab
   obtain ⟨aT,a0,aD,-⟩:=Fl.at aB (by omega)
   refine aP.yw 9 (vq aT (a0+k*32)) rfl (fun F W=>rn_indexE uu30 inf29 ((F.get rfl).trans (by rw [aD])) (F.get rfl) (zl _) (il (by omega:k<op.length)) (by omega)) fun _ ax=>anyt_val (i:=10) (v:=(.agg (byteVals (op.getD k [])).toArray)) [11,12,13] ax (fun j hj=>by simp at hj;first | (subst hj;decide) | (rcases hj with rfl | rfl <;> decide)) (by decide +kernel) (by decide +kernel) rfl rfl rfl rfl (fun _ _ _ _ h=>h) rfl ai (fun W hW=>(rn_loadN (cs:=byteVals (op.getD k [])) (ax.get rfl) uu29 rfl (sk inf29 (byteVals_len (dig_len h32o k (by omega)))) (Fl.digAt (aB.ext hW.1) aD h32o (by omega)))) fun I aQ=>ao 11 rfl<|aQ.oE (c:=rhash_any (op.getD k []) _ (dig_len h32o k (by omega))) (k:=fun I am I _ aR=>?_)
   have M:=az.ext am
   refine ⟨fun _ _=>⟨eX,M⟩,?_⟩
   have Z:=own_ext (own_ext ac ab) am
   have Y:=Z
   refine ao 12 rfl (aR.on (fun g=>(vl (some ⟨g,0,none⟩) 2 2)) (byteVals ((cl.getD k [])++(openD (op.getD k [])))) 29 rfl (fun F=>rn_buildSlice (parts2 (F.get rfl) (F.get rfl)) (build_wholeE (vs:=[(.agg (byteVals (cl.getD k [])).toArray),(.agg (byteVals (openD (op.getD k []))).toArray)]) El30 rfl rfl (fun v hv=>(List.mem_cons.1 hv).elim (fun h=>by rw [h];exact (byteVals_len (dig_len h32c k (by omega)))) (fun h=>by rw [List.mem_singleton.1 h];exact (byteVals_len (openD_len _)))) (by decide) (by decide) (by simp [Value.cells,byteVals]))) fun I D _ D U U V U=>?_)
   have ae:=own_new (g:=I) Y (by omega)
   have Y:=M.ext U
   refine ⟨fun _ _=>⟨eX,Y⟩,?_⟩
   refine ao 13 rfl<|have aa:=(own_ext Z U);have M:=aa;have Z:=ah.ux U;have ac:some G≠(Value.slice Ap np cp).ownBlock:=(own_ne aa (by omega:G<J));have J:=Z.lt;have ag:some I≠(Value.slice Ap np cp).ownBlock:=ae;have J:=V.lt;o_appB (zs:=digVals (x++([cl.getD k [],openD (op.getD k [])]))) El30 D rfl rfl rfl rfl rfl (D.get rfl) (D.get rfl) M (Fl.cel (Fl.digblk (S:=fun b=>b=I) V (All32.cons (dig_len h32c k (by omega)) (All32.sing (openD_len _))) (by simp [digVals,byteVals]))).2.2 (by omega) (by omega) (by omega) (digVals_app _ _) fun J V D D ae ah D aa aa aa=>?_;have ai:=D.size
   have ai:=aa G (by omega) ac
   have G:=aa I (by omega) ag
   refine ⟨fun h=>absurd h (by decide),?_⟩
   refine ae.yv 14 (vl J (np+2) V) rfl fun _ G=>nK aE<|have I:=G.k [0,1,2,3,4,7,8,47,9,10,11,55,61];wp_region_lit<|I.xm rfl<|Xv (vi (k+1:Nat))<|Xa rfl fun _ G=>wpList_nil ?_
   have aa:=aj.pres (Pres.row ((((Pres.refl aK).ext ab).ext am).ext U) D M (fun b hb h=>by simp only [Clip] at h;omega))
   have I:=Z.grown D ac
   have U:=grown_blk M D Y (by decide)
   refine ⟨⟨(k+1),J,np+2,V,x++([cl.getD k [],openD (op.getD k [])]),G.j,⟨by omega,by omega⟩,(pair_t (s:=⟨idx,op,cl,pa⟩) ak al),(ext_row eX D M (by omega)),I,U,ah,aa,(by omega),(by omega)⟩,?_⟩
   rw [G.get (t:=11) rfl,aF.get (t:=11) rfl];simp [intOf] <;> omega
  refine ag.cf<|sX (fun V W=>Ext V W∧Blk W D 32 [(vi idx),(vl O op.length oc),(vl C cl.length ec),(vl P pa.length pc)]) (fun i=>i==13) 15 fun V ab I=>ag.ym 0 rfl<|Yv 1 (vq D 1) rfl fun _ au=>have az:=(Z.ext ab);have ai:Ext V V∧Blk V D 32 [(vi idx),(vl O op.length oc),(vl C cl.length ec),(vl P pa.length pc)]:=⟨(Ext.refl V),az⟩;anyt_val (i:=2) (v:=(vl O op.length oc)) [4,5,6,12,13] au (fun j hj=>by simp at hj;first | (subst hj;decide) | (rcases hj with rfl | rfl <;> decide)) (by decide +kernel) (by decide +kernel) rfl rfl rfl rfl (fun _ _ _ _ h=>h) rfl ai (fun W hW=>(rl au rfl (hW.2.rule.1 1))) fun I aL=>aL.ym 3 rfl fun _ aM=>?_
  have aA:=(hco.ext M).ext ab
  obtain ⟨aS,aZ,aC,-⟩:=Fl.at aA (by omega)
  refine aM.yw 4 (vq aS (aZ+k*32)) rfl (fun F W=>rn_indexE uu30 inf29 ((F.get rfl).trans (by rw [aC])) (F.get rfl) (zl _) (il (by omega:k<op.length)) (by omega)) fun _ av=>anyt_val (i:=5) (v:=(.agg (byteVals (op.getD k [])).toArray)) [6,12,13] av (fun j hj=>by simp at hj;first | (subst hj;decide) | (rcases hj with rfl | rfl <;> decide)) (by decide +kernel) (by decide +kernel) rfl rfl rfl rfl (fun _ _ _ _ h=>h) rfl ai (fun W hW=>(rn_loadN (cs:=byteVals (op.getD k [])) (av.get rfl) uu29 rfl (sk inf29 (byteVals_len (dig_len h32o k (by omega)))) (Fl.digAt (aA.ext hW.1) aC h32o (by omega)))) fun I aN=>aN.yv 7 (vq D 2) rfl fun _ aw=>anyt_val (i:=8) (v:=(vl C cl.length ec)) [10,11,12,13] aw (fun j hj=>by simp at hj;first | (subst hj;decide) | (rcases hj with rfl | rfl <;> decide)) (by decide +kernel) (by decide +kernel) rfl rfl rfl rfl (fun _ _ _ _ h=>h) rfl ai (fun W hW=>(rl aw rfl (hW.2.rule.1 2))) fun I aO=>aO.ym 9 rfl fun _ aP=>?_
  have aB:=(hce.ext M).ext ab
  obtain ⟨aT,a0,aD,-⟩:=Fl.at aB (by omega)
  refine aP.yw 10 (vq aT (a0+k*32)) rfl (fun F W=>rn_indexE uu30 inf29 ((F.get rfl).trans (by rw [aD])) (F.get rfl) (zl _) (il (by omega:k<cl.length)) (by omega)) fun _ ax=>anyt_val (i:=11) (v:=(.agg (byteVals (cl.getD k [])).toArray)) [12,13] ax (fun j hj=>by simp at hj;first | (subst hj;decide) | (rcases hj with rfl | rfl <;> decide)) (by decide +kernel) (by decide +kernel) rfl rfl rfl rfl (fun _ _ _ _ h=>h) rfl ai (fun W hW=>(rn_loadN (cs:=byteVals (cl.getD k [])) (ax.get rfl) uu29 rfl (sk inf29 (byteVals_len (dig_len h32c k (by omega)))) (Fl.digAt (aB.ext hW.1) aD h32c (by omega)))) fun I aQ=>ao 6 rfl<|aQ.oE (c:=rhash_any (op.getD k []) _ (dig_len h32o k (by omega))) (k:=fun I am I _ aR=>?_)
  have M:=az.ext am
  refine ⟨fun _ _=>⟨eX,M⟩,?_⟩
  have Z:=own_ext (own_ext ac ab) am
  have Y:=Z
  refine ao 12 rfl (aR.on (fun g=>(vl (some ⟨g,0,none⟩) 2 2)) (byteVals ((openD (op.getD k []))++(cl.getD k []))) 29 rfl (fun F=>rn_buildSlice (parts2 (F.get rfl) (F.get rfl)) (build_wholeE (vs:=[(.agg (byteVals (openD (op.getD k []))).toArray),(.agg (byteVals (cl.getD k [])).toArray)]) El30 rfl rfl (fun v hv=>(List.mem_cons.1 hv).elim (fun h=>by rw [h];exact (byteVals_len (openD_len _))) (fun h=>by rw [List.mem_singleton.1 h];exact (byteVals_len (dig_len h32c k (by omega))))) (by decide) (by decide) (by simp [Value.cells,byteVals]))) fun I D _ D U U V U=>?_)
  have ae:=own_new (g:=I) Y (by omega)
  have Y:=M.ext U
  refine ⟨fun _ _=>⟨eX,Y⟩,?_⟩
  refine ao 13 rfl<|have aa:=(own_ext Z U);have M:=aa;have Z:=ah.ux U;have ac:some G≠(Value.slice Ap np cp).ownBlock:=(own_ne aa (by omega:G<J));have J:=Z.lt;have ag:some I≠(Value.slice Ap np cp).ownBlock:=ae;have J:=V.lt;o_appB (zs:=digVals (x++([openD (op.getD k []),cl.getD k []]))) El30 D rfl rfl rfl rfl rfl (D.get rfl) (D.get rfl) M (Fl.cel (Fl.digblk (S:=fun b=>b=I) V (All32.cons (openD_len _) (All32.sing (dig_len h32c k (by omega)))) (by simp [digVals,byteVals]))).2.2 (by omega) (by omega) (by omega) (digVals_app _ _) fun J V D D ae ah D aa aa aa=>?_;have ai:=D.size
  have ai:=aa G (by omega) ac
  have G:=aa I (by omega) ag
  refine ⟨fun h=>absurd h (by decide),?_⟩
  refine ae.yv 14 (vl J (np+2) V) rfl fun _ G=>nK aE<|have I:=G.k [0,1,2,3,4,7,8,47,9,10,11,55,61];wp_region_lit<|I.xm rfl<|Xv (vi (k+1:Nat))<|Xa rfl fun _ G=>wpList_nil ?_
  have aa:=aj.pres (Pres.row ((((Pres.refl aK).ext ab).ext am).ext U) D M (fun b hb h=>by simp only [Clip] at h;omega))
  have I:=Z.grown D ac
  have U:=grown_blk M D Y (by decide)
  refine ⟨⟨(k+1),J,np+2,V,x++([openD (op.getD k []),cl.getD k []]),G.j,⟨by omega,by omega⟩,(pair_f (s:=⟨idx,op,cl,pa⟩) ak al),(ext_row eX D M (by omega)),I,U,ah,aa,(by omega),(by omega)⟩,?_⟩
  rw [G.get (t:=11) rfl,aF.get (t:=11) rfl];simp [intOf] <;> omega
 refine ae.cf<|wp_exit<|exit_then<|exit_then<|exit_here<|aW _ _<|wp_seq_k fun I ag=>?_
 have hk:k=64:=by omega
 have hxx:=ak
 rw [hk] at hxx
 refine sX (fun I W=>Ext I W∧Blk W D 32 [(vi idx),(vl O op.length oc),(vl C cl.length ec),(vl P pa.length pc)]) (fun i=>i==12) 14 fun I V U=>?_
 refine any_have (n1:=2) (L1:=#[true,true,true,true,true,true,true,true,true,true,true,true,false,false]) (fun a' W=>∃ (U:Nat),Sl 108 [(0,(.agg (byteVals root).toArray)),(1,(vi n)),(2,(vl B msg.length cb)),(3,(.agg #[(vi idx),(vl O op.length oc),(vl C cl.length ec),(vl P pa.length pc)])),(4,(vp G)),(7,(vp D)),(8,(.bool false)),(9,(vl Y 64 aa)),(10,(vl Ap np cp)),(11,(vi k)),(12,(vp U)),(47,(vd ((65536:Int)<(msg.length:Int)))),(55,(vd ((k:Int)<(64:Int)))),(99,(.agg (byteVals ((climbF (tagged [111,110,101] x.flatten) idx n pa).1)).toArray)),(100,(vi ((climbF (tagged [111,110,101] x.flatten) idx n pa).2)))] a'∧Ext I W∧Blk W U 29 (byteVals (List.replicate 32 0))∧I.heap.size≤U) ?_ (fun ab=>?_)
 ·rintro D D ⟨U,D,I,G,J⟩
  have J:=I.size
  have I:=G.lt
  refine ao 12 rfl (D.os rfl G (fun G M J=>an ?_) (hk:=byteVals_len (climbF_len _ _ _ _)));have G:=J.size
  refine D.yv 13 (vi ((climbF (tagged [111,110,101] x.flatten) idx n pa).2)) rfl fun _ D=>nK ag<|wr fun G G=>D.xm rfl<|Xv (vd (((climbF (tagged [111,110,101] x.flatten) idx n pa).2:Int)=(0:Int)))<|Xm rfl fun _ D=>?_
  by_cases I:((climbF (tagged [111,110,101] x.flatten) idx n pa).2:Int)=(0:Int)
  ·refine D.xgw (.agg (byteVals ((climbF (tagged [111,110,101] x.flatten) idx n pa).1)).toArray) (fun F=>rb F rfl M (hk:=byteVals_len (climbF_len _ _ _ _))) fun _ D=>have M:=ah.ug J;D.xgw (.agg (byteVals root).toArray) (fun F=>rb F rfl M (hk:=byteVals_len hd))<|Xgw (vd ((climbF (tagged [111,110,101] x.flatten) idx n pa).1=root)) (fun F=>rn_eqA uu29 uu5 inf5 (by kernel_rfl) (F.get rfl) (F.get rfl) (climbF_len _ _ _ _) hd)<|Xv (vd ((climbF (tagged [111,110,101] x.flatten) idx n pa).1=root))<|Xa rfl fun _ D=>wn G<|have G:=D.k [0,1,2,3,4,7,8,9,10,11,12,47,55,13];wp_ret<|ret1 G rfl rfl ?_
   have hv:vShape n msg ⟨idx,op,cl,pa⟩:=by unfold vShape;simp only;omega
   have hcs:climbS root n msg ⟨idx,op,cl,pa⟩=climbF (tagged [111,110,101] x.flatten) idx n pa:=by rw [hxx,publicD_pairs];rfl
   exact ⟨by rw [verify_yes hv,hcs,show decide (_=(0:Int))=true from (decide_eq_true I),Bool.true_and],eX⟩
  refine D.xu<|Xu<|Xu<|Xv (.bool false)<|Xa rfl fun _ D=>wn G<|have G:=D.k [0,1,2,3,4,7,8,9,10,11,12,47,55,13];wp_ret<|ret1 G rfl rfl ?_
  have hv:vShape n msg ⟨idx,op,cl,pa⟩:=by unfold vShape;simp only;omega
  have hcs:climbS root n msg ⟨idx,op,cl,pa⟩=climbF (tagged [111,110,101] x.flatten) idx n pa:=by rw [hxx,publicD_pairs];rfl
  exact ⟨by rw [verify_yes hv,hcs,show decide (_=(0:Int))=false from (decide_eq_false I)];rfl,eX⟩
 refine any_have (n1:=6) (L1:=#[true,true,true,true,true,true,true,false,false,false,false,true,false,false]) (fun a' W=>∃ (U:Nat),Sl 108 [(0,(.agg (byteVals root).toArray)),(1,(vi n)),(2,(vl B msg.length cb)),(3,(.agg #[(vi idx),(vl O op.length oc),(vl C cl.length ec),(vl P pa.length pc)])),(4,(vp G)),(7,(vp D)),(8,(.bool false)),(9,(vl Y 64 aa)),(10,(vl Ap np cp)),(11,(vi k)),(12,(vp U)),(47,(vd ((65536:Int)<(msg.length:Int)))),(55,(vd ((k:Int)<(64:Int)))),(92,(.agg (byteVals (tagged [111,110,101] x.flatten)).toArray)),(94,(vi idx)),(95,(vi n)),(97,(vl P pa.length pc))] a'∧Ext I W∧Blk W U 29 (byteVals (List.replicate 32 0))∧I.heap.size≤U) ?_ (fun Y=>?_)
 ·rintro D D ⟨U,I,G,D,J⟩
  have J:=G.size
  have J:=D.lt
  refine ao 7 rfl<|have J:=(((hcp.ext M).ext V).ext G);I.oe (rClimb_at (tagged [111,110,101] x.flatten) idx n pa _ (v:=(vl P pa.length pc)) (m:=pa.length) (tagged_len _ _) h32p J) fun G G I _ I=>?_
  have J:=Z.ux G
  refine ⟨fun _ _=>⟨eX,J⟩,?_⟩
  exact I.ym 8 rfl<|Yv 9 (.agg (byteVals ((climbF (tagged [111,110,101] x.flatten) idx n pa).1)).toArray) rfl<|Yv 10 (vi ((climbF (tagged [111,110,101] x.flatten) idx n pa).2)) rfl fun _ I=>have J:=(D.ext G);ab _ _ ⟨U,I.j,eX,J,(by omega)⟩
 refine ae.ym 0 rfl<|Yv 2 (vp D) rfl fun _ aa=>have G:=(Z.ext V);have U:Ext I I∧Blk I D 32 [(vi idx),(vl O op.length oc),(vl C cl.length ec),(vl P pa.length pc)]:=⟨(Ext.refl I),G⟩;aa.ys 3 (vi idx) rfl U (fun F W hW=>rl F rfl (hW.2.rule.1 0))<|Ym 4 rfl<|Yv 5 (vq D 3) rfl<|Ys 6 (vl P pa.length pc) rfl U (fun F W hW=>rl F rfl (hW.2.rule.1 3)) fun _ D=>?_
 refine any_two (i:=1) (k:=11) (by decide +kernel) rfl rfl ?_ ?_
 ·have U:=(own_ext ac V)
  refine D.oE (c:=rone_at (v:=(vl Ap np cp)) (m:=np) x _ aI (Fl.own (S:=fun b=>J≤b) U (fun b hb=>hb) (digVals_one _)) (by omega)) (k:=fun D D I _ J=>?_)
  have I:=G.ext D
  refine ⟨fun _ _=>⟨eX,I⟩,?_⟩
  refine any_two (i:=7) (k:=11) (by decide +kernel) rfl rfl ?_ ?_
  ·have G:=(((hcp.ext M).ext V).ext D)
   refine J.oe (rClimb_at (tagged [111,110,101] x.flatten) idx n pa _ (v:=(vl P pa.length pc)) (m:=pa.length) (tagged_len _ _) h32p G) fun G J G _ M=>?_
   have G:=I.ext J
   refine ⟨fun _ _=>⟨eX,G⟩,?_⟩
   refine M.ym 8 rfl<|Yv 9 (.agg (byteVals ((climbF (tagged [111,110,101] x.flatten) idx n pa).1)).toArray) rfl<|Yv 10 (vi ((climbF (tagged [111,110,101] x.flatten) idx n pa).2)) rfl fun _ I=>have V:=(own_ext (own_ext U D) J);have M:=V;ao 11 rfl<|I.oz (byteVals (List.replicate 32 0)) 29 rfl fun D I _ I J J J U=>?_
   have V:=own_new (g:=D) M (by omega)
   have M:=G.ext U
   refine ⟨fun _ _=>⟨eX,M⟩,?_⟩
   exact ab _ _ ⟨D,I.j,eX,J,(by omega)⟩
  have G:=own_ext U D
  have M:=G
  refine J.oz (byteVals (List.replicate 32 0)) 29 rfl fun D G _ G J J J U=>?_
  have V:=own_new (g:=D) M (by omega)
  have M:=I.ext U
  refine ⟨fun _ _=>⟨eX,M⟩,?_⟩
  exact Y _ _ ⟨D,G.j,eX,J,(by omega)⟩
 have U:=own_ext ac V
 have aa:=U
 refine D.oz (byteVals (List.replicate 32 0)) 29 rfl fun I D _ V D D Z M=>?_
 have D:=own_new (g:=I) aa (by omega)
 have D:=G.ext M
 refine ⟨fun _ _=>⟨eX,D⟩,?_⟩
 refine ao 1 rfl<|have G:=(own_ext U M);V.oE (c:=rone_at (v:=(vl Ap np cp)) (m:=np) x _ aI (Fl.own (S:=fun b=>J≤b) G (fun b hb=>hb) (digVals_one _)) (by omega)) (k:=fun G G J _ J=>?_)
 have M:=D.ext G
 refine ⟨fun _ _=>⟨eX,M⟩,?_⟩
 have D:=Z.ext G
 exact Y _ _ ⟨I,J.j,eX,D,(by omega)⟩
theorem samed_any (A B:Option Addr) (c e:Nat) (a b:List (List UInt8)) (w:World) (h32a:All32 a) (h32b:All32 b) (ha:Fl S w 32 (vl A a.length c) a.length (digVals a)) (hb:Fl S2 w 32 (vl B b.length e) b.length (digVals b)) (hca:a.length≤9223372036854775807) :
  Calls Tryz.prog 79 #[.slice A a.length c,.slice B b.length e] w (fun e w'=>e=.returned (.bool (decide (a=b)))∧Ext w w'):=by
 refine calls_enter Tryz.func79 rfl rfl rfl fun _ C=>wr fun D D=>C.xv (.bool false) fun _ C=>wn D<|wp_seq_k fun D G=>wr fun D I=>C.xm rfl<|Xv (vi a.length)<|Xm rfl<|Xv (vi b.length)<|Xv (vd ((a.length:Int)≠(b.length:Int))) fun _ D=>wn I ?_
 have C:=D.k [0,1,4,10]
 by_cases D:(a.length:Int)≠(b.length:Int)
 ·exact C.ct<|wr fun D D=>C.xv (.bool false) fun _ C=>wn D<|wp_ret<|ret_then<|ret1 C rfl rfl<|have hab:a≠b:=ne_of_len (by omega);⟨by rw [decide_eq_false hab],(Ext.refl w)⟩
 refine C.cf<|wp_skip<|G _ _<|wp_seq_k fun D I=>wr fun D D=>C.xv (vi 0) fun _ C=>wn D<|wp_block<|wp_loop (fun a' W=>∃ (k:Nat),Sl 26 [(0,(vl A a.length c)),(1,(vl B b.length e)),(4,(.bool false)),(10,(vd ((a.length:Int)≠(b.length:Int)))),(5,(vi k))] a'∧k≤a.length∧a.take k=b.take k∧Ext w W∧w.heap.size≤W.heap.size) (fun a' _=>a.length - (intOf (a'.eval (.tmp 5))).toNat) ⟨0,C.j,(by omega),rfl,(Ext.refl w),(Nat.le_refl _)⟩ ?_
 rintro C C ⟨k,C,D,M,G,D⟩
 have Z:=C
 have D:=G.size
 refine wp_seq_k fun D J=>wr fun D O=>C.xm rfl<|Xm rfl<|Xv (vi a.length)<|Xv (vd ((k:Int)<(a.length:Int))) fun _ D=>wn O ?_
 by_cases C:(k:Int)<(a.length:Int)
 ·refine D.ct<|wp_skip<|J _ _<|wp_seq_k fun C V=>wp_block<|wp_seq_k fun C Y=>sX (fun C W=>Ext C W) (fun i=>false) 9 fun C O I=>D.ym 0 rfl<|Ym 1 rfl fun _ J=>?_
  have D:=(ha.ext G).ext O
  obtain ⟨U,aa,I,-⟩:=Fl.at D (by omega)
  refine J.yw 2 (vq U (aa+k*32)) rfl (fun F W=>rn_indexE uu30 inf29 ((F.get rfl).trans (by rw [I])) (F.get rfl) (zl _) (il (by omega:k<a.length)) (by omega)) fun _ U=>have J:Ex C C:=Ext.refl C;U.ys 3 (.agg (byteVals (a.getD k [])).toArray) rfl J (fun F W hW=>rn_loadN (cs:=byteVals (a.getD k [])) (F.get rfl) uu29 rfl (sk inf29 (byteVals_len (dig_len h32a k (by omega)))) (Fl.digAt (D.ext hW) I h32a (by omega)))<|Ym 4 rfl<|Ym 5 rfl fun _ I=>?_
  have C:=(hb.ext G).ext O
  obtain ⟨G,O,D,-⟩:=Fl.at C (by omega)
  refine I.yw 6 (vq G (O+k*32)) rfl (fun F W=>rn_indexE uu30 inf29 ((F.get rfl).trans (by rw [D])) (F.get rfl) (zl _) (il (by omega:k<b.length)) (by omega))<|Ys 7 (.agg (byteVals (b.getD k [])).toArray) rfl J (fun F W hW=>rn_loadN (cs:=byteVals (b.getD k [])) (F.get rfl) uu29 rfl (sk inf29 (byteVals_len (dig_len h32b k (by omega)))) (Fl.digAt (C.ext hW) D h32b (by omega)))<|Yw 8 (.bool (!decide (a.getD k []=b.getD k []))) rfl (fun F W=>rn_neA uu29 uu5 inf5 (by kernel_rfl) (F.get rfl) (F.get rfl) (dig_len h32a k (by omega)) (dig_len h32b k (by omega))) fun _ D=>nK Y ?_
  have C:=D.k [0,1,4,10,5,14,25]
  by_cases D:a.getD k []=b.getD k []
  ·refine C.cf<|wp_skip<|V _ _<|wp_region_lit<|C.xm rfl<|Xv (vi (k+1:Nat))<|Xa rfl fun _ C=>wpList_nil ?_
   refine ⟨⟨(k+1),C.j,(by omega),(take_succ_eq (d:=[]) M (by omega) (by omega) D),eX,(by omega)⟩,?_⟩
   rw [C.get (t:=5) rfl,Z.get (t:=5) rfl];simp [intOf] <;> omega
  exact C.ct<|wr fun G G=>C.xv (.bool false) fun _ C=>wn G<|wp_ret<|ret_block<|ret_then<|ret_then<|ret_block<|ret_then<|ret1 C rfl rfl<|have hab:a≠b:=ne_of_getD (k:=k) (d:=[]) D;⟨by rw [decide_eq_false hab],eX⟩
 exact D.cf<|wp_exit<|exit_then<|exit_then<|exit_here<|I _ _<|wr fun C G=>D.xv (.bool true) fun _ C=>wn G<|wp_ret<|ret1 C rfl rfl<|have hab:a=b:=take_all_eq M (by omega) (by omega);⟨by rw [decide_eq_true hab],eX⟩
theorem samed_at (a b:List (List UInt8)) (w:World) (h32a:All32 a) (h32b:All32 b) (ha:Fl S w 32 v n (digVals a)) (hb:Fl S2 w 32 u m (digVals b)):Calls Tryz.prog 79 #[v,u] w (fun e w'=>e=.returned (.bool (decide (a=b)))∧Ext w w'):=by
 have h1:=Fl.dlen ha h32a
 have h2:=Fl.dlen hb h32b
 subst h1 h2
 obtain ⟨A,c,rfl,hc⟩:=ha.form
 obtain ⟨B,e,rfl,he⟩:=hb.form
 exact samed_any A B c e a b w h32a h32b ha hb (by omega)
def sameS (x y:Sg):Bool:=decide (x.index=y.index)&&(decide (x.op=y.op)&&(decide (x.cl=y.cl)&&decide (x.path=y.path)))
theorem sameS_refl (x:Sg):sameS x x=true:=by simp [sameS]
theorem sames_any (xO xC xP:Option Addr) (xa xb xc:Nat) (x:Sg) (yO yC yP:Option Addr) (ya yb yc:Nat) (y:Sg) (w:World) (xhO:Fl S w 32 (vl xO x.op.length xa) x.op.length (digVals x.op)) (xAO:All32 x.op) (xhC:Fl S w 32 (vl xC x.cl.length xb) x.cl.length (digVals x.cl)) (xAC:All32 x.cl) (xhP:Fl S w 32 (vl xP x.path.length xc) x.path.length (digVals x.path)) (xAP:All32 x.path) (yhO:Fl S2 w 32 (vl yO y.op.length ya) y.op.length (digVals y.op)) (yAO:All32 y.op) (yhC:Fl S2 w 32 (vl yC y.cl.length yb) y.cl.length (digVals y.cl)) (yAC:All32 y.cl) (yhP:Fl S2 w 32 (vl yP y.path.length yc) y.path.length (digVals y.path)) (yAP:All32 y.path) :
  Calls Tryz.prog 38 #[.agg #[(vi x.index),(vl xO x.op.length xa),(vl xC x.cl.length xb),(vl xP x.path.length xc)],.agg #[(vi y.index),(vl yO y.op.length ya),(vl yC y.cl.length yb),(vl yP y.path.length yc)]] w (fun e w'=>e=.returned (.bool (sameS x y))∧Ext w w'):=by
 have xkO:Fl (Clip S w) w 32 (vl xO x.op.length xa) x.op.length (digVals x.op):=xhO.clip
 have xkOc:=(Fl.cel xkO).2.1
 have xkC:Fl (Clip S w) w 32 (vl xC x.cl.length xb) x.cl.length (digVals x.cl):=xhC.clip
 have xkCc:=(Fl.cel xkC).2.1
 have xkP:Fl (Clip S w) w 32 (vl xP x.path.length xc) x.path.length (digVals x.path):=xhP.clip
 have xkPc:=(Fl.cel xkP).2.1
 have ykO:Fl (Clip S2 w) w 32 (vl yO y.op.length ya) y.op.length (digVals y.op):=yhO.clip
 have ykOc:=(Fl.cel ykO).2.1
 have ykC:Fl (Clip S2 w) w 32 (vl yC y.cl.length yb) y.cl.length (digVals y.cl):=yhC.clip
 have ykCc:=(Fl.cel ykC).2.1
 have ykP:Fl (Clip S2 w) w 32 (vl yP y.path.length yc) y.path.length (digVals y.path):=yhP.clip
 have ykPc:=(Fl.cel ykP).2.1
 refine calls_enter Tryz.func38 rfl rfl rfl fun _ C=>wr fun D M=>C.xb rfl fun J C _ C D D O G=>C.xb rfl fun I C _ D C C U C=>D.xv (.bool false) fun _ D=>wn M<|wr fun M M=>D.xv (vp J) fun _ D=>have V:=(O.ext C);D.xw (vi x.index) (fun F=>rl F rfl (V.rule.1 0))<|Xv (vp I)<|Xw (vi y.index) (fun F=>rl F rfl (U.rule.1 0))<|Xv (vd ((x.index:Int)=(y.index:Int)))<|Xm rfl fun _ D=>?_
 by_cases O:(x.index:Int)=(y.index:Int)
 ·refine D.xg (vq J 1)<|Xgw (vl xO x.op.length xa) (fun F=>rl F rfl (V.rule.1 1))<|Xg (vq I 1)<|Xgw (vl yO y.op.length ya) (fun F=>rl F rfl (U.rule.1 1)) fun _ D=>have Y:=((xkO.ext G).ext C);have Z:=((ykO.ext G).ext C);wpl_op (i:=10) rfl (D.gE (c:=samed_at x.op y.op _ xAO yAO Y Z) (k:=fun D D Y _ Y=>Y.xv (vd (x.op=y.op))<|Xm rfl fun _ Z=>?_))
  by_cases Y:x.op=y.op
  ·refine Z.xg (vq J 2) fun _ aa=>have Z:=(V.ext D);aa.xgw (vl xC x.cl.length xb) (fun F=>rl F rfl (Z.rule.1 2))<|Xg (vq I 2) fun _ V=>have aa:=(U.ext D);V.xgw (vl yC y.cl.length yb) (fun F=>rl F rfl (aa.rule.1 2)) fun _ U=>have V:=(((xkC.ext G).ext C).ext D);have ab:=(((ykC.ext G).ext C).ext D);wpl_op (i:=17) rfl (U.gE (c:=samed_at x.cl y.cl _ xAC yAC V ab) (k:=fun U U V _ V=>V.xv (vd (x.cl=y.cl))<|Xm rfl fun _ V=>?_))
   by_cases ab:x.cl=y.cl
   ·exact V.xg (vq J 3) fun _ J=>have V:=(Z.ext U);J.xgw (vl xP x.path.length xc) (fun F=>rl F rfl (V.rule.1 3))<|Xg (vq I 3) fun _ I=>have J:=(aa.ext U);I.xgw (vl yP y.path.length yc) (fun F=>rl F rfl (J.rule.1 3)) fun _ I=>have J:=((((xkP.ext G).ext C).ext D).ext U);have V:=((((ykP.ext G).ext C).ext D).ext U);wpl_op (i:=24) rfl (I.gE (c:=samed_at x.path y.path _ xAP yAP J V) (k:=fun C C C _ C=>C.xv (vd (x.path=y.path))<|Xa rfl fun _ C=>wn M<|have D:=C.k [0,1,2,3,4];wp_ret<|ret1 D rfl rfl<|⟨by rw [sameS,show decide ((x.index:Int)=(y.index:Int))=true from (decide_eq_true O),show decide (x.op=y.op)=true from (decide_eq_true Y),show decide (x.cl=y.cl)=true from (decide_eq_true ab)];simp only [Bool.true_and],eX⟩))
   exact V.xu<|Xu<|Xu<|Xu<|Xu<|Xv (.bool false)<|Xa rfl fun _ C=>wn M<|have D:=C.k [0,1,2,3,4];wp_ret<|ret1 D rfl rfl<|⟨by rw [sameS,show decide ((x.index:Int)=(y.index:Int))=true from (decide_eq_true O),show decide (x.op=y.op)=true from (decide_eq_true Y),show decide (x.cl=y.cl)=false from (decide_eq_false ab)];simp only [Bool.false_and,Bool.and_false,Bool.true_and],eX⟩
  exact Z.xu<|Xu<|Xu<|Xu<|Xu<|Xv (.bool false)<|Xm rfl<|Xu<|Xu<|Xu<|Xu<|Xu<|Xv (.bool false)<|Xa rfl fun _ C=>wn M<|have D:=C.k [0,1,2,3,4];wp_ret<|ret1 D rfl rfl<|⟨by rw [sameS,show decide ((x.index:Int)=(y.index:Int))=true from (decide_eq_true O),show decide (x.op=y.op)=false from (decide_eq_false Y)];simp only [Bool.false_and,Bool.and_false,Bool.true_and],eX⟩
 exact D.xu<|Xu<|Xu<|Xu<|Xu<|Xv (.bool false)<|Xm rfl<|Xu<|Xu<|Xu<|Xu<|Xu<|Xv (.bool false)<|Xm rfl<|Xu<|Xu<|Xu<|Xu<|Xu<|Xv (.bool false)<|Xa rfl fun _ C=>wn M<|have D:=C.k [0,1,2,3,4];wp_ret<|ret1 D rfl rfl<|⟨by rw [sameS,show decide ((x.index:Int)=(y.index:Int))=false from (decide_eq_false O)];simp only [Bool.false_and,Bool.and_false,Bool.true_and],eX⟩
theorem verify_at {u1 u2 u3:Value} {n1 n2 n3:Nat} {S1 S3:Nat→Prop} (root:List UInt8) (n:Int) (msg:List UInt8) (sg:Sg) (w:World) (hd:root.length=32) (hm:Fl S w 1 v m (byteVals msg)) (ho:Fl S1 w 32 u1 n1 (digVals sg.op)) (he:Fl S2 w 32 u2 n2 (digVals sg.cl)) (hp:Fl S3 w 32 u3 n3 (digVals sg.path)) (h32o:All32 sg.op) (h32c:All32 sg.cl) (h32p:All32 sg.path) (hG:Glob w) :
  Calls Tryz.prog 39 #[.agg (byteVals root).toArray,.int .i64 n,v,.agg #[.int .i64 sg.index,u1,u2,u3]] w (fun e w'=>e=.returned (.bool (verifyF root n msg sg))∧Ext w w'):=by
 have h1:=hm.blen
 have h2:=Fl.dlen ho h32o
 have h3:=Fl.dlen he h32c
 have h4:=Fl.dlen hp h32p
 subst h1 h2 h3 h4
 obtain ⟨B,cb,rfl,_⟩:=hm.form
 obtain ⟨O,oc,rfl,_⟩:=ho.form
 obtain ⟨C,ec,rfl,_⟩:=he.form
 obtain ⟨P,pc,rfl,_⟩:=hp.form
 exact verify_any (S:=fun _=>True) root n B cb msg sg.index O oc sg.op C ec sg.cl P pc sg.path w hd (hm.sub fun _ _=>trivial) (ho.sub fun _ _=>trivial) (he.sub fun _ _=>trivial) (hp.sub fun _ _=>trivial) h32o h32c h32p hG
section
variable {msg other:List UInt8}
theorem sign_zero (h:signE sd many used idx msg=0):kOk sd many used=true∧¬ 65536<msg.length∧¬ (idx<0∨many≤idx):=by
  unfold signE at h
  split at h
  · cases h
  · rename_i h1
    split at h
    · cases h
    · rename_i h2
      split at h
      · cases h
      · rename_i h3
        exact ⟨by simpa using h1,h2,h3⟩
theorem sign_of (h:signE sd many used idx msg=0):signF sd many used idx msg=sgOf sd many.toNat idx.toNat msg:=by rw [signF,if_pos h]
theorem signF_o (sd:List UInt8) (many used idx:Int) (msg:List UInt8):All32 (signF sd many used idx msg).op:=by
  unfold signF;split
  · exact opTo_32 _ _ _ _
  · exact All32.nil
theorem signF_c (sd:List UInt8) (many used idx:Int) (msg:List UInt8):All32 (signF sd many used idx msg).cl:=by
  unfold signF;split
  · exact clTo_32 _ _ _ _
  · exact All32.nil
theorem signF_p (sd:List UInt8) (many used idx:Int) (msg:List UInt8):All32 (signF sd many used idx msg).path:=by
  unfold signF;split
  · exact pathD_32 _ _ _ (Nat.le_refl _)
  · exact All32.nil
theorem sign_len (h:signE sd many used idx msg=0):(signF sd many used idx msg).op.length=64∧(signF sd many used idx msg).cl.length=64∧(signF sd many used idx msg).index=idx:=by
  obtain ⟨h1,_,h3⟩:=sign_zero h
  rw [sign_of h]
  exact ⟨opTo_len _ _ _ _,clTo_len _ _ _ _,by simp only [sgOf];omega⟩
theorem sign_iff (h:kOk sd many used=true) (hm:msg.length≤65536):signE sd many used idx msg=0↔0≤idx∧idx<many:=by
  constructor
  · intro he;have:=sign_zero he;omega
  · intro he;exact signE4 h (by omega) (by omega)
theorem pub_zero (h:pubE sd many used=0):kOk sd many used=true:=by
  unfold pubE at h
  split at h
  · assumption
  · cases h
theorem pub_of (h:kOk sd many used=true):pubF sd many used=pubD sd many.toNat∧pubE sd many used=0:=by rw [pubF,pubE,if_pos h,if_pos h];exact ⟨rfl,rfl⟩
theorem verifies (h:signE sd many used idx msg=0) (ho:other.length≤65536) (hb:bitsR (pubF sd many used) (signF sd many used idx msg).index msg=bitsR (pubF sd many used) (signF sd many used idx msg).index other) :
    verifyF (pubF sd many used) many other (signF sd many used idx msg)=true:=by
  obtain ⟨h1,h2,h3⟩:=sign_zero h
  obtain ⟨h4,h5,h6,h7⟩:=kOk_iff.1 h1
  obtain ⟨k,rfl⟩:∃ k:Nat,many=(k:Int):=⟨many.toNat,by omega⟩
  obtain ⟨i,rfl⟩:∃ i:Nat,idx=(i:Int):=⟨idx.toNat,by omega⟩
  rw [(sign_len h).2.2,(pub_of h1).1,bitsR_in (by omega),bitsR_in (by omega)] at hb
  rw [(pub_of h1).1,sign_of h]
  simp only [Int.toNat_natCast] at hb ⊢
  exact verify_sg (by omega) (by omega) ho hb
theorem verifies1 (h:signE sd many used idx msg=0) (ho:msg.length≤65536):verifyF (pubF sd many used) many msg (signF sd many used idx msg)=true:=verifies h ho rfl
end
def numL (n:Nat):Nat→List UInt8
  | 0=>[]
  | k+1=>numL (n / 256) k++[UInt8.ofNat n]
theorem numL_len (n:Nat):∀ k,(numL n k).length=k
  | 0=>rfl
  | k+1=>by rw [numL,List.length_append,numL_len _ k];rfl
theorem numL_getD (n:Nat):∀ (k i:Nat),i<k→(numL n k).getD (k - 1 - i) 0=UInt8.ofNat (n / 256 ^ i)
  | 0,i,h=>absurd h (by omega)
  | k+1,0,_=>by rw [numL,List.getD_eq_getElem?_getD,List.getElem?_append_right (by rw [numL_len];omega),numL_len];simp
  | k+1,i+1,h=>by
    have:=numL_getD (n / 256) k i (by omega)
    rw [List.getD_eq_getElem?_getD] at this
    rw [numL,List.getD_eq_getElem?_getD,List.getElem?_append_left (by rw [numL_len];omega),show k+1 - 1 - (i+1)=k - 1 - i by omega,this,Nat.div_div_eq_div_mul,Nat.pow_succ,Nat.mul_comm]
def kd (s:List UInt8):UInt8:=s.getD 10 0
def kindOk (n:Nat) (q:UInt8):Prop:=n≤112∧q.toNat≤3∧(q.toNat<2→n=112)∧(q.toNat % 2=0→n≠0)
instance (n:Nat) (q:UInt8):Decidable (kindOk n q):=by unfold kindOk;infer_instance
def lenB (s:List UInt8):UInt8:=UInt8.ofNat s.length
def itLeaf (x:It):List UInt8:=tagged [105,116,101,109] ([lenB x.name]++x.name++x.data)
def cgLeaf (c:Cg):List UInt8:=tagged [99,104,97,110,103,101] ([bitB c.gone,lenB c.name]++c.name++c.data)
def stateD (l:List It):List UInt8:=if checkE l=0 then treeD (l.map itLeaf) else zero32
structure Vr where
  no:Int
  state:List UInt8
  chs:List Cg
  sg:Sg
structure Fo where
  pub:List UInt8
  many:Int
  no:Int
  items:List It
  early:List Vr
def vrNil:Vr:=⟨0,zero32,[],sgNil⟩
def foNil:Fo:=⟨zero32,0,0,[],[]⟩
instance:Inhabited Vr:=⟨vrNil⟩
def chD (l:List Cg):List UInt8:=treeD (l.map cgLeaf)
def msgV (no:Int) (state:List UInt8) (l:List Cg):List UInt8:=numL no.toNat 8++state++chD l
def Vr.msg (v:Vr):List UInt8:=msgV v.no v.state v.chs
def verifyE (pub:List UInt8) (many:Int) (v:Vr):Int :=
  if v.no<1∨4096<v.no then 420 else if ¬ validC v.chs then 400 else if v.sg.index≠v.no - 1∨verifyF pub many v.msg v.sg=false then 131 else 0
def versionE (sd:List UInt8) (many used:Int) (n:Nat) (a:List It) (l:List Cg):Int :=
  if pubE sd many used≠0 then pubE sd many used else if used≠(n:Int) then 420 else if checkE a≠0 then checkE a else if ¬ validC l then 400 else signE sd many used used (msgV (n+1:Nat) (stateD a) l)
def versionV (sd:List UInt8) (many used:Int) (n:Nat) (a:List It) (l:List Cg):Vr :=
  if versionE sd many used n a l=0 then ⟨(n+1:Nat),stateD a,l,signF sd many used used (msgV (n+1:Nat) (stateD a) l)⟩ else vrNil
def applyE (a:List It) (l:List Cg):Int :=
  if checkE a≠0 then checkE a else if ¬ validC l then 400 else if appOk a l=false then 400 else if 65536<(appL a l).length then 2 else 0
def applyV (a:List It) (l:List Cg):List It:=if applyE a l=0 then appL a l else []
def fits (f:Fo) (v:Vr):Prop:=applyE f.items v.chs=0∧checkE (appL f.items v.chs)=0∧stateD (appL f.items v.chs)=v.state
instance (f:Fo) (v:Vr):Decidable (fits f v):=inferInstanceAs (Decidable (_∧_∧_))
def stepF (f:Fo) (v:Vr):Fo:=if fits f v then { f with no:=v.no,items:=appL f.items v.chs } else f
def asc (n:Int) (l:List Vr):Prop:=∀ i,i<l.length→(if i=0 then n else (l.getD (i - 1) default).no)<(l.getD i default).no
instance (n:Int) (l:List Vr):Decidable (asc n l):=inferInstanceAs (Decidable (∀ i,i<l.length→_))
def firstE (g:Vr→Int):List Vr→Int
  | []=>0
  | v::l=>if g v≠0 then g v else firstE g l
def checkFE (f:Fo):Int :=
  if f.many<1∨4096<f.many then 40 else if f.no<0∨4096<f.no then 420 else if checkE f.items≠0 then checkE f.items else if f.no=0∧0<f.items.length then 400 else if 64<f.early.length then 2
  else if ¬ asc (f.no+1) f.early then 420 else firstE (verifyE f.pub f.many) f.early
def drain (f:Fo):List Vr→Fo
  | []=>{ f with early:=[] }
  | v::l=>if v.no=f.no+1 then drain (stepF f v) l else { f with early:=v::l }
def below (t:Int) (l:List Vr):Nat:=(l.takeWhile fun w=>decide (w.no<t)).length
def recE (f:Fo) (v:Vr):Int :=
  if checkFE f≠0 then checkFE f else if verifyE f.pub f.many v≠0 then verifyE f.pub f.many v
  else if (∃ w∈f.early,w.no=v.no)∨v.no≤f.no then 420
  else if f.no+1<v.no then (if f.early.length=64 then 2 else 0)
  else if fits f v then 0 else 400
def recF (f:Fo) (v:Vr):Fo :=
  if recE f v≠0 then foNil
  else if f.no+1<v.no then { f with early:=f.early.take (below v.no f.early)++[v]++f.early.drop (below v.no f.early) }
  else drain (stepF f v) f.early
def joinE (many:Int):Int:=if many<1∨4096<many then 40 else 0
def joinF (pub:List UInt8) (many:Int):Fo:=if joinE many=0 then ⟨pub,many,0,[],[]⟩ else foNil
theorem itLeaf_len (x:It):(itLeaf x).length=32:=tagged_len _ _
theorem cgLeaf_len (x:Cg):(cgLeaf x).length=32:=tagged_len _ _
theorem stateD_len (l:List It):(stateD l).length=32:=by
  unfold stateD
  split
  · exact treeD_len _
  · rfl
theorem chD_len (l:List Cg):(chD l).length=32:=treeD_len _
theorem msgV_len {no:Int} {state:List UInt8} {l:List Cg} (h:state.length=32):(msgV no state l).length=72:=by
  simp [msgV,numL_len,h,chD_len]
end Go.Proofs.YtihgmaoghbnnaaaGreatDoor
