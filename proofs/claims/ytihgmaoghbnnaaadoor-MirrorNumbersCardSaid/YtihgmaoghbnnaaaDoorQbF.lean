/- Several texts in one: MrI, MrJ, MrK, MrL, MrM, MrN, MrO, MrP. -/
import Derived.Test.YtihgmaoghbnnaaaDoorProg
import Derived.Test.YtihgmaoghbnnaaaDoorQbE
import Derived.KernelRfl
import Derived.Test.YtihgmaoghbnnaaaDoorQbA
import Derived.Test.YtihgmaoghbnnaaaDoorQbB
import Derived.Defers
import Derived.Recover
set_option linter.unusedVariables false
set_option linter.unusedSimpArgs false
namespace Go.Proofs.YtihgmaoghbnnaaaDoor
open Go.RowKit

variable {S S':Nat→Prop}

def JD (p base:Nat) (ps:List (Option It × Option It)) (W:World):Prop:=∃ A n c xs,Blk W p 25 [.slice A n c]∧OwnL RCg 3 92 base W (vl A n c) n xs (ps.flatMap dstep)∧p<base∧base≤W.heap.size
theorem JD.ext {p base:Nat} {ps:List (Option It × Option It)} {W W':World} (h:JD p base ps W) (k:Ext W W'):JD p base ps W':=by
 obtain ⟨A,n,c,xs,h1,h2,h3,h4⟩:=h
 exact ⟨A,n,c,xs,h1.ext k,h2.ext rCg k,h3,Nat.le_trans h4 k.size⟩
theorem ne_or {α β:Type} {x:List α} {y:List β} (h:¬ (x=[]∧y=[])):0<x.length∨0<y.length:=by
 rcases Nat.eq_zero_or_pos x.length with h1 | h1
 ·rcases Nat.eq_zero_or_pos y.length with h2 | h2
  ·exact absurd ⟨List.eq_nil_of_length_eq_zero h1,List.eq_nil_of_length_eq_zero h2⟩ h
  ·exact .inr h2
 ·exact .inl h1
theorem jd_step {p base N:Nat} (hN:N≤1000000) {a0 b0:List It} (ha:∀ z∈a0,z.data.length≤4294967296) (hb:∀ z∈b0,z.data.length≤4294967296) (ps:List (Option It × Option It)) (u v:Value) (x y:List It) (W:World) (hJ:JD p base ps W) (hx:RLs RIt 2 (fun b=>b<p) W u x) (hy:RLs RIt 2 (fun b=>b<p) W v y) (_:x.length≤1) (_:y.length≤1) (hne:¬ (x=[]∧y=[])) (hyb:∀ z∈y,z∈b0) (hxa:∀ z∈x,z∈a0) (hl:ps.length<N) :
  Calls Tryd.prog 45 #[u,v,.pointer (some ⟨p,0,none⟩)] W (fun e W'=>e=.returned (.tuple #[])∧JD p base (ps++[(x.head?,y.head?)]) W'∧FarX (fun b=>b<p) W W'):=by
 obtain ⟨A0,n0,c0,xs,h1,hO,hpb,hbs⟩:=hJ
 obtain ⟨A,c,rfl,_⟩:=hx.form
 obtain ⟨B,d,rfl,_⟩:=hy.form
 have hn:=hO.2.1
 have hf:=flat_len dstep_len ps
 refine (diff1_any p base A0 n0 c0 xs _ A c x B d y W h1 hO hpb hbs (by omega) hx hy (ne_or hne) (fun z hz=>ha z (hxa z hz)) (fun z hz=>hb z (hyb z hz))).mono ?_
 rintro e W' ⟨rfl,⟨A',n',c',xs',h2,h3⟩,hF⟩
 refine ⟨rfl,⟨A',n',c',xs',h2,?_,hpb,Nat.le_trans hbs hF.1.1⟩,hF.sub fun b hb=>⟨Nat.lt_trans hb hpb,by omega⟩⟩
 rw [List.flatMap_append,List.flatMap_cons,List.flatMap_nil,List.append_nil]
 exact h3
def diffE (a b:List It):Int:=if checkE a≠0 then checkE a else checkE b
def diffV (a b:List It):List Cg:=if diffE a b=0 then diffL a b else []
def JA (p q base:Nat) (ps:List (Option It × Option Cg)) (W:World):Prop:=∃ A n c xs,Blk W p 22 [.slice A n c]∧Blk W q 4 [.bool (ps.all aok)]∧OwnL RIt 2 66 base W (vl A n c) n xs (ps.flatMap astepX)∧(p<base∧q<base∧p<q)∧base≤W.heap.size
theorem JA.ext {p q base:Nat} {ps:List (Option It × Option Cg)} {W W':World} (h:JA p q base ps W) (k:Ext W W'):JA p q base ps W':=by
 obtain ⟨A,n,c,xs,h1,h0,h2,h3,h4⟩:=h
 exact ⟨A,n,c,xs,h1.ext k,h0.ext k,h2.ext rIt k,h3,Nat.le_trans h4 k.size⟩
theorem ja_step {p q base N:Nat} (hN:N≤1000000) {a0:List It} {b0:List Cg} (ha:∀ z∈a0,z.data.length≤4294967296) (hb:∀ z∈b0,z.data.length≤4294967296) (ps:List (Option It × Option Cg)) (u v:Value) (x:List It) (y:List Cg) (W:World) (hJ:JA p q base ps W) (hx:RLs RIt 2 (fun b=>b<p) W u x) (hy:RLs RCg 3 (fun b=>b<p) W v y) (_:x.length≤1) (_:y.length≤1) (hne:¬ (x=[]∧y=[])) (hyb:∀ z∈y,z∈b0) (hxa:∀ z∈x,z∈a0) (hl:ps.length<N) :
  Calls Tryd.prog 77 #[u,v,.pointer (some ⟨p,0,none⟩),.pointer (some ⟨q,0,none⟩)] W (fun e W'=>e=.returned (.tuple #[])∧JA p q base (ps++[(x.head?,y.head?)]) W'∧FarX (fun b=>b<p) W W'):=by
 obtain ⟨A0,n0,c0,xs,h1,h0,hO,⟨hpb,hqb,hpq⟩,hbs⟩:=hJ
 obtain ⟨A,c,rfl,_⟩:=hx.form
 obtain ⟨B,d,rfl,_⟩:=hy.form
 have hn:=hO.2.1
 have hf:=flat_len (f:=astepX) astep_len ps
 refine (apply2_any q (ps.all aok) p base A0 n0 c0 xs _ A c x B d y W h1 h0 hqb (by omega) hO hpb hbs (by omega) hx hy (ne_or hne) (fun z hz=>ha z (hxa z hz)) (fun z hz=>hb z (hyb z hz))).mono ?_
 rintro e W' ⟨rfl,⟨A',n',c',xs',h2,h4,h3⟩,hF⟩
 refine ⟨rfl,⟨A',n',c',xs',h2,?_,?_,⟨hpb,hqb,hpq⟩,Nat.le_trans hbs hF.1.1⟩,hF.sub fun b hb=>⟨Nat.lt_trans hb hpb,by omega,by omega⟩⟩
 ·rw [List.all_append,List.all_cons,List.all_nil,Bool.and_true];exact h4
 ·rw [List.flatMap_append,List.flatMap_cons,List.flatMap_nil,List.append_nil];exact h3
theorem check_len {l:List It} (h:checkE l=0):l.length≤65536:=(check_named h).1

set_option maxRecDepth 100000 in
set_option maxHeartbeats 1000000 in
theorem diff_any (A:Option Addr) (c:Nat) (a:List It) (B:Option Addr) (d:Nat) (b:List It) (w:World) (h1:RLs RIt 2 S w (vl A a.length c) a) (h2:RLs RIt 2 S w (vl B b.length d) b) (hsa:∀ z∈a,z.data.length≤4294967296) (hsb:∀ z∈b,z.data.length≤4294967296) :
  Calls Tryd.prog 24 #[.slice A a.length c,.slice B b.length d] w (fun e w'=>∃ A c,e=.returned (.tuple #[.slice A (diffV a b).length c,.int .i64 (diffE a b)])∧RLs RCg 3 (fun z=>w.heap.size≤z) w' (vl A (diffV a b).length c) (diffV a b)∧Ext w w'):=by
 have h1c:RLs RIt 2 (Clip S w) w (vl A a.length c) a:=RLs.clip rIt h1
 obtain ⟨-,h1ck,h1cm⟩:=RLs.at h1
 have h2c:RLs RIt 2 (Clip S w) w (vl B b.length d) b:=RLs.clip rIt h2
 obtain ⟨-,h2ck,h2cm⟩:=RLs.at h2
 refine calls_enter Tryd.func24 rfl rfl rfl fun _ hF=>?_
 refine wr fun K1 hK1=>?_
 refine hF.xz [v0] 25 fun g2 w3 _ F9 z6 z7 b4 hx5=>?_;clear hF
 refine F9.xv (vi 0)<|fun _ F11=>?_;clear F9
 refine wpList_nil (hK1 _ _ ?_);clear hK1
 refine wp_seq_k fun K12 hK12=>?_
 refine wr fun K13 hK13=>?_
 refine F11.xm rfl<|fun _ F15=>?_;clear F11
 have d16:=(RLs.ext rIt h1c hx5)
 refine F15.xc (pcheck_at (v:=(vl A a.length c)) a _ d16) ?_
 rintro _ w17 ⟨rfl,hx18⟩
 refine ⟨_,rfl,?_⟩;intro a19 F20;clear F15;have z21:=hx18.size
 refine F20.xa rfl<|fun _ F23=>?_;clear F20
 refine wpList_nil (hK13 _ _ ?_);clear hK13
 refine wr fun K24 hK24=>?_
 refine F23.xm rfl<|Xv (.bool (decide (((checkE a):Int)≠(0:Int))))<|fun _ F28=>?_;clear F23
 refine wpList_nil (hK24 _ _ ?_);clear hK24
 by_cases hc29:((checkE a):Int)≠(0:Int)
 ·skip
  refine F28.ct ?_
  refine wr fun K30 hK30=>?_
  refine F28.xm rfl<|fun _ F32=>?_;clear F28
  have b36:=(b4.ext hx18)
  refine wpl_op (i:=1) rfl (o_store1 (new:=[v0]) F32 rfl rfl rfl rfl (F32.get rfl) rfl b36 inf25 (by simp) rfl rfl ?_)
  intro w33 b34 hg35;have z37:=hg35.size
  refine F32.xa rfl<|fun _ F39=>?_;clear F32
  refine wpList_nil (hK30 _ _ ?_);clear hK30
  have F40:=F39.k [0,1,4,5,6,11];clear F39
  refine wp_ret (ret_then ?_)
  refine retS1 F40 rfl rfl rfl b34 Tryd.underlying25 rfl ?_
  have hE:diffE a b=(checkE a):=if_pos hc29
  have hv:diffV a b=[]:=if_neg (by rw [hE];exact hc29)
  exact ⟨none,0,by rw [hv,hE];rfl,by rw [hv];exact RLs.nil _,((((Ext.refl w).trans hx5).trans hx18).gn hg35)⟩
 refine F28.cf ?_
 refine wp_skip ?_
 refine hK12 _ _ ?_;clear hK12
 refine wp_seq_k fun K41 hK41=>?_
 refine wr fun K42 hK42=>?_
 refine F28.xm rfl<|fun _ F44=>?_;clear F28
 have d45:=(RLs.ext rIt (RLs.ext rIt h2c hx5) hx18)
 refine F44.xc (pcheck_at (v:=(vl B b.length d)) b _ d45) ?_
 rintro _ w46 ⟨rfl,hx47⟩
 refine ⟨_,rfl,?_⟩;intro a48 F49;clear F44;have z50:=hx47.size
 refine F49.xa rfl<|fun _ F52=>?_;clear F49
 refine wpList_nil (hK42 _ _ ?_);clear hK42
 have F53:=F52.k [0,1,4,5,6,11,7];clear F52
 refine wr fun K54 hK54=>?_
 refine F53.xm rfl<|Xv (.bool (decide (((checkE b):Int)≠(0:Int))))<|fun _ F58=>?_;clear F53
 refine wpList_nil (hK54 _ _ ?_);clear hK54
 by_cases hc59:((checkE b):Int)≠(0:Int)
 ·skip
  refine F58.ct ?_
  refine wr fun K60 hK60=>?_
  refine F58.xm rfl<|fun _ F62=>?_;clear F58
  have b66:=((b4.ext hx18).ext hx47)
  refine wpl_op (i:=1) rfl (o_store1 (new:=[v0]) F62 rfl rfl rfl rfl (F62.get rfl) rfl b66 inf25 (by simp) rfl rfl ?_)
  intro w63 b64 hg65;have z67:=hg65.size
  refine F62.xa rfl<|fun _ F69=>?_;clear F62
  refine wpList_nil (hK60 _ _ ?_);clear hK60
  refine wp_ret (ret_then ?_)
  refine retS1 F69 rfl rfl rfl b64 Tryd.underlying25 rfl ?_
  have hE:diffE a b=(checkE b):=if_neg (fun q=>q (Decidable.not_not.1 hc29))
  have hv:diffV a b=[]:=if_neg (by rw [hE];exact hc59)
  exact ⟨none,0,by rw [hv,hE];rfl,by rw [hv];exact RLs.nil _,(((((Ext.refl w).trans hx5).trans hx18).trans hx47).gn hg65)⟩
 refine F58.cf ?_
 refine wp_skip ?_
 refine hK41 _ _ ?_;clear hK41
 refine wr fun K70 hK70=>?_
 refine F58.xm rfl<|Xm rfl<|Xw (.func (.func 45) #[] #[(vp g2)]) (fun F=>rn_makeFunc (args0 ) (args1 (F.get rfl)))<|fun _ F76=>?_;clear F58
 have hla:=check_len (Decidable.not_not.1 hc29);have hlb:=check_len (Decidable.not_not.1 hc59)
 have d77:=(RLs.ext rIt (RLs.ext rIt (RLs.ext rIt h1c hx5) hx18) hx47)
 have d78:=(RLs.ext rIt (RLs.ext rIt (RLs.ext rIt h2c hx5) hx18) hx47)
 have ha79:RLs RIt 2 (fun b=>b<g2) w46 (vl A a.length c) a:=RLs.sub rIt d77 (fun b h=>by have h7:=h.2;omega)
 have hb80:RLs RIt 2 (fun b=>b<g2) w46 (vl B b.length d) b:=RLs.sub rIt d78 (fun b h=>by have h7:=h.2;omega)
 have b82:=((b4.ext hx18).ext hx47)
 have hx81:=((((Ext.refl w).trans hx5).trans hx18).trans hx47)
 refine wpl_op (i:=3) rfl (o_call F76 rfl rfl rfl rfl (rn_call (args5 (F76.get rfl) (F76.get rfl) rfl rfl (F76.get rfl)) rfl (by kernel_rfl)) (mergeIt_any A c a B d b (45) #[] #[(vp g2)] (fun _ _=>by kernel_rfl) (fun u v=>#[u,v,(vp g2)]) (fun u v=>by simp) (JD g2 w46.heap.size) (fun _ _ _ h k=>h.ext k) (a.length+b.length) (jd_step (by omega) hsa hsb) w46 ha79 hb80 (mrg_len _ _) ⟨none,0,0,[],b82,OwnL.nil _ (Nat.le_refl _),by omega,Nat.le_refl _⟩) ?_)
 rintro _ w83 ⟨rfl,⟨A84,n85,c86,xs87,b88,hO90,z91,z92⟩,F93⟩
 refine ⟨_,rfl,?_⟩;intro a95 F96;clear F76
 have hX94:Ext w w83:=FarX.toExt ((FarX.of_ext hx81).trans F93) (fun b hb=>by omega)
 have z97:=hX94.size;have z98:=b88.lt
 obtain rfl:=hO90.2.1
 have hO90:OwnL RCg 3 92 w46.heap.size w83 (vl A84 (diffL a b).length c86) (diffL a b).length xs87 (diffL a b):=hO90
 have b88:=b88
 refine wpList_nil (hK70 _ _ ?_);clear hK70
 have F99:=F96.k [0,1,4,5,6,11,7,16];clear F96
 refine wr fun K100 hK100=>?_
 refine F99.xw (vl A84 ((diffL a b).length) c86) (fun F=>rl F rfl (b88.rule.1 0))<|fun _ F102=>?_;clear F99
 refine wpl_op (i:=1) rfl (o_store1 (new:=[(vl A84 ((diffL a b).length) c86)]) F102 rfl rfl rfl rfl (F102.get rfl) (F102.get rfl) b88 inf25 (by simp) rfl rfl ?_)
 intro w103 b104 hg105;have z106:=hg105.size
 refine F102.xv (vi 0)<|fun _ F108=>?_;clear F102
 refine wpList_nil (hK100 _ _ ?_);clear hK100
 refine wp_ret ?_
 refine retS1 F108 rfl rfl rfl b104 Tryd.underlying25 rfl ?_
 have hE:diffE a b=0:=(if_neg (fun q=>q (Decidable.not_not.1 hc29))).trans (Decidable.not_not.1 hc59)
 have hv:diffV a b=diffL a b:=if_pos hE
 have hO109:=OwnL.pres rCg hO90 ((Pres.refl w83).gn hg105)
 exact ⟨_,_,by rw [hv,hE],by rw [hv];exact RLs.sub rCg (OwnL.rls rCg hO109) (fun b hb=>by omega),(((Ext.refl w).trans hX94).gn hg105)⟩

theorem diff_at {S1 S2:Nat→Prop} {u v:Value} (a b:List It) (w:World) (h1:RLs RIt 2 S1 w u a) (h2:RLs RIt 2 S2 w v b) (hsa:∀ z∈a,z.data.length≤4294967296) (hsb:∀ z∈b,z.data.length≤4294967296) :
  Calls Tryd.prog 24 #[u,v] w (fun e w'=>∃ A c,e=.returned (.tuple #[.slice A (diffV a b).length c,.int .i64 (diffE a b)])∧RLs RCg 3 (fun z=>w.heap.size≤z) w' (vl A (diffV a b).length c) (diffV a b)∧Ext w w'):=by
 obtain ⟨A,c,rfl,_⟩:=h1.form
 obtain ⟨B,d,rfl,_⟩:=h2.form
 exact diff_any (S:=fun _=>True) A c a B d b w (h1.sub rIt fun _ _=>trivial) (h2.sub rIt fun _ _=>trivial) hsa hsb

theorem validC_of {l:List Cg} (h1:decide ((65536:Int)<((l.length:Nat):Int))=false) (h2:decide (named (cgNames l))=true) (h3:decide (∀ c∈l,¬ fullC c)=true):validC l:=⟨by have:=of_decide_eq_false h1;omega,of_decide_eq_true h2,of_decide_eq_true h3⟩
theorem validC_no1 {l:List Cg} (h:decide ((65536:Int)<((l.length:Nat):Int))=true):¬ validC l:=fun q=>by have:=of_decide_eq_true h;have:=q.1;omega
theorem validC_no2 {l:List Cg} (h:decide (named (cgNames l))=false):¬ validC l:=fun q=>of_decide_eq_false h q.2.1
theorem validC_no3 {l:List Cg} (h:decide (∀ c∈l,¬ fullC c)=false):¬ validC l:=fun q=>of_decide_eq_false h q.2.2

set_option maxRecDepth 100000 in
set_option maxHeartbeats 1000000 in
theorem apply_any (A:Option Addr) (c:Nat) (a:List It) (B:Option Addr) (d:Nat) (l:List Cg) (w:World) (h1:RLs RIt 2 S w (vl A a.length c) a) (h2:RLs RCg 3 S w (vl B l.length d) l) (hsa:∀ z∈a,z.data.length≤4294967296) (hsb:∀ z∈l,z.data.length≤4294967296) :
  Calls Tryd.prog 52 #[.slice A a.length c,.slice B l.length d] w (fun e w'=>∃ A c,e=.returned (.tuple #[.slice A (applyV a l).length c,.int .i64 (applyE a l)])∧RLs RIt 2 (fun z=>w.heap.size≤z) w' (vl A (applyV a l).length c) (applyV a l)∧Ext w w'):=by
 have h1c:RLs RIt 2 (Clip S w) w (vl A a.length c) a:=RLs.clip rIt h1
 obtain ⟨-,h1ck,h1cm⟩:=RLs.at h1
 have h2c:RLs RCg 3 (Clip S w) w (vl B l.length d) l:=RLs.clip rCg h2
 obtain ⟨-,h2ck,h2cm⟩:=RLs.at h2
 refine calls_enter Tryd.func52 rfl rfl rfl fun _ hF=>?_
 refine wr fun K1 hK1=>?_
 refine hF.xz [v0] 22 fun g2 w3 _ F9 z6 z7 b4 hx5=>?_;clear hF
 refine F9.xv (vi 0)<|fun _ F11=>?_;clear F9
 refine wpList_nil (hK1 _ _ ?_);clear hK1
 refine wp_seq_k fun K12 hK12=>?_
 refine wr fun K13 hK13=>?_
 refine F11.xm rfl<|fun _ F15=>?_;clear F11
 have d16:=(RLs.ext rIt h1c hx5)
 refine F15.xc (pcheck_at (v:=(vl A a.length c)) a _ d16) ?_
 rintro _ w17 ⟨rfl,hx18⟩
 refine ⟨_,rfl,?_⟩;intro a19 F20;clear F15;have z21:=hx18.size
 refine F20.xa rfl<|fun _ F23=>?_;clear F20
 refine wpList_nil (hK13 _ _ ?_);clear hK13
 refine wr fun K24 hK24=>?_
 refine F23.xm rfl<|Xv (.bool (decide (((checkE a):Int)≠(0:Int))))<|fun _ F28=>?_;clear F23
 refine wpList_nil (hK24 _ _ ?_);clear hK24
 by_cases hc29:((checkE a):Int)≠(0:Int)
 ·skip
  refine F28.ct ?_
  refine wr fun K30 hK30=>?_
  refine F28.xm rfl<|fun _ F32=>?_;clear F28
  have b36:=(b4.ext hx18)
  refine wpl_op (i:=1) rfl (o_store1 (new:=[v0]) F32 rfl rfl rfl rfl (F32.get rfl) rfl b36 inf22 (by simp) rfl rfl ?_)
  intro w33 b34 hg35;have z37:=hg35.size
  refine F32.xa rfl<|fun _ F39=>?_;clear F32
  refine wpList_nil (hK30 _ _ ?_);clear hK30
  have F40:=F39.k [0,1,4,5,6,12];clear F39
  refine wp_ret (ret_then ?_)
  refine retS1 F40 rfl rfl rfl b34 Tryd.underlying22 rfl ?_
  have hE:applyE a l=(checkE a):=if_pos hc29
  have hv9:applyV a l=[]:=if_neg (by rw [hE];exact hc29)
  exact ⟨none,0,by rw [hv9,hE];rfl,by rw [hv9];exact RLs.nil _,((((Ext.refl w).trans hx5).trans hx18).gn hg35)⟩
 refine F28.cf ?_
 refine wp_skip ?_
 refine hK12 _ _ ?_;clear hK12
 refine wr fun K41 hK41=>?_
 refine F28.xv (.func (.func 72) #[] #[])<|fun _ F43=>?_;clear F28
 refine wpList_nil (hK41 _ _ ?_);clear hK41
 refine wp_seq_k fun K44 hK44=>?_
 refine wr fun K45 hK45=>?_
 refine F43.xm rfl<|Xv (vi (l.length:Nat))<|Xv (.bool (decide ((65536:Int)<((l.length:Nat):Int))))<|Xm rfl<|fun _ F53=>?_;clear F43
 by_cases hc54:(65536:Int)<((l.length:Nat):Int)
 ·skip
  refine F53.xu<|Xu<|Xu<|Xv (.bool true)<|Xm rfl<|Xu<|Xu<|Xu<|Xv (.bool true)<|fun _ F72=>?_;clear F53
  refine wpList_nil (hK45 _ _ ?_);clear hK45
  have F73:=F72.k [0,1,4,5,6,12,7,26];clear F72
  refine F73.ct ?_
  refine wr fun K74 hK74=>?_
  have b78:=(b4.ext hx18)
  refine wpl_op (i:=0) rfl (o_store1 (new:=[v0]) F73 rfl rfl rfl rfl (F73.get rfl) rfl b78 inf22 (by simp) rfl rfl ?_)
  intro w75 b76 hg77;have z79:=hg77.size
  refine F73.xv (vi 400)<|fun _ F81=>?_;clear F73
  refine wpList_nil (hK74 _ _ ?_);clear hK74
  refine wp_ret (ret_then ?_)
  refine retS1 F81 rfl rfl rfl b76 Tryd.underlying22 rfl ?_
  have hE:applyE a l=400:=(if_neg (fun q=>q (Decidable.not_not.1 hc29))).trans (if_pos (validC_no1 (decide_eq_true hc54)))
  have hv9:applyV a l=[]:=if_neg (by rw [hE];decide)
  exact ⟨none,0,by rw [hv9,hE];rfl,by rw [hv9];exact RLs.nil _,((((Ext.refl w).trans hx5).trans hx18).gn hg77)⟩
 refine F53.xg (vl B l.length d)<|fun _ F83=>?_;clear F53
 have d84:=(RLs.ext rCg (RLs.ext rCg h2c hx5) hx18)
 refine wpl_op (i:=5) rfl (o_call F83 rfl (wanted_guard rfl rfl rfl F83 rfl (decide_eq_false hc54) rfl) rfl rfl (rn_call (args2 (F83.get rfl) rfl) rfl (by kernel_rfl)) (namedCg_at (v:=(vl B l.length d)) l _ d84) ?_)
 rintro _ w85 ⟨rfl,hx86⟩
 refine ⟨_,rfl,?_⟩;intro a87 F88;clear F83;have z89:=hx86.size
 refine F88.xgw (.bool (!(decide (named (cgNames l))))) (fun F=>rn_not' (F.get rfl) rfl)<|Xv (.bool (!(decide (named (cgNames l)))))<|Xm rfl<|fun _ F95=>?_;clear F88
 by_cases hc96:named (cgNames l)
 ·skip
  refine F95.xg (vl B l.length d)<|Xg (.func (.func 72) #[] #[])<|fun _ F100=>?_;clear F95
  have d101:=(RLs.ext rCg (RLs.ext rCg (RLs.ext rCg h2c hx5) hx18) hx86)
  refine wpl_op (i:=11) rfl (o_call F100 rfl (wanted_guard rfl rfl rfl F100 rfl (not_t (decide_eq_true hc96)) rfl) rfl rfl (rn_call (args2 (F100.get rfl) (F100.get rfl)) rfl (by kernel_rfl)) (contains_at (v:=(vl B l.length d)) l _ d101) ?_)
  rintro _ w102 ⟨rfl,hx103⟩
  refine ⟨_,rfl,?_⟩;intro a104 F105;clear F100;have z106:=hx103.size
  refine F105.xv (.bool (!decide (∀ c∈l,¬ fullC c)))<|fun _ F108=>?_;clear F105
  refine wpList_nil (hK45 _ _ ?_);clear hK45
  have F109:=F108.k [0,1,4,5,6,12,7,26];clear F108
  by_cases hc110:∀ c∈l,¬ fullC c
  ·skip
   refine F109.cf ?_
   refine wp_skip ?_
   refine hK44 _ _ ?_;clear hK44
   refine wr fun K111 hK111=>?_
   refine F109.xz [(.bool false)] 4 fun g112 w113 _ F119 z116 z117 b114 hx115=>?_;clear F109
   refine wpl_op (i:=1) rfl (o_store1 (new:=[(.bool true)]) F119 rfl rfl rfl rfl (F119.get rfl) rfl b114 inf4 (by simp) rfl rfl ?_)
   intro w120 b121 hg122;have z123:=hg122.size
   refine wpList_nil (hK111 _ _ ?_);clear hK111
   refine wr fun K124 hK124=>?_
   refine F119.xm rfl<|Xm rfl<|Xw (.func (.func 77) #[] #[(vp g2),(vp g112)]) (fun F=>rn_makeFunc (args0 ) (args2 (F.get rfl) (F.get rfl)))<|fun _ F130=>?_;clear F119
   have hla:=check_len (Decidable.not_not.1 hc29);have hv:=validC_of (decide_eq_false hc54) (decide_eq_true hc96) (decide_eq_true hc110);have hlb:=hv.1
   have d131:=(RLs.pres rIt h1c (((((((Pres.refl w).ext hx5).ext hx18).ext hx86).ext hx103).ext hx115).gc hg122))
   have d132:=(RLs.pres rCg h2c (((((((Pres.refl w).ext hx5).ext hx18).ext hx86).ext hx103).ext hx115).gc hg122))
   have ha133:RLs RIt 2 (fun b=>b<g2) w120 (vl A a.length c) a:=RLs.sub rIt d131 (fun b h=>by have h7:=h.2;omega)
   have hb134:RLs RCg 3 (fun b=>b<g2) w120 (vl B l.length d) l:=RLs.sub rCg d132 (fun b h=>by have h7:=h.2;omega)
   have b136:=(((((b4.ext hx18).ext hx86).ext hx103).ext hx115).gn hg122)
   have hx135:=(((((((Ext.refl w).trans hx5).trans hx18).trans hx86).trans hx103).trans hx115).gn hg122)
   refine wpl_op (i:=3) rfl (o_call F130 rfl rfl rfl rfl (rn_call (args5 (F130.get rfl) (F130.get rfl) rfl rfl (F130.get rfl)) rfl (by kernel_rfl)) (mergeCg_any A c a B d l (77) #[] #[(vp g2),(vp g112)] (fun _ _=>by kernel_rfl) (fun u v=>#[u,v,(vp g2),(vp g112)]) (fun u v=>by simp) (JA g2 g112 w120.heap.size) (fun _ _ _ h k=>h.ext k) (a.length+l.length) (ja_step (by omega) hsa hsb) w120 ha133 hb134 (mrg_len _ _) ⟨none,0,0,[],b136,b121,OwnL.nil _ (Nat.le_refl _),⟨by omega,by omega,by omega⟩,Nat.le_refl _⟩) ?_)
   rintro _ w137 ⟨rfl,⟨A138,n139,c140,xs141,b142,b143,hO144,z145,z146⟩,F147⟩
   refine ⟨_,rfl,?_⟩;intro a149 F150;clear F130
   have hX148:Ext w w137:=FarX.toExt ((FarX.of_ext hx135).trans F147) (fun b hb=>by omega)
   have z151:=hX148.size;have z152:=b142.lt
   have z153:=b143.lt
   obtain rfl:=hO144.2.1
   have hO144:OwnL RIt 2 66 w120.heap.size w137 (vl A138 (appL a l).length c140) (appL a l).length xs141 (appL a l):=hO144
   have b142:=b142
   have b143:=b143
   refine wpList_nil (hK124 _ _ ?_);clear hK124
   have F154:=F150.k [0,1,4,5,6,12,7,26,8];clear F150
   refine wp_seq_k fun K155 hK155=>?_
   refine wr fun K156 hK156=>?_
   refine F154.xw (.bool (appOk a l)) (fun F=>rl F rfl (b143.rule.1 0))<|Xw (.bool (!(appOk a l))) (fun F=>rn_not' (F.get rfl) rfl)<|fun _ F160=>?_;clear F154
   refine wpList_nil (hK156 _ _ ?_);clear hK156
   rcases Bool.eq_false_or_eq_true (appOk a l) with hc161 | hc161
   ·skip
    refine F160.cf ?_
    refine wp_skip ?_
    refine hK155 _ _ ?_;clear hK155
    refine wp_seq_k fun K162 hK162=>?_
    refine wr fun K163 hK163=>?_
    refine F160.xw (vl A138 ((appL a l).length) c140) (fun F=>rl F rfl (b142.rule.1 0))<|Xv (vi ((appL a l).length:Nat))<|Xv (.bool (decide ((65536:Int)<(((appL a l).length:Nat):Int))))<|fun _ F169=>?_;clear F160
    refine wpList_nil (hK163 _ _ ?_);clear hK163
    by_cases hc170:(65536:Int)<(((appL a l).length:Nat):Int)
    ·skip
     refine F169.ct ?_
     refine wr fun K171 hK171=>?_
     refine wpl_op (i:=0) rfl (o_store1 (new:=[v0]) F169 rfl rfl rfl rfl (F169.get rfl) rfl b142 inf22 (by simp) rfl rfl ?_)
     intro w172 b173 hg174;have z175:=hg174.size
     refine F169.xv (vi 2)<|fun _ F177=>?_;clear F169
     refine wpList_nil (hK171 _ _ ?_);clear hK171
     refine wp_ret (ret_then ?_)
     refine retS1 F177 rfl rfl rfl b173 Tryd.underlying22 rfl ?_
     have hE:applyE a l=2:=(if_neg (fun q=>q (Decidable.not_not.1 hc29))).trans ((if_neg (fun q=>q (validC_of (decide_eq_false hc54) (decide_eq_true hc96) (decide_eq_true hc110)))).trans ((if_neg (by rw [hc161];decide)).trans (if_pos (by omega))))
     have hv9:applyV a l=[]:=if_neg (by rw [hE];decide)
     exact ⟨none,0,by rw [hv9,hE];rfl,by rw [hv9];exact RLs.nil _,(((Ext.refl w).trans hX148).gn hg174)⟩
    refine F169.cf ?_
    refine wp_skip ?_
    refine hK162 _ _ ?_;clear hK162
    refine wr fun K178 hK178=>?_
    refine F169.xw (vl A138 ((appL a l).length) c140) (fun F=>rl F rfl (b142.rule.1 0))<|fun _ F180=>?_;clear F169
    refine wpl_op (i:=1) rfl (o_store1 (new:=[(vl A138 ((appL a l).length) c140)]) F180 rfl rfl rfl rfl (F180.get rfl) (F180.get rfl) b142 inf22 (by simp) rfl rfl ?_)
    intro w181 b182 hg183;have z184:=hg183.size
    refine F180.xv (vi 0)<|fun _ F186=>?_;clear F180
    refine wpList_nil (hK178 _ _ ?_);clear hK178
    have F187:=F186.k [0,1,4,5,6,12,7,26,8,32,35];clear F186
    refine wp_ret ?_
    refine retS1 F187 rfl rfl rfl b182 Tryd.underlying22 rfl ?_
    have hE:applyE a l=0:=(if_neg (fun q=>q (Decidable.not_not.1 hc29))).trans ((if_neg (fun q=>q (validC_of (decide_eq_false hc54) (decide_eq_true hc96) (decide_eq_true hc110)))).trans ((if_neg (by rw [hc161];decide)).trans (if_neg (by omega))))
    have hv9:applyV a l=appL a l:=if_pos hE
    have hO188:=OwnL.pres rIt hO144 ((Pres.refl w137).gn hg183)
    exact ⟨_,_,by rw [hv9,hE],by rw [hv9];exact RLs.sub rIt (OwnL.rls rIt hO188) (fun b hb=>by omega),(((Ext.refl w).trans hX148).gn hg183)⟩
   refine F160.ct ?_
   refine wr fun K189 hK189=>?_
   refine wpl_op (i:=0) rfl (o_store1 (new:=[v0]) F160 rfl rfl rfl rfl (F160.get rfl) rfl b142 inf22 (by simp) rfl rfl ?_)
   intro w190 b191 hg192;have z193:=hg192.size
   refine F160.xv (vi 400)<|fun _ F195=>?_;clear F160
   refine wpList_nil (hK189 _ _ ?_);clear hK189
   refine wp_ret (ret_then ?_)
   refine retS1 F195 rfl rfl rfl b191 Tryd.underlying22 rfl ?_
   have hE:applyE a l=400:=(if_neg (fun q=>q (Decidable.not_not.1 hc29))).trans ((if_neg (fun q=>q (validC_of (decide_eq_false hc54) (decide_eq_true hc96) (decide_eq_true hc110)))).trans (if_pos hc161))
   have hv9:applyV a l=[]:=if_neg (by rw [hE];decide)
   exact ⟨none,0,by rw [hv9,hE];rfl,by rw [hv9];exact RLs.nil _,(((Ext.refl w).trans hX148).gn hg192)⟩
  refine F109.ct ?_
  refine wr fun K196 hK196=>?_
  have b200:=(((b4.ext hx18).ext hx86).ext hx103)
  refine wpl_op (i:=0) rfl (o_store1 (new:=[v0]) F109 rfl rfl rfl rfl (F109.get rfl) rfl b200 inf22 (by simp) rfl rfl ?_)
  intro w197 b198 hg199;have z201:=hg199.size
  refine F109.xv (vi 400)<|fun _ F203=>?_;clear F109
  refine wpList_nil (hK196 _ _ ?_);clear hK196
  refine wp_ret (ret_then ?_)
  refine retS1 F203 rfl rfl rfl b198 Tryd.underlying22 rfl ?_
  have hE:applyE a l=400:=(if_neg (fun q=>q (Decidable.not_not.1 hc29))).trans (if_pos (validC_no3 (decide_eq_false hc110)))
  have hv9:applyV a l=[]:=if_neg (by rw [hE];decide)
  exact ⟨none,0,by rw [hv9,hE];rfl,by rw [hv9];exact RLs.nil _,((((((Ext.refl w).trans hx5).trans hx18).trans hx86).trans hx103).gn hg199)⟩
 refine F95.xu<|Xu<|Xu<|Xv (.bool true)<|fun _ F211=>?_;clear F95
 refine wpList_nil (hK45 _ _ ?_);clear hK45
 have F212:=F211.k [0,1,4,5,6,12,7,26];clear F211
 refine F212.ct ?_
 refine wr fun K213 hK213=>?_
 have b217:=((b4.ext hx18).ext hx86)
 refine wpl_op (i:=0) rfl (o_store1 (new:=[v0]) F212 rfl rfl rfl rfl (F212.get rfl) rfl b217 inf22 (by simp) rfl rfl ?_)
 intro w214 b215 hg216;have z218:=hg216.size
 refine F212.xv (vi 400)<|fun _ F220=>?_;clear F212
 refine wpList_nil (hK213 _ _ ?_);clear hK213
 refine wp_ret (ret_then ?_)
 refine retS1 F220 rfl rfl rfl b215 Tryd.underlying22 rfl ?_
 have hE:applyE a l=400:=(if_neg (fun q=>q (Decidable.not_not.1 hc29))).trans (if_pos (validC_no2 (decide_eq_false hc96)))
 have hv9:applyV a l=[]:=if_neg (by rw [hE];decide)
 exact ⟨none,0,by rw [hv9,hE];rfl,by rw [hv9];exact RLs.nil _,(((((Ext.refl w).trans hx5).trans hx18).trans hx86).gn hg216)⟩

theorem apply_at {S1 S2:Nat→Prop} {u v:Value} (a:List It) (l:List Cg) (w:World) (h1:RLs RIt 2 S1 w u a) (h2:RLs RCg 3 S2 w v l) (hsa:∀ z∈a,z.data.length≤4294967296) (hsb:∀ z∈l,z.data.length≤4294967296) :
  Calls Tryd.prog 52 #[u,v] w (fun e w'=>∃ A c,e=.returned (.tuple #[.slice A (applyV a l).length c,.int .i64 (applyE a l)])∧RLs RIt 2 (fun z=>w.heap.size≤z) w' (vl A (applyV a l).length c) (applyV a l)∧Ext w w'):=by
 obtain ⟨A,c,rfl,_⟩:=h1.form
 obtain ⟨B,d,rfl,_⟩:=h2.form
 exact apply_any (S:=fun _=>True) A c a B d l w (h1.sub rIt fun _ _=>trivial) (h2.sub rCg fun _ _=>trivial) hsa hsb

end Go.Proofs.YtihgmaoghbnnaaaDoor

namespace Go.Proofs.YtihgmaoghbnnaaaDoor
open Go.RowKit

variable {S S':Nat→Prop}

set_option maxRecDepth 100000 in
set_option maxHeartbeats 1000000 in
theorem isMany_any (n:Int) (w:World) :
  Calls Tryd.prog 28 #[.int .i64 n] w (fun e w'=>e=.returned (.bool (decide (1≤n∧n≤4096)))∧Ext w w'):=by
 refine calls_enter Tryd.func28 rfl rfl rfl fun _ hF=>?_
 refine wr fun K1 hK1=>?_
 refine hF.xv (.bool false)<|fun _ F3=>?_;clear hF
 refine wpList_nil (hK1 _ _ ?_);clear hK1
 refine wr fun K4 hK4=>?_
 refine F3.xm rfl<|Xv (.bool (decide ((1:Int)≤(n:Int))))<|Xm rfl<|fun _ F10=>?_;clear F3
 by_cases hc11:(1:Int)≤(n:Int)
 ·skip
  refine F10.xg (vi n)<|Xg (.bool (decide ((n:Int)≤(4096:Int))))<|Xv (.bool (decide ((n:Int)≤(4096:Int))))<|Xa rfl<|fun _ F19=>?_;clear F10
  refine wpList_nil (hK4 _ _ ?_);clear hK4
  have F20:=F19.k [0,2];clear F19
  refine wp_ret ?_
  refine ret1 F20 rfl rfl ?_
  exact ⟨ret_bool (by simp_all),(Ext.refl w)⟩
 refine F10.xu<|Xu<|Xv (.bool false)<|Xa rfl<|fun _ F28=>?_;clear F10
 refine wpList_nil (hK4 _ _ ?_);clear hK4
 have F29:=F28.k [0,2];clear F28
 refine wp_ret ?_
 refine ret1 F29 rfl rfl ?_
 exact ⟨ret_bool (by simp_all <;> omega),(Ext.refl w)⟩

set_option maxRecDepth 100000 in
set_option maxHeartbeats 1000000 in
theorem number_any (n:Nat) (w:World) (hn:n≤4294967296) :
  Calls Tryd.prog 63 #[.int .i64 (n:Nat)] w (fun e w'=>∃ A c,e=.returned (vl A 8 c)∧Fl (fun b=>w.heap.size≤b) w' 1 (vl A 8 c) 8 (byteVals (numL n 8))∧Ext w w'):=by
 refine calls_enter Tryd.func63 rfl rfl rfl fun _ hF=>?_
 refine wr fun K1 hK1=>?_
 refine hF.xv v0<|fun _ F3=>?_;clear hF
 refine wpList_nil (hK1 _ _ ?_);clear hK1
 refine wr fun K4 hK4=>?_
 refine F3.xn (fun g=>(vl (some ⟨g,0,none⟩) 8 8)) (byteVals (List.replicate 8 0)) 5 (fun F=>rn_makeN El52 rfl rfl rfl (by omega) (by omega) (by simp [byteVals])) fun g5 w6 _ F12 z9 z10 b7 hx8=>?_;clear F3
 refine F12.xa rfl<|fun _ F14=>?_;clear F12
 refine wpList_nil (hK4 _ _ ?_);clear hK4
 refine wp_seq_k fun K15 hK15=>?_
 refine wr fun K16 hK16=>?_
 refine F14.xm rfl<|Xv (vi 8)<|Xv (vi 0)<|fun _ F22=>?_;clear F14
 refine wpList_nil (hK16 _ _ ?_);clear hK16
 refine wp_block ?_
 refine wp_loop (fun a' W=>∃ (k:Nat) (bb:List UInt8),Sl 26 [(0,(vi (n:Nat))),(2,v0),(3,(vl (some ⟨g5,0,none⟩) 8 8)),(7,(vi 8)),(8,(vi (k:Nat)))] a'∧k≤8∧bb.length=8∧(∀ j,j<k→bb.getD j 0=(numL n 8).getD j 0)∧Ext w W∧Blk W g5 5 (byteVals bb)∧w6.heap.size≤W.heap.size) (fun a' _=>8 - (intOf (a'.eval (.tmp 8))).toNat) ⟨0,(List.replicate 8 0),F22.j,(by omega),rfl,(fun j hj=>absurd hj (by omega)),((Ext.refl w).trans hx8),b7,(Nat.le_refl _)⟩ ?_
 clear F22
 rintro a23 w24 ⟨k,bb,F25,hp27,hp28,hp29,hx26,b30,hf31⟩
 have hL32:=F25
 have z33:=hx26.size
 have z34:=b30.lt
 have hbl:bb.length=8:=hp28
 refine wr fun K35 hK35=>?_
 refine F25.xv (.bool (decide (((k:Nat):Int)<(8:Int))))<|fun _ F37=>?_;clear F25
 refine wpList_nil (hK35 _ _ ?_);clear hK35
 refine wp_seq_k fun K38 hK38=>?_
 by_cases hc39:((k:Nat):Int)<(8:Int)
 ·skip
  refine F37.ct ?_
  refine wp_skip ?_
  refine hK38 _ _ ?_;clear hK38
  refine wp_seq_k fun K40 hK40=>?_
  refine wp_block ?_
  refine wr fun K41 hK41=>?_
  refine F37.xm rfl<|Xa rfl<|fun _ F45=>?_;clear F37
  refine wpList_nil (hK41 _ _ ?_);clear hK41
  refine wp_region_lit ?_
  refine F45.xm rfl<|Xm rfl<|Xm rfl<|Xw (.int .u64 (n:Nat)) (fun F=>rn_convW Tryd.underlying3 Tryd.underlying135 (F.get rfl) (cvn_64 n (by omega)))<|Xm rfl<|Xv (vi 8)<|Xv (vi 7)<|Xm rfl<|Xw (vi (7 - k:Nat)) (fun F=>rn_subN (a:=7) (b:=k) (F.get rfl) (F.get rfl) (by omega) (by omega))<|Xw (vi (8*(7 - k):Nat)) (fun F=>rn_mulN (a:=8) (b:=7 - k) rfl (F.get rfl) (by omega))<|Xw (.int .u64 (n / 2 ^ (8*(7 - k)):Nat)) (fun F=>rn_shrU (a:=n) (n:=8*(7 - k)) (F.get rfl) (F.get rfl) (by omega))<|Xw (.int .u8 ((UInt8.ofNat (n / 2 ^ (8*(7 - k)))).toNat:Nat)) (fun F=>rn_convW Tryd.underlying135 Tryd.underlying5 (F.get rfl) (cvi_8 (n / 2 ^ (8*(7 - k)))))<|Xw (.pointer (some ⟨g5,0+k,none⟩)) (fun F=>rn_index1 Tryd.underlying52 inf5 (F.get rfl) (F.get rfl) (by omega:(0:Int)≤(k:Nat)) (by omega:((k:Nat):Int)<((8:Nat):Int)))<|fun _ F71=>?_;clear F45
  refine wpl_op (i:=13) rfl (o_store1 (new:=(byteVals (bb.set k (UInt8.ofNat (n / 2 ^ (8*(7 - k))))))) F71 rfl rfl rfl rfl (F71.get rfl) (F71.get rfl) b30 inf5 (by rw [byteVals_len hbl];omega) rfl (byteVals_set (by omega)) ?_)
  intro w72 b73 hg74;have z75:=hg74.size
  refine wpList_nil (hK40 _ _ ?_);clear hK40
  have F76:=F71.k [0,2,3,7,8,9,4];clear F71
  refine wp_region_lit ?_
  refine F76.xv (vi (k+1:Nat))<|Xm rfl<|fun _ F80=>?_;clear F76
  refine wpList_nil ?_
  refine ⟨⟨(k+1),bb.set k (UInt8.ofNat (n / 2 ^ (8*(7 - k)))),F80.j,(by omega),(by rw [List.length_set];exact hbl),(num_step (by omega) hbl hp29 (by omega)),(((Ext.refl w).trans hx26).gn hg74),b73,(by omega)⟩,?_⟩
  rw [F80.get (t:=8) rfl,hL32.get (t:=8) rfl];simp [intOf] <;> omega
 refine F37.cf ?_
 refine wp_exit ?_
 refine exit_then ?_
 refine exit_then ?_
 refine exit_here ?_
 refine hK15 _ _ ?_;clear hK15
 refine wr fun K81 hK81=>?_
 refine F37.xm rfl<|Xa rfl<|fun _ F85=>?_;clear F37
 refine wpList_nil (hK81 _ _ ?_);clear hK81
 refine wp_ret ?_
 refine ret1 F85 rfl rfl ?_
 have hk:k=8:=by omega
 have hq:=num_all hbl (by rw [hk] at hp29;exact hp29)
 subst hq
 exact ⟨_,_,rfl,Fl.sub (Fl.blk (S:=fun b=>b=g5) (k:=1) (n:=8) (c:=8) b30 (by rw [byteVals_len hbl,Nat.mul_one]) (byteVals_one _) (by omega) rfl) (fun b hb=>by omega),((Ext.refl w).trans hx26)⟩

theorem number_int (n:Int) (w:World) (h0:0≤n) (hn:n≤4294967296):Calls Tryd.prog 63 #[.int .i64 n] w (fun e w'=>∃ A c,e=.returned (vl A 8 c)∧Fl (fun b=>w.heap.size≤b) w' 1 (vl A 8 c) 8 (byteVals (numL n.toNat 8))∧Ext w w'):=by
 obtain ⟨k,rfl⟩:∃ k:Nat,n=(k:Int):=⟨n.toNat,by omega⟩
 exact number_any k w (by omega)

set_option maxRecDepth 100000 in
set_option maxHeartbeats 1000000 in
theorem joined_at {v:Value} {n:Nat} (l:List (List UInt8)) (w:World) (hl:RBss S w v l) (he:l.flatten.length=n) (hn:n≤140737488355328) :
  Calls Tryd.prog 62 #[v] w (fun e w'=>∃ A c,e=.returned (vl A n c)∧Fl (fun b=>w.heap.size≤b) w' 1 (vl A n c) n (byteVals l.flatten)∧Ext w w'):=by
 refine calls_enter Tryd.func62 rfl rfl rfl fun _ hF=>?_
 refine wr fun K1 hK1=>?_
 refine hF.xv v0<|fun _ F3=>?_;clear hF
 refine wpList_nil (hK1 _ _ ?_);clear hK1
 refine wr fun K4 hK4=>?_
 refine F3.xm rfl<|fun _ F6=>?_;clear F3
 refine F6.xc (concat_at l _ (RBss.ext hl (Ext.refl w)) he hn) ?_
 rintro _ w10 ⟨A7,c8,rfl,hf9,hx11⟩
 refine ⟨_,rfl,?_⟩;intro a12 F13;clear F6;have z14:=hx11.size
 refine F13.xa rfl<|fun _ F16=>?_;clear F13
 refine wpList_nil (hK4 _ _ ?_);clear hK4
 refine wp_ret ?_
 refine ret1 F16 rfl rfl ?_
 exact ⟨_,_,rfl,Fl.sub (hf9.ext (Ext.refl w10)) (fun b hb=>hb),((Ext.refl w).trans hx11)⟩

theorem nofull1 {l:List Cg} {k:Nat} {x:Cg} (hx:l[k]?=some x) (h:x.gone=false):∀ y,l[k]?=some y→¬ fullC y:=fun y hy hq=>by
 rw [hx] at hy;injection hy with hy;subst hy
 have h1:=hq.1
 rw [h] at h1;cases h1
theorem nofull2 {l:List Cg} {k:Nat} {x:Cg} (hx:l[k]?=some x) (h:x.data.length=0):∀ y,l[k]?=some y→¬ fullC y:=fun y hy hq=>by
 rw [hx] at hy;injection hy with hy;subst hy
 have:=hq.2;omega
theorem valid_all {l:List Cg} {k:Nat} (h:∀ j,j<k→nameAt (cgNames l) j∧∀ x,l[j]?=some x→¬ fullC x) (hk:l.length≤k):decide (((l.length:Nat):Int)≤(65536:Int))=decide (validC l):=by
 have h1:named (cgNames l):=fun j hj=>(h j (by simp [cgNames] at hj;omega)).1
 have h2:∀ c∈l,¬ fullC c:=all_mem (fun j hj=>(h j hj).2) hk
 by_cases q:l.length≤65536
 ·rw [decide_eq_true (show ((l.length:Nat):Int)≤65536 by omega),decide_eq_true (show validC l from ⟨q,h1,h2⟩)]
 ·rw [decide_eq_false (show ¬ ((l.length:Nat):Int)≤65536 by omega),decide_eq_false (fun z:validC l=>q z.1)]
theorem valid_full {l:List Cg} {k:Nat} {x:Cg} (hx:l[k]?=some x) (h:fullC x):¬ validC l:=fun q=>q.2.2 x (List.mem_of_getElem? hx) h
theorem valid_name_no {l:List Cg} {k:Nat} (hk:k<l.length) (h:¬ nameAt (cgNames l) k):¬ validC l:=fun q=>h (q.2.1 k (by simp [cgNames];exact hk))

set_option maxRecDepth 100000 in
set_option maxHeartbeats 1000000 in
theorem mvalid_any (A:Option Addr) (c:Nat) (l:List Cg) (w:World) (h:RLs RCg 3 S w (vl A l.length c) l) :
  Calls Tryd.prog 38 #[.slice A l.length c] w (fun e w'=>e=.returned (.bool (decide (validC l)))∧Ext w w'):=by
 have hc:RLs RCg 3 (Clip S w) w (vl A l.length c) l:=RLs.clip rCg h
 obtain ⟨-,hck,hcm⟩:=RLs.at h
 refine calls_enter Tryd.func38 rfl rfl rfl fun _ hF=>?_
 refine wr fun K1 hK1=>?_
 refine hF.xv (.bool false)<|fun _ F3=>?_;clear hF
 refine wpList_nil (hK1 _ _ ?_);clear hK1
 refine wp_seq_k fun K4 hK4=>?_
 refine wr fun K5 hK5=>?_
 refine F3.xm rfl<|Xv (vi (l.length:Nat))<|Xv (vi 0)<|fun _ F11=>?_;clear F3
 refine wpList_nil (hK5 _ _ ?_);clear hK5
 refine wp_block ?_
 refine wp_loop (fun a' W=>∃ (k:Nat),Sl 55 [(0,(vl A l.length c)),(2,(.bool false)),(6,(vl A l.length c)),(7,(vi (l.length:Nat))),(8,(vi (k:Nat)))] a'∧k≤l.length∧(∀ j,j<k→nameAt (cgNames l) j∧∀ x,l[j]?=some x→¬ fullC x)∧Ext w W∧w.heap.size≤W.heap.size) (fun a' _=>l.length - (intOf (a'.eval (.tmp 8))).toNat) ⟨0,F11.j,(by omega),(fun j hj=>absurd hj (by omega)),(Ext.refl w),(Nat.le_refl _)⟩ ?_
 clear F11
 rintro a12 w13 ⟨k,F14,hp16,hp17,hx15,hf18⟩
 have hL19:=F14
 have z20:=hx15.size
 refine wr fun K21 hK21=>?_
 refine F14.xv (.bool (decide (((k:Nat):Int)<((l.length:Nat):Int))))<|fun _ F23=>?_;clear F14
 refine wpList_nil (hK21 _ _ ?_);clear hK21
 refine wp_seq_k fun K24 hK24=>?_
 by_cases hc25:((k:Nat):Int)<((l.length:Nat):Int)
 ·skip
  refine F23.ct ?_
  refine wp_skip ?_
  refine hK24 _ _ ?_;clear hK24
  refine wp_seq_k fun K26 hK26=>?_
  refine wp_block ?_
  refine wr fun K27 hK27=>?_
  refine F23.xm rfl<|fun _ F29=>?_;clear F23
  have d30:=(RLs.ext rCg hc hx15)
  obtain ⟨b31,o32,x33,cs34,hA35,hi36,hk37,hc38,hr39⟩:=RLs.get d30 (by omega:k<l.length)
  obtain ⟨A40,c41,rfl,hd42⟩:=hr39
  have z43:=(Fl.cel hd42).2.1
  refine F29.xw (.pointer (some ⟨b31,o32+k*3,none⟩)) (fun F=>rn_indexE Tryd.underlying25 inf92 ((F.get rfl).trans (by rw [hA35])) (F.get rfl) (by omega:(0:Int)≤(k:Nat)) (by omega:((k:Nat):Int)<((l.length:Nat):Int)) (by omega))<|Xw (.agg #[(strOf x33.name),(vl A40 x33.data.length c41),(.bool x33.gone)]) (fun F=>rn_loadN (cs:=[(strOf x33.name),(vl A40 x33.data.length c41),(.bool x33.gone)]) (F.get rfl) Tryd.underlying92 rfl inf92 hc38)<|fun _ F47=>?_;clear F29
  refine F47.xz [(strOf ([])),v0,(.bool false)] 92 fun g48 w49 _ F55 z52 z53 b50 hx51=>?_;clear F47
  refine F55.xa rfl<|fun _ F57=>?_;clear F55
  refine F57.xs rfl b50 (fun w58 b59 hg60=>?_);have z61:=hg60.size
  refine wpList_nil (hK27 _ _ ?_);clear hK27
  refine wr fun K62 hK62=>?_
  refine F57.xv (vp g48)<|Xv (vp g48)<|Xw (strOf x33.name) (fun F=>rl F rfl (b59.rule.1 0))<|Xw (vi (x33.name.length:Nat)) (fun F=>rn_lenS Tryd.underlying9 (F.get rfl))<|Xa rfl<|fun _ F72=>?_;clear F57
  refine wpList_nil (hK62 _ _ ?_);clear hK62
  have F73:=F72.k [0,2,6,7,8,9,4,3,5];clear F72
  refine wp_seq_k fun K74 hK74=>?_
  have hx76:∃ W,w58.drew=W∧Ext w58 W:=⟨_,rfl,(Ext.refl _).drew⟩
  obtain ⟨w75,e77,hx76⟩:=hx76
  have z78:=hx76.size
  refine any_start (fun W=>Ext w75 W∧Blk W g48 92 [(strOf x33.name),(vl A40 x33.data.length c41),(.bool x33.gone)]) (fun i=>false) 34 (.replicate 34 false) rfl rfl rfl ?_
  rw [e77];clear e77
  refine F73.ym 0 rfl<|Yv 1 (.bool (decide (((x33.name.length:Nat):Int)<(1:Int)))) rfl<|Ym 2 rfl<|fun _ F84=>?_;clear F73
  by_cases hc85:((x33.name.length:Nat):Int)<(1:Int)
  ·skip
   refine F84.yu 3 rfl<|Yu 4 rfl<|Yv 5 (.bool true) rfl<|Ym 6 rfl<|Yu 7 rfl<|Yu 8 rfl<|Yu 9 rfl<|Yn 10 rfl<|Yn 11 rfl<|Yn 12 rfl<|Yn 13 rfl<|Yn 14 rfl<|Yu 15 rfl<|Yv 16 (.bool true) rfl<|Ym 17 rfl<|Yu 18 rfl<|Yu 19 rfl<|Yu 20 rfl<|Yn 21 rfl<|Yn 22 rfl<|Yn 23 rfl<|Yn 24 rfl<|Yn 25 rfl<|Yn 26 rfl<|Yn 27 rfl<|Yn 28 rfl<|Yn 29 rfl<|Yn 30 rfl<|Yn 31 rfl<|Yu 32 rfl<|Yv 33 (.bool true) rfl<|fun _ F147=>?_;clear F84
   refine nn (hK74 _ _ ?_);clear hK74
   have F148:=F147.k [0,2,6,7,8,9,4,3,5,50];clear F147
   refine F148.ct ?_
   refine wr fun K149 hK149=>?_
   refine F148.xv (.bool false)<|fun _ F151=>?_;clear F148
   refine wpList_nil (hK149 _ _ ?_);clear hK149
   refine wp_ret ?_
   refine ret_block ?_
   refine ret_then ?_
   refine ret_then ?_
   refine ret_block ?_
   refine ret_then ?_
   refine ret1 F151 rfl rfl ?_
   exact ⟨ret_bool (decide_eq_false (valid_name_no (k:=k) (by omega) (fun hq=>by have h1:=hq.1;rw [getCg hi36,okN] at h1;omega))).symm,(((((Ext.refl w).trans hx15).trans hx51).gn hg60).trans hx76)⟩
  refine F84.yg 3 (vi (x33.name.length:Nat)) rfl<|Yg 4 (.bool (decide ((64:Int)<((x33.name.length:Nat):Int)))) rfl<|Yv 5 (.bool (decide ((64:Int)<((x33.name.length:Nat):Int)))) rfl<|Ym 6 rfl<|fun _ F159=>?_;clear F84
  by_cases hc160:(64:Int)<((x33.name.length:Nat):Int)
  ·skip
   refine F159.yu 7 rfl<|Yu 8 rfl<|Yu 9 rfl<|Yn 10 rfl<|Yn 11 rfl<|Yn 12 rfl<|Yn 13 rfl<|Yn 14 rfl<|Yu 15 rfl<|Yv 16 (.bool true) rfl<|Ym 17 rfl<|Yu 18 rfl<|Yu 19 rfl<|Yu 20 rfl<|Yn 21 rfl<|Yn 22 rfl<|Yn 23 rfl<|Yn 24 rfl<|Yn 25 rfl<|Yn 26 rfl<|Yn 27 rfl<|Yn 28 rfl<|Yn 29 rfl<|Yn 30 rfl<|Yn 31 rfl<|Yu 32 rfl<|Yv 33 (.bool true) rfl<|fun _ F214=>?_;clear F159
   refine nn (hK74 _ _ ?_);clear hK74
   have F215:=F214.k [0,2,6,7,8,9,4,3,5,50];clear F214
   refine F215.ct ?_
   refine wr fun K216 hK216=>?_
   refine F215.xv (.bool false)<|fun _ F218=>?_;clear F215
   refine wpList_nil (hK216 _ _ ?_);clear hK216
   refine wp_ret ?_
   refine ret_block ?_
   refine ret_then ?_
   refine ret_then ?_
   refine ret_block ?_
   refine ret_then ?_
   refine ret1 F218 rfl rfl ?_
   exact ⟨ret_bool (decide_eq_false (valid_name_no (k:=k) (by omega) (fun hq=>by have h1:=hq.1;rw [getCg hi36,okN] at h1;omega))).symm,(((((Ext.refl w).trans hx15).trans hx51).gn hg60).trans hx76)⟩
  refine F159.yg 7 (.pointer (some ⟨g48,2,none⟩)) rfl<|fun _ F220=>?_;clear F159
  have b222:=(b59.ext hx76)
  have hS221:Ext w75 w75∧Blk w75 g48 92 [(strOf x33.name),(vl A40 x33.data.length c41),(.bool x33.gone)]:=⟨(Ext.refl w75),b222⟩
  refine F220.ysg 8 (.bool x33.gone) rfl hS221 (fun F W hW=>rl F rfl (hW.2.rule.1 2))<|Yg 9 (.bool x33.gone) rfl<|fun _ F226=>?_;clear F220
  rcases Bool.eq_false_or_eq_true x33.gone with hc227 | hc227
  ·skip
   refine F226.yg 10 (vp g48) rfl<|Yg 11 (.pointer (some ⟨g48,1,none⟩)) rfl<|Ysg 12 (vl A40 x33.data.length c41) rfl hS221 (fun F W hW=>rl F rfl (hW.2.rule.1 1))<|Yg 13 (vi (x33.data.length:Nat)) rfl<|Yg 14 (.bool (decide ((0:Int)<((x33.data.length:Nat):Int)))) rfl<|Yg 15 (.bool (decide ((0:Int)<((x33.data.length:Nat):Int)))) rfl<|Yv 16 (.bool (decide ((0:Int)<((x33.data.length:Nat):Int)))) rfl<|Ym 17 rfl<|fun _ F243=>?_;clear F226
   by_cases hc244:(0:Int)<((x33.data.length:Nat):Int)
   ·skip
    refine F243.yu 18 rfl<|Yu 19 rfl<|Yu 20 rfl<|Yn 21 rfl<|Yn 22 rfl<|Yn 23 rfl<|Yn 24 rfl<|Yn 25 rfl<|Yn 26 rfl<|Yn 27 rfl<|Yn 28 rfl<|Yn 29 rfl<|Yn 30 rfl<|Yn 31 rfl<|Yu 32 rfl<|Yv 33 (.bool true) rfl<|fun _ F276=>?_;clear F243
    refine nn (hK74 _ _ ?_);clear hK74
    have F277:=F276.k [0,2,6,7,8,9,4,3,5,50];clear F276
    refine F277.ct ?_
    refine wr fun K278 hK278=>?_
    refine F277.xv (.bool false)<|fun _ F280=>?_;clear F277
    refine wpList_nil (hK278 _ _ ?_);clear hK278
    refine wp_ret ?_
    refine ret_block ?_
    refine ret_then ?_
    refine ret_then ?_
    refine ret_block ?_
    refine ret_then ?_
    refine ret1 F280 rfl rfl ?_
    exact ⟨ret_bool (decide_eq_false (valid_full hi36 ⟨hc227,by have:=of_decide_eq_true (decide_eq_true hc244);omega⟩)).symm,(((((Ext.refl w).trans hx15).trans hx51).gn hg60).trans hx76)⟩
   refine F243.yg 18 (vi (k:Nat)) rfl<|Yg 19 (.bool (decide ((0:Int)<((k:Nat):Int)))) rfl<|Yg 20 (.bool (decide ((0:Int)<((k:Nat):Int)))) rfl<|fun _ F286=>?_;clear F243
   by_cases hc287:(0:Int)<((k:Nat):Int)
   ·skip
    refine F286.yg 21 (vl A l.length c) rfl<|Yg 22 (vi (k:Nat)) rfl<|Ygw 23 (vi (k - 1:Nat)) rfl (fun F W=>rn_subN (a:=k) (b:=1) (F.get rfl) rfl (by omega) (by omega))<|fun _ F293=>?_;clear F286
    have d294:=(RLs.pres rCg hc (((((Pres.refl w).ext hx15).ext hx51).gc hg60).ext hx76))
    obtain ⟨b295,o296,x297,cs298,hA299,hi300,hk301,hc302,hr303⟩:=RLs.get d294 (by omega:(k - 1)<l.length)
    obtain ⟨A304,c305,rfl,hd306⟩:=hr303
    have z307:=(Fl.cel hd306).2.1
    refine F293.ygw 24 (.pointer (some ⟨b295,o296+(k - 1)*3,none⟩)) rfl (fun F W=>rn_indexE Tryd.underlying25 inf92 ((F.get rfl).trans (by rw [hA299])) (F.get rfl) (by omega:(0:Int)≤(k - 1:Nat)) (by omega:((k - 1:Nat):Int)<((l.length:Nat):Int)) (by omega))<|Yg 25 (.pointer (some ⟨b295,o296+(k - 1)*3,none⟩)) rfl<|Yg 26 (.pointer (some ⟨b295,o296+(k - 1)*3,none⟩)) rfl<|Ysg 27 (strOf x297.name) rfl hS221 (fun F W hW=>rl F rfl ((fun j u hu=>Ext.keep ((Ext.refl w75).trans hW.1) (hc302 j u hu)) 0 _ rfl))<|Yg 28 (vp g48) rfl<|Yg 29 (vp g48) rfl<|Ysg 30 (strOf x33.name) rfl hS221 (fun F W hW=>rl F rfl (hW.2.rule.1 0))<|Ygw 31 (.bool (!ltS x297.name x33.name)) rfl (fun F W=>rn_geq_s (F.get rfl) (F.get rfl) rfl)<|Yg 32 (.bool (!ltS x297.name x33.name)) rfl<|Yv 33 (.bool (!ltS x297.name x33.name)) rfl<|fun _ F327=>?_;clear F293
    refine nn (hK74 _ _ ?_);clear hK74
    have F328:=F327.k [0,2,6,7,8,9,4,3,5,50];clear F327
    rcases Bool.eq_false_or_eq_true (ltS x297.name x33.name) with hc329 | hc329
    ·skip
     refine F328.cf ?_
     refine wp_skip ?_
     refine hK26 _ _ ?_;clear hK26
     refine wp_region_lit ?_
     refine F328.xv (vi (k+1:Nat))<|Xm rfl<|fun _ F333=>?_;clear F328
     refine wpList_nil ?_
     refine ⟨⟨(k+1),F333.j,(by omega),(all_succ hp17 ⟨name_yes (getCg hi36) ⟨by omega,by omega⟩ (fun _=>by rw [getCg (show l[k - 1]?=_ from (congrArg (fun z=>l[z]?) (by omega:k - 1=(k - 1))).trans hi300),getCg hi36];exact hc329),(nofull2 hi36 (by omega))⟩),(((((Ext.refl w).trans hx15).trans hx51).gn hg60).trans hx76),(by omega)⟩,?_⟩
     rw [F333.get (t:=8) rfl,hL19.get (t:=8) rfl];simp [intOf] <;> omega
    refine F328.ct ?_
    refine wr fun K334 hK334=>?_
    refine F328.xv (.bool false)<|fun _ F336=>?_;clear F328
    refine wpList_nil (hK334 _ _ ?_);clear hK334
    refine wp_ret ?_
    refine ret_block ?_
    refine ret_then ?_
    refine ret_then ?_
    refine ret_block ?_
    refine ret_then ?_
    refine ret1 F336 rfl rfl ?_
    exact ⟨ret_bool (decide_eq_false (valid_name_no (k:=k) (by omega) (fun hq=>by have h1:=hq.2 (by omega);rw [getCg (show l[k - 1]?=_ from (congrArg (fun z=>l[z]?) (by omega:k - 1=(k - 1))).trans hi300),getCg hi36,hc329] at h1;cases h1))).symm,(((((Ext.refl w).trans hx15).trans hx51).gn hg60).trans hx76)⟩
   refine F286.yu 21 rfl<|Yu 22 rfl<|Yu 23 rfl<|Yu 24 rfl<|Yu 25 rfl<|Yu 26 rfl<|Yu 27 rfl<|Yu 28 rfl<|Yu 29 rfl<|Yu 30 rfl<|Yu 31 rfl<|Yg 32 (.bool false) rfl<|Yv 33 (.bool false) rfl<|fun _ F362=>?_;clear F286
   refine nn (hK74 _ _ ?_);clear hK74
   have F363:=F362.k [0,2,6,7,8,9,4,3,5,50];clear F362
   refine F363.cf ?_
   refine wp_skip ?_
   refine hK26 _ _ ?_;clear hK26
   refine wp_region_lit ?_
   refine F363.xv (vi (k+1:Nat))<|Xm rfl<|fun _ F367=>?_;clear F363
   refine wpList_nil ?_
   refine ⟨⟨(k+1),F367.j,(by omega),(all_succ hp17 ⟨name_yes (getCg hi36) ⟨by omega,by omega⟩ (fun h0=>absurd h0 (by omega)),(nofull2 hi36 (by omega))⟩),(((((Ext.refl w).trans hx15).trans hx51).gn hg60).trans hx76),(by omega)⟩,?_⟩
   rw [F367.get (t:=8) rfl,hL19.get (t:=8) rfl];simp [intOf] <;> omega
  refine F226.yu 10 rfl<|Yu 11 rfl<|Yu 12 rfl<|Yu 13 rfl<|Yu 14 rfl<|Yg 15 (.bool false) rfl<|Yv 16 (.bool false) rfl<|Ym 17 rfl<|Yg 18 (vi (k:Nat)) rfl<|Yg 19 (.bool (decide ((0:Int)<((k:Nat):Int)))) rfl<|Yg 20 (.bool (decide ((0:Int)<((k:Nat):Int)))) rfl<|fun _ F389=>?_;clear F226
  by_cases hc390:(0:Int)<((k:Nat):Int)
  ·skip
   refine F389.yg 21 (vl A l.length c) rfl<|Yg 22 (vi (k:Nat)) rfl<|Ygw 23 (vi (k - 1:Nat)) rfl (fun F W=>rn_subN (a:=k) (b:=1) (F.get rfl) rfl (by omega) (by omega))<|fun _ F396=>?_;clear F389
   have d397:=(RLs.pres rCg hc (((((Pres.refl w).ext hx15).ext hx51).gc hg60).ext hx76))
   obtain ⟨b398,o399,x400,cs401,hA402,hi403,hk404,hc405,hr406⟩:=RLs.get d397 (by omega:(k - 1)<l.length)
   obtain ⟨A407,c408,rfl,hd409⟩:=hr406
   have z410:=(Fl.cel hd409).2.1
   refine F396.ygw 24 (.pointer (some ⟨b398,o399+(k - 1)*3,none⟩)) rfl (fun F W=>rn_indexE Tryd.underlying25 inf92 ((F.get rfl).trans (by rw [hA402])) (F.get rfl) (by omega:(0:Int)≤(k - 1:Nat)) (by omega:((k - 1:Nat):Int)<((l.length:Nat):Int)) (by omega))<|Yg 25 (.pointer (some ⟨b398,o399+(k - 1)*3,none⟩)) rfl<|Yg 26 (.pointer (some ⟨b398,o399+(k - 1)*3,none⟩)) rfl<|Ysg 27 (strOf x400.name) rfl hS221 (fun F W hW=>rl F rfl ((fun j u hu=>Ext.keep ((Ext.refl w75).trans hW.1) (hc405 j u hu)) 0 _ rfl))<|Yg 28 (vp g48) rfl<|Yg 29 (vp g48) rfl<|Ysg 30 (strOf x33.name) rfl hS221 (fun F W hW=>rl F rfl (hW.2.rule.1 0))<|Ygw 31 (.bool (!ltS x400.name x33.name)) rfl (fun F W=>rn_geq_s (F.get rfl) (F.get rfl) rfl)<|Yg 32 (.bool (!ltS x400.name x33.name)) rfl<|Yv 33 (.bool (!ltS x400.name x33.name)) rfl<|fun _ F430=>?_;clear F396
   refine nn (hK74 _ _ ?_);clear hK74
   have F431:=F430.k [0,2,6,7,8,9,4,3,5,50];clear F430
   rcases Bool.eq_false_or_eq_true (ltS x400.name x33.name) with hc432 | hc432
   ·skip
    refine F431.cf ?_
    refine wp_skip ?_
    refine hK26 _ _ ?_;clear hK26
    refine wp_region_lit ?_
    refine F431.xv (vi (k+1:Nat))<|Xm rfl<|fun _ F436=>?_;clear F431
    refine wpList_nil ?_
    refine ⟨⟨(k+1),F436.j,(by omega),(all_succ hp17 ⟨name_yes (getCg hi36) ⟨by omega,by omega⟩ (fun _=>by rw [getCg (show l[k - 1]?=_ from (congrArg (fun z=>l[z]?) (by omega:k - 1=(k - 1))).trans hi403),getCg hi36];exact hc432),(nofull1 hi36 hc227)⟩),(((((Ext.refl w).trans hx15).trans hx51).gn hg60).trans hx76),(by omega)⟩,?_⟩
    rw [F436.get (t:=8) rfl,hL19.get (t:=8) rfl];simp [intOf] <;> omega
   refine F431.ct ?_
   refine wr fun K437 hK437=>?_
   refine F431.xv (.bool false)<|fun _ F439=>?_;clear F431
   refine wpList_nil (hK437 _ _ ?_);clear hK437
   refine wp_ret ?_
   refine ret_block ?_
   refine ret_then ?_
   refine ret_then ?_
   refine ret_block ?_
   refine ret_then ?_
   refine ret1 F439 rfl rfl ?_
   exact ⟨ret_bool (decide_eq_false (valid_name_no (k:=k) (by omega) (fun hq=>by have h1:=hq.2 (by omega);rw [getCg (show l[k - 1]?=_ from (congrArg (fun z=>l[z]?) (by omega:k - 1=(k - 1))).trans hi403),getCg hi36,hc432] at h1;cases h1))).symm,(((((Ext.refl w).trans hx15).trans hx51).gn hg60).trans hx76)⟩
  refine F389.yu 21 rfl<|Yu 22 rfl<|Yu 23 rfl<|Yu 24 rfl<|Yu 25 rfl<|Yu 26 rfl<|Yu 27 rfl<|Yu 28 rfl<|Yu 29 rfl<|Yu 30 rfl<|Yu 31 rfl<|Yg 32 (.bool false) rfl<|Yv 33 (.bool false) rfl<|fun _ F465=>?_;clear F389
  refine nn (hK74 _ _ ?_);clear hK74
  have F466:=F465.k [0,2,6,7,8,9,4,3,5,50];clear F465
  refine F466.cf ?_
  refine wp_skip ?_
  refine hK26 _ _ ?_;clear hK26
  refine wp_region_lit ?_
  refine F466.xv (vi (k+1:Nat))<|Xm rfl<|fun _ F470=>?_;clear F466
  refine wpList_nil ?_
  refine ⟨⟨(k+1),F470.j,(by omega),(all_succ hp17 ⟨name_yes (getCg hi36) ⟨by omega,by omega⟩ (fun h0=>absurd h0 (by omega)),(nofull1 hi36 hc227)⟩),(((((Ext.refl w).trans hx15).trans hx51).gn hg60).trans hx76),(by omega)⟩,?_⟩
  rw [F470.get (t:=8) rfl,hL19.get (t:=8) rfl];simp [intOf] <;> omega
 refine F23.cf ?_
 refine wp_exit ?_
 refine exit_then ?_
 refine exit_then ?_
 refine exit_here ?_
 refine hK4 _ _ ?_;clear hK4
 refine wr fun K471 hK471=>?_
 refine F23.xm rfl<|Xv (vi (l.length:Nat))<|Xv (.bool (decide (((l.length:Nat):Int)≤(65536:Int))))<|Xa rfl<|fun _ F479=>?_;clear F23
 refine wpList_nil (hK471 _ _ ?_);clear hK471
 refine wp_ret ?_
 refine ret1 F479 rfl rfl ?_
 exact ⟨ret_bool (valid_all hp17 (by omega)),((Ext.refl w).trans hx15)⟩

theorem mvalid_at {v:Value} (l:List Cg) (w:World) (h:RLs RCg 3 S w v l) :
  Calls Tryd.prog 38 #[v] w (fun e w'=>e=.returned (.bool (decide (validC l)))∧Ext w w'):=by
 obtain ⟨A,c,rfl,_⟩:=h.form
 exact mvalid_any A c l w h

end Go.Proofs.YtihgmaoghbnnaaaDoor

namespace Go.Proofs.YtihgmaoghbnnaaaDoor
open Go.RowKit

variable {S S':Nat→Prop}

set_option maxRecDepth 100000 in
set_option maxHeartbeats 1000000 in
theorem message_any (C:Option Addr) (cc:Nat) (O:Option Addr) (oc:Nat) (E:Option Addr) (ec:Nat) (P:Option Addr) (pc:Nat) (v:Vr) (w:World) (h:RVp S w (vl C v.chs.length cc) (vl O v.sg.op.length oc) (vl E v.sg.cl.length ec) (vl P v.sg.path.length pc) v) (hv:validC v.chs) (hd:∀ x∈v.chs,x.data.length≤4294967296) (h0:0≤v.no) (hno:v.no≤4294967296) (hG:Glob w) :
  Calls Tryd.prog 40 #[(ag ((vi v.no)::dg v.state [(vl C v.chs.length cc),(vi v.sg.index),(vl O v.sg.op.length oc),(vl E v.sg.cl.length ec),(vl P v.sg.path.length pc)]))] w (fun e w'=>∃ A c,e=.returned (vl A 72 c)∧Fl (fun b=>w.heap.size≤b) w' 1 (vl A 72 c) 72 (byteVals v.msg)∧Ext w w'):=by
 have hc:=RVp.subB (S':=Clip S w) h (fun _ hb hs=>⟨hs,hb⟩)
 obtain ⟨-,hc1,hc2⟩:=RLs.at hc.chs;have hc3:=(Fl.cel hc.sg.op).2.1;have hc4:=(Fl.cel hc.sg.cl).2.1;have hc5:=(Fl.cel hc.sg.path).2.1
 have hv1:=hv.1
 refine calls_enter Tryd.func40 rfl rfl rfl fun _ hF=>?_
 refine wr fun K1 hK1=>?_
 refine hF.xb rfl fun g2 w3 _ F9 z6 z7 b4 hx5=>?_;clear hF
 refine F9.xv v0<|fun _ F11=>?_;clear F9
 refine wpList_nil (hK1 _ _ ?_);clear hK1
 refine wr fun K12 hK12=>?_
 refine F11.xv v0<|fun _ F14=>?_;clear F11
 refine wpList_nil (hK12 _ _ ?_);clear hK12
 refine wp_seq_k fun K15 hK15=>?_
 refine wr fun K16 hK16=>?_
 refine F14.xv (.pointer (some ⟨g2,33,none⟩))<|Xw (vl C v.chs.length cc) (fun F=>rl F rfl ((b4.rule.1 33).trans ((at_app (k:=0) (byteVals_len hc.st)).trans rfl)))<|Xv (vi (v.chs.length:Nat))<|Xv (vi 0)<|fun _ F24=>?_;clear F14
 refine wpList_nil (hK16 _ _ ?_);clear hK16
 refine wp_block ?_
 refine wp_loop (fun a' W=>∃ (k:Nat) (Ap:Option Addr) (np:Nat) (cp:Nat) (ls:List (List UInt8)),Sl 50 [(0,(ag ((vi v.no)::dg v.state [(vl C v.chs.length cc),(vi v.sg.index),(vl O v.sg.op.length oc),(vl E v.sg.cl.length ec),(vl P v.sg.path.length pc)]))),(1,(vp g2)),(2,v0),(3,(vl Ap np cp)),(9,(vl C v.chs.length cc)),(10,(vi (v.chs.length:Nat))),(11,(vi (k:Nat)))] a'∧(k≤v.chs.length∧np=k)∧ls=(v.chs.take k).map cgLeaf∧Ext w W∧Blk W g2 30 ((vi v.no)::dg v.state [(vl C v.chs.length cc),(vi v.sg.index),(vl O v.sg.op.length oc),(vl E v.sg.cl.length ec),(vl P v.sg.path.length pc)])∧W.ownsRow w3.heap.size 24 32 (vl Ap np cp) np (digVals ls)∧w3.heap.size≤W.heap.size∧w3.heap.size≤W.heap.size) (fun a' _=>v.chs.length - (intOf (a'.eval (.tmp 11))).toNat) ⟨0,none,0,0,[],F24.j,⟨by omega,by omega⟩,rfl,((Ext.refl w).trans hx5),b4,(own_nil w3 w3.heap.size 24 32),(by omega),(Nat.le_refl _)⟩ ?_
 clear F24
 rintro a25 w26 ⟨k,Ap,np,cp,ls,F27,hp29,hp30,hx28,b31,r32,hf33,hf34⟩
 have hL35:=F27
 have z36:=hx28.size
 have z37:=b31.lt
 have z38:=own_form0 r32
 have hl32:All32 ls:=by rw [hp30];exact cgleaves_32 _
 refine wr fun K39 hK39=>?_
 refine F27.xv (.bool (decide (((k:Nat):Int)<((v.chs.length:Nat):Int))))<|fun _ F41=>?_;clear F27
 refine wpList_nil (hK39 _ _ ?_);clear hK39
 refine wp_seq_k fun K42 hK42=>?_
 by_cases hc43:((k:Nat):Int)<((v.chs.length:Nat):Int)
 ·skip
  refine F41.ct ?_
  refine wp_skip ?_
  refine hK42 _ _ ?_;clear hK42
  refine wp_seq_k fun K44 hK44=>?_
  refine wp_block ?_
  refine wr fun K45 hK45=>?_
  have d46:=(RLs.ext rCg hc.chs hx28)
  obtain ⟨b47,o48,x49,cs50,hA51,hi52,hk53,hc54,hr55⟩:=RLs.get d46 (by omega:k<v.chs.length)
  obtain ⟨A56,c57,rfl,hd58⟩:=hr55
  have z59:=(Fl.cel hd58).2.1
  obtain ⟨z60,z61⟩:=valid_name hv hi52;have z62:=hd x49 (List.mem_of_getElem? hi52)
  refine F41.xw (.pointer (some ⟨b47,o48+k*3,none⟩)) (fun F=>rn_indexE Tryd.underlying25 inf92 ((F.get rfl).trans (by rw [hA51])) (F.get rfl) (by omega:(0:Int)≤(k:Nat)) (by omega:((k:Nat):Int)<((v.chs.length:Nat):Int)) (by omega))<|Xw (.agg #[(strOf x49.name),(vl A56 x49.data.length c57),(.bool x49.gone)]) (fun F=>rn_loadN (cs:=[(strOf x49.name),(vl A56 x49.data.length c57),(.bool x49.gone)]) (F.get rfl) Tryd.underlying92 rfl inf92 hc54)<|fun _ F66=>?_;clear F41
  refine F66.xz [(strOf ([])),v0,(.bool false)] 92 fun g67 w68 _ F74 z71 z72 b69 hx70=>?_;clear F66
  refine F74.xs rfl b69 (fun w75 b76 hg77=>?_);have z78:=hg77.size
  refine wpList_nil (hK45 _ _ ?_);clear hK45
  refine wr fun K79 hK79=>?_
  refine F74.xv (vp g67)<|Xv (vp g67)<|Xw (strOf x49.name) (fun F=>rl F rfl (b76.rule.1 0))<|Xw (vi (x49.name.length:Nat)) (fun F=>rn_lenS Tryd.underlying9 (F.get rfl))<|Xw (.int .u8 ((UInt8.ofNat x49.name.length).toNat:Nat)) (fun F=>rn_convW Tryd.underlying3 Tryd.underlying5 (F.get rfl) (cvi_8 x49.name.length))<|fun _ F89=>?_;clear F74
  refine F89.xn (fun g=>(vl (some ⟨g,0,none⟩) 2 2)) [(.int .u8 0),(.int .u8 ((UInt8.ofNat x49.name.length).toNat:Nat))] 5 (fun F=>rn_buildSlice (parts2 rfl (F.get rfl)) (by kernel_rfl)) fun g90 w91 _ F97 z94 z95 b92 hx93=>?_;clear F89
  refine F97.xa rfl<|fun _ F99=>?_;clear F97
  refine wpList_nil (hK79 _ _ ?_);clear hK79
  have F100:=F99.k [0,1,2,3,9,10,11,12,5,6];clear F99
  refine wp_seq_k fun K101 hK101=>?_
  refine wr fun K102 hK102=>?_
  refine F100.xv (.pointer (some ⟨g67,2,none⟩))<|fun _ F104=>?_;clear F100
  have b105:=(b76.ext hx93)
  refine F104.xw (.bool x49.gone) (fun F=>rl F rfl (b105.rule.1 2))<|fun _ F107=>?_;clear F104
  refine wpList_nil (hK102 _ _ ?_);clear hK102
  rcases Bool.eq_false_or_eq_true x49.gone with hc108 | hc108
  ·skip
   refine F107.ct ?_
   refine wp_region_lit ?_
   refine F107.xm rfl<|Xw (.pointer (some ⟨g90,0+0,none⟩)) (fun F=>rn_index1 Tryd.underlying52 inf5 (F.get rfl) rfl (by omega:(0:Int)≤0) (by omega:(0:Int)<((2:Nat):Int)))<|fun _ F112=>?_;clear F107
   refine wpl_op (i:=2) rfl (o_store1 (new:=[(.int .u8 1),(.int .u8 ((UInt8.ofNat x49.name.length).toNat:Nat))]) F112 rfl rfl rfl rfl (F112.get rfl) rfl b92 inf5 (by simp) rfl rfl ?_)
   intro w113 b114 hg115;have z116:=hg115.size
   refine wpList_nil (hK101 _ _ ?_);clear hK101
   refine wp_region_lit ?_
   refine F112.xm rfl<|Xm rfl<|Xv (vp g67)<|Xv (vp g67)<|fun _ F124=>?_;clear F112
   have b125:=(b105.gn hg115)
   refine F124.xw (strOf x49.name) (fun F=>rl F rfl (b125.rule.1 0))<|fun _ F127=>?_;clear F124
   refine wpl_op (i:=5) rfl (o_strB (l:=x49.name) F127 rfl rfl rfl rfl rfl (F127.get rfl) Tryd.underlying9 Tryd.underlying52 Tryd.underlying5 (by omega) ?_)
   intro g128 c129 w130 a136 F137 z133 z134 z135 hf131 hx132;clear F127
   refine F137.xv (vp g67)<|Xv (.pointer (some ⟨g67,1,none⟩))<|fun _ F141=>?_;clear F137
   have b142:=(b125.ext hx132)
   refine F141.xw (vl A56 x49.data.length c57) (fun F=>rl F rfl (b142.rule.1 1))<|fun _ F144=>?_;clear F141
   refine F144.xn (fun g=>(vl (some ⟨g,0,none⟩) 3 3)) [(vl (some ⟨g90,0,none⟩) 2 2),(vl (some ⟨g128,0,none⟩) x49.name.length c129),(vl A56 x49.data.length c57)] 52 (fun F=>rn_buildSlice (parts3 (F.get rfl) (F.get rfl) (F.get rfl)) (by kernel_rfl)) fun g145 w146 _ F152 z149 z150 b147 hx148=>?_;clear F144
   have b153:=((b114.ext hx132).ext hx148)
   have d154:=(hf131.ext hx148)
   have d155:=(hd58.pres (((((((Pres.refl w26).ext hx70).gc hg77).ext hx93).gc hg115).ext hx132).ext hx148))
   have hn159:=Fl.blen (Fl.blk (S:=fun b=>b=g90) (k:=1) (n:=2) (c:=2) (cs:=byteVals [(1:UInt8),(UInt8.ofNat x49.name.length)]) b153 rfl (byteVals_one _) (by omega) rfl)
   have hn160:=Fl.blen d154
   have hn161:=Fl.blen d155
   have hn162:([[(1:UInt8),(UInt8.ofNat x49.name.length)],x49.name,x49.data]).flatten.length=2+x49.name.length+x49.data.length:=by simp only [List.flatten_cons,List.flatten_nil,List.length_append,List.length_nil];omega
   refine wpl_op (i:=10) rfl (o_call F152 rfl rfl rfl rfl (rn_call (args1 (F152.get rfl)) rfl (by kernel_rfl)) (joined_at [[(1:UInt8),(UInt8.ofNat x49.name.length)],x49.name,x49.data] _ (RBss.three b147 (Fl.blk (S:=fun b=>b=g90) (k:=1) (n:=2) (c:=2) (cs:=byteVals [(1:UInt8),(UInt8.ofNat x49.name.length)]) b153 rfl (byteVals_one _) (by omega) rfl) d154 d155) hn162 (by omega)) ?_)
   rintro _ w163 ⟨A156,c157,rfl,hf158,hx164⟩
   rw [show ([[(1:UInt8),(UInt8.ofNat x49.name.length)],x49.name,x49.data]).flatten=([(1:UInt8),(UInt8.ofNat x49.name.length)])++x49.name++x49.data from by simp] at hf158
   refine ⟨_,rfl,?_⟩;intro a165 F166;clear F152;have z167:=hx164.size
   refine wpl_op (i:=11) rfl (o_call F166 rfl rfl rfl rfl (rn_call (args2 rfl (F166.get rfl)) rfl (by kernel_rfl)) (tagged_at ([99,104,97,110,103,101]) (v:=(vl A156 (2+x49.name.length+x49.data.length) c157)) (n:=(2+x49.name.length+x49.data.length)) (([(1:UInt8),(UInt8.ofNat x49.name.length)])++x49.name++x49.data) _ hf158 (hG.ext (((((((((Ext.refl w).trans hx28).trans hx70).gn hg77).trans hx93).gn hg115).trans hx132).trans hx148).trans hx164)) (by simp <;> omega) (by omega)) ?_)
   rintro _ w168 ⟨rfl,hx169⟩
   refine ⟨_,rfl,?_⟩;intro a170 F171;clear F166;have z172:=hx169.size
   have r173:=(own_ext (own_ext (own_ext (own_ext (own_grownT (own_ext (own_grownT (own_ext r32 hx70) b69 hg77 (by decide)) hx93) b92 hg115 (by decide)) hx132) hx148) hx164) hx169)
   have hf174:=r173
   refine F171.xn (fun g=>(vl (some ⟨g,0,none⟩) 1 1)) (byteVals ((tagged ([99,104,97,110,103,101]) (([(1:UInt8),(UInt8.ofNat x49.name.length)])++x49.name++x49.data)))) 24 (fun F=>rn_buildSlice (parts1 (F.get rfl)) (build_wholeE (vs:=[(.agg (byteVals (tagged ([99,104,97,110,103,101]) (([(1:UInt8),(UInt8.ofNat x49.name.length)])++x49.name++x49.data))).toArray)]) El26 rfl rfl (fun v hv=>by rw [List.mem_singleton.1 hv];exact (byteVals_len (tagged_len _ _))) (by decide) (by decide) (by simp [Value.cells,byteVals]))) fun g175 w176 _ F182 z179 z180 b177 hx178=>?_;clear F171
   have nb183:=own_new (g:=g175) hf174 (by omega)
   have r184:=(own_ext r173 hx178)
   have hf193:=r184
   have nb194:some g175≠(Value.slice Ap np cp).ownBlock:=nb183
   have z195:=b177.lt
   refine wpl_op (i:=13) rfl (o_appB (zs:=digVals (ls++([tagged ([99,104,97,110,103,101]) (([(1:UInt8),(UInt8.ofNat x49.name.length)])++x49.name++x49.data)]))) El26 F182 rfl rfl rfl rfl rfl (F182.get rfl) (F182.get rfl) hf193 (Fl.cel (Fl.digblk (S:=fun b=>b=g175) b177 (All32.sing (tagged_len _ _)) (by simp [digVals,byteVals]))).2.2 (by omega) (by omega) (by omega) (digVals_app _ _) ?_)
   intro A185 c186 w187 a196 F197 r188 hg189 z190 z191 hnb192;clear F182;have z198:=hg189.size
   have nb199:=hnb192 g175 (by omega) nb194
   refine F197.xa rfl<|fun _ F201=>?_;clear F197
   refine wpList_nil (hK44 _ _ ?_);clear hK44
   have F202:=F201.k [0,1,2,3,9,10,11,12,5,6,22];clear F201
   refine wp_region_lit ?_
   refine F202.xv (vi (k+1:Nat))<|Xm rfl<|fun _ F206=>?_;clear F202
   refine wpList_nil ?_
   have b207:=(grown_blk hf193 hg189 (((((((((b31.ext hx70).gn hg77).ext hx93).gn hg115).ext hx132).ext hx148).ext hx164).ext hx169).ext hx178) (by decide))
   refine ⟨⟨(k+1),A185,np+1,c186,ls++([tagged ([99,104,97,110,103,101]) (([(1:UInt8),(UInt8.ofNat x49.name.length)])++x49.name++x49.data)]),F206.j,⟨by omega,by omega⟩,(by rw [hp30];exact cgleaf_step hi52 (by rw [hc108];rfl)),(ext_row (((((((((((Ext.refl w).trans hx28).trans hx70).gn hg77).trans hx93).gn hg115).trans hx132).trans hx148).trans hx164).trans hx169).trans hx178) hg189 hf193 (by omega)),b207,r188,(by omega),(by omega)⟩,?_⟩
   rw [F206.get (t:=11) rfl,hL35.get (t:=11) rfl];simp [intOf] <;> omega
  refine F107.cf ?_
  refine wp_skip ?_
  refine hK101 _ _ ?_;clear hK101
  refine wp_region_lit ?_
  refine F107.xm rfl<|Xm rfl<|Xv (vp g67)<|Xv (vp g67)<|Xw (strOf x49.name) (fun F=>rl F rfl (b105.rule.1 0))<|fun _ F217=>?_;clear F107
  refine wpl_op (i:=5) rfl (o_strB (l:=x49.name) F217 rfl rfl rfl rfl rfl (F217.get rfl) Tryd.underlying9 Tryd.underlying52 Tryd.underlying5 (by omega) ?_)
  intro g218 c219 w220 a226 F227 z223 z224 z225 hf221 hx222;clear F217
  refine F227.xv (vp g67)<|Xv (.pointer (some ⟨g67,1,none⟩))<|fun _ F231=>?_;clear F227
  have b232:=(b105.ext hx222)
  refine F231.xw (vl A56 x49.data.length c57) (fun F=>rl F rfl (b232.rule.1 1))<|fun _ F234=>?_;clear F231
  refine F234.xn (fun g=>(vl (some ⟨g,0,none⟩) 3 3)) [(vl (some ⟨g90,0,none⟩) 2 2),(vl (some ⟨g218,0,none⟩) x49.name.length c219),(vl A56 x49.data.length c57)] 52 (fun F=>rn_buildSlice (parts3 (F.get rfl) (F.get rfl) (F.get rfl)) (by kernel_rfl)) fun g235 w236 _ F242 z239 z240 b237 hx238=>?_;clear F234
  have b243:=((b92.ext hx222).ext hx238)
  have d244:=(hf221.ext hx238)
  have d245:=(hd58.pres ((((((Pres.refl w26).ext hx70).gc hg77).ext hx93).ext hx222).ext hx238))
  have hn249:=Fl.blen (Fl.blk (S:=fun b=>b=g90) (k:=1) (n:=2) (c:=2) (cs:=byteVals [(0:UInt8),(UInt8.ofNat x49.name.length)]) b243 rfl (byteVals_one _) (by omega) rfl)
  have hn250:=Fl.blen d244
  have hn251:=Fl.blen d245
  have hn252:([[(0:UInt8),(UInt8.ofNat x49.name.length)],x49.name,x49.data]).flatten.length=2+x49.name.length+x49.data.length:=by simp only [List.flatten_cons,List.flatten_nil,List.length_append,List.length_nil];omega
  refine wpl_op (i:=10) rfl (o_call F242 rfl rfl rfl rfl (rn_call (args1 (F242.get rfl)) rfl (by kernel_rfl)) (joined_at [[(0:UInt8),(UInt8.ofNat x49.name.length)],x49.name,x49.data] _ (RBss.three b237 (Fl.blk (S:=fun b=>b=g90) (k:=1) (n:=2) (c:=2) (cs:=byteVals [(0:UInt8),(UInt8.ofNat x49.name.length)]) b243 rfl (byteVals_one _) (by omega) rfl) d244 d245) hn252 (by omega)) ?_)
  rintro _ w253 ⟨A246,c247,rfl,hf248,hx254⟩
  rw [show ([[(0:UInt8),(UInt8.ofNat x49.name.length)],x49.name,x49.data]).flatten=([(0:UInt8),(UInt8.ofNat x49.name.length)])++x49.name++x49.data from by simp] at hf248
  refine ⟨_,rfl,?_⟩;intro a255 F256;clear F242;have z257:=hx254.size
  refine wpl_op (i:=11) rfl (o_call F256 rfl rfl rfl rfl (rn_call (args2 rfl (F256.get rfl)) rfl (by kernel_rfl)) (tagged_at ([99,104,97,110,103,101]) (v:=(vl A246 (2+x49.name.length+x49.data.length) c247)) (n:=(2+x49.name.length+x49.data.length)) (([(0:UInt8),(UInt8.ofNat x49.name.length)])++x49.name++x49.data) _ hf248 (hG.ext ((((((((Ext.refl w).trans hx28).trans hx70).gn hg77).trans hx93).trans hx222).trans hx238).trans hx254)) (by simp <;> omega) (by omega)) ?_)
  rintro _ w258 ⟨rfl,hx259⟩
  refine ⟨_,rfl,?_⟩;intro a260 F261;clear F256;have z262:=hx259.size
  have r263:=(own_ext (own_ext (own_ext (own_ext (own_ext (own_grownT (own_ext r32 hx70) b69 hg77 (by decide)) hx93) hx222) hx238) hx254) hx259)
  have hf264:=r263
  refine F261.xn (fun g=>(vl (some ⟨g,0,none⟩) 1 1)) (byteVals ((tagged ([99,104,97,110,103,101]) (([(0:UInt8),(UInt8.ofNat x49.name.length)])++x49.name++x49.data)))) 24 (fun F=>rn_buildSlice (parts1 (F.get rfl)) (build_wholeE (vs:=[(.agg (byteVals (tagged ([99,104,97,110,103,101]) (([(0:UInt8),(UInt8.ofNat x49.name.length)])++x49.name++x49.data))).toArray)]) El26 rfl rfl (fun v hv=>by rw [List.mem_singleton.1 hv];exact (byteVals_len (tagged_len _ _))) (by decide) (by decide) (by simp [Value.cells,byteVals]))) fun g265 w266 _ F272 z269 z270 b267 hx268=>?_;clear F261
  have nb273:=own_new (g:=g265) hf264 (by omega)
  have r274:=(own_ext r263 hx268)
  have hf283:=r274
  have nb284:some g265≠(Value.slice Ap np cp).ownBlock:=nb273
  have z285:=b267.lt
  refine wpl_op (i:=13) rfl (o_appB (zs:=digVals (ls++([tagged ([99,104,97,110,103,101]) (([(0:UInt8),(UInt8.ofNat x49.name.length)])++x49.name++x49.data)]))) El26 F272 rfl rfl rfl rfl rfl (F272.get rfl) (F272.get rfl) hf283 (Fl.cel (Fl.digblk (S:=fun b=>b=g265) b267 (All32.sing (tagged_len _ _)) (by simp [digVals,byteVals]))).2.2 (by omega) (by omega) (by omega) (digVals_app _ _) ?_)
  intro A275 c276 w277 a286 F287 r278 hg279 z280 z281 hnb282;clear F272;have z288:=hg279.size
  have nb289:=hnb282 g265 (by omega) nb284
  refine F287.xa rfl<|fun _ F291=>?_;clear F287
  refine wpList_nil (hK44 _ _ ?_);clear hK44
  have F292:=F291.k [0,1,2,3,9,10,11,12,5,6,22];clear F291
  refine wp_region_lit ?_
  refine F292.xv (vi (k+1:Nat))<|Xm rfl<|fun _ F296=>?_;clear F292
  refine wpList_nil ?_
  have b297:=(grown_blk hf283 hg279 ((((((((b31.ext hx70).gn hg77).ext hx93).ext hx222).ext hx238).ext hx254).ext hx259).ext hx268) (by decide))
  refine ⟨⟨(k+1),A275,np+1,c276,ls++([tagged ([99,104,97,110,103,101]) (([(0:UInt8),(UInt8.ofNat x49.name.length)])++x49.name++x49.data)]),F296.j,⟨by omega,by omega⟩,(by rw [hp30];exact cgleaf_step hi52 (by rw [hc108];rfl)),(ext_row ((((((((((Ext.refl w).trans hx28).trans hx70).gn hg77).trans hx93).trans hx222).trans hx238).trans hx254).trans hx259).trans hx268) hg279 hf283 (by omega)),b297,r278,(by omega),(by omega)⟩,?_⟩
  rw [F296.get (t:=11) rfl,hL35.get (t:=11) rfl];simp [intOf] <;> omega
 refine F41.cf ?_
 refine wp_exit ?_
 refine exit_then ?_
 refine exit_then ?_
 refine exit_here ?_
 refine hK15 _ _ ?_;clear hK15
 refine wr fun K298 hK298=>?_
 refine F41.xm rfl<|fun _ F300=>?_;clear F41
 have hf301:=(Fl.own (S:=fun b=>w3.heap.size≤b) r32 (fun b hb=>hb) (digVals_one _))
 refine F300.xc (tree_at ls _ (n:=np) (v:=(vl Ap np cp)) hl32 hf301 (hG.ext ((Ext.refl w).trans hx28))) ?_
 rintro _ w302 ⟨rfl,hx303⟩
 refine ⟨_,rfl,?_⟩;intro a304 F305;clear F300;have z306:=hx303.size
 have r307:=(own_ext r32 hx303)
 have hf308:=r307
 refine F305.xz (byteVals (List.replicate 32 0)) 24 fun g309 w310 _ F316 z313 z314 b311 hx312=>?_;clear F305
 have nb317:=own_new (g:=g309) hf308 (by omega)
 refine F316.xs rfl b311 (fun w318 b319 hg320=>?_) (hk:=byteVals_len (treeD_len _));have z321:=hg320.size
 refine wpList_nil (hK298 _ _ ?_);clear hK298
 refine wp_seq_k fun K322 hK322=>?_
 have hx324:∃ W,w318.drew=W∧Ext w318 W:=⟨_,rfl,(Ext.refl _).drew⟩
 obtain ⟨w323,e325,hx324⟩:=hx324
 have z326:=hx324.size
 refine any_start (fun W=>Ext w323 W∧Blk W g2 30 ((vi v.no)::dg v.state [(vl C v.chs.length cc),(vi v.sg.index),(vl O v.sg.op.length oc),(vl E v.sg.cl.length ec),(vl P v.sg.path.length pc)])∧Blk W g309 24 (byteVals (treeD ls))) (fun i=>false) 9 (.replicate 9 false) rfl rfl rfl ?_
 rw [e325];clear e325
 refine F316.yv 0 (vp g2) rfl<|fun _ F328=>?_;clear F316
 have b330:=((((b31.ext hx303).ext hx312).gn hg320).ext hx324)
 have b331:=(b319.ext hx324)
 have hS329:Ext w323 w323∧Blk w323 g2 30 ((vi v.no)::dg v.state [(vl C v.chs.length cc),(vi v.sg.index),(vl O v.sg.op.length oc),(vl E v.sg.cl.length ec),(vl P v.sg.path.length pc)])∧Blk w323 g309 24 (byteVals (treeD ls)):=⟨(Ext.refl w323),b330,b331⟩
 refine F328.ys 1 (vi v.no) rfl hS329 (fun F W hW=>rl F rfl ((hW.2.1.rule.1 0).trans rfl))<|Yv 3 (.pointer (some ⟨g2,1,none⟩)) rfl<|Yw 4 (vl (some ⟨g2,1,none⟩) 32 32) rfl (fun F W=>rn_arrAll Tryd.underlying24 inf5 (F.get rfl))<|Yw 5 (vl (some ⟨g309,0,none⟩) 32 32) rfl (fun F W=>rn_arrAll Tryd.underlying24 inf5 (F.get rfl))<|fun _ F339=>?_;clear F328
 refine ao 2 rfl ?_
 refine o_call F339 rfl rfl rfl rfl (rn_call (args1 (F339.get rfl)) rfl (by kernel_rfl)) (number_int v.no _ (by omega) (by omega)) ?_
 rintro _ w344 ⟨A340,c341,rfl,hf342,hx345⟩
 have z343:=(Fl.cel hf342).2.1
 refine ⟨_,rfl,?_⟩;intro a346 F347;clear F339;have z348:=hx345.size
 have hf349:Fl (Clip (fun b=>w323.heap.size≤b) w344) w344 1 (vl A340 8 c341) 8 (byteVals (numL (v.no).toNat 8)):=hf342.clip
 have b350:=(b330.ext hx345)
 have b351:=(b331.ext hx345)
 refine ⟨fun _ _=>⟨((Ext.refl w323).trans hx345),b350,b351⟩,?_⟩
 refine ao 6 rfl (F347.on (fun g=>(vl (some ⟨g,0,none⟩) 3 3)) [(vl A340 8 c341),(vl (some ⟨g2,1,none⟩) 32 32),(vl (some ⟨g309,0,none⟩) 32 32)] 52 rfl (fun F=>rn_buildSlice (parts3 (F.get rfl) (F.get rfl) (F.get rfl)) (by kernel_rfl)) fun g352 w353 _ F359 z356 z357 b354 hx355=>?_);clear F347
 have b360:=(b350.ext hx355)
 have b361:=(b351.ext hx355)
 refine ⟨fun _ _=>⟨(((Ext.refl w323).trans hx345).trans hx355),b360,b361⟩,?_⟩
 refine ao 7 rfl ?_
 have d362:=(hf349.ext hx355)
 have hn366:=Fl.blen d362
 have hn367:=Fl.blen (Fl.digB (A:=[(vi v.no)]) (B:=[(vl C v.chs.length cc),(vi v.sg.index),(vl O v.sg.op.length oc),(vl E v.sg.cl.length ec),(vl P v.sg.path.length pc)]) b360 (by simp) rfl hc.st)
 have hn368:=Fl.blen (Fl.blk (S:=fun b=>b=g309) (k:=1) (n:=32) (c:=32) b361 (by rw [byteVals_len (treeD_len _),Nat.mul_one]) (byteVals_one _) (by omega) rfl)
 have hn369:([numL (v.no).toNat 8,v.state,treeD ls]).flatten.length=8+32+32:=by simp only [List.flatten_cons,List.flatten_nil,List.length_append,List.length_nil];omega
 refine o_call F359 rfl rfl rfl rfl (rn_call (args1 (F359.get rfl)) rfl (by kernel_rfl)) (joined_at [numL (v.no).toNat 8,v.state,treeD ls] _ (RBss.three b354 d362 (Fl.digB (A:=[(vi v.no)]) (B:=[(vl C v.chs.length cc),(vi v.sg.index),(vl O v.sg.op.length oc),(vl E v.sg.cl.length ec),(vl P v.sg.path.length pc)]) b360 (by simp) rfl hc.st) (Fl.blk (S:=fun b=>b=g309) (k:=1) (n:=32) (c:=32) b361 (by rw [byteVals_len (treeD_len _),Nat.mul_one]) (byteVals_one _) (by omega) rfl)) hn369 (by omega)) ?_
 rintro _ w370 ⟨A363,c364,rfl,hf365,hx371⟩
 rw [show ([numL (v.no).toNat 8,v.state,treeD ls]).flatten=(numL (v.no).toNat 8)++v.state++(treeD ls) from by simp] at hf365
 refine ⟨_,rfl,?_⟩;intro a372 F373;clear F359;have z374:=hx371.size
 have b375:=(b360.ext hx371)
 have b376:=(b361.ext hx371)
 refine ⟨fun _ _=>⟨((((Ext.refl w323).trans hx345).trans hx355).trans hx371),b375,b376⟩,?_⟩
 refine F373.yv 8 (vl A363 (8+32+32) c364) rfl<|fun _ F378=>?_;clear F373
 refine nn (hK322 _ _ ?_);clear hK322
 have F379:=F378.k [0,1,2,3,9,10,11,12,7];clear F378
 refine wp_ret ?_
 refine ret1 F379 rfl rfl ?_
 have hk:k=v.chs.length:=by omega
 have hl:=hp30
 rw [hk,List.take_length] at hl
 have hm:(numL (v.no).toNat 8)++v.state++(treeD ls)=v.msg:=by rw [hl];rfl
 have hfin:=hf365
 rw [hm] at hfin
 exact ⟨_,_,rfl,Fl.sub hfin (fun b hb=>by first | omega | (simp only [Clip] at hb;omega)),(((((((((Ext.refl w).trans hx28).trans hx303).trans hx312).gn hg320).trans hx324).trans hx345).trans hx355).trans hx371)⟩

theorem message_at {c o e p:Value} (v:Vr) (w:World) (h:RVp S w c o e p v) (hv:validC v.chs) (hd:∀ x∈v.chs,x.data.length≤4294967296) (h0:0≤v.no) (hno:v.no≤4294967296) (hG:Glob w) :
  Calls Tryd.prog 40 #[ag (vcs v.no v.state c v.sg.index o e p)] w (fun e w'=>∃ A c,e=.returned (vl A 72 c)∧Fl (fun b=>w.heap.size≤b) w' 1 (vl A 72 c) 72 (byteVals v.msg)∧Ext w w'):=by
 obtain ⟨C,cc,rfl,_⟩:=RLs.form h.chs
 obtain ⟨O,oc,rfl,_⟩:=Fl.form h.sg.op
 obtain ⟨E,ec,rfl,_⟩:=Fl.form h.sg.cl
 obtain ⟨P,pc,rfl,_⟩:=Fl.form h.sg.path
 exact message_any C cc O oc E ec P pc v w h hv hd h0 hno hG

end Go.Proofs.YtihgmaoghbnnaaaDoor

namespace Go.Proofs.YtihgmaoghbnnaaaDoor
open Go.RowKit

variable {S S':Nat→Prop}

set_option maxRecDepth 100000 in
set_option maxHeartbeats 1000000 in
theorem verifyv_any (C:Option Addr) (cc:Nat) (O:Option Addr) (oc:Nat) (E:Option Addr) (ec:Nat) (P:Option Addr) (pc:Nat) (pub:List UInt8) (n:Int) (v:Vr) (w:World) (h:RVp S w (vl C v.chs.length cc) (vl O v.sg.op.length oc) (vl E v.sg.cl.length ec) (vl P v.sg.path.length pc) v) (hp:pub.length=32) (hd:∀ x∈v.chs,x.data.length≤4294967296) (hG:Glob w) :
  Calls Tryd.prog 22 #[.agg (byteVals pub).toArray,.int .i64 n,(ag ((vi v.no)::dg v.state [(vl C v.chs.length cc),(vi v.sg.index),(vl O v.sg.op.length oc),(vl E v.sg.cl.length ec),(vl P v.sg.path.length pc)]))] w (fun e w'=>e=.returned (vi (verifyE pub n v))∧Ext w w'):=by
 have hc:=RVp.subB (S':=Clip S w) h (fun _ hb hs=>⟨hs,hb⟩)
 obtain ⟨-,hc1,hc2⟩:=RLs.at hc.chs;have hc3:=(Fl.cel hc.sg.op).2.1;have hc4:=(Fl.cel hc.sg.cl).2.1;have hc5:=(Fl.cel hc.sg.path).2.1
 refine calls_enter Tryd.func22 rfl rfl rfl fun _ hF=>?_
 refine wr fun K1 hK1=>?_
 refine hF.xb rfl fun g2 w3 _ F9 z6 z7 b4 hx5=>?_;clear hF
 refine F9.xb rfl fun g10 w11 _ F17 z14 z15 b12 hx13=>?_;clear F9
 refine F17.xv (vi 0)<|fun _ F19=>?_;clear F17
 refine wpList_nil (hK1 _ _ ?_);clear hK1
 refine wp_seq_k fun K20 hK20=>?_
 refine wp_block ?_
 refine wr fun K21 hK21=>?_
 refine F19.xv (vp g10)<|Xw (vi v.no) (fun F=>rl F rfl ((b12.rule.1 0).trans rfl))<|Xv (.bool (decide ((v.no:Int)<(1:Int))))<|Xm rfl<|fun _ F29=>?_;clear F19
 by_cases hc30:(v.no:Int)<(1:Int)
 ·skip
  refine F29.xu<|Xu<|Xu<|Xv (.bool true)<|Xa rfl<|fun _ F40=>?_;clear F29
  refine wpList_nil (hK21 _ _ ?_);clear hK21
  have F41:=F40.k [0,1,2,3,5,6,7];clear F40
  refine F41.ct ?_
  refine wr fun K42 hK42=>?_
  refine F41.xv (vi 420)<|fun _ F44=>?_;clear F41
  refine wpList_nil (hK42 _ _ ?_);clear hK42
  refine wp_ret ?_
  refine ret_block ?_
  refine ret_then ?_
  refine ret1 F44 rfl rfl ?_
  exact ⟨ret_int (show verifyE pub n v=420 from if_pos (by omega)).symm,(((Ext.refl w).trans hx5).trans hx13)⟩
 refine F29.xg (vp g10)<|Xgw (vi v.no) (fun F=>rl F rfl ((b12.rule.1 0).trans rfl))<|Xg (.bool (decide ((4096:Int)<(v.no:Int))))<|Xv (.bool (decide ((4096:Int)<(v.no:Int))))<|Xa rfl<|fun _ F54=>?_;clear F29
 refine wpList_nil (hK21 _ _ ?_);clear hK21
 have F55:=F54.k [0,1,2,3,5,6,7];clear F54
 by_cases hc56:(4096:Int)<(v.no:Int)
 ·skip
  refine F55.ct ?_
  refine wr fun K57 hK57=>?_
  refine F55.xv (vi 420)<|fun _ F59=>?_;clear F55
  refine wpList_nil (hK57 _ _ ?_);clear hK57
  refine wp_ret ?_
  refine ret_block ?_
  refine ret_then ?_
  refine ret1 F59 rfl rfl ?_
  exact ⟨ret_int (show verifyE pub n v=420 from if_pos (by omega)).symm,(((Ext.refl w).trans hx5).trans hx13)⟩
 refine F55.cf ?_
 refine wr fun K60 hK60=>?_
 refine F55.xv (.pointer (some ⟨g10,33,none⟩))<|Xw (vl C v.chs.length cc) (fun F=>rl F rfl ((b12.rule.1 33).trans ((at_app (k:=0) (byteVals_len hc.st)).trans rfl)))<|fun _ F64=>?_;clear F55
 have d65:=(RLs.ext rCg (RLs.ext rCg hc.chs hx5) hx13)
 refine F64.xc (mvalid_at (v:=(vl C v.chs.length cc)) v.chs _ d65) ?_
 rintro _ w66 ⟨rfl,hx67⟩
 refine ⟨_,rfl,?_⟩;intro a68 F69;clear F64;have z70:=hx67.size
 refine F69.xw (.bool (!(decide (validC v.chs)))) (fun F=>rn_not' (F.get rfl) rfl)<|Xa rfl<|fun _ F74=>?_;clear F69
 refine wpList_nil (hK60 _ _ ?_);clear hK60
 have F75:=F74.k [0,1,2,3,5,6,7,16];clear F74
 by_cases hc76:validC v.chs
 ·skip
  refine F75.cf ?_
  refine wp_seq_k fun K77 hK77=>?_
  have hx79:∃ W,w66.drew=W∧Ext w66 W:=⟨_,rfl,(Ext.refl _).drew⟩
  obtain ⟨w78,e80,hx79⟩:=hx79
  have z81:=hx79.size
  refine any_start (fun W=>Ext w78 W∧Blk W g10 30 ((vi v.no)::dg v.state [(vl C v.chs.length cc),(vi v.sg.index),(vl O v.sg.op.length oc),(vl E v.sg.cl.length ec),(vl P v.sg.path.length pc)])∧Blk W g2 24 (byteVals pub)) (fun i=>false) 18 (.replicate 18 false) rfl rfl rfl ?_
  rw [e80];clear e80
  refine F75.yv 0 (.pointer (some ⟨g10,34,none⟩)) rfl<|Yv 1 (.pointer (some ⟨g10,34,none⟩)) rfl<|fun _ F85=>?_;clear F75
  have b87:=((b12.ext hx67).ext hx79)
  have b88:=(((b4.ext hx13).ext hx67).ext hx79)
  have hS86:Ext w78 w78∧Blk w78 g10 30 ((vi v.no)::dg v.state [(vl C v.chs.length cc),(vi v.sg.index),(vl O v.sg.op.length oc),(vl E v.sg.cl.length ec),(vl P v.sg.path.length pc)])∧Blk w78 g2 24 (byteVals pub):=⟨(Ext.refl w78),b87,b88⟩
  refine F85.ys 2 (vi v.sg.index) rfl hS86 (fun F W hW=>rl F rfl ((hW.2.1.rule.1 34).trans ((at_app (k:=1) (byteVals_len hc.st)).trans rfl)))<|Yv 3 (vp g10) rfl<|Ys 4 (vi v.no) rfl hS86 (fun F W hW=>rl F rfl ((hW.2.1.rule.1 0).trans rfl))<|Yv 5 (vi (v.no - 1)) rfl<|Yv 6 (.bool (decide ((v.sg.index:Int)≠(v.no - 1:Int)))) rfl<|Ym 7 rfl<|fun _ F100=>?_;clear F85
  by_cases hc101:(v.sg.index:Int)≠(v.no - 1:Int)
  ·skip
   refine F100.yu 8 rfl<|Yu 9 rfl<|Yu 10 rfl<|Yu 12 rfl<|Yu 13 rfl<|fun _ F111=>?_;clear F100
   refine ao 11 rfl ?_
   refine o_skip F111 rfl (unwanted_guard rfl rfl rfl F111 rfl (decide_eq_true hc101) rfl) rfl rfl ?_
   intro a112 F113;clear F111
   refine ⟨fun _ _=>⟨(Ext.refl w78),b87,b88⟩,?_⟩
   refine ao 14 rfl ?_
   refine o_skip F113 rfl (unwanted_guard rfl rfl rfl F113 rfl (decide_eq_true hc101) rfl) rfl rfl ?_
   intro a114 F115;clear F113
   refine ⟨fun _ _=>⟨(Ext.refl w78),b87,b88⟩,?_⟩
   refine F115.yu 15 rfl<|Yv 16 (.bool true) rfl<|Yv 17 (.bool true) rfl<|fun _ F121=>?_;clear F115
   refine nn (hK77 _ _ ?_);clear hK77
   have F122:=F121.k [0,1,2,3,5,6,7,16,21];clear F121
   refine F122.ct ?_
   refine wr fun K123 hK123=>?_
   refine F122.xv (vi 131)<|fun _ F125=>?_;clear F122
   refine wpList_nil (hK123 _ _ ?_);clear hK123
   refine wp_ret ?_
   refine ret_block ?_
   refine ret_then ?_
   refine ret1 F125 rfl rfl ?_
   exact ⟨ret_int (show verifyE pub n v=131 from (if_neg (by omega)).trans ((if_neg (fun q=>q (of_decide_eq_true (decide_eq_true hc76)))).trans (if_pos (.inl (by omega))))).symm,(((((Ext.refl w).trans hx5).trans hx13).trans hx67).trans hx79)⟩
  refine F100.ysg 8 (.agg (byteVals pub).toArray) rfl hS86 (fun F W hW=>rb F rfl hW.2.2 (hk:=byteVals_len hp))<|Yg 9 (vi n) rfl<|Ysg 10 (ag ((vi v.no)::dg v.state [(vl C v.chs.length cc),(vi v.sg.index),(vl O v.sg.op.length oc),(vl E v.sg.cl.length ec),(vl P v.sg.path.length pc)])) rfl hS86 (fun F W hW=>rb F rfl hW.2.1 (hk:=len_dig1 hc.st))<|Yg 12 (.pointer (some ⟨g10,34,none⟩)) rfl<|Ysg 13 (.agg #[(vi v.sg.index),(vl O v.sg.op.length oc),(vl E v.sg.cl.length ec),(vl P v.sg.path.length pc)]) rfl hS86 (fun F W hW=>rn_loadN (cs:=[(vi v.sg.index),(vl O v.sg.op.length oc),(vl E v.sg.cl.length ec),(vl P v.sg.path.length pc)]) (F.get rfl) Tryd.underlying28 rfl inf28 (Blk.part (A:=((vi v.no)::dg v.state [(vl C v.chs.length cc)])) (M:=[(vi v.sg.index),(vl O v.sg.op.length oc),(vl E v.sg.cl.length ec),(vl P v.sg.path.length pc)]) (B:=[]) hW.2.1 (by simp) (by simp [byteVals_len hc.st])))<|fun _ F135=>?_;clear F100
  refine ao 11 rfl ?_
  have d139:=(RLs.ext rCg (RLs.ext rCg (RLs.ext rCg (RLs.ext rCg hc.chs hx5) hx13) hx67) hx79)
  have d140:=((((hc.sg.op.ext hx5).ext hx13).ext hx67).ext hx79)
  have d141:=((((hc.sg.cl.ext hx5).ext hx13).ext hx67).ext hx79)
  have d142:=((((hc.sg.path.ext hx5).ext hx13).ext hx67).ext hx79)
  refine o_call F135 rfl (wanted_guard rfl rfl rfl F135 rfl (decide_eq_false hc101) rfl) rfl rfl (rn_call (args1 (F135.get rfl)) rfl (by kernel_rfl)) (message_at v _ (⟨hc.st,RLs.sub (S':=fun _=>True) rCg d139 fun _ _=>trivial,⟨Fl.any d140,Fl.any d141,Fl.any d142,hc.sg.o32,hc.sg.c32,hc.sg.p32⟩⟩:RVp (fun _=>True) _ _ _ _ _ v) (of_decide_eq_true (decide_eq_true hc76)) hd (by omega) (by omega) (hG.ext (((((Ext.refl w).trans hx5).trans hx13).trans hx67).trans hx79))) ?_
  rintro _ w144 ⟨A136,c137,rfl,hf138,hx145⟩
  have z143:=(Fl.cel hf138).2.1
  refine ⟨_,rfl,?_⟩;intro a146 F147;clear F135;have z148:=hx145.size
  have hf149:Fl (Clip (fun b=>w78.heap.size≤b) w144) w144 1 (vl A136 72 c137) 72 (byteVals v.msg):=hf138.clip
  have b150:=(b87.ext hx145)
  have b151:=(b88.ext hx145)
  refine ⟨fun _ _=>⟨((Ext.refl w78).trans hx145),b150,b151⟩,?_⟩
  refine ao 14 rfl ?_
  have d152:=(((((hc.sg.op.ext hx5).ext hx13).ext hx67).ext hx79).ext hx145)
  have d153:=(((((hc.sg.cl.ext hx5).ext hx13).ext hx67).ext hx79).ext hx145)
  have d154:=(((((hc.sg.path.ext hx5).ext hx13).ext hx67).ext hx79).ext hx145)
  refine o_call F147 rfl (wanted_guard rfl rfl rfl F147 rfl (decide_eq_false hc101) rfl) rfl rfl (rn_call (args4 (F147.get rfl) (F147.get rfl) (F147.get rfl) (F147.get rfl)) rfl (by kernel_rfl)) (verify_at (v:=(vl A136 72 c137)) (m:=72) (u1:=(vl O v.sg.op.length oc)) (u2:=(vl E v.sg.cl.length ec)) (u3:=(vl P v.sg.path.length pc)) (n1:=v.sg.op.length) (n2:=v.sg.cl.length) (n3:=v.sg.path.length) pub n v.msg v.sg _ hp hf149 d152 d153 d154 hc.sg.o32 hc.sg.c32 hc.sg.p32 (hG.ext ((((((Ext.refl w).trans hx5).trans hx13).trans hx67).trans hx79).trans hx145))) ?_
  rintro _ w155 ⟨rfl,hx156⟩
  refine ⟨_,rfl,?_⟩;intro a157 F158;clear F147;have z159:=hx156.size
  have b160:=(b150.ext hx156)
  have b161:=(b151.ext hx156)
  refine ⟨fun _ _=>⟨(((Ext.refl w78).trans hx145).trans hx156),b160,b161⟩,?_⟩
  refine F158.ygw 15 (.bool (!(verifyF pub n v.msg v.sg))) rfl (fun F W=>rn_not' (F.get rfl) rfl)<|Yv 16 (.bool (!(verifyF pub n v.msg v.sg))) rfl<|Yv 17 (.bool (!(verifyF pub n v.msg v.sg))) rfl<|fun _ F167=>?_;clear F158
  refine nn (hK77 _ _ ?_);clear hK77
  have F168:=F167.k [0,1,2,3,5,6,7,16,21];clear F167
  rcases Bool.eq_false_or_eq_true (verifyF pub n v.msg v.sg) with hc169 | hc169
  ·skip
   refine F168.cf ?_
   refine wp_skip ?_
   refine hK20 _ _ ?_;clear hK20
   refine wr fun K170 hK170=>?_
   refine F168.xv (vi 0)<|fun _ F172=>?_;clear F168
   refine wpList_nil (hK170 _ _ ?_);clear hK170
   refine wp_ret ?_
   refine ret1 F172 rfl rfl ?_
   exact ⟨ret_int (show verifyE pub n v=0 from (if_neg (by omega)).trans ((if_neg (fun q=>q (of_decide_eq_true (decide_eq_true hc76)))).trans (if_neg (fun q=>q.elim (fun h1=>h1 (by omega)) (fun h2=>by rw [hc169] at h2;cases h2))))).symm,(((((((Ext.refl w).trans hx5).trans hx13).trans hx67).trans hx79).trans hx145).trans hx156)⟩
  refine F168.ct ?_
  refine wr fun K173 hK173=>?_
  refine F168.xv (vi 131)<|fun _ F175=>?_;clear F168
  refine wpList_nil (hK173 _ _ ?_);clear hK173
  refine wp_ret ?_
  refine ret_block ?_
  refine ret_then ?_
  refine ret1 F175 rfl rfl ?_
  exact ⟨ret_int (show verifyE pub n v=131 from (if_neg (by omega)).trans ((if_neg (fun q=>q (of_decide_eq_true (decide_eq_true hc76)))).trans (if_pos (.inr hc169)))).symm,(((((((Ext.refl w).trans hx5).trans hx13).trans hx67).trans hx79).trans hx145).trans hx156)⟩
 refine F75.ct ?_
 refine wr fun K176 hK176=>?_
 refine F75.xv (vi 400)<|fun _ F178=>?_;clear F75
 refine wpList_nil (hK176 _ _ ?_);clear hK176
 refine wp_ret ?_
 refine ret_block ?_
 refine ret_then ?_
 refine ret1 F178 rfl rfl ?_
 exact ⟨ret_int (show verifyE pub n v=400 from (if_neg (by omega)).trans (if_pos (of_decide_eq_false (decide_eq_false hc76)))).symm,((((Ext.refl w).trans hx5).trans hx13).trans hx67)⟩

theorem verifyv_at {c o e p:Value} (pub:List UInt8) (n:Int) (v:Vr) (w:World) (h:RVp S w c o e p v) (hp:pub.length=32) (hd:∀ x∈v.chs,x.data.length≤4294967296) (hG:Glob w) :
  Calls Tryd.prog 22 #[.agg (byteVals pub).toArray,.int .i64 n,ag (vcs v.no v.state c v.sg.index o e p)] w (fun e w'=>e=.returned (vi (verifyE pub n v))∧Ext w w'):=by
 obtain ⟨C,cc,rfl,_⟩:=RLs.form h.chs
 obtain ⟨O,oc,rfl,_⟩:=Fl.form h.sg.op
 obtain ⟨E,ec,rfl,_⟩:=Fl.form h.sg.cl
 obtain ⟨P,pc,rfl,_⟩:=Fl.form h.sg.path
 exact verifyv_any C cc O oc E ec P pc pub n v w h hp hd hG

set_option maxRecDepth 100000 in
set_option maxHeartbeats 1000000 in
theorem join_any (pub:List UInt8) (n:Int) (w:World) (hp:pub.length=32) :
  Calls Tryd.prog 13 #[.agg (byteVals pub).toArray,.int .i64 n] w (fun e w'=>e=.returned (.tuple #[ag (fcs (joinF pub n).pub (joinF pub n).many (joinF pub n).no v0 v0),.int .i64 (joinE n)])∧Ext w w'):=by
 refine calls_enter Tryd.func13 rfl rfl rfl fun _ hF=>?_
 refine wr fun K1 hK1=>?_
 refine hF.xb rfl fun g2 w3 _ F9 z6 z7 b4 hx5=>?_;clear hF
 refine F9.xz fz 41 fun g10 w11 _ F17 z14 z15 b12 hx13=>?_;clear F9
 refine F17.xv (vi 0)<|fun _ F19=>?_;clear F17
 refine wpList_nil (hK1 _ _ ?_);clear hK1
 refine wp_seq_k fun K20 hK20=>?_
 refine wr fun K21 hK21=>?_
 refine F19.xm rfl<|fun _ F23=>?_;clear F19
 refine F23.xc (isMany_any n _) ?_
 rintro _ w24 ⟨rfl,hx25⟩
 refine ⟨_,rfl,?_⟩;intro a26 F27;clear F23;have z28:=hx25.size
 refine F27.xw (.bool (!(decide (1≤n∧n≤4096)))) (fun F=>rn_not' (F.get rfl) rfl)<|fun _ F30=>?_;clear F27
 refine wpList_nil (hK21 _ _ ?_);clear hK21
 by_cases hc31:1≤n∧n≤4096
 ·skip
  refine F30.cf ?_
  refine wp_skip ?_
  refine hK20 _ _ ?_;clear hK20
  refine wr fun K32 hK32=>?_
  have b33:=((b4.ext hx13).ext hx25)
  refine F30.xw (.agg (byteVals pub).toArray) (fun F=>rb F rfl b33 (hk:=byteVals_len hp))<|Xm rfl<|Xw (ag (dg pub [(vi n),(vi 0),v0,v0])) (fun F=>rn_build (parts2 (F.get rfl) (F.get rfl)) (build_fo hp))<|fun _ F39=>?_;clear F30
  have b40:=(b12.ext hx25)
  refine F39.xs rfl b40 (fun w41 b42 hg43=>?_) (hk:=len_dig hp);have z44:=hg43.size
  refine F39.xv (vi 0)<|fun _ F46=>?_;clear F39
  refine wpList_nil (hK32 _ _ ?_);clear hK32
  have F47:=F46.k [0,1,2,4,5,8];clear F46
  refine wp_ret ?_
  refine retC1 F47 rfl rfl rfl b42 Tryd.underlying41 rfl (sk inf41 (len_dig hp)) ?_
  have hk:=of_decide_eq_true (decide_eq_true hc31);have hE:joinE n=0:=if_neg (by omega)
  have hJ:joinF pub n=⟨pub,n,0,[],[]⟩:=if_pos hE
  exact ⟨by rw [hJ,hE] <;> rfl,(((((Ext.refl w).trans hx5).trans hx13).trans hx25).gn hg43)⟩
 refine F30.ct ?_
 refine wr fun K48 hK48=>?_
 have b49:=(b12.ext hx25)
 refine F30.xw (ag fz) (fun F=>rb F rfl b49)<|fun _ F51=>?_;clear F30
 refine F51.xs rfl b49 (fun w52 b53 hg54=>?_);have z55:=hg54.size
 refine F51.xv (vi 40)<|fun _ F57=>?_;clear F51
 refine wpList_nil (hK48 _ _ ?_);clear hK48
 refine wp_ret (ret_then ?_)
 refine retC1 F57 rfl rfl rfl b53 Tryd.underlying41 rfl (sk inf41 (len_dig zero32_len)) ?_
 have hk:=of_decide_eq_false (decide_eq_false hc31);have hE:joinE n=40:=if_pos (by omega)
 have hJ:joinF pub n=foNil:=if_neg (by rw [hE];decide)
 exact ⟨by rw [hJ,hE] <;> rfl,(((((Ext.refl w).trans hx5).trans hx13).trans hx25).gn hg54)⟩

set_option maxRecDepth 100000 in
set_option maxHeartbeats 1000000 in
theorem wants_any (FA:Option Addr) (fa:Nat) (FE:Option Addr) (fe:Nat) (f:Fo) (w:World) (h:RFo S w (vl FA f.items.length fa) (vl FE f.early.length fe) f) (h0:0≤f.no∧f.no≤4294967296) :
  Calls Tryd.prog 17 #[(ag (dg f.pub [(vi f.many),(vi f.no),(vl FA f.items.length fa),(vl FE f.early.length fe)]))] w (fun e w'=>e=.returned (vi (f.no+1))∧Ext w w'):=by
 have hc:=RFo.subB (S':=Clip S w) h (fun _ hb hs=>⟨hs,hb⟩)
 obtain ⟨-,hc1,hc2⟩:=RLs.at hc.items;obtain ⟨-,hc3,hc4⟩:=RLs.at hc.early
 refine calls_enter Tryd.func17 rfl rfl rfl fun _ hF=>?_
 refine wr fun K1 hK1=>?_
 refine hF.xb rfl fun g2 w3 _ F9 z6 z7 b4 hx5=>?_;clear hF
 refine F9.xv (vi 0)<|fun _ F11=>?_;clear F9
 refine wpList_nil (hK1 _ _ ?_);clear hK1
 refine wr fun K12 hK12=>?_
 refine F11.xv (.pointer (some ⟨g2,33,none⟩))<|Xw (vi f.no) (fun F=>rl F rfl ((b4.rule.1 33).trans ((at_app (k:=1) (byteVals_len hc.pub)).trans rfl)))<|Xv (vi (f.no+1))<|Xa rfl<|fun _ F20=>?_;clear F11
 refine wpList_nil (hK12 _ _ ?_);clear hK12
 refine wp_ret ?_
 refine ret1 F20 rfl rfl ?_
 exact ⟨rfl,((Ext.refl w).trans hx5)⟩

theorem wants_at {c e:Value} (f:Fo) (w:World) (h:RFo S w c e f) (h0:0≤f.no∧f.no≤4294967296) :
  Calls Tryd.prog 17 #[ag (fcs f.pub f.many f.no c e)] w (fun e w'=>e=.returned (vi (f.no+1))∧Ext w w'):=by
 obtain ⟨FA,fa,rfl,_⟩:=RLs.form h.items
 obtain ⟨FE,fe,rfl,_⟩:=RLs.form h.early
 exact wants_any FA fa FE fe f w h h0

end Go.Proofs.YtihgmaoghbnnaaaDoor

namespace Go.Proofs.YtihgmaoghbnnaaaDoor
open Go.RowKit

variable {S S':Nat→Prop}

set_option maxRecDepth 100000 in
set_option maxHeartbeats 1000000 in
theorem fcheck_any (FA:Option Addr) (fa:Nat) (FE:Option Addr) (fe:Nat) (f:Fo) (w:World) (h:RFo S w (vl FA f.items.length fa) (vl FE f.early.length fe) f) (hdi:∀ x∈f.items,x.data.length≤4294967296) (hde:∀ v∈f.early,∀ x∈v.chs,x.data.length≤4294967296) (hG:Glob w) :
  Calls Tryd.prog 19 #[(ag (dg f.pub [(vi f.many),(vi f.no),(vl FA f.items.length fa),(vl FE f.early.length fe)]))] w (fun e w'=>e=.returned (vi (checkFE f))∧Ext w w'):=by
 have hc:=RFo.subB (S':=Clip S w) h (fun _ hb hs=>⟨hs,hb⟩)
 obtain ⟨-,hc1,hc2⟩:=RLs.at hc.items;obtain ⟨-,hc3,hc4⟩:=RLs.at hc.early
 refine calls_enter Tryd.func19 rfl rfl rfl fun _ hF=>?_
 refine wr fun K1 hK1=>?_
 refine hF.xb rfl fun g2 w3 _ F9 z6 z7 b4 hx5=>?_;clear hF
 refine F9.xv (vi 0)<|fun _ F11=>?_;clear F9
 refine wpList_nil (hK1 _ _ ?_);clear hK1
 refine wp_seq_k fun K12 hK12=>?_
 refine wr fun K13 hK13=>?_
 refine F11.xv (.pointer (some ⟨g2,32,none⟩))<|Xw (vi f.many) (fun F=>rl F rfl ((b4.rule.1 32).trans ((at_app (k:=0) (byteVals_len hc.pub)).trans rfl)))<|fun _ F17=>?_;clear F11
 refine F17.xc (isMany_any f.many _) ?_
 rintro _ w18 ⟨rfl,hx19⟩
 refine ⟨_,rfl,?_⟩;intro a20 F21;clear F17;have z22:=hx19.size
 refine F21.xw (.bool (!(decide (1≤f.many∧f.many≤4096)))) (fun F=>rn_not' (F.get rfl) rfl)<|fun _ F24=>?_;clear F21
 refine wpList_nil (hK13 _ _ ?_);clear hK13
 by_cases hc25:1≤f.many∧f.many≤4096
 ·skip
  refine F24.cf ?_
  refine wp_skip ?_
  refine hK12 _ _ ?_;clear hK12
  refine wp_seq_k fun K26 hK26=>?_
  refine wr fun K27 hK27=>?_
  refine F24.xv (.pointer (some ⟨g2,33,none⟩))<|fun _ F29=>?_;clear F24
  have b30:=(b4.ext hx19)
  refine F29.xw (vi f.no) (fun F=>rl F rfl ((b30.rule.1 33).trans ((at_app (k:=1) (byteVals_len hc.pub)).trans rfl)))<|Xv (.bool (decide ((f.no:Int)<(0:Int))))<|Xm rfl<|fun _ F36=>?_;clear F29
  by_cases hc37:(f.no:Int)<(0:Int)
  ·skip
   refine F36.xu<|Xu<|Xu<|Xv (.bool true)<|fun _ F45=>?_;clear F36
   refine wpList_nil (hK27 _ _ ?_);clear hK27
   have F46:=F45.k [0,1,2,13,21];clear F45
   refine F46.ct ?_
   refine wr fun K47 hK47=>?_
   refine F46.xv (vi 420)<|fun _ F49=>?_;clear F46
   refine wpList_nil (hK47 _ _ ?_);clear hK47
   refine wp_ret (ret_then ?_)
   refine ret1 F49 rfl rfl ?_
   have hm:=of_decide_eq_true (decide_eq_true hc25)
   exact ⟨ret_int (show checkFE f=420 from (if_neg (by omega)).trans (if_pos (by omega))).symm,(((Ext.refl w).trans hx5).trans hx19)⟩
  refine F36.xg (.pointer (some ⟨g2,33,none⟩))<|Xgw (vi f.no) (fun F=>rl F rfl ((b30.rule.1 33).trans ((at_app (k:=1) (byteVals_len hc.pub)).trans rfl)))<|Xg (.bool (decide ((4096:Int)<(f.no:Int))))<|Xv (.bool (decide ((4096:Int)<(f.no:Int))))<|fun _ F57=>?_;clear F36
  refine wpList_nil (hK27 _ _ ?_);clear hK27
  have F58:=F57.k [0,1,2,13,21];clear F57
  by_cases hc59:(4096:Int)<(f.no:Int)
  ·skip
   refine F58.ct ?_
   refine wr fun K60 hK60=>?_
   refine F58.xv (vi 420)<|fun _ F62=>?_;clear F58
   refine wpList_nil (hK60 _ _ ?_);clear hK60
   refine wp_ret (ret_then ?_)
   refine ret1 F62 rfl rfl ?_
   have hm:=of_decide_eq_true (decide_eq_true hc25)
   exact ⟨ret_int (show checkFE f=420 from (if_neg (by omega)).trans (if_pos (by omega))).symm,(((Ext.refl w).trans hx5).trans hx19)⟩
  refine F58.cf ?_
  refine wp_skip ?_
  refine hK26 _ _ ?_;clear hK26
  refine wp_seq_k fun K63 hK63=>?_
  refine wr fun K64 hK64=>?_
  refine F58.xv (.pointer (some ⟨g2,34,none⟩))<|Xw (vl FA f.items.length fa) (fun F=>rl F rfl ((b30.rule.1 34).trans ((at_app (k:=2) (byteVals_len hc.pub)).trans rfl)))<|fun _ F68=>?_;clear F58
  have d69:=(RLs.ext rIt (RLs.ext rIt hc.items hx5) hx19)
  refine F68.xc (pcheck_at (v:=(vl FA f.items.length fa)) f.items _ d69) ?_
  rintro _ w70 ⟨rfl,hx71⟩
  refine ⟨_,rfl,?_⟩;intro a72 F73;clear F68;have z74:=hx71.size
  refine F73.xa rfl<|fun _ F76=>?_;clear F73
  refine wpList_nil (hK64 _ _ ?_);clear hK64
  refine wr fun K77 hK77=>?_
  refine F76.xm rfl<|Xv (.bool (decide (((checkE f.items):Int)≠(0:Int))))<|fun _ F81=>?_;clear F76
  refine wpList_nil (hK77 _ _ ?_);clear hK77
  have F82:=F81.k [0,1,2,13,21,3,26];clear F81
  by_cases hc83:((checkE f.items):Int)≠(0:Int)
  ·skip
   refine F82.ct ?_
   refine wr fun K84 hK84=>?_
   refine F82.xm rfl<|Xa rfl<|fun _ F88=>?_;clear F82
   refine wpList_nil (hK84 _ _ ?_);clear hK84
   refine wp_ret (ret_then ?_)
   refine ret1 F88 rfl rfl ?_
   have hm:=of_decide_eq_true (decide_eq_true hc25)
   exact ⟨ret_int (show checkFE f=(checkE f.items) from (if_neg (by omega)).trans ((if_neg (by omega)).trans (if_pos (of_decide_eq_true (decide_eq_true hc83))))).symm,((((Ext.refl w).trans hx5).trans hx19).trans hx71)⟩
  refine F82.cf ?_
  refine wp_skip ?_
  refine hK63 _ _ ?_;clear hK63
  refine wp_seq_k fun K89 hK89=>?_
  refine wr fun K90 hK90=>?_
  refine F82.xv (.pointer (some ⟨g2,33,none⟩))<|fun _ F92=>?_;clear F82
  have b93:=(b30.ext hx71)
  refine F92.xw (vi f.no) (fun F=>rl F rfl ((b93.rule.1 33).trans ((at_app (k:=1) (byteVals_len hc.pub)).trans rfl)))<|Xv (.bool (decide ((f.no:Int)=(0:Int))))<|Xm rfl<|fun _ F99=>?_;clear F92
  by_cases hc100:(f.no:Int)=(0:Int)
  ·skip
   refine F99.xg (.pointer (some ⟨g2,34,none⟩))<|Xgw (vl FA f.items.length fa) (fun F=>rl F rfl ((b93.rule.1 34).trans ((at_app (k:=2) (byteVals_len hc.pub)).trans rfl)))<|Xg (vi (f.items.length:Nat))<|Xg (.bool (decide ((0:Int)<((f.items.length:Nat):Int))))<|Xv (.bool (decide ((0:Int)<((f.items.length:Nat):Int))))<|fun _ F110=>?_;clear F99
   refine wpList_nil (hK90 _ _ ?_);clear hK90
   have F111:=F110.k [0,1,2,13,21,3,26,36];clear F110
   by_cases hc112:(0:Int)<((f.items.length:Nat):Int)
   ·skip
    refine F111.ct ?_
    refine wr fun K113 hK113=>?_
    refine F111.xv (vi 400)<|fun _ F115=>?_;clear F111
    refine wpList_nil (hK113 _ _ ?_);clear hK113
    refine wp_ret (ret_then ?_)
    refine ret1 F115 rfl rfl ?_
    have hm:=of_decide_eq_true (decide_eq_true hc25)
    exact ⟨ret_int (show checkFE f=400 from (if_neg (by omega)).trans ((if_neg (by omega)).trans ((if_neg (of_decide_eq_false (decide_eq_false hc83))).trans (if_pos (by omega))))).symm,((((Ext.refl w).trans hx5).trans hx19).trans hx71)⟩
   refine F111.cf ?_
   refine wp_skip ?_
   refine hK89 _ _ ?_;clear hK89
   refine wp_seq_k fun K116 hK116=>?_
   refine wr fun K117 hK117=>?_
   refine F111.xv (.pointer (some ⟨g2,35,none⟩))<|Xw (vl FE f.early.length fe) (fun F=>rl F rfl ((b93.rule.1 35).trans ((at_app (k:=3) (byteVals_len hc.pub)).trans rfl)))<|Xv (vi (f.early.length:Nat))<|Xv (.bool (decide ((64:Int)<((f.early.length:Nat):Int))))<|fun _ F125=>?_;clear F111
   refine wpList_nil (hK117 _ _ ?_);clear hK117
   by_cases hc126:(64:Int)<((f.early.length:Nat):Int)
   ·skip
    refine F125.ct ?_
    refine wr fun K127 hK127=>?_
    refine F125.xv (vi 2)<|fun _ F129=>?_;clear F125
    refine wpList_nil (hK127 _ _ ?_);clear hK127
    refine wp_ret (ret_then ?_)
    refine ret1 F129 rfl rfl ?_
    have hm:=of_decide_eq_true (decide_eq_true hc25)
    exact ⟨ret_int (show checkFE f=2 from (if_neg (by omega)).trans ((if_neg (by omega)).trans ((if_neg (of_decide_eq_false (decide_eq_false hc83))).trans ((if_neg (by omega)).trans (if_pos (by omega)))))).symm,((((Ext.refl w).trans hx5).trans hx19).trans hx71)⟩
   refine F125.cf ?_
   refine wp_skip ?_
   refine hK116 _ _ ?_;clear hK116
   refine wr fun K130 hK130=>?_
   refine F125.xv (.pointer (some ⟨g2,33,none⟩))<|Xw (vi f.no) (fun F=>rl F rfl ((b93.rule.1 33).trans ((at_app (k:=1) (byteVals_len hc.pub)).trans rfl)))<|Xv (vi (f.no+1))<|Xa rfl<|fun _ F138=>?_;clear F125
   refine wpList_nil (hK130 _ _ ?_);clear hK130
   have F139:=F138.k [0,1,2,13,21,3,26,36,40,4];clear F138
   refine wp_seq_k fun K140 hK140=>?_
   refine wr fun K141 hK141=>?_
   refine F139.xv (.pointer (some ⟨g2,35,none⟩))<|Xw (vl FE f.early.length fe) (fun F=>rl F rfl ((b93.rule.1 35).trans ((at_app (k:=3) (byteVals_len hc.pub)).trans rfl)))<|Xv (vi (f.early.length:Nat))<|Xv (vi 0)<|fun _ F149=>?_;clear F139
   refine wpList_nil (hK141 _ _ ?_);clear hK141
   refine wp_block ?_
   refine wp_loop (fun a' W=>∃ (k:Nat) (la:Int),Sl 75 [(0,(ag (dg f.pub [(vi f.many),(vi f.no),(vl FA f.items.length fa),(vl FE f.early.length fe)]))),(1,(vp g2)),(2,(vi 0)),(13,(.bool (!(decide (1≤f.many∧f.many≤4096))))),(21,(.bool (decide ((4096:Int)<(f.no:Int))))),(3,(vi (checkE f.items))),(26,(.bool (decide (((checkE f.items):Int)≠(0:Int))))),(36,(.bool (decide ((0:Int)<((f.items.length:Nat):Int))))),(40,(.bool (decide ((64:Int)<((f.early.length:Nat):Int))))),(4,(vi la)),(45,(vl FE f.early.length fe)),(46,(vi (f.early.length:Nat))),(47,(vi (k:Nat)))] a'∧k≤f.early.length∧(∀ j,j<k→lastN (f.no+1) f.early j<(f.early.getD j default).no)∧la=lastN (f.no+1) f.early k∧Ext w W∧Blk W g2 41 (dg f.pub [(vi f.many),(vi f.no),(vl FA f.items.length fa),(vl FE f.early.length fe)])∧w70.heap.size≤W.heap.size) (fun a' _=>f.early.length - (intOf (a'.eval (.tmp 47))).toNat) ⟨0,(f.no+1),F149.j,(by omega),(fun j hj=>absurd hj (by omega)),rfl,((((Ext.refl w).trans hx5).trans hx19).trans hx71),b93,(Nat.le_refl _)⟩ ?_
   clear F149
   rintro a150 w151 ⟨k,la,F152,hp154,hp155,hp156,hx153,b157,hf158⟩
   have hL159:=F152
   have z160:=hx153.size
   have z161:=b157.lt
   refine wr fun K162 hK162=>?_
   refine F152.xv (.bool (decide (((k:Nat):Int)<((f.early.length:Nat):Int))))<|fun _ F164=>?_;clear F152
   refine wpList_nil (hK162 _ _ ?_);clear hK162
   refine wp_seq_k fun K165 hK165=>?_
   by_cases hc166:((k:Nat):Int)<((f.early.length:Nat):Int)
   ·skip
    refine F164.ct ?_
    refine wp_skip ?_
    refine hK165 _ _ ?_;clear hK165
    refine wp_seq_k fun K167 hK167=>?_
    refine wp_block ?_
    refine wr fun K168 hK168=>?_
    have d169:=(RLs.ext rVr hc.early hx153)
    obtain ⟨b170,o171,x172,cs173,hA174,hi175,hk176,hc177,hr178⟩:=RLs.get d169 (by omega:k<f.early.length)
    obtain ⟨v179,v180,v181,v182,rfl,hv183⟩:=hr178
    obtain ⟨A184,c185,rfl,z186,z187⟩:=RLs.form hv183.chs
    obtain ⟨A188,c189,rfl,z190,z191⟩:=Fl.form hv183.sg.op
    obtain ⟨A192,c193,rfl,z194,z195⟩:=Fl.form hv183.sg.cl
    obtain ⟨A196,c197,rfl,z198,z199⟩:=Fl.form hv183.sg.path
    refine F164.xw (.pointer (some ⟨b170,o171+k*38,none⟩)) (fun F=>rn_indexE Tryd.underlying36 inf30 ((F.get rfl).trans (by rw [hA174])) (F.get rfl) (by omega:(0:Int)≤(k:Nat)) (by omega:((k:Nat):Int)<((f.early.length:Nat):Int)) (by omega))<|Xw (ag ((vi x172.no)::dg x172.state [(vl A184 x172.chs.length c185),(vi x172.sg.index),(vl A188 x172.sg.op.length c189),(vl A192 x172.sg.cl.length c193),(vl A196 x172.sg.path.length c197)])) (fun F=>rn_loadN (cs:=((vi x172.no)::dg x172.state [(vl A184 x172.chs.length c185),(vi x172.sg.index),(vl A188 x172.sg.op.length c189),(vl A192 x172.sg.cl.length c193),(vl A196 x172.sg.path.length c197)])) (F.get rfl) Tryd.underlying30 rfl (sk inf30 (len_dig1 hv183.st)) hc177)<|fun _ F203=>?_;clear F164
    refine F203.xz vz 30 fun g204 w205 _ F211 z208 z209 b206 hx207=>?_;clear F203
    refine F211.xs rfl b206 (fun w212 b213 hg214=>?_) (hk:=len_dig1 hv183.st);have z215:=hg214.size
    refine wpList_nil (hK168 _ _ ?_);clear hK168
    refine wp_seq_k fun K216 hK216=>?_
    refine wr fun K217 hK217=>?_
    refine F211.xv (vp g204)<|Xw (vi x172.no) (fun F=>rl F rfl ((b213.rule.1 0).trans rfl))<|Xm rfl<|Xv (.bool (decide ((x172.no:Int)≤(la:Int))))<|fun _ F225=>?_;clear F211
    refine wpList_nil (hK217 _ _ ?_);clear hK217
    have F226:=F225.k [0,1,2,13,21,3,26,36,40,4,45,46,47,48,6,54];clear F225
    by_cases hc227:(x172.no:Int)≤(la:Int)
    ·skip
     refine F226.ct ?_
     refine wr fun K228 hK228=>?_
     refine F226.xv (vi 420)<|fun _ F230=>?_;clear F226
     refine wpList_nil (hK228 _ _ ?_);clear hK228
     refine wp_ret (ret_then ?_)
     refine ret_block ?_
     refine ret_then ?_
     refine ret_then ?_
     refine ret_block ?_
     refine ret_then ?_
     refine ret1 F230 rfl rfl ?_
     have hm:=of_decide_eq_true (decide_eq_true hc25)
     exact ⟨ret_int (show checkFE f=420 from (if_neg (by omega)).trans ((if_neg (by omega)).trans ((if_neg (of_decide_eq_false (decide_eq_false hc83))).trans ((if_neg (by omega)).trans ((if_neg (by omega)).trans (if_pos (asc_no hi175 (by omega)))))))).symm,((((Ext.refl w).trans hx153).trans hx207).gn hg214)⟩
    refine F226.cf ?_
    refine wp_skip ?_
    refine hK216 _ _ ?_;clear hK216
    refine wp_region_lit ?_
    refine F226.xv (vp g204)<|Xw (vi x172.no) (fun F=>rl F rfl ((b213.rule.1 0).trans rfl))<|Xa rfl<|fun _ F236=>?_;clear F226
    refine wpList_nil (hK167 _ _ ?_);clear hK167
    refine wp_region_lit ?_
    refine F236.xv (vi (k+1:Nat))<|Xm rfl<|fun _ F240=>?_;clear F236
    refine wpList_nil ?_
    have b241:=((b157.ext hx207).gn hg214)
    refine ⟨⟨(k+1),x172.no,F240.j,(by omega),(all_succ hp155 (asc_step hi175 (by omega))),(lastN_succ hi175),((((Ext.refl w).trans hx153).trans hx207).gn hg214),b241,(by omega)⟩,?_⟩
    rw [F240.get (t:=47) rfl,hL159.get (t:=47) rfl];simp [intOf] <;> omega
   refine F164.cf ?_
   refine wp_exit ?_
   refine exit_then ?_
   refine exit_then ?_
   refine exit_here ?_
   refine hK140 _ _ ?_;clear hK140
   refine wp_seq_k fun K242 hK242=>?_
   refine wr fun K243 hK243=>?_
   refine F164.xv (.pointer (some ⟨g2,35,none⟩))<|Xw (vl FE f.early.length fe) (fun F=>rl F rfl ((b157.rule.1 35).trans ((at_app (k:=3) (byteVals_len hc.pub)).trans rfl)))<|Xv (vi (f.early.length:Nat))<|Xv (vi 0)<|fun _ F251=>?_;clear F164
   refine wpList_nil (hK243 _ _ ?_);clear hK243
   refine wp_block ?_
   refine wp_loop (fun a' W=>∃ (j:Nat),Sl 75 [(0,(ag (dg f.pub [(vi f.many),(vi f.no),(vl FA f.items.length fa),(vl FE f.early.length fe)]))),(1,(vp g2)),(2,(vi 0)),(13,(.bool (!(decide (1≤f.many∧f.many≤4096))))),(21,(.bool (decide ((4096:Int)<(f.no:Int))))),(3,(vi (checkE f.items))),(26,(.bool (decide (((checkE f.items):Int)≠(0:Int))))),(36,(.bool (decide ((0:Int)<((f.items.length:Nat):Int))))),(40,(.bool (decide ((64:Int)<((f.early.length:Nat):Int))))),(4,(vi la)),(45,(vl FE f.early.length fe)),(46,(vi (f.early.length:Nat))),(47,(vi (k:Nat))),(48,(.bool (decide (((k:Nat):Int)<((f.early.length:Nat):Int))))),(59,(vl FE f.early.length fe)),(60,(vi (f.early.length:Nat))),(61,(vi (j:Nat)))] a'∧j≤f.early.length∧(∀ i,i<j→∀ x,f.early[i]?=some x→verifyE f.pub f.many x=0)∧Ext w W∧Blk W g2 41 (dg f.pub [(vi f.many),(vi f.no),(vl FA f.items.length fa),(vl FE f.early.length fe)])∧w151.heap.size≤W.heap.size) (fun a' _=>f.early.length - (intOf (a'.eval (.tmp 61))).toNat) ⟨0,F251.j,(by omega),(fun i hi=>absurd hi (by omega)),((Ext.refl w).trans hx153),b157,(Nat.le_refl _)⟩ ?_
   clear F251
   rintro a252 w253 ⟨j,F254,hp256,hp257,hx255,b258,hf259⟩
   have hL260:=F254
   have z261:=hx255.size
   have z262:=b258.lt
   refine wr fun K263 hK263=>?_
   refine F254.xv (.bool (decide (((j:Nat):Int)<((f.early.length:Nat):Int))))<|fun _ F265=>?_;clear F254
   refine wpList_nil (hK263 _ _ ?_);clear hK263
   refine wp_seq_k fun K266 hK266=>?_
   by_cases hc267:((j:Nat):Int)<((f.early.length:Nat):Int)
   ·skip
    refine F265.ct ?_
    refine wp_skip ?_
    refine hK266 _ _ ?_;clear hK266
    refine wp_seq_k fun K268 hK268=>?_
    refine wp_block ?_
    refine wr fun K269 hK269=>?_
    have d270:=(RLs.ext rVr hc.early hx255)
    obtain ⟨b271,o272,x273,cs274,hA275,hi276,hk277,hc278,hr279⟩:=RLs.get d270 (by omega:j<f.early.length)
    obtain ⟨v280,v281,v282,v283,rfl,hv284⟩:=hr279
    obtain ⟨A285,c286,rfl,z287,z288⟩:=RLs.form hv284.chs
    obtain ⟨A289,c290,rfl,z291,z292⟩:=Fl.form hv284.sg.op
    obtain ⟨A293,c294,rfl,z295,z296⟩:=Fl.form hv284.sg.cl
    obtain ⟨A297,c298,rfl,z299,z300⟩:=Fl.form hv284.sg.path
    refine F265.xw (.pointer (some ⟨b271,o272+j*38,none⟩)) (fun F=>rn_indexE Tryd.underlying36 inf30 ((F.get rfl).trans (by rw [hA275])) (F.get rfl) (by omega:(0:Int)≤(j:Nat)) (by omega:((j:Nat):Int)<((f.early.length:Nat):Int)) (by omega))<|Xw (ag ((vi x273.no)::dg x273.state [(vl A285 x273.chs.length c286),(vi x273.sg.index),(vl A289 x273.sg.op.length c290),(vl A293 x273.sg.cl.length c294),(vl A297 x273.sg.path.length c298)])) (fun F=>rn_loadN (cs:=((vi x273.no)::dg x273.state [(vl A285 x273.chs.length c286),(vi x273.sg.index),(vl A289 x273.sg.op.length c290),(vl A293 x273.sg.cl.length c294),(vl A297 x273.sg.path.length c298)])) (F.get rfl) Tryd.underlying30 rfl (sk inf30 (len_dig1 hv284.st)) hc278)<|fun _ F304=>?_;clear F265
    refine F304.xz vz 30 fun g305 w306 _ F312 z309 z310 b307 hx308=>?_;clear F304
    refine F312.xs rfl b307 (fun w313 b314 hg315=>?_) (hk:=len_dig1 hv284.st);have z316:=hg315.size
    refine wpList_nil (hK269 _ _ ?_);clear hK269
    refine wr fun K317 hK317=>?_
    refine F312.xv (vp g2)<|fun _ F319=>?_;clear F312
    have b320:=((b258.ext hx308).gn hg315)
    refine F319.xw (.agg (byteVals f.pub).toArray) (fun F=>rn_loadN (cs:=byteVals f.pub) (F.get rfl) Tryd.underlying24 rfl (sk inf24 (byteVals_len hc.pub)) (Blk.part (A:=[]) (M:=byteVals f.pub) (B:=[(vi f.many),(vi f.no),(vl FA f.items.length fa),(vl FE f.early.length fe)]) b320 (by simp) rfl))<|Xv (.pointer (some ⟨g2,32,none⟩))<|Xw (vi f.many) (fun F=>rl F rfl ((b320.rule.1 32).trans ((at_app (k:=0) (byteVals_len hc.pub)).trans rfl)))<|Xw (ag ((vi x273.no)::dg x273.state [(vl A285 x273.chs.length c286),(vi x273.sg.index),(vl A289 x273.sg.op.length c290),(vl A293 x273.sg.cl.length c294),(vl A297 x273.sg.path.length c298)])) (fun F=>rb F rfl b314 (hk:=len_dig1 hv284.st))<|fun _ F328=>?_;clear F319
    have d329:=(RLs.pres rCg hv284.chs (((Pres.refl w253).ext hx308).gc hg315))
    have d330:=(hv284.sg.op.pres (((Pres.refl w253).ext hx308).gc hg315))
    have d331:=(hv284.sg.cl.pres (((Pres.refl w253).ext hx308).gc hg315))
    have d332:=(hv284.sg.path.pres (((Pres.refl w253).ext hx308).gc hg315))
    refine F328.xc (verifyv_at f.pub f.many x273 _ (⟨hv284.st,RLs.sub (S':=fun _=>True) rCg d329 fun _ _=>trivial,⟨Fl.any d330,Fl.any d331,Fl.any d332,hv284.sg.o32,hv284.sg.c32,hv284.sg.p32⟩⟩:RVp (fun _=>True) _ _ _ _ _ x273) hc.pub (hde x273 (List.mem_of_getElem? hi276)) (hG.ext ((((Ext.refl w).trans hx255).trans hx308).gn hg315))) ?_
    rintro _ w333 ⟨rfl,hx334⟩
    refine ⟨_,rfl,?_⟩;intro a335 F336;clear F328;have z337:=hx334.size
    refine F336.xa rfl<|fun _ F339=>?_;clear F336
    refine wpList_nil (hK317 _ _ ?_);clear hK317
    have F340:=F339.k [0,1,2,13,21,3,26,36,40,4,45,46,47,48,59,60,61,62,8,9];clear F339
    refine wr fun K341 hK341=>?_
    refine F340.xm rfl<|Xv (.bool (decide (((verifyE f.pub f.many x273):Int)≠(0:Int))))<|fun _ F345=>?_;clear F340
    refine wpList_nil (hK341 _ _ ?_);clear hK341
    by_cases hc346:((verifyE f.pub f.many x273):Int)≠(0:Int)
    ·skip
     refine F345.ct ?_
     refine wr fun K347 hK347=>?_
     refine F345.xm rfl<|Xa rfl<|fun _ F351=>?_;clear F345
     refine wpList_nil (hK347 _ _ ?_);clear hK347
     refine wp_ret ?_
     refine ret_block ?_
     refine ret_then ?_
     refine ret_then ?_
     refine ret_block ?_
     refine ret_then ?_
     refine ret1 F351 rfl rfl ?_
     have hm:=of_decide_eq_true (decide_eq_true hc25)
     exact ⟨ret_int (show checkFE f=(verifyE f.pub f.many x273) from (if_neg (by omega)).trans ((if_neg (by omega)).trans ((if_neg (of_decide_eq_false (decide_eq_false hc83))).trans ((if_neg (by omega)).trans ((if_neg (by omega)).trans ((if_neg (fun q=>q (asc_of hp155 (by omega)))).trans (first_at hp257 hi276 (by omega)))))))).symm,(((((Ext.refl w).trans hx255).trans hx308).gn hg315).trans hx334)⟩
    refine F345.cf ?_
    refine wp_skip ?_
    refine hK268 _ _ ?_;clear hK268
    refine wp_region_lit ?_
    refine F345.xv (vi (j+1:Nat))<|Xm rfl<|fun _ F355=>?_;clear F345
    refine wpList_nil ?_
    have b356:=(b320.ext hx334)
    refine ⟨⟨(j+1),F355.j,(by omega),(all_succ hp257 (fun y hy=>by rw [hi276] at hy;injection hy with hy;subst hy;omega)),(((((Ext.refl w).trans hx255).trans hx308).gn hg315).trans hx334),b356,(by omega)⟩,?_⟩
    rw [F355.get (t:=61) rfl,hL260.get (t:=61) rfl];simp [intOf] <;> omega
   refine F265.cf ?_
   refine wp_exit ?_
   refine exit_then ?_
   refine exit_then ?_
   refine exit_here ?_
   refine hK242 _ _ ?_;clear hK242
   refine wr fun K357 hK357=>?_
   refine F265.xv (vi 0)<|fun _ F359=>?_;clear F265
   refine wpList_nil (hK357 _ _ ?_);clear hK357
   refine wp_ret ?_
   refine ret1 F359 rfl rfl ?_
   have hm:=of_decide_eq_true (decide_eq_true hc25)
   exact ⟨ret_int (show checkFE f=0 from (if_neg (by omega)).trans ((if_neg (by omega)).trans ((if_neg (of_decide_eq_false (decide_eq_false hc83))).trans ((if_neg (by omega)).trans ((if_neg (by omega)).trans ((if_neg (fun q=>q (asc_of hp155 (by omega)))).trans (first_all hp257 (by omega)))))))).symm,((Ext.refl w).trans hx255)⟩
  refine F99.xu<|Xu<|Xu<|Xu<|Xv (.bool false)<|fun _ F369=>?_;clear F99
  refine wpList_nil (hK90 _ _ ?_);clear hK90
  have F370:=F369.k [0,1,2,13,21,3,26,36];clear F369
  refine F370.cf ?_
  refine wp_skip ?_
  refine hK89 _ _ ?_;clear hK89
  refine wp_seq_k fun K371 hK371=>?_
  refine wr fun K372 hK372=>?_
  refine F370.xv (.pointer (some ⟨g2,35,none⟩))<|Xw (vl FE f.early.length fe) (fun F=>rl F rfl ((b93.rule.1 35).trans ((at_app (k:=3) (byteVals_len hc.pub)).trans rfl)))<|Xv (vi (f.early.length:Nat))<|Xv (.bool (decide ((64:Int)<((f.early.length:Nat):Int))))<|fun _ F380=>?_;clear F370
  refine wpList_nil (hK372 _ _ ?_);clear hK372
  by_cases hc381:(64:Int)<((f.early.length:Nat):Int)
  ·skip
   refine F380.ct ?_
   refine wr fun K382 hK382=>?_
   refine F380.xv (vi 2)<|fun _ F384=>?_;clear F380
   refine wpList_nil (hK382 _ _ ?_);clear hK382
   refine wp_ret (ret_then ?_)
   refine ret1 F384 rfl rfl ?_
   have hm:=of_decide_eq_true (decide_eq_true hc25)
   exact ⟨ret_int (show checkFE f=2 from (if_neg (by omega)).trans ((if_neg (by omega)).trans ((if_neg (of_decide_eq_false (decide_eq_false hc83))).trans ((if_neg (by omega)).trans (if_pos (by omega)))))).symm,((((Ext.refl w).trans hx5).trans hx19).trans hx71)⟩
  refine F380.cf ?_
  refine wp_skip ?_
  refine hK371 _ _ ?_;clear hK371
  refine wr fun K385 hK385=>?_
  refine F380.xv (.pointer (some ⟨g2,33,none⟩))<|Xw (vi f.no) (fun F=>rl F rfl ((b93.rule.1 33).trans ((at_app (k:=1) (byteVals_len hc.pub)).trans rfl)))<|Xv (vi (f.no+1))<|Xa rfl<|fun _ F393=>?_;clear F380
  refine wpList_nil (hK385 _ _ ?_);clear hK385
  have F394:=F393.k [0,1,2,13,21,3,26,36,40,4];clear F393
  refine wp_seq_k fun K395 hK395=>?_
  refine wr fun K396 hK396=>?_
  refine F394.xv (.pointer (some ⟨g2,35,none⟩))<|Xw (vl FE f.early.length fe) (fun F=>rl F rfl ((b93.rule.1 35).trans ((at_app (k:=3) (byteVals_len hc.pub)).trans rfl)))<|Xv (vi (f.early.length:Nat))<|Xv (vi 0)<|fun _ F404=>?_;clear F394
  refine wpList_nil (hK396 _ _ ?_);clear hK396
  refine wp_block ?_
  refine wp_loop (fun a' W=>∃ (k:Nat) (la:Int),Sl 75 [(0,(ag (dg f.pub [(vi f.many),(vi f.no),(vl FA f.items.length fa),(vl FE f.early.length fe)]))),(1,(vp g2)),(2,(vi 0)),(13,(.bool (!(decide (1≤f.many∧f.many≤4096))))),(21,(.bool (decide ((4096:Int)<(f.no:Int))))),(3,(vi (checkE f.items))),(26,(.bool (decide (((checkE f.items):Int)≠(0:Int))))),(36,(.bool false)),(40,(.bool (decide ((64:Int)<((f.early.length:Nat):Int))))),(4,(vi la)),(45,(vl FE f.early.length fe)),(46,(vi (f.early.length:Nat))),(47,(vi (k:Nat)))] a'∧k≤f.early.length∧(∀ j,j<k→lastN (f.no+1) f.early j<(f.early.getD j default).no)∧la=lastN (f.no+1) f.early k∧Ext w W∧Blk W g2 41 (dg f.pub [(vi f.many),(vi f.no),(vl FA f.items.length fa),(vl FE f.early.length fe)])∧w70.heap.size≤W.heap.size) (fun a' _=>f.early.length - (intOf (a'.eval (.tmp 47))).toNat) ⟨0,(f.no+1),F404.j,(by omega),(fun j hj=>absurd hj (by omega)),rfl,((((Ext.refl w).trans hx5).trans hx19).trans hx71),b93,(Nat.le_refl _)⟩ ?_
  clear F404
  rintro a405 w406 ⟨k,la,F407,hp409,hp410,hp411,hx408,b412,hf413⟩
  have hL414:=F407
  have z415:=hx408.size
  have z416:=b412.lt
  refine wr fun K417 hK417=>?_
  refine F407.xv (.bool (decide (((k:Nat):Int)<((f.early.length:Nat):Int))))<|fun _ F419=>?_;clear F407
  refine wpList_nil (hK417 _ _ ?_);clear hK417
  refine wp_seq_k fun K420 hK420=>?_
  by_cases hc421:((k:Nat):Int)<((f.early.length:Nat):Int)
  ·skip
   refine F419.ct ?_
   refine wp_skip ?_
   refine hK420 _ _ ?_;clear hK420
   refine wp_seq_k fun K422 hK422=>?_
   refine wp_block ?_
   refine wr fun K423 hK423=>?_
   have d424:=(RLs.ext rVr hc.early hx408)
   obtain ⟨b425,o426,x427,cs428,hA429,hi430,hk431,hc432,hr433⟩:=RLs.get d424 (by omega:k<f.early.length)
   obtain ⟨v434,v435,v436,v437,rfl,hv438⟩:=hr433
   obtain ⟨A439,c440,rfl,z441,z442⟩:=RLs.form hv438.chs
   obtain ⟨A443,c444,rfl,z445,z446⟩:=Fl.form hv438.sg.op
   obtain ⟨A447,c448,rfl,z449,z450⟩:=Fl.form hv438.sg.cl
   obtain ⟨A451,c452,rfl,z453,z454⟩:=Fl.form hv438.sg.path
   refine F419.xw (.pointer (some ⟨b425,o426+k*38,none⟩)) (fun F=>rn_indexE Tryd.underlying36 inf30 ((F.get rfl).trans (by rw [hA429])) (F.get rfl) (by omega:(0:Int)≤(k:Nat)) (by omega:((k:Nat):Int)<((f.early.length:Nat):Int)) (by omega))<|Xw (ag ((vi x427.no)::dg x427.state [(vl A439 x427.chs.length c440),(vi x427.sg.index),(vl A443 x427.sg.op.length c444),(vl A447 x427.sg.cl.length c448),(vl A451 x427.sg.path.length c452)])) (fun F=>rn_loadN (cs:=((vi x427.no)::dg x427.state [(vl A439 x427.chs.length c440),(vi x427.sg.index),(vl A443 x427.sg.op.length c444),(vl A447 x427.sg.cl.length c448),(vl A451 x427.sg.path.length c452)])) (F.get rfl) Tryd.underlying30 rfl (sk inf30 (len_dig1 hv438.st)) hc432)<|fun _ F458=>?_;clear F419
   refine F458.xz vz 30 fun g459 w460 _ F466 z463 z464 b461 hx462=>?_;clear F458
   refine F466.xs rfl b461 (fun w467 b468 hg469=>?_) (hk:=len_dig1 hv438.st);have z470:=hg469.size
   refine wpList_nil (hK423 _ _ ?_);clear hK423
   refine wp_seq_k fun K471 hK471=>?_
   refine wr fun K472 hK472=>?_
   refine F466.xv (vp g459)<|Xw (vi x427.no) (fun F=>rl F rfl ((b468.rule.1 0).trans rfl))<|Xm rfl<|Xv (.bool (decide ((x427.no:Int)≤(la:Int))))<|fun _ F480=>?_;clear F466
   refine wpList_nil (hK472 _ _ ?_);clear hK472
   have F481:=F480.k [0,1,2,13,21,3,26,36,40,4,45,46,47,48,6,54];clear F480
   by_cases hc482:(x427.no:Int)≤(la:Int)
   ·skip
    refine F481.ct ?_
    refine wr fun K483 hK483=>?_
    refine F481.xv (vi 420)<|fun _ F485=>?_;clear F481
    refine wpList_nil (hK483 _ _ ?_);clear hK483
    refine wp_ret (ret_then ?_)
    refine ret_block ?_
    refine ret_then ?_
    refine ret_then ?_
    refine ret_block ?_
    refine ret_then ?_
    refine ret1 F485 rfl rfl ?_
    have hm:=of_decide_eq_true (decide_eq_true hc25)
    exact ⟨ret_int (show checkFE f=420 from (if_neg (by omega)).trans ((if_neg (by omega)).trans ((if_neg (of_decide_eq_false (decide_eq_false hc83))).trans ((if_neg (by omega)).trans ((if_neg (by omega)).trans (if_pos (asc_no hi430 (by omega)))))))).symm,((((Ext.refl w).trans hx408).trans hx462).gn hg469)⟩
   refine F481.cf ?_
   refine wp_skip ?_
   refine hK471 _ _ ?_;clear hK471
   refine wp_region_lit ?_
   refine F481.xv (vp g459)<|Xw (vi x427.no) (fun F=>rl F rfl ((b468.rule.1 0).trans rfl))<|Xa rfl<|fun _ F491=>?_;clear F481
   refine wpList_nil (hK422 _ _ ?_);clear hK422
   refine wp_region_lit ?_
   refine F491.xv (vi (k+1:Nat))<|Xm rfl<|fun _ F495=>?_;clear F491
   refine wpList_nil ?_
   have b496:=((b412.ext hx462).gn hg469)
   refine ⟨⟨(k+1),x427.no,F495.j,(by omega),(all_succ hp410 (asc_step hi430 (by omega))),(lastN_succ hi430),((((Ext.refl w).trans hx408).trans hx462).gn hg469),b496,(by omega)⟩,?_⟩
   rw [F495.get (t:=47) rfl,hL414.get (t:=47) rfl];simp [intOf] <;> omega
  refine F419.cf ?_
  refine wp_exit ?_
  refine exit_then ?_
  refine exit_then ?_
  refine exit_here ?_
  refine hK395 _ _ ?_;clear hK395
  refine wp_seq_k fun K497 hK497=>?_
  refine wr fun K498 hK498=>?_
  refine F419.xv (.pointer (some ⟨g2,35,none⟩))<|Xw (vl FE f.early.length fe) (fun F=>rl F rfl ((b412.rule.1 35).trans ((at_app (k:=3) (byteVals_len hc.pub)).trans rfl)))<|Xv (vi (f.early.length:Nat))<|Xv (vi 0)<|fun _ F506=>?_;clear F419
  refine wpList_nil (hK498 _ _ ?_);clear hK498
  refine wp_block ?_
  refine wp_loop (fun a' W=>∃ (j:Nat),Sl 75 [(0,(ag (dg f.pub [(vi f.many),(vi f.no),(vl FA f.items.length fa),(vl FE f.early.length fe)]))),(1,(vp g2)),(2,(vi 0)),(13,(.bool (!(decide (1≤f.many∧f.many≤4096))))),(21,(.bool (decide ((4096:Int)<(f.no:Int))))),(3,(vi (checkE f.items))),(26,(.bool (decide (((checkE f.items):Int)≠(0:Int))))),(36,(.bool false)),(40,(.bool (decide ((64:Int)<((f.early.length:Nat):Int))))),(4,(vi la)),(45,(vl FE f.early.length fe)),(46,(vi (f.early.length:Nat))),(47,(vi (k:Nat))),(48,(.bool (decide (((k:Nat):Int)<((f.early.length:Nat):Int))))),(59,(vl FE f.early.length fe)),(60,(vi (f.early.length:Nat))),(61,(vi (j:Nat)))] a'∧j≤f.early.length∧(∀ i,i<j→∀ x,f.early[i]?=some x→verifyE f.pub f.many x=0)∧Ext w W∧Blk W g2 41 (dg f.pub [(vi f.many),(vi f.no),(vl FA f.items.length fa),(vl FE f.early.length fe)])∧w406.heap.size≤W.heap.size) (fun a' _=>f.early.length - (intOf (a'.eval (.tmp 61))).toNat) ⟨0,F506.j,(by omega),(fun i hi=>absurd hi (by omega)),((Ext.refl w).trans hx408),b412,(Nat.le_refl _)⟩ ?_
  clear F506
  rintro a507 w508 ⟨j,F509,hp511,hp512,hx510,b513,hf514⟩
  have hL515:=F509
  have z516:=hx510.size
  have z517:=b513.lt
  refine wr fun K518 hK518=>?_
  refine F509.xv (.bool (decide (((j:Nat):Int)<((f.early.length:Nat):Int))))<|fun _ F520=>?_;clear F509
  refine wpList_nil (hK518 _ _ ?_);clear hK518
  refine wp_seq_k fun K521 hK521=>?_
  by_cases hc522:((j:Nat):Int)<((f.early.length:Nat):Int)
  ·skip
   refine F520.ct ?_
   refine wp_skip ?_
   refine hK521 _ _ ?_;clear hK521
   refine wp_seq_k fun K523 hK523=>?_
   refine wp_block ?_
   refine wr fun K524 hK524=>?_
   have d525:=(RLs.ext rVr hc.early hx510)
   obtain ⟨b526,o527,x528,cs529,hA530,hi531,hk532,hc533,hr534⟩:=RLs.get d525 (by omega:j<f.early.length)
   obtain ⟨v535,v536,v537,v538,rfl,hv539⟩:=hr534
   obtain ⟨A540,c541,rfl,z542,z543⟩:=RLs.form hv539.chs
   obtain ⟨A544,c545,rfl,z546,z547⟩:=Fl.form hv539.sg.op
   obtain ⟨A548,c549,rfl,z550,z551⟩:=Fl.form hv539.sg.cl
   obtain ⟨A552,c553,rfl,z554,z555⟩:=Fl.form hv539.sg.path
   refine F520.xw (.pointer (some ⟨b526,o527+j*38,none⟩)) (fun F=>rn_indexE Tryd.underlying36 inf30 ((F.get rfl).trans (by rw [hA530])) (F.get rfl) (by omega:(0:Int)≤(j:Nat)) (by omega:((j:Nat):Int)<((f.early.length:Nat):Int)) (by omega))<|Xw (ag ((vi x528.no)::dg x528.state [(vl A540 x528.chs.length c541),(vi x528.sg.index),(vl A544 x528.sg.op.length c545),(vl A548 x528.sg.cl.length c549),(vl A552 x528.sg.path.length c553)])) (fun F=>rn_loadN (cs:=((vi x528.no)::dg x528.state [(vl A540 x528.chs.length c541),(vi x528.sg.index),(vl A544 x528.sg.op.length c545),(vl A548 x528.sg.cl.length c549),(vl A552 x528.sg.path.length c553)])) (F.get rfl) Tryd.underlying30 rfl (sk inf30 (len_dig1 hv539.st)) hc533)<|fun _ F559=>?_;clear F520
   refine F559.xz vz 30 fun g560 w561 _ F567 z564 z565 b562 hx563=>?_;clear F559
   refine F567.xs rfl b562 (fun w568 b569 hg570=>?_) (hk:=len_dig1 hv539.st);have z571:=hg570.size
   refine wpList_nil (hK524 _ _ ?_);clear hK524
   refine wr fun K572 hK572=>?_
   refine F567.xv (vp g2)<|fun _ F574=>?_;clear F567
   have b575:=((b513.ext hx563).gn hg570)
   refine F574.xw (.agg (byteVals f.pub).toArray) (fun F=>rn_loadN (cs:=byteVals f.pub) (F.get rfl) Tryd.underlying24 rfl (sk inf24 (byteVals_len hc.pub)) (Blk.part (A:=[]) (M:=byteVals f.pub) (B:=[(vi f.many),(vi f.no),(vl FA f.items.length fa),(vl FE f.early.length fe)]) b575 (by simp) rfl))<|Xv (.pointer (some ⟨g2,32,none⟩))<|Xw (vi f.many) (fun F=>rl F rfl ((b575.rule.1 32).trans ((at_app (k:=0) (byteVals_len hc.pub)).trans rfl)))<|Xw (ag ((vi x528.no)::dg x528.state [(vl A540 x528.chs.length c541),(vi x528.sg.index),(vl A544 x528.sg.op.length c545),(vl A548 x528.sg.cl.length c549),(vl A552 x528.sg.path.length c553)])) (fun F=>rb F rfl b569 (hk:=len_dig1 hv539.st))<|fun _ F583=>?_;clear F574
   have d584:=(RLs.pres rCg hv539.chs (((Pres.refl w508).ext hx563).gc hg570))
   have d585:=(hv539.sg.op.pres (((Pres.refl w508).ext hx563).gc hg570))
   have d586:=(hv539.sg.cl.pres (((Pres.refl w508).ext hx563).gc hg570))
   have d587:=(hv539.sg.path.pres (((Pres.refl w508).ext hx563).gc hg570))
   refine F583.xc (verifyv_at f.pub f.many x528 _ (⟨hv539.st,RLs.sub (S':=fun _=>True) rCg d584 fun _ _=>trivial,⟨Fl.any d585,Fl.any d586,Fl.any d587,hv539.sg.o32,hv539.sg.c32,hv539.sg.p32⟩⟩:RVp (fun _=>True) _ _ _ _ _ x528) hc.pub (hde x528 (List.mem_of_getElem? hi531)) (hG.ext ((((Ext.refl w).trans hx510).trans hx563).gn hg570))) ?_
   rintro _ w588 ⟨rfl,hx589⟩
   refine ⟨_,rfl,?_⟩;intro a590 F591;clear F583;have z592:=hx589.size
   refine F591.xa rfl<|fun _ F594=>?_;clear F591
   refine wpList_nil (hK572 _ _ ?_);clear hK572
   have F595:=F594.k [0,1,2,13,21,3,26,36,40,4,45,46,47,48,59,60,61,62,8,9];clear F594
   refine wr fun K596 hK596=>?_
   refine F595.xm rfl<|Xv (.bool (decide (((verifyE f.pub f.many x528):Int)≠(0:Int))))<|fun _ F600=>?_;clear F595
   refine wpList_nil (hK596 _ _ ?_);clear hK596
   by_cases hc601:((verifyE f.pub f.many x528):Int)≠(0:Int)
   ·skip
    refine F600.ct ?_
    refine wr fun K602 hK602=>?_
    refine F600.xm rfl<|Xa rfl<|fun _ F606=>?_;clear F600
    refine wpList_nil (hK602 _ _ ?_);clear hK602
    refine wp_ret ?_
    refine ret_block ?_
    refine ret_then ?_
    refine ret_then ?_
    refine ret_block ?_
    refine ret_then ?_
    refine ret1 F606 rfl rfl ?_
    have hm:=of_decide_eq_true (decide_eq_true hc25)
    exact ⟨ret_int (show checkFE f=(verifyE f.pub f.many x528) from (if_neg (by omega)).trans ((if_neg (by omega)).trans ((if_neg (of_decide_eq_false (decide_eq_false hc83))).trans ((if_neg (by omega)).trans ((if_neg (by omega)).trans ((if_neg (fun q=>q (asc_of hp410 (by omega)))).trans (first_at hp512 hi531 (by omega)))))))).symm,(((((Ext.refl w).trans hx510).trans hx563).gn hg570).trans hx589)⟩
   refine F600.cf ?_
   refine wp_skip ?_
   refine hK523 _ _ ?_;clear hK523
   refine wp_region_lit ?_
   refine F600.xv (vi (j+1:Nat))<|Xm rfl<|fun _ F610=>?_;clear F600
   refine wpList_nil ?_
   have b611:=(b575.ext hx589)
   refine ⟨⟨(j+1),F610.j,(by omega),(all_succ hp512 (fun y hy=>by rw [hi531] at hy;injection hy with hy;subst hy;omega)),(((((Ext.refl w).trans hx510).trans hx563).gn hg570).trans hx589),b611,(by omega)⟩,?_⟩
   rw [F610.get (t:=61) rfl,hL515.get (t:=61) rfl];simp [intOf] <;> omega
  refine F520.cf ?_
  refine wp_exit ?_
  refine exit_then ?_
  refine exit_then ?_
  refine exit_here ?_
  refine hK497 _ _ ?_;clear hK497
  refine wr fun K612 hK612=>?_
  refine F520.xv (vi 0)<|fun _ F614=>?_;clear F520
  refine wpList_nil (hK612 _ _ ?_);clear hK612
  refine wp_ret ?_
  refine ret1 F614 rfl rfl ?_
  have hm:=of_decide_eq_true (decide_eq_true hc25)
  exact ⟨ret_int (show checkFE f=0 from (if_neg (by omega)).trans ((if_neg (by omega)).trans ((if_neg (of_decide_eq_false (decide_eq_false hc83))).trans ((if_neg (by omega)).trans ((if_neg (by omega)).trans ((if_neg (fun q=>q (asc_of hp410 (by omega)))).trans (first_all hp512 (by omega)))))))).symm,((Ext.refl w).trans hx510)⟩
 refine F24.ct ?_
 refine wr fun K615 hK615=>?_
 refine F24.xv (vi 40)<|fun _ F617=>?_;clear F24
 refine wpList_nil (hK615 _ _ ?_);clear hK615
 refine wp_ret (ret_then ?_)
 refine ret1 F617 rfl rfl ?_
 have hm:=of_decide_eq_false (decide_eq_false hc25)
 exact ⟨ret_int (show checkFE f=40 from if_pos (by omega)).symm,(((Ext.refl w).trans hx5).trans hx19)⟩

theorem fcheck_at {c e:Value} (f:Fo) (w:World) (h:RFo S w c e f) (hdi:∀ x∈f.items,x.data.length≤4294967296) (hde:∀ v∈f.early,∀ x∈v.chs,x.data.length≤4294967296) (hG:Glob w) :
  Calls Tryd.prog 19 #[ag (fcs f.pub f.many f.no c e)] w (fun e w'=>e=.returned (vi (checkFE f))∧Ext w w'):=by
 obtain ⟨FA,fa,rfl,_⟩:=RLs.form h.items
 obtain ⟨FE,fe,rfl,_⟩:=RLs.form h.early
 exact fcheck_any FA fa FE fe f w h hdi hde hG

end Go.Proofs.YtihgmaoghbnnaaaDoor

namespace Go.Proofs.YtihgmaoghbnnaaaDoor
open Go.RowKit

variable {S S':Nat→Prop}

theorem Fl.len32 {w:World} {v:Value} {n:Nat} {l:List (List UInt8)} (h:Fl S w 32 v n (digVals l)) (h32:All32 l):Fl S w 32 v l.length (digVals l):=by rw [Fl.dlen h h32];exact h
def keyS (sd:List UInt8) (many used:Int) (nl:Nat) (a:List It) (l:List Cg):List UInt8:=if versionE sd many used nl a l=0 then sd else []
def keyM (sd:List UInt8) (many used:Int) (nl:Nat) (a:List It) (l:List Cg):Int:=if versionE sd many used nl a l=0 then many else 0
def keyU (sd:List UInt8) (many used:Int) (nl:Nat) (a:List It) (l:List Cg):Int:=if versionE sd many used nl a l=0 then used+1 else 0

set_option maxRecDepth 100000 in
set_option maxHeartbeats 1000000 in
theorem version_any (A:Option Addr) (c:Nat) (L:Option Addr) (ld:Nat) (B:Option Addr) (d:Nat) (C:Option Addr) (e:Nat) (sd:List UInt8) (many used:Int) (nl:Nat) (a:List It) (l:List Cg) (w:World) (hf:Fl S w 1 (vl A sd.length c) sd.length (byteVals sd)) (h1:RLs RIt 2 S w (vl B a.length d) a) (h2:RLs RCg 3 S w (vl C l.length e) l) (hsi:∀ x∈a,x.data.length≤4294967296) (hli:a.length≤4294967296) (hd:∀ x∈l,x.data.length≤4294967296) (hG:Glob w) {kv0 cv0:Value} (hkv:kv0=.slice A sd.length c) (hcv:cv0=.slice C l.length e) :
  Calls Tryd.prog 21 #[.agg #[.slice A sd.length c,.int .i64 many,.int .i64 used],.slice L nl ld,.slice B a.length d,.slice C l.length e] w (fun e w'=>∃ c o e' p A n cc,e=.returned (.tuple #[ag (vcs (versionV sd many used nl a l).no (versionV sd many used nl a l).state c (versionV sd many used nl a l).sg.index o e' p),.agg #[.slice A n cc,.int .i64 (keyM sd many used nl a l),.int .i64 (keyU sd many used nl a l)],.int .i64 (versionE sd many used nl a l)])∧RVp (Fr S w) w' c o e' p (versionV sd many used nl a l)∧Fl (Fr S w) w' 1 (vl A n cc) n (byteVals (keyS sd many used nl a l))∧RSg (fun b=>w.heap.size≤b) w' o e' p (versionV sd many used nl a l).sg∧(versionE sd many used nl a l=0→c=cv0∧Value.slice A n cc=kv0)∧Ext w w'):=by
 have hc:Fl (Clip S w) w 1 (vl A sd.length c) sd.length (byteVals sd):=hf.clip
 have hcc:=(Fl.cel hc).2.1
 have h1c:RLs RIt 2 (Clip S w) w (vl B a.length d) a:=RLs.clip rIt h1
 obtain ⟨-,h1ck,h1cm⟩:=RLs.at h1
 have h2c:RLs RCg 3 (Clip S w) w (vl C l.length e) l:=RLs.clip rCg h2
 obtain ⟨-,h2ck,h2cm⟩:=RLs.at h2
 refine calls_enter Tryd.func21 rfl rfl rfl fun _ hF=>?_
 refine wr fun K1 hK1=>?_
 refine hF.xb rfl fun g2 w3 _ F9 z6 z7 b4 hx5=>?_;clear hF
 refine F9.xz vz 30 fun g10 w11 _ F17 z14 z15 b12 hx13=>?_;clear F9
 refine F17.xz [v0,(vi 0),(vi 0)] 56 fun g18 w19 _ F25 z22 z23 b20 hx21=>?_;clear F17
 refine F25.xv (vi 0)<|fun _ F27=>?_;clear F25
 refine wpList_nil (hK1 _ _ ?_);clear hK1
 refine wp_seq_k fun K28 hK28=>?_
 refine wr fun K29 hK29=>?_
 have b30:=((b4.ext hx13).ext hx21)
 refine F27.xw (.agg #[(vl A sd.length c),(vi many),(vi used)]) (fun F=>rb F rfl b30)<|fun _ F32=>?_;clear F27
 have d33:=(((hc.ext hx5).ext hx13).ext hx21)
 refine F32.xc (pub_at (v:=(vl A sd.length c)) (m:=sd.length) sd many used _ d33 (hG.ext ((((Ext.refl w).trans hx5).trans hx13).trans hx21))) ?_
 rintro _ w34 ⟨rfl,hx35⟩
 refine ⟨_,rfl,?_⟩;intro a36 F37;clear F32;have z38:=hx35.size
 refine F37.xm rfl<|Xv (.agg (byteVals (pubF sd many used)).toArray)<|Xv (vi (pubE sd many used))<|fun _ F44=>?_;clear F37
 refine F44.xz (byteVals (List.replicate 32 0)) 24 fun g45 w46 _ F52 z49 z50 b47 hx48=>?_;clear F44
 refine F52.xs rfl b47 (fun w53 b54 hg55=>?_) (hk:=byteVals_len (pubF_len _ _ _));have z56:=hg55.size
 refine F52.xa rfl<|fun _ F58=>?_;clear F52
 refine wpList_nil (hK29 _ _ ?_);clear hK29
 have F59:=F58.k [0,1,2,3,4,8,9,10,12];clear F58
 refine wr fun K60 hK60=>?_
 refine F59.xm rfl<|Xv (.bool (decide (((pubE sd many used):Int)≠(0:Int))))<|fun _ F64=>?_;clear F59
 refine wpList_nil (hK60 _ _ ?_);clear hK60
 by_cases hc65:((pubE sd many used):Int)≠(0:Int)
 ·skip
  refine F64.ct ?_
  refine wp_seq_k fun K66 hK66=>?_
  have hx68:∃ W,w53.drew=W∧Ext w53 W:=⟨_,rfl,(Ext.refl _).drew⟩
  obtain ⟨w67,e69,hx68⟩:=hx68
  have z70:=hx68.size
  refine any_start (fun W=>Ext w67 W∧Blk W g10 30 vz∧Blk W g18 56 [v0,(vi 0),(vi 0)]) (fun i=>i==3||i==4) 6 (.replicate 6 false) rfl rfl rfl ?_
  rw [e69];clear e69
  have b72:=(((((b12.ext hx21).ext hx35).ext hx48).gn hg55).ext hx68)
  have b73:=((((b20.ext hx35).ext hx48).gn hg55).ext hx68)
  have hS71:Ext w67 w67∧Blk w67 g10 30 vz∧Blk w67 g18 56 [v0,(vi 0),(vi 0)]:=⟨(Ext.refl w67),b72,b73⟩
  refine F64.ys 0 (ag vz) rfl hS71 (fun F W hW=>rb F rfl hW.2.1)<|Ym 2 rfl<|fun _ F77=>?_;clear F64
  refine any_two (i:=1) (k:=3) (by decide +kernel) rfl rfl ?_ ?_
  ·skip
   refine F77.ow (.agg #[v0,(vi 0),(vi 0)]) rfl (fun F=>rb F rfl b73) fun _ F79=>ap ?_;clear F77
   refine ao 3 rfl (F79.os rfl b72 (fun w80 b81 hg82=>an ?_));have z83:=hg82.size
   have b87:=(b73.gn hg82)
   refine ao 4 rfl (F79.os rfl b87 (fun w84 b85 hg86=>an ?_));have z88:=hg86.size
   refine F79.yv 5 (vi (pubE sd many used)) rfl<|fun _ F90=>?_;clear F79
   refine nn (hK66 _ _ ?_);clear hK66
   have F91:=F90.k [0,1,2,3,4,8,9,10,12,21];clear F90
   refine wp_ret (ret_then ?_)
   have b92:=(b81.gn hg86)
   refine retCC1 F91 rfl rfl rfl rfl b92 Tryd.underlying30 rfl (sk inf30 (len_dig1 zero32_len)) b85 Tryd.underlying56 rfl inf56 ?_
   have hE:versionE sd many used nl a l=(pubE sd many used):=if_pos (of_decide_eq_true (decide_eq_true hc65))
   have hne:versionE sd many used nl a l≠0:=by rw [hE];exact of_decide_eq_true (decide_eq_true hc65)
   have hV:versionV sd many used nl a l=vrNil:=if_neg hne
   have hK:keyS sd many used nl a l=[]∧keyM sd many used nl a l=0∧keyU sd many used nl a l=0:=⟨if_neg hne,if_neg hne,if_neg hne⟩
   have hne0:=hne;rw [hE] at hne0
   rw [hV,hE,hK.1,hK.2.1,hK.2.2]
   exact ⟨_,_,_,_,_,_,_,rfl,vrNil_at _,Fl.nil _,sgNil_at _,fun q=>absurd q hne0,((((((((((Ext.refl w).trans hx5).trans hx13).trans hx21).trans hx35).trans hx48).gn hg55).trans hx68).gn hg82).gn hg86)⟩
  refine F77.os rfl b72 (fun w93 b94 hg95=>an ?_);have z96:=hg95.size
  have b97:=(b73.gn hg95)
  refine ao 1 rfl (F77.ow (.agg #[v0,(vi 0),(vi 0)]) rfl (fun F=>rb F rfl b97) fun _ F99=>ap ?_);clear F77
  refine ao 4 rfl (F99.os rfl b97 (fun w100 b101 hg102=>an ?_));have z103:=hg102.size
  refine F99.yv 5 (vi (pubE sd many used)) rfl<|fun _ F105=>?_;clear F99
  refine nn (hK66 _ _ ?_);clear hK66
  have F106:=F105.k [0,1,2,3,4,8,9,10,12,21];clear F105
  refine wp_ret (ret_then ?_)
  have b107:=(b94.gn hg102)
  refine retCC1 F106 rfl rfl rfl rfl b107 Tryd.underlying30 rfl (sk inf30 (len_dig1 zero32_len)) b101 Tryd.underlying56 rfl inf56 ?_
  have hE:versionE sd many used nl a l=(pubE sd many used):=if_pos (of_decide_eq_true (decide_eq_true hc65))
  have hne:versionE sd many used nl a l≠0:=by rw [hE];exact of_decide_eq_true (decide_eq_true hc65)
  have hV:versionV sd many used nl a l=vrNil:=if_neg hne
  have hK:keyS sd many used nl a l=[]∧keyM sd many used nl a l=0∧keyU sd many used nl a l=0:=⟨if_neg hne,if_neg hne,if_neg hne⟩
  have hne0:=hne;rw [hE] at hne0
  rw [hV,hE,hK.1,hK.2.1,hK.2.2]
  exact ⟨_,_,_,_,_,_,_,rfl,vrNil_at _,Fl.nil _,sgNil_at _,fun q=>absurd q hne0,((((((((((Ext.refl w).trans hx5).trans hx13).trans hx21).trans hx35).trans hx48).gn hg55).trans hx68).gn hg95).gn hg102)⟩
 have hko:=kOk_iff.1 (pub_zero (Decidable.not_not.1 hc65))
 refine F64.cf ?_
 refine wp_skip ?_
 refine hK28 _ _ ?_;clear hK28
 refine wp_seq_k fun K108 hK108=>?_
 refine wr fun K109 hK109=>?_
 refine F64.xv (.pointer (some ⟨g2,2,none⟩))<|fun _ F111=>?_;clear F64
 have b112:=(((b30.ext hx35).ext hx48).gn hg55)
 refine F111.xw (vi used) (fun F=>rl F rfl (b112.rule.1 2))<|Xm rfl<|Xv (vi (nl:Nat))<|Xv (.bool (decide ((used:Int)≠((nl:Nat):Int))))<|fun _ F120=>?_;clear F111
 refine wpList_nil (hK109 _ _ ?_);clear hK109
 have F121:=F120.k [0,1,2,3,4,8,9,10,12,21,29];clear F120
 by_cases hc122:(used:Int)≠((nl:Nat):Int)
 ·skip
  refine F121.ct ?_
  refine wp_seq_k fun K123 hK123=>?_
  have hx125:∃ W,w53.drew=W∧Ext w53 W:=⟨_,rfl,(Ext.refl _).drew⟩
  obtain ⟨w124,e126,hx125⟩:=hx125
  have z127:=hx125.size
  refine any_start (fun W=>Ext w124 W∧Blk W g10 30 vz∧Blk W g18 56 [v0,(vi 0),(vi 0)]) (fun i=>i==2||i==3) 5 (.replicate 5 false) rfl rfl rfl ?_
  rw [e126];clear e126
  have b129:=(((((b12.ext hx21).ext hx35).ext hx48).gn hg55).ext hx125)
  have b130:=((((b20.ext hx35).ext hx48).gn hg55).ext hx125)
  have hS128:Ext w124 w124∧Blk w124 g10 30 vz∧Blk w124 g18 56 [v0,(vi 0),(vi 0)]:=⟨(Ext.refl w124),b129,b130⟩
  refine F121.ys 0 (ag vz) rfl hS128 (fun F W hW=>rb F rfl hW.2.1)<|fun _ F132=>?_;clear F121
  refine any_two (i:=1) (k:=2) (by decide +kernel) rfl rfl ?_ ?_
  ·skip
   refine F132.ow (.agg #[v0,(vi 0),(vi 0)]) rfl (fun F=>rb F rfl b130) fun _ F134=>ap ?_;clear F132
   refine ao 2 rfl (F134.os rfl b129 (fun w135 b136 hg137=>an ?_));have z138:=hg137.size
   have b142:=(b130.gn hg137)
   refine ao 3 rfl (F134.os rfl b142 (fun w139 b140 hg141=>an ?_));have z143:=hg141.size
   refine F134.yv 4 (vi 420) rfl<|fun _ F145=>?_;clear F134
   refine nn (hK123 _ _ ?_);clear hK123
   refine wp_ret (ret_then ?_)
   have b146:=(b136.gn hg141)
   refine retCC1 F145 rfl rfl rfl rfl b146 Tryd.underlying30 rfl (sk inf30 (len_dig1 zero32_len)) b140 Tryd.underlying56 rfl inf56 ?_
   have hE:versionE sd many used nl a l=420:=(if_neg (fun q=>absurd q (of_decide_eq_false (decide_eq_false hc65)))).trans (if_pos (of_decide_eq_true (decide_eq_true hc122)))
   have hne:versionE sd many used nl a l≠0:=by rw [hE];exact by decide
   have hV:versionV sd many used nl a l=vrNil:=if_neg hne
   have hK:keyS sd many used nl a l=[]∧keyM sd many used nl a l=0∧keyU sd many used nl a l=0:=⟨if_neg hne,if_neg hne,if_neg hne⟩
   have hne0:=hne;rw [hE] at hne0
   rw [hV,hE,hK.1,hK.2.1,hK.2.2]
   exact ⟨_,_,_,_,_,_,_,rfl,vrNil_at _,Fl.nil _,sgNil_at _,fun q=>absurd q hne0,((((((((((Ext.refl w).trans hx5).trans hx13).trans hx21).trans hx35).trans hx48).gn hg55).trans hx125).gn hg137).gn hg141)⟩
  refine F132.os rfl b129 (fun w147 b148 hg149=>an ?_);have z150:=hg149.size
  have b151:=(b130.gn hg149)
  refine ao 1 rfl (F132.ow (.agg #[v0,(vi 0),(vi 0)]) rfl (fun F=>rb F rfl b151) fun _ F153=>ap ?_);clear F132
  refine ao 3 rfl (F153.os rfl b151 (fun w154 b155 hg156=>an ?_));have z157:=hg156.size
  refine F153.yv 4 (vi 420) rfl<|fun _ F159=>?_;clear F153
  refine nn (hK123 _ _ ?_);clear hK123
  refine wp_ret (ret_then ?_)
  have b160:=(b148.gn hg156)
  refine retCC1 F159 rfl rfl rfl rfl b160 Tryd.underlying30 rfl (sk inf30 (len_dig1 zero32_len)) b155 Tryd.underlying56 rfl inf56 ?_
  have hE:versionE sd many used nl a l=420:=(if_neg (fun q=>absurd q (of_decide_eq_false (decide_eq_false hc65)))).trans (if_pos (of_decide_eq_true (decide_eq_true hc122)))
  have hne:versionE sd many used nl a l≠0:=by rw [hE];exact by decide
  have hV:versionV sd many used nl a l=vrNil:=if_neg hne
  have hK:keyS sd many used nl a l=[]∧keyM sd many used nl a l=0∧keyU sd many used nl a l=0:=⟨if_neg hne,if_neg hne,if_neg hne⟩
  have hne0:=hne;rw [hE] at hne0
  rw [hV,hE,hK.1,hK.2.1,hK.2.2]
  exact ⟨_,_,_,_,_,_,_,rfl,vrNil_at _,Fl.nil _,sgNil_at _,fun q=>absurd q hne0,((((((((((Ext.refl w).trans hx5).trans hx13).trans hx21).trans hx35).trans hx48).gn hg55).trans hx125).gn hg149).gn hg156)⟩
 refine F121.cf ?_
 refine wp_skip ?_
 refine hK108 _ _ ?_;clear hK108
 refine wr fun K161 hK161=>?_
 refine F121.xm rfl<|fun _ F163=>?_;clear F121
 have d164:=(RLs.pres rIt h1c (((((((Pres.refl w).ext hx5).ext hx13).ext hx21).ext hx35).ext hx48).gc hg55))
 refine F163.xc (state_at (v:=(vl B a.length d)) a _ d164 hsi hli (hG.ext (((((((Ext.refl w).trans hx5).trans hx13).trans hx21).trans hx35).trans hx48).gn hg55))) ?_
 rintro _ w165 ⟨rfl,hx166⟩
 refine ⟨_,rfl,?_⟩;intro a167 F168;clear F163;have z169:=hx166.size
 refine F168.xm rfl<|Xv (.agg (byteVals (stateD a)).toArray)<|Xv (vi (checkE a))<|fun _ F175=>?_;clear F168
 refine F175.xz (byteVals (List.replicate 32 0)) 24 fun g176 w177 _ F183 z180 z181 b178 hx179=>?_;clear F175
 refine F183.xs rfl b178 (fun w184 b185 hg186=>?_) (hk:=byteVals_len (stateD_len _));have z187:=hg186.size
 refine F183.xa rfl<|fun _ F189=>?_;clear F183
 refine wpList_nil (hK161 _ _ ?_);clear hK161
 have F190:=F189.k [0,1,2,3,4,8,9,10,12,21,29,13];clear F189
 refine wp_seq_k fun K191 hK191=>?_
 refine wr fun K192 hK192=>?_
 refine F190.xm rfl<|Xv (.bool (decide (((checkE a):Int)≠(0:Int))))<|fun _ F196=>?_;clear F190
 refine wpList_nil (hK192 _ _ ?_);clear hK192
 by_cases hc197:((checkE a):Int)≠(0:Int)
 ·skip
  refine F196.ct ?_
  refine wp_seq_k fun K198 hK198=>?_
  have hx200:∃ W,w184.drew=W∧Ext w184 W:=⟨_,rfl,(Ext.refl _).drew⟩
  obtain ⟨w199,e201,hx200⟩:=hx200
  have z202:=hx200.size
  refine any_start (fun W=>Ext w199 W∧Blk W g10 30 vz∧Blk W g18 56 [v0,(vi 0),(vi 0)]) (fun i=>i==3||i==4) 6 (.replicate 6 false) rfl rfl rfl ?_
  rw [e201];clear e201
  have b204:=((((((((b12.ext hx21).ext hx35).ext hx48).gn hg55).ext hx166).ext hx179).gn hg186).ext hx200)
  have b205:=(((((((b20.ext hx35).ext hx48).gn hg55).ext hx166).ext hx179).gn hg186).ext hx200)
  have hS203:Ext w199 w199∧Blk w199 g10 30 vz∧Blk w199 g18 56 [v0,(vi 0),(vi 0)]:=⟨(Ext.refl w199),b204,b205⟩
  refine F196.ys 0 (ag vz) rfl hS203 (fun F W hW=>rb F rfl hW.2.1)<|Ym 2 rfl<|fun _ F209=>?_;clear F196
  refine any_two (i:=1) (k:=3) (by decide +kernel) rfl rfl ?_ ?_
  ·skip
   refine F209.ow (.agg #[v0,(vi 0),(vi 0)]) rfl (fun F=>rb F rfl b205) fun _ F211=>ap ?_;clear F209
   refine ao 3 rfl (F211.os rfl b204 (fun w212 b213 hg214=>an ?_));have z215:=hg214.size
   have b219:=(b205.gn hg214)
   refine ao 4 rfl (F211.os rfl b219 (fun w216 b217 hg218=>an ?_));have z220:=hg218.size
   refine F211.yv 5 (vi (checkE a)) rfl<|fun _ F222=>?_;clear F211
   refine nn (hK198 _ _ ?_);clear hK198
   have F223:=F222.k [0,1,2,3,4,8,9,10,12,21,29,13,38];clear F222
   refine wp_ret (ret_then ?_)
   have b224:=(b213.gn hg218)
   refine retCC1 F223 rfl rfl rfl rfl b224 Tryd.underlying30 rfl (sk inf30 (len_dig1 zero32_len)) b217 Tryd.underlying56 rfl inf56 ?_
   have hE:versionE sd many used nl a l=(checkE a):=(if_neg (fun q=>absurd q (of_decide_eq_false (decide_eq_false hc65)))).trans ((if_neg (fun q=>absurd q (of_decide_eq_false (decide_eq_false hc122)))).trans (if_pos (of_decide_eq_true (decide_eq_true hc197))))
   have hne:versionE sd many used nl a l≠0:=by rw [hE];exact of_decide_eq_true (decide_eq_true hc197)
   have hV:versionV sd many used nl a l=vrNil:=if_neg hne
   have hK:keyS sd many used nl a l=[]∧keyM sd many used nl a l=0∧keyU sd many used nl a l=0:=⟨if_neg hne,if_neg hne,if_neg hne⟩
   have hne0:=hne;rw [hE] at hne0
   rw [hV,hE,hK.1,hK.2.1,hK.2.2]
   exact ⟨_,_,_,_,_,_,_,rfl,vrNil_at _,Fl.nil _,sgNil_at _,fun q=>absurd q hne0,(((((((((((((Ext.refl w).trans hx5).trans hx13).trans hx21).trans hx35).trans hx48).gn hg55).trans hx166).trans hx179).gn hg186).trans hx200).gn hg214).gn hg218)⟩
  refine F209.os rfl b204 (fun w225 b226 hg227=>an ?_);have z228:=hg227.size
  have b229:=(b205.gn hg227)
  refine ao 1 rfl (F209.ow (.agg #[v0,(vi 0),(vi 0)]) rfl (fun F=>rb F rfl b229) fun _ F231=>ap ?_);clear F209
  refine ao 4 rfl (F231.os rfl b229 (fun w232 b233 hg234=>an ?_));have z235:=hg234.size
  refine F231.yv 5 (vi (checkE a)) rfl<|fun _ F237=>?_;clear F231
  refine nn (hK198 _ _ ?_);clear hK198
  have F238:=F237.k [0,1,2,3,4,8,9,10,12,21,29,13,38];clear F237
  refine wp_ret (ret_then ?_)
  have b239:=(b226.gn hg234)
  refine retCC1 F238 rfl rfl rfl rfl b239 Tryd.underlying30 rfl (sk inf30 (len_dig1 zero32_len)) b233 Tryd.underlying56 rfl inf56 ?_
  have hE:versionE sd many used nl a l=(checkE a):=(if_neg (fun q=>absurd q (of_decide_eq_false (decide_eq_false hc65)))).trans ((if_neg (fun q=>absurd q (of_decide_eq_false (decide_eq_false hc122)))).trans (if_pos (of_decide_eq_true (decide_eq_true hc197))))
  have hne:versionE sd many used nl a l≠0:=by rw [hE];exact of_decide_eq_true (decide_eq_true hc197)
  have hV:versionV sd many used nl a l=vrNil:=if_neg hne
  have hK:keyS sd many used nl a l=[]∧keyM sd many used nl a l=0∧keyU sd many used nl a l=0:=⟨if_neg hne,if_neg hne,if_neg hne⟩
  have hne0:=hne;rw [hE] at hne0
  rw [hV,hE,hK.1,hK.2.1,hK.2.2]
  exact ⟨_,_,_,_,_,_,_,rfl,vrNil_at _,Fl.nil _,sgNil_at _,fun q=>absurd q hne0,(((((((((((((Ext.refl w).trans hx5).trans hx13).trans hx21).trans hx35).trans hx48).gn hg55).trans hx166).trans hx179).gn hg186).trans hx200).gn hg227).gn hg234)⟩
 refine F196.cf ?_
 refine wp_skip ?_
 refine hK191 _ _ ?_;clear hK191
 refine wp_seq_k fun K240 hK240=>?_
 refine wr fun K241 hK241=>?_
 refine F196.xm rfl<|fun _ F243=>?_;clear F196
 have d244:=(RLs.pres rCg h2c ((((((((((Pres.refl w).ext hx5).ext hx13).ext hx21).ext hx35).ext hx48).gc hg55).ext hx166).ext hx179).gc hg186))
 refine F243.xc (mvalid_at (v:=(vl C l.length e)) l _ d244) ?_
 rintro _ w245 ⟨rfl,hx246⟩
 refine ⟨_,rfl,?_⟩;intro a247 F248;clear F243;have z249:=hx246.size
 refine F248.xw (.bool (!(decide (validC l)))) (fun F=>rn_not' (F.get rfl) rfl)<|fun _ F251=>?_;clear F248
 refine wpList_nil (hK241 _ _ ?_);clear hK241
 by_cases hc252:validC l
 ·skip
  refine F251.cf ?_
  refine wp_skip ?_
  refine hK240 _ _ ?_;clear hK240
  refine wr fun K253 hK253=>?_
  refine F251.xm rfl<|Xv (vi (nl:Nat))<|Xv (vi (nl+1:Nat))<|fun _ F259=>?_;clear F251
  have b260:=(b185.ext hx246)
  refine F259.xw (.agg (byteVals (stateD a)).toArray) (fun F=>rb F rfl b260 (hk:=byteVals_len (stateD_len _)))<|Xm rfl<|Xw (ag ((vi (nl+1:Nat))::dg (stateD a) [(vl C l.length e),(vi 0),v0,v0,v0])) (fun F=>rn_build (parts3 (F.get rfl) (F.get rfl) (F.get rfl)) (build_vr (stateD_len _)))<|fun _ F266=>?_;clear F259
  refine F266.xz vz 30 fun g267 w268 _ F274 z271 z272 b269 hx270=>?_;clear F266
  refine F274.xs rfl b269 (fun w275 b276 hg277=>?_) (hk:=len_dig1 (stateD_len _));have z278:=hg277.size
  refine wpList_nil (hK253 _ _ ?_);clear hK253
  have F279:=F274.k [0,1,2,3,4,8,9,10,12,21,29,13,38,44,14];clear F274
  refine wp_seq_k fun K280 hK280=>?_
  refine wp_seq_k fun K281 hK281=>?_
  have hx283:∃ W,w275.drew=W∧Ext w275 W:=⟨_,rfl,(Ext.refl _).drew⟩
  obtain ⟨w282,e284,hx283⟩:=hx283
  have z285:=hx283.size
  refine any_start (fun W=>Ext w282 W∧Blk W g2 56 [(vl A sd.length c),(vi many),(vi used)]∧Blk W g267 30 ((vi (nl+1:Nat))::dg (stateD a) [(vl C l.length e),(vi 0),v0,v0,v0])) (fun i=>i==10) 12 (.replicate 12 false) rfl rfl rfl ?_
  rw [e284];clear e284
  have b287:=(((((((b112.ext hx166).ext hx179).gn hg186).ext hx246).ext hx270).gn hg277).ext hx283)
  have b288:=(b276.ext hx283)
  have hS286:Ext w282 w282∧Blk w282 g2 56 [(vl A sd.length c),(vi many),(vi used)]∧Blk w282 g267 30 ((vi (nl+1:Nat))::dg (stateD a) [(vl C l.length e),(vi 0),v0,v0,v0]):=⟨(Ext.refl w282),b287,b288⟩
  refine F279.ys 0 (.agg #[(vl A sd.length c),(vi many),(vi used)]) rfl hS286 (fun F W hW=>rb F rfl hW.2.1)<|Yv 1 (.pointer (some ⟨g2,2,none⟩)) rfl<|Ys 2 (vi used) rfl hS286 (fun F W hW=>rl F rfl (hW.2.1.rule.1 2))<|Ys 3 (ag ((vi (nl+1:Nat))::dg (stateD a) [(vl C l.length e),(vi 0),v0,v0,v0])) rfl hS286 (fun F W hW=>rb F rfl hW.2.2 (hk:=len_dig1 (stateD_len _)))<|fun _ F296=>?_;clear F279
  refine ao 4 rfl ?_
  have d297:=(RLs.pres rCg h2c ((((((((((((((Pres.refl w).ext hx5).ext hx13).ext hx21).ext hx35).ext hx48).gc hg55).ext hx166).ext hx179).gc hg186).ext hx246).ext hx270).gc hg277).ext hx283))
  refine F296.oc (message_at (⟨(nl+1:Nat),stateD a,l,⟨0,[],[],[]⟩⟩:Vr) _ (⟨(stateD_len _),RLs.sub (S':=fun _=>True) rCg d297 fun _ _=>trivial,⟨Fl.any (Fl.nil _:Fl (fun _=>True) _ 32 _ _ (digVals [])),Fl.any (Fl.nil _:Fl (fun _=>True) _ 32 _ _ (digVals [])),Fl.any (Fl.nil _:Fl (fun _=>True) _ 32 _ _ (digVals [])),All32.nil,All32.nil,All32.nil⟩⟩:RVp (fun _=>True) _ _ _ _ _ (⟨(nl+1:Nat),stateD a,l,⟨0,[],[],[]⟩⟩:Vr)) (of_decide_eq_true (decide_eq_true hc252)) hd (show (0:Int)≤(nl+1:Nat) by omega) (show (nl+1:Nat)≤(4294967296:Int) by omega) (hG.ext ((((((((((((((Ext.refl w).trans hx5).trans hx13).trans hx21).trans hx35).trans hx48).gn hg55).trans hx166).trans hx179).gn hg186).trans hx246).trans hx270).gn hg277).trans hx283))) ?_
  rintro _ w302 ⟨A298,c299,rfl,hf300,hx303⟩
  have z301:=(Fl.cel hf300).2.1
  refine ⟨_,rfl,?_⟩;intro a304 F305;clear F296;have z306:=hx303.size
  have hf307:Fl (Clip (fun b=>w282.heap.size≤b) w302) w302 1 (vl A298 72 c299) 72 (byteVals ((⟨(nl+1:Nat),stateD a,l,⟨0,[],[],[]⟩⟩:Vr).msg)):=hf300.clip
  have b308:=(b287.ext hx303)
  have b309:=(b288.ext hx303)
  refine ⟨fun _ _=>⟨((Ext.refl w282).trans hx303),b308,b309⟩,?_⟩
  refine ao 5 rfl ?_
  have d310:=(hc.pres (((((((((((((((Pres.refl w).ext hx5).ext hx13).ext hx21).ext hx35).ext hx48).gc hg55).ext hx166).ext hx179).gc hg186).ext hx246).ext hx270).gc hg277).ext hx283).ext hx303))
  refine F305.oc (sign_at (v:=(vl A sd.length c)) (m:=sd.length) (u:=(vl A298 72 c299)) (n:=72) sd many used used ((⟨(nl+1:Nat),stateD a,l,⟨0,[],[],[]⟩⟩:Vr).msg) _ d310 hf307 (hG.ext (((((((((((((((Ext.refl w).trans hx5).trans hx13).trans hx21).trans hx35).trans hx48).gn hg55).trans hx166).trans hx179).gn hg186).trans hx246).trans hx270).gn hg277).trans hx283).trans hx303))) ?_
  obtain ⟨sg323,hsg324⟩:∃ z,z=signF sd many used used ((⟨(nl+1:Nat),stateD a,l,⟨0,[],[],[]⟩⟩:Vr).msg):=⟨_,rfl⟩
  rw [← hsg324]
  rintro _ w325 ⟨A311,n312,c313,A314,n315,c316,A317,n318,c319,rfl,hf320,hf321,hf322,hx326⟩
  have h32327:All32 sg323.op:=by rw [hsg324];exact signF_o _ _ _ _ _
  have z328:=(Fl.cel hf320).2.1;have z329:=Fl.dlen hf320 h32327
  have h32330:All32 sg323.cl:=by rw [hsg324];exact signF_c _ _ _ _ _
  have z331:=(Fl.cel hf321).2.1;have z332:=Fl.dlen hf321 h32330
  have h32333:All32 sg323.path:=by rw [hsg324];exact signF_p _ _ _ _ _
  have z334:=(Fl.cel hf322).2.1;have z335:=Fl.dlen hf322 h32333
  refine ⟨_,rfl,?_⟩;intro a336 F337;clear F305;have z338:=hx326.size
  have hf339:Fl (Clip (fun b=>w302.heap.size≤b) w325) w325 32 (vl A311 n312 c313) n312 (digVals sg323.op):=hf320.clip
  have hf340:Fl (Clip (fun b=>w302.heap.size≤b) w325) w325 32 (vl A314 n315 c316) n315 (digVals sg323.cl):=hf321.clip
  have hf341:Fl (Clip (fun b=>w302.heap.size≤b) w325) w325 32 (vl A317 n318 c319) n318 (digVals sg323.path):=hf322.clip
  have b342:=(b308.ext hx326)
  have b343:=(b309.ext hx326)
  refine ⟨fun _ _=>⟨(((Ext.refl w282).trans hx303).trans hx326),b342,b343⟩,?_⟩
  refine F337.ym 6 rfl<|Yv 7 (.agg #[(vi sg323.index),(vl A311 n312 c313),(vl A314 n315 c316),(vl A317 n318 c319)]) rfl<|Yv 8 (vi (signE sd many used used ((⟨(nl+1:Nat),stateD a,l,⟨0,[],[],[]⟩⟩:Vr).msg))) rfl<|Yv 9 (.pointer (some ⟨g267,34,none⟩)) rfl<|fun _ F351=>?_;clear F337
  refine ao 10 rfl ?_
  refine o_storeMid (cells:=[(vi sg323.index),(vl A311 n312 c313),(vl A314 n315 c316),(vl A317 n318 c319)]) (new:=((vi (nl+1:Nat))::dg (stateD a) [(vl C l.length e),(vi sg323.index),(vl A311 n312 c313),(vl A314 n315 c316),(vl A317 n318 c319)])) F351 rfl rfl rfl rfl (F351.get rfl) (F351.get rfl) b343 inf28 (le_mid (x:=38) (y:=4) (by simp [byteVals_len (stateD_len _)]) rfl (by decide)) (one_cons rfl (one_cons rfl (one_cons rfl (one_cons rfl one_nil)))) (splice_mid (A:=((vi (nl+1:Nat))::dg (stateD a) [(vl C l.length e)])) (M:=[(vi 0),v0,v0,v0]) (B:=[]) (by simp) (by simp [byteVals_len (stateD_len _)]) rfl (by simp)) ?_
  intro w352 b353 hg354;have z355:=hg354.size
  refine ⟨fun h=>absurd h (by decide),?_⟩
  refine F351.yv 11 (vi (signE sd many used used ((⟨(nl+1:Nat),stateD a,l,⟨0,[],[],[]⟩⟩:Vr).msg))) rfl<|fun _ F357=>?_;clear F351
  refine nn (hK281 _ _ ?_);clear hK281
  have F358:=F357.k [0,1,2,3,4,8,9,10,12,21,29,13,38,44,14];clear F357
  refine wr fun K359 hK359=>?_
  refine F358.xm rfl<|Xv (.bool (decide (((signE sd many used used ((⟨(nl+1:Nat),stateD a,l,⟨0,[],[],[]⟩⟩:Vr).msg)):Int)≠(0:Int))))<|fun _ F363=>?_;clear F358
  refine wpList_nil (hK359 _ _ ?_);clear hK359
  by_cases hc364:((signE sd many used used ((⟨(nl+1:Nat),stateD a,l,⟨0,[],[],[]⟩⟩:Vr).msg)):Int)≠(0:Int)
  ·skip
   refine F363.ct ?_
   refine wp_seq_k fun K365 hK365=>?_
   have hx367:∃ W,w352.drew=W∧Ext w352 W:=⟨_,rfl,(Ext.refl _).drew⟩
   obtain ⟨w366,e368,hx367⟩:=hx367
   have z369:=hx367.size
   refine any_start (fun W=>Ext w366 W∧Blk W g10 30 vz∧Blk W g18 56 [v0,(vi 0),(vi 0)]) (fun i=>i==3||i==4) 6 (.replicate 6 false) rfl rfl rfl ?_
   rw [e368];clear e368
   have b371:=(((((((((((((((b12.ext hx21).ext hx35).ext hx48).gn hg55).ext hx166).ext hx179).gn hg186).ext hx246).ext hx270).gn hg277).ext hx283).ext hx303).ext hx326).gn hg354).ext hx367)
   have b372:=((((((((((((((b20.ext hx35).ext hx48).gn hg55).ext hx166).ext hx179).gn hg186).ext hx246).ext hx270).gn hg277).ext hx283).ext hx303).ext hx326).gn hg354).ext hx367)
   have hS370:Ext w366 w366∧Blk w366 g10 30 vz∧Blk w366 g18 56 [v0,(vi 0),(vi 0)]:=⟨(Ext.refl w366),b371,b372⟩
   refine F363.ys 0 (ag vz) rfl hS370 (fun F W hW=>rb F rfl hW.2.1)<|Ym 2 rfl<|fun _ F376=>?_;clear F363
   refine any_two (i:=1) (k:=3) (by decide +kernel) rfl rfl ?_ ?_
   ·skip
    refine F376.ow (.agg #[v0,(vi 0),(vi 0)]) rfl (fun F=>rb F rfl b372) fun _ F378=>ap ?_;clear F376
    refine ao 3 rfl (F378.os rfl b371 (fun w379 b380 hg381=>an ?_));have z382:=hg381.size
    have b386:=(b372.gn hg381)
    refine ao 4 rfl (F378.os rfl b386 (fun w383 b384 hg385=>an ?_));have z387:=hg385.size
    refine F378.yv 5 (vi (signE sd many used used ((⟨(nl+1:Nat),stateD a,l,⟨0,[],[],[]⟩⟩:Vr).msg))) rfl<|fun _ F389=>?_;clear F378
    refine nn (hK365 _ _ ?_);clear hK365
    have F390:=F389.k [0,1,2,3,4,8,9,10,12,21,29,13,38,44,14,64];clear F389
    refine wp_ret (ret_then ?_)
    have b391:=(b380.gn hg385)
    refine retCC1 F390 rfl rfl rfl rfl b391 Tryd.underlying30 rfl (sk inf30 (len_dig1 zero32_len)) b384 Tryd.underlying56 rfl inf56 ?_
    have hE:versionE sd many used nl a l=(signE sd many used used ((⟨(nl+1:Nat),stateD a,l,⟨0,[],[],[]⟩⟩:Vr).msg)):=(if_neg (fun q=>absurd q (of_decide_eq_false (decide_eq_false hc65)))).trans ((if_neg (fun q=>absurd q (of_decide_eq_false (decide_eq_false hc122)))).trans ((if_neg (fun q=>absurd q (of_decide_eq_false (decide_eq_false hc197)))).trans ((if_neg (fun q=>q (of_decide_eq_true (decide_eq_true hc252)))).trans rfl)))
    have hne:versionE sd many used nl a l≠0:=by rw [hE];exact of_decide_eq_true (decide_eq_true hc364)
    have hV:versionV sd many used nl a l=vrNil:=if_neg hne
    have hK:keyS sd many used nl a l=[]∧keyM sd many used nl a l=0∧keyU sd many used nl a l=0:=⟨if_neg hne,if_neg hne,if_neg hne⟩
    have hne0:=hne;rw [hE] at hne0
    rw [hV,hE,hK.1,hK.2.1,hK.2.2]
    exact ⟨_,_,_,_,_,_,_,rfl,vrNil_at _,Fl.nil _,sgNil_at _,fun q=>absurd q hne0,((((((((((((((((((((Ext.refl w).trans hx5).trans hx13).trans hx21).trans hx35).trans hx48).gn hg55).trans hx166).trans hx179).gn hg186).trans hx246).trans hx270).gn hg277).trans hx283).trans hx303).trans hx326).gn hg354).trans hx367).gn hg381).gn hg385)⟩
   refine F376.os rfl b371 (fun w392 b393 hg394=>an ?_);have z395:=hg394.size
   have b396:=(b372.gn hg394)
   refine ao 1 rfl (F376.ow (.agg #[v0,(vi 0),(vi 0)]) rfl (fun F=>rb F rfl b396) fun _ F398=>ap ?_);clear F376
   refine ao 4 rfl (F398.os rfl b396 (fun w399 b400 hg401=>an ?_));have z402:=hg401.size
   refine F398.yv 5 (vi (signE sd many used used ((⟨(nl+1:Nat),stateD a,l,⟨0,[],[],[]⟩⟩:Vr).msg))) rfl<|fun _ F404=>?_;clear F398
   refine nn (hK365 _ _ ?_);clear hK365
   have F405:=F404.k [0,1,2,3,4,8,9,10,12,21,29,13,38,44,14,64];clear F404
   refine wp_ret (ret_then ?_)
   have b406:=(b393.gn hg401)
   refine retCC1 F405 rfl rfl rfl rfl b406 Tryd.underlying30 rfl (sk inf30 (len_dig1 zero32_len)) b400 Tryd.underlying56 rfl inf56 ?_
   have hE:versionE sd many used nl a l=(signE sd many used used ((⟨(nl+1:Nat),stateD a,l,⟨0,[],[],[]⟩⟩:Vr).msg)):=(if_neg (fun q=>absurd q (of_decide_eq_false (decide_eq_false hc65)))).trans ((if_neg (fun q=>absurd q (of_decide_eq_false (decide_eq_false hc122)))).trans ((if_neg (fun q=>absurd q (of_decide_eq_false (decide_eq_false hc197)))).trans ((if_neg (fun q=>q (of_decide_eq_true (decide_eq_true hc252)))).trans rfl)))
   have hne:versionE sd many used nl a l≠0:=by rw [hE];exact of_decide_eq_true (decide_eq_true hc364)
   have hV:versionV sd many used nl a l=vrNil:=if_neg hne
   have hK:keyS sd many used nl a l=[]∧keyM sd many used nl a l=0∧keyU sd many used nl a l=0:=⟨if_neg hne,if_neg hne,if_neg hne⟩
   have hne0:=hne;rw [hE] at hne0
   rw [hV,hE,hK.1,hK.2.1,hK.2.2]
   exact ⟨_,_,_,_,_,_,_,rfl,vrNil_at _,Fl.nil _,sgNil_at _,fun q=>absurd q hne0,((((((((((((((((((((Ext.refl w).trans hx5).trans hx13).trans hx21).trans hx35).trans hx48).gn hg55).trans hx166).trans hx179).gn hg186).trans hx246).trans hx270).gn hg277).trans hx283).trans hx303).trans hx326).gn hg354).trans hx367).gn hg394).gn hg401)⟩
  refine F363.cf ?_
  refine wp_skip ?_
  refine hK280 _ _ ?_;clear hK280
  refine wr fun K407 hK407=>?_
  refine F363.xv (.pointer (some ⟨g2,2,none⟩))<|fun _ F409=>?_;clear F363
  have b410:=(b342.gn hg354)
  refine F409.xw (vi used) (fun F=>rl F rfl (b410.rule.1 2))<|Xv (vi (used+1))<|Xv (.pointer (some ⟨g2,2,none⟩))<|fun _ F416=>?_;clear F409
  refine wpl_op (i:=4) rfl (o_store1 (new:=[(vl A sd.length c),(vi many),(vi (used+1))]) F416 rfl rfl rfl rfl (F416.get rfl) (F416.get rfl) b410 inf3 (by simp) rfl rfl ?_)
  intro w417 b418 hg419;have z420:=hg419.size
  refine wpList_nil (hK407 _ _ ?_);clear hK407
  have F421:=F416.k [0,1,2,3,4,8,9,10,12,21,29,13,38,44,14,64];clear F416
  refine wp_seq_k fun K422 hK422=>?_
  have hx424:∃ W,w417.drew=W∧Ext w417 W:=⟨_,rfl,(Ext.refl _).drew⟩
  obtain ⟨w423,e425,hx424⟩:=hx424
  have z426:=hx424.size
  refine any_start (fun W=>Ext w423 W∧Blk W g267 30 ((vi (nl+1:Nat))::dg (stateD a) [(vl C l.length e),(vi sg323.index),(vl A311 n312 c313),(vl A314 n315 c316),(vl A317 n318 c319)])∧Blk W g2 56 [(vl A sd.length c),(vi many),(vi (used+1))]∧Blk W g10 30 vz∧Blk W g18 56 [v0,(vi 0),(vi 0)]) (fun i=>i==2||i==3) 5 (.replicate 5 false) rfl rfl rfl ?_
  rw [e425];clear e425
  have b428:=((b353.gn hg419).ext hx424)
  have b429:=(b418.ext hx424)
  have b430:=((((((((((((((((b12.ext hx21).ext hx35).ext hx48).gn hg55).ext hx166).ext hx179).gn hg186).ext hx246).ext hx270).gn hg277).ext hx283).ext hx303).ext hx326).gn hg354).gn hg419).ext hx424)
  have b431:=(((((((((((((((b20.ext hx35).ext hx48).gn hg55).ext hx166).ext hx179).gn hg186).ext hx246).ext hx270).gn hg277).ext hx283).ext hx303).ext hx326).gn hg354).gn hg419).ext hx424)
  have hS427:Ext w423 w423∧Blk w423 g267 30 ((vi (nl+1:Nat))::dg (stateD a) [(vl C l.length e),(vi sg323.index),(vl A311 n312 c313),(vl A314 n315 c316),(vl A317 n318 c319)])∧Blk w423 g2 56 [(vl A sd.length c),(vi many),(vi (used+1))]∧Blk w423 g10 30 vz∧Blk w423 g18 56 [v0,(vi 0),(vi 0)]:=⟨(Ext.refl w423),b428,b429,b430,b431⟩
  refine F421.ys 0 (ag ((vi (nl+1:Nat))::dg (stateD a) [(vl C l.length e),(vi sg323.index),(vl A311 n312 c313),(vl A314 n315 c316),(vl A317 n318 c319)])) rfl hS427 (fun F W hW=>rb F rfl hW.2.1 (hk:=len_dig1 (stateD_len _)))<|fun _ F433=>?_;clear F421
  refine any_two (i:=1) (k:=2) (by decide +kernel) rfl rfl ?_ ?_
  ·skip
   refine F433.ow (.agg #[(vl A sd.length c),(vi many),(vi (used+1))]) rfl (fun F=>rb F rfl b429) fun _ F435=>ap ?_;clear F433
   refine ao 2 rfl (F435.os rfl b430 (fun w436 b437 hg438=>an ?_) (hk:=len_dig1 (stateD_len _)));have z439:=hg438.size
   have b443:=(b431.gn hg438)
   refine ao 3 rfl (F435.os rfl b443 (fun w440 b441 hg442=>an ?_));have z444:=hg442.size
   refine F435.yv 4 (vi 0) rfl<|fun _ F446=>?_;clear F435
   refine nn (hK422 _ _ ?_);clear hK422
   refine wp_ret ?_
   have b447:=(b437.gn hg442)
   refine retCC1 F446 rfl rfl rfl rfl b447 Tryd.underlying30 rfl (sk inf30 (len_dig1 (stateD_len _))) b441 Tryd.underlying56 rfl inf56 ?_
   have hE:versionE sd many used nl a l=0:=(if_neg (fun q=>absurd q (of_decide_eq_false (decide_eq_false hc65)))).trans ((if_neg (fun q=>absurd q (of_decide_eq_false (decide_eq_false hc122)))).trans ((if_neg (fun q=>absurd q (of_decide_eq_false (decide_eq_false hc197)))).trans ((if_neg (fun q=>q (of_decide_eq_true (decide_eq_true hc252)))).trans (dec_ne0 (decide_eq_false hc364)))))
   have hV:versionV sd many used nl a l=⟨(nl+1:Nat),stateD a,l,sg323⟩:=(if_pos hE).trans (by rw [hsg324];rfl)
   have hK:keyS sd many used nl a l=sd∧keyM sd many used nl a l=many∧keyU sd many used nl a l=used+1:=⟨if_pos hE,if_pos hE,if_pos hE⟩
   have d448:=(RLs.pres rCg h2c (((((((((((((((((((((Pres.refl w).ext hx5).ext hx13).ext hx21).ext hx35).ext hx48).gc hg55).ext hx166).ext hx179).gc hg186).ext hx246).ext hx270).gc hg277).ext hx283).ext hx303).ext hx326).gc hg354).gc hg419).ext hx424).gc hg438).gc hg442))
   have d449:=(hf339.pres ((((((Pres.refl w325).gc hg354).gc hg419).ext hx424).gc hg438).gc hg442))
   have d450:=(hf340.pres ((((((Pres.refl w325).gc hg354).gc hg419).ext hx424).gc hg438).gc hg442))
   have d451:=(hf341.pres ((((((Pres.refl w325).gc hg354).gc hg419).ext hx424).gc hg438).gc hg442))
   have d452:=(hc.pres (((((((((((((((((((((Pres.refl w).ext hx5).ext hx13).ext hx21).ext hx35).ext hx48).gc hg55).ext hx166).ext hx179).gc hg186).ext hx246).ext hx270).gc hg277).ext hx283).ext hx303).ext hx326).gc hg354).gc hg419).ext hx424).gc hg438).gc hg442))
   rw [hV,hE,hK.1,hK.2.1,hK.2.2]
   exact ⟨_,_,_,_,_,_,_,rfl,⟨stateD_len _,RLs.sub rCg d448 (fun b hb=>.inl hb.1),⟨Fl.sub (Fl.len32 d449 h32327) (fun b hb=>.inr (by first | omega | (simp only [Clip] at hb;omega) | (have h7:=hb.1;omega))),Fl.sub (Fl.len32 d450 h32330) (fun b hb=>.inr (by first | omega | (simp only [Clip] at hb;omega) | (have h7:=hb.1;omega))),Fl.sub (Fl.len32 d451 h32333) (fun b hb=>.inr (by first | omega | (simp only [Clip] at hb;omega) | (have h7:=hb.1;omega))),h32327,h32330,h32333⟩⟩,Fl.sub d452 (fun b hb=>.inl hb.1),⟨Fl.sub (Fl.len32 d449 h32327) (fun b hb=>by first | omega | (simp only [Clip] at hb;omega) | (have h7:=hb.1;omega)),Fl.sub (Fl.len32 d450 h32330) (fun b hb=>by first | omega | (simp only [Clip] at hb;omega) | (have h7:=hb.1;omega)),Fl.sub (Fl.len32 d451 h32333) (fun b hb=>by first | omega | (simp only [Clip] at hb;omega) | (have h7:=hb.1;omega)),h32327,h32330,h32333⟩,fun _=>⟨hcv.symm,hkv.symm⟩,(((((((((((((((((((((Ext.refl w).trans hx5).trans hx13).trans hx21).trans hx35).trans hx48).gn hg55).trans hx166).trans hx179).gn hg186).trans hx246).trans hx270).gn hg277).trans hx283).trans hx303).trans hx326).gn hg354).gn hg419).trans hx424).gn hg438).gn hg442)⟩
  refine F433.os rfl b430 (fun w453 b454 hg455=>an ?_) (hk:=len_dig1 (stateD_len _));have z456:=hg455.size
  have b457:=(b429.gn hg455)
  refine ao 1 rfl (F433.ow (.agg #[(vl A sd.length c),(vi many),(vi (used+1))]) rfl (fun F=>rb F rfl b457) fun _ F459=>ap ?_);clear F433
  have b463:=(b431.gn hg455)
  refine ao 3 rfl (F459.os rfl b463 (fun w460 b461 hg462=>an ?_));have z464:=hg462.size
  refine F459.yv 4 (vi 0) rfl<|fun _ F466=>?_;clear F459
  refine nn (hK422 _ _ ?_);clear hK422
  refine wp_ret ?_
  have b467:=(b454.gn hg462)
  refine retCC1 F466 rfl rfl rfl rfl b467 Tryd.underlying30 rfl (sk inf30 (len_dig1 (stateD_len _))) b461 Tryd.underlying56 rfl inf56 ?_
  have hE:versionE sd many used nl a l=0:=(if_neg (fun q=>absurd q (of_decide_eq_false (decide_eq_false hc65)))).trans ((if_neg (fun q=>absurd q (of_decide_eq_false (decide_eq_false hc122)))).trans ((if_neg (fun q=>absurd q (of_decide_eq_false (decide_eq_false hc197)))).trans ((if_neg (fun q=>q (of_decide_eq_true (decide_eq_true hc252)))).trans (dec_ne0 (decide_eq_false hc364)))))
  have hV:versionV sd many used nl a l=⟨(nl+1:Nat),stateD a,l,sg323⟩:=(if_pos hE).trans (by rw [hsg324];rfl)
  have hK:keyS sd many used nl a l=sd∧keyM sd many used nl a l=many∧keyU sd many used nl a l=used+1:=⟨if_pos hE,if_pos hE,if_pos hE⟩
  have d468:=(RLs.pres rCg h2c (((((((((((((((((((((Pres.refl w).ext hx5).ext hx13).ext hx21).ext hx35).ext hx48).gc hg55).ext hx166).ext hx179).gc hg186).ext hx246).ext hx270).gc hg277).ext hx283).ext hx303).ext hx326).gc hg354).gc hg419).ext hx424).gc hg455).gc hg462))
  have d469:=(hf339.pres ((((((Pres.refl w325).gc hg354).gc hg419).ext hx424).gc hg455).gc hg462))
  have d470:=(hf340.pres ((((((Pres.refl w325).gc hg354).gc hg419).ext hx424).gc hg455).gc hg462))
  have d471:=(hf341.pres ((((((Pres.refl w325).gc hg354).gc hg419).ext hx424).gc hg455).gc hg462))
  have d472:=(hc.pres (((((((((((((((((((((Pres.refl w).ext hx5).ext hx13).ext hx21).ext hx35).ext hx48).gc hg55).ext hx166).ext hx179).gc hg186).ext hx246).ext hx270).gc hg277).ext hx283).ext hx303).ext hx326).gc hg354).gc hg419).ext hx424).gc hg455).gc hg462))
  rw [hV,hE,hK.1,hK.2.1,hK.2.2]
  exact ⟨_,_,_,_,_,_,_,rfl,⟨stateD_len _,RLs.sub rCg d468 (fun b hb=>.inl hb.1),⟨Fl.sub (Fl.len32 d469 h32327) (fun b hb=>.inr (by first | omega | (simp only [Clip] at hb;omega) | (have h7:=hb.1;omega))),Fl.sub (Fl.len32 d470 h32330) (fun b hb=>.inr (by first | omega | (simp only [Clip] at hb;omega) | (have h7:=hb.1;omega))),Fl.sub (Fl.len32 d471 h32333) (fun b hb=>.inr (by first | omega | (simp only [Clip] at hb;omega) | (have h7:=hb.1;omega))),h32327,h32330,h32333⟩⟩,Fl.sub d472 (fun b hb=>.inl hb.1),⟨Fl.sub (Fl.len32 d469 h32327) (fun b hb=>by first | omega | (simp only [Clip] at hb;omega) | (have h7:=hb.1;omega)),Fl.sub (Fl.len32 d470 h32330) (fun b hb=>by first | omega | (simp only [Clip] at hb;omega) | (have h7:=hb.1;omega)),Fl.sub (Fl.len32 d471 h32333) (fun b hb=>by first | omega | (simp only [Clip] at hb;omega) | (have h7:=hb.1;omega)),h32327,h32330,h32333⟩,fun _=>⟨hcv.symm,hkv.symm⟩,(((((((((((((((((((((Ext.refl w).trans hx5).trans hx13).trans hx21).trans hx35).trans hx48).gn hg55).trans hx166).trans hx179).gn hg186).trans hx246).trans hx270).gn hg277).trans hx283).trans hx303).trans hx326).gn hg354).gn hg419).trans hx424).gn hg455).gn hg462)⟩
 refine F251.ct ?_
 refine wp_seq_k fun K473 hK473=>?_
 have hx475:∃ W,w245.drew=W∧Ext w245 W:=⟨_,rfl,(Ext.refl _).drew⟩
 obtain ⟨w474,e476,hx475⟩:=hx475
 have z477:=hx475.size
 refine any_start (fun W=>Ext w474 W∧Blk W g10 30 vz∧Blk W g18 56 [v0,(vi 0),(vi 0)]) (fun i=>i==2||i==3) 5 (.replicate 5 false) rfl rfl rfl ?_
 rw [e476];clear e476
 have b479:=(((((((((b12.ext hx21).ext hx35).ext hx48).gn hg55).ext hx166).ext hx179).gn hg186).ext hx246).ext hx475)
 have b480:=((((((((b20.ext hx35).ext hx48).gn hg55).ext hx166).ext hx179).gn hg186).ext hx246).ext hx475)
 have hS478:Ext w474 w474∧Blk w474 g10 30 vz∧Blk w474 g18 56 [v0,(vi 0),(vi 0)]:=⟨(Ext.refl w474),b479,b480⟩
 refine F251.ys 0 (ag vz) rfl hS478 (fun F W hW=>rb F rfl hW.2.1)<|fun _ F482=>?_;clear F251
 refine any_two (i:=1) (k:=2) (by decide +kernel) rfl rfl ?_ ?_
 ·skip
  refine F482.ow (.agg #[v0,(vi 0),(vi 0)]) rfl (fun F=>rb F rfl b480) fun _ F484=>ap ?_;clear F482
  refine ao 2 rfl (F484.os rfl b479 (fun w485 b486 hg487=>an ?_));have z488:=hg487.size
  have b492:=(b480.gn hg487)
  refine ao 3 rfl (F484.os rfl b492 (fun w489 b490 hg491=>an ?_));have z493:=hg491.size
  refine F484.yv 4 (vi 400) rfl<|fun _ F495=>?_;clear F484
  refine nn (hK473 _ _ ?_);clear hK473
  have F496:=F495.k [0,1,2,3,4,8,9,10,12,21,29,13,38,44];clear F495
  refine wp_ret (ret_then ?_)
  have b497:=(b486.gn hg491)
  refine retCC1 F496 rfl rfl rfl rfl b497 Tryd.underlying30 rfl (sk inf30 (len_dig1 zero32_len)) b490 Tryd.underlying56 rfl inf56 ?_
  have hE:versionE sd many used nl a l=400:=(if_neg (fun q=>absurd q (of_decide_eq_false (decide_eq_false hc65)))).trans ((if_neg (fun q=>absurd q (of_decide_eq_false (decide_eq_false hc122)))).trans ((if_neg (fun q=>absurd q (of_decide_eq_false (decide_eq_false hc197)))).trans (if_pos (of_decide_eq_false (decide_eq_false hc252)))))
  have hne:versionE sd many used nl a l≠0:=by rw [hE];exact by decide
  have hV:versionV sd many used nl a l=vrNil:=if_neg hne
  have hK:keyS sd many used nl a l=[]∧keyM sd many used nl a l=0∧keyU sd many used nl a l=0:=⟨if_neg hne,if_neg hne,if_neg hne⟩
  have hne0:=hne;rw [hE] at hne0
  rw [hV,hE,hK.1,hK.2.1,hK.2.2]
  exact ⟨_,_,_,_,_,_,_,rfl,vrNil_at _,Fl.nil _,sgNil_at _,fun q=>absurd q hne0,((((((((((((((Ext.refl w).trans hx5).trans hx13).trans hx21).trans hx35).trans hx48).gn hg55).trans hx166).trans hx179).gn hg186).trans hx246).trans hx475).gn hg487).gn hg491)⟩
 refine F482.os rfl b479 (fun w498 b499 hg500=>an ?_);have z501:=hg500.size
 have b502:=(b480.gn hg500)
 refine ao 1 rfl (F482.ow (.agg #[v0,(vi 0),(vi 0)]) rfl (fun F=>rb F rfl b502) fun _ F504=>ap ?_);clear F482
 refine ao 3 rfl (F504.os rfl b502 (fun w505 b506 hg507=>an ?_));have z508:=hg507.size
 refine F504.yv 4 (vi 400) rfl<|fun _ F510=>?_;clear F504
 refine nn (hK473 _ _ ?_);clear hK473
 have F511:=F510.k [0,1,2,3,4,8,9,10,12,21,29,13,38,44];clear F510
 refine wp_ret (ret_then ?_)
 have b512:=(b499.gn hg507)
 refine retCC1 F511 rfl rfl rfl rfl b512 Tryd.underlying30 rfl (sk inf30 (len_dig1 zero32_len)) b506 Tryd.underlying56 rfl inf56 ?_
 have hE:versionE sd many used nl a l=400:=(if_neg (fun q=>absurd q (of_decide_eq_false (decide_eq_false hc65)))).trans ((if_neg (fun q=>absurd q (of_decide_eq_false (decide_eq_false hc122)))).trans ((if_neg (fun q=>absurd q (of_decide_eq_false (decide_eq_false hc197)))).trans (if_pos (of_decide_eq_false (decide_eq_false hc252)))))
 have hne:versionE sd many used nl a l≠0:=by rw [hE];exact by decide
 have hV:versionV sd many used nl a l=vrNil:=if_neg hne
 have hK:keyS sd many used nl a l=[]∧keyM sd many used nl a l=0∧keyU sd many used nl a l=0:=⟨if_neg hne,if_neg hne,if_neg hne⟩
 have hne0:=hne;rw [hE] at hne0
 rw [hV,hE,hK.1,hK.2.1,hK.2.2]
 exact ⟨_,_,_,_,_,_,_,rfl,vrNil_at _,Fl.nil _,sgNil_at _,fun q=>absurd q hne0,((((((((((((((Ext.refl w).trans hx5).trans hx13).trans hx21).trans hx35).trans hx48).gn hg55).trans hx166).trans hx179).gn hg186).trans hx246).trans hx475).gn hg500).gn hg507)⟩

theorem version_at {kv u v:Value} {n:Nat} (L:Option Addr) (ld:Nat) (sd:List UInt8) (many used:Int) (nl:Nat) (a:List It) (l:List Cg) (w:World) (hf:Fl S w 1 kv n (byteVals sd)) (h1:RLs RIt 2 S w u a) (h2:RLs RCg 3 S w v l) (hsi:∀ x∈a,x.data.length≤4294967296) (hli:a.length≤4294967296) (hd:∀ x∈l,x.data.length≤4294967296) (hG:Glob w) :
  Calls Tryd.prog 21 #[.agg #[kv,.int .i64 many,.int .i64 used],.slice L nl ld,u,v] w (fun e w'=>∃ c o e' p A n cc,e=.returned (.tuple #[ag (vcs (versionV sd many used nl a l).no (versionV sd many used nl a l).state c (versionV sd many used nl a l).sg.index o e' p),.agg #[.slice A n cc,.int .i64 (keyM sd many used nl a l),.int .i64 (keyU sd many used nl a l)],.int .i64 (versionE sd many used nl a l)])∧RVp (Fr S w) w' c o e' p (versionV sd many used nl a l)∧Fl (Fr S w) w' 1 (vl A n cc) n (byteVals (keyS sd many used nl a l))∧RSg (fun b=>w.heap.size≤b) w' o e' p (versionV sd many used nl a l).sg∧(versionE sd many used nl a l=0→c=v∧Value.slice A n cc=kv)∧Ext w w'):=by
 have hm:=hf.blen
 subst hm
 obtain ⟨A,c,rfl,_⟩:=hf.form
 obtain ⟨B,d,rfl,_⟩:=h1.form
 obtain ⟨C,e,rfl,_⟩:=h2.form
 exact version_any A c L ld B d C e sd many used nl a l w hf h1 h2 hsi hli hd hG rfl rfl

end Go.Proofs.YtihgmaoghbnnaaaDoor

namespace Go.Proofs.YtihgmaoghbnnaaaDoor
open Go.RowKit

variable {N:Nat} {m:List (Nat × Value)} {a:Act} {ds:List Deferred}
theorem SlD.k {l:List (Nat × Value)} (hF:SlD ds N m a) (ts:List Nat) (h:pk m ts=some l:=by rfl):SlD ds N l a:=⟨hF.1.k ts h,hF.2⟩
theorem SlD.j {l:List (Nat × Value)} (hF:SlD ds N m a) (h:Pj m l:=by repeat' first | exact Pj.n | refine Pj.c rfl (by first | rfl | (congr 1;omega) | (simp only [List.length_drop]) | (congr 1;done)) ?_):SlD ds N l a:=⟨hF.1.j h,hF.2⟩
theorem calls_enterD {P:Program} {f:FuncId} {fn:Func} {c:Code} {l:List Value} {w:World} {R:Ending→World→Prop} (hf:P.funcs[f]?=some fn) (hb:fn.body=some c) (hn:fn.ntmps=N) (hl:Nat.ble l.length N=true)
  (h:∀ a,Sl N (argList 0 l) a→c.wp P (bodyPostD P fn R) a w):Calls P f l.toArray w R:=by
 refine calls_of_wp_defers hf hb (h _ ?_)
 rw [hn]
 refine Sl.args l _ N ?_
 have:l.length≤N:=by simpa using hl
 simp;omega
section
variable {P:Program} {ops:Array Oper} {Q:Exit→Act→World→Prop} {S:World→Prop} {F:Nat→Bool} {i:Nat} {w w':World} {o:Oper} {v:Value} {K:Act→World→Prop} {d:Nat}
theorem o_defer (hF:Sl N m a) (ho:ops[i]?=some o) (hw:Region.wanted o (yielded ops a.tmps)=true) (hd:o.dst=none) {D:Deferred} (hr:(execOp a.eval o).run P w=.ok (.defer D) w) (h:∀ a',SlD [D] N m a'→K a' w):wpOp P ops Q i K a w:=by
 unfold wpOp
 rw [ho]
 simp only [hw,if_true]
 refine .inl ?_
 unfold Oper.wp
 rw [hr]
 show K ({ a with defers:=D::a.defers }.put o.dst undef) w
 rw [hd,hF.2.1]
 exact h _ (SlD.of hF)
theorem oD_call (hF:SlD ds N m a) (ho:ops[i]?=some o) (hw:Region.wanted o (yielded ops a.tmps)=true) (hd:o.dst=some d) (hN:Nat.blt d N=true) {f:FuncId} {args:Array Value} (hr:(execOp a.eval o).run P w=.ok (.enter f args) w)
  {R:Ending→World→Prop} (hc:Calls P f args w R) (h:∀ e w',R e w'→∃ v,e=.returned v∧∀ a',SlD ds N ((d,v)::m) a'→K a' w'):wpOp P ops Q i K a w :=
 op_call ho hw hr hc fun e w' hR=>by
  obtain ⟨v,he,hk⟩:=h e w' hR
  exact ⟨v,he,hk _ (by rw [hd];exact hF.put hN)⟩
theorem oD_callP (_hF:SlD ds N m a) (ho:ops[i]?=some o) (hw:Region.wanted o (yielded ops a.tmps)=true) {f:FuncId} {args:Array Value} (hr:(execOp a.eval o).run P w=.ok (.enter f args) w)
  {R:Ending→World→Prop} (hc:Calls P f args w R) (h:∀ e w',R e w'→∃ ch,e=.panicked ch∧Q (.panic ch) a w'):wpOp P ops Q i K a w:=by
 unfold wpOp
 rw [ho]
 simp only [hw,if_true]
 refine .inl ?_
 unfold Oper.wp
 rw [hr]
 refine hc.mono fun e w'' hR=>?_
 obtain ⟨ch,rfl,hq⟩:=h e w'' hR
 exact hq
theorem o_panic (ho:ops[i]?=some o) (hw:Region.wanted o (yielded ops a.tmps)=true) {x:Operand} {u:TypeId} {pv:Value} (hop:o.op=.panic x) (hx:a.eval x=.iface u pv) (h:Q (.panic [{ v:=.iface u pv,recovered:=false }]) a w):wpOp P ops Q i K a w:=by
 unfold wpOp
 rw [ho]
 simp only [hw,if_true]
 refine .inl ?_
 unfold Oper.wp
 have hr:∀ ρ:Operand→Value,ρ x=.iface u pv→(execOp ρ o).run P w=.halt (.panic (.iface u pv)) w:=fun ρ h=>by simp [execOp,hop,h,Instr.panic,goPanic,go_sem]
 rw [hr _ hx]
 exact h
theorem anyD_val {n:Nat} {L L':Array Bool} (hF:SlD ds N m a) (hs:Region.noSelect ops=true) (hb:lightB ops F L i=true) (hL:L.setIfInBounds i true=L') (ho:ops[i]?=some o) (hd:o.dst=some d) (hN:Nat.blt d N=true)
  (hQ:∀ c a w v,Q (.panic c) (a.put (some d) v) w→Q (.panic c) a w) (hw:Region.wanted o (yielded ops a.tmps)=true) (hS:S w)
  (hr:∀ W,S W→(execOp a.eval o).run P W=.ok (.value v) W) (h:∀ a',SlD ds N ((d,v)::m) a'→wpAnyF P ops Q S F n L' a' w):wpAnyF P ops Q S F (n+1) L a w :=
 any_light hs hb hL ho (by rw [hd];exact fun c a w=>hQ c a w _) hw hS hr (h _ (by rw [hd];exact hF.put hN))
theorem anyD_pure {n:Nat} {L L':Array Bool} (hF:SlD ds N m a) (hs:Region.noSelect ops=true) (hb:freeB ops L i=true) (hL:L.setIfInBounds i true=L') (ho:ops[i]?=some o) (hd:o.dst=some d) (hN:Nat.blt d N=true)
  (hQ:∀ c a w v,Q (.panic c) (a.put (some d) v) w→Q (.panic c) a w) (hw:Region.wanted o (yielded ops a.tmps)=true)
  (hr:∀ W,(execOp a.eval o).run P W=.ok (.value v) W) (h:∀ a',SlD ds N ((d,v)::m) a'→wpAnyF P ops Q S F n L' a' w):wpAnyF P ops Q S F (n+1) L a w :=
 any_pureY hs hb hL ho (by rw [hd];exact fun c a w=>hQ c a w _) (.inl ⟨hw,hr⟩) (h _ (by rw [hd];exact hF.put hN))
theorem cD_true {t:Nat} {b:Bool} (hF:SlD ds N m a) (hv:look m t=some (.bool b)) (hb:b=true):a.eval (.tmp t)=.bool true:=by subst hb;exact hF.get hv
theorem cD_false {t:Nat} {b:Bool} (hF:SlD ds N m a) (hv:look m t=some (.bool b)) (hb:b=false):a.eval (.tmp t)=.bool false:=by subst hb;exact hF.get hv
end
section
variable {P:Program} {ρ:Operand→Value} {W:World} {d:Option Tmp} {t:TypeId} {p:String} {af:Array Edge} {g:Option (Nat × Bool)} {v:Value} {x y:Operand}
theorem rn_defer {f:FuncId} {first cap:Array Value} (hx:ρ x=.func (.func f) first cap):(execOp ρ ⟨d,.defer { callee:=.value x,args:=#[],argTypes:=#[] },t,p,af,g⟩).run P W=.ok (.defer { target:=.fn (.func f) cap,args:=first }) W:=by
 simp [execOp,resolve,hx,Deferred.ofValue]
theorem rn_mkIface {s:TypeId} {u:Value} (hx:ρ x=u) (hb:(Instr.makeInterface s u).run P W=.ok v W):(execOp ρ ⟨d,.makeInterface s x,t,p,af,g⟩).run P W=.ok (.value v) W:=by simp [execOp,hx,hb]
theorem rn_tassert {s u:TypeId} {b:Bool} {z:Value} (hx:ρ x=z) (hb:(Instr.typeAssert z s u b).run P W=.ok v W):(execOp ρ ⟨d,.typeAssert x s u b,t,p,af,g⟩).run P W=.ok (.value v) W:=by simp [execOp,hx,hb]
end
section
variable {P:Program} {fn:Func} {R:Ending→World→Prop} {w:World}
theorem results_put {T1 T2:TypeId} {d:Nat} {v:Value} (hr:fn.results=#[.cell 4 T1,.cell 5 T2]) (h4:d≠4) (h5:d≠5) (a:Act):results fn (a.put (some d) v).tmps=results fn a.tmps:=by
 simp [results,hr,Act.put,Array.getD_eq_getD_getElem?,Array.getElem?_setIfInBounds,h4,h5]
theorem leaves_res {t1 t2:Array Value} (h:results fn t1=results fn t2):∀ (ds:List Deferred) (u:FrameMode) (w:World),Leaves P fn t1 R ds u w→Leaves P fn t2 R ds u w
 | [],.returning,w,⟨v,h1,h2⟩=>⟨v,h ▸ h1,h2⟩
 | [],.panicking _,_,h1=>h1
 | [],.run,_,h1=>h1
 | d::ds,u,w,⟨h1,fv,cap,f,args,h2,h3,h4⟩=>⟨h1,fv,cap,f,args,h2,h3,h4.mono fun e u' w' hq=>by
   cases e with
   | returned v=>exact leaves_res h ds _ _ hq
   | panicked c=>exact leaves_res h ds _ _ hq
   | outgrown=>exact hq⟩
theorem leaves_put {T1 T2:TypeId} {d:Nat} {v:Value} {u:FrameMode} (hr:fn.results=#[.cell 4 T1,.cell 5 T2]) (h4:d≠4) (h5:d≠5) (h:Leaves P fn (a.put (some d) v).tmps R (a.put (some d) v).defers u w):Leaves P fn a.tmps R a.defers u w :=
 leaves_res (results_put hr h4 h5 a) _ _ _ h
/-- two results in blocks: a struct and a cell -/
theorem results_two {T1 T2 tt tt2:TypeId} {b g:Nat} {cs:List Value} {v2:Value} {td td2:TypeDesc} (hr:fn.results=#[.cell 4 T1,.cell 5 T2]) (h4:a.eval (.tmp 4)=.pointer (some ⟨b,0,none⟩)) (h5:a.eval (.tmp 5)=.pointer (some ⟨g,0,none⟩))
  (hB:Blk w b tt cs) (hty:P.underlying T1=some td) (hd:aggTy td=true) (hi:(P.info? T1).map (·.size)=some cs.length) (hG:Blk w g tt2 [v2]) (hty2:P.underlying T2=some td2) (hd2:aggTy td2=false):(results fn a.tmps).run P w=.ok (.tuple #[.agg cs.toArray,v2]) w:=by
 simp only [Act.eval,Array.getD_eq_getD_getElem?] at h4 h5
 have e1:=run_loadVar_row (P:=P) w b tt T1 cs.toArray (0,0) td hB hty (by cases td <;> simp_all [aggTy]) (by simpa using hi)
 have e0:(isAgg T2).run P w=.ok false w:=by cases td2 <;> simp_all [isAgg,run_underlying hty2,aggTy]
 have hc:w.cell? ⟨g,0,none⟩=some v2:=by rw [hG.rule.1];rfl
 have e2:(loadVar T2 ⟨g,0,none⟩).run P w=.ok v2 w:=by simp [loadVar,go_sem,e0,hc]
 simp [results,hr,h4,h5,asAddr,e1,e2]
end
/-- a region that recovers and keeps what it got -/
theorem wpS_rec {P:Program} {id:Nat} {o0 o1:Oper} {Q:Exit→Act→List Frame→World→Prop} {cs cs':List Frame} {w:World} {v:Value} {d0 d1:Nat} (hw0:∀ y,Region.wanted o0 y=true) (hw1:∀ y,Region.wanted o1 y=true) (h0:(execOp a.eval o0).run P w=.ok .recover w) (hd0:o0.dst=some d0)
  (hr:recoverD cs=some (v,cs')∨(recoverD cs=none∧v=.nilIface∧cs'=cs)) (h1:(execOp (a.put (some d0) v).eval o1).run P w=.ok (.value v) w) (hd1:o1.dst=some d1) (h:Q .normal ((a.put (some d0) v).put (some d1) v) cs' w):(Code.region id #[o0,o1] false).wpS P Q a cs w:=by
 refine wpS_region ?_
 show wpOpsS P #[o0,o1] Q [0,1] a cs w
 have h2:wpOpsS P #[o0,o1] Q [1] (a.put (some d0) v) cs' w:=by
  rw [wpOpsS]
  simp only [List.getElem?_toArray,List.getElem?_cons_succ,List.getElem?_cons_zero,hw1,if_true,h1,Oper.upon,hd1]
  exact h
 rw [wpOpsS]
 simp only [List.getElem?_toArray,List.getElem?_cons_zero,hw0,if_true,h0,hd0]
 rcases hr with hr | ⟨hr,rfl,rfl⟩
 ·simp only [hr];exact h2
 ·simp only [hr];exact h2
theorem pan_then {K:Act→World→Prop} {Q:Exit→Act→World→Prop} {c:List PanicEntry} {w:World} (h:Q (.panic c) a w):Exit.then K Q (.panic c) a w:=h
theorem pan0 {P:Program} {fn:Func} {R:Ending→World→Prop} {w:World} {c:List PanicEntry} (hF:Sl N m a) (h:R (.panicked c) w):bodyPost P fn R (.panic c) a w:=⟨hF.2.1,h⟩
/-- a deferred call that begins with recover: what follows is walked as_ any other code -/
theorem callsD_rec {P:Program} {f:FuncId} {fn:Func} {id:Nat} {o0 o1:Oper} {rest:Code} {l:List Value} {v:Value} {u u':FrameMode} {w:World} {R:Ending→FrameMode→World→Prop} {d0 d1:Nat} (hf:P.funcs[f]?=some fn) (hb:fn.body=some (.seq (.region id #[o0,o1] false) rest)) (hn:fn.ntmps=N) (hl:Nat.ble l.length N=true)
  (hw0:∀ y,Region.wanted o0 y=true) (hw1:∀ y,Region.wanted o1 y=true) (h0:∀ ρ,(execOp ρ o0).run P w=.ok .recover w) (hd0:o0.dst=some d0) (hN0:Nat.blt d0 N=true) (h1:∀ (ρ:Operand→Value),ρ (.tmp d0)=v→(execOp ρ o1).run P w=.ok (.value v) w) (hd1:o1.dst=some d1) (hN1:Nat.blt d1 N=true)
  (hr:∀ (c₀:Frame) (cs:List Frame),c₀.mode=u→recoverD (c₀::cs)=some (v,{ c₀ with mode:=u' }::cs)∨(recoverD (c₀::cs)=none∧v=.nilIface∧{ c₀ with mode:=u' }::cs=c₀::cs))
  (h:∀ a,Sl N ((d1,v)::(d0,v)::argList 0 l) a→rest.wp P (bodyPost P fn (fun e w'=>R e u' w')) a w):CallsD P f l.toArray u w R:=by
 have hlen:l.length≤N:=by simpa using hl
 refine callsD_of_wpS hf hb fun c₀ cs hu=>?_
 have hS:Sl N (argList 0 l) { tmps:=l.toArray++Array.replicate (fn.ntmps - l.toArray.size) undef,defers:=[] }:=by
  rw [hn]
  refine Sl.args l _ N ?_
  simp;omega
 refine wpS_seq (wpS_rec hw0 hw1 (h0 _) hd0 (hr c₀ cs hu) (h1 _ ((hS.put (v:=v) hN0).get (t:=d0) (by simp [look]))) hd1 ?_)
 refine wpS_of_wp (Go.wp_mono (h _ ((hS.put hN0).put hN1)) fun e a' w' hq=>?_)
 cases e with
 | normal=>obtain ⟨q1,v',q2,q3⟩:=hq;exact ⟨q1,u',rfl,v',q2,q3⟩
 | ret=>obtain ⟨q1,v',q2,q3⟩:=hq;exact ⟨q1,u',rfl,v',q2,q3⟩
 | panic c=>obtain ⟨q1,q2⟩:=hq;exact ⟨q1,u',rfl,q2⟩
 | outgrown=>exact ⟨u',hq⟩
 | exit id=>exact hq.elim
 | goto l=>exact hq.elim
end Go.Proofs.YtihgmaoghbnnaaaDoor

namespace Go.Proofs.YtihgmaoghbnnaaaDoor
open Go.RowKit

variable {S S':Nat→Prop}

set_option maxRecDepth 100000 in
set_option maxHeartbeats 1000000 in
theorem must_it_ok (A:Option Addr) (n c:Nat) {e:Int} (w:World) (he:e=0) :
  Calls Tryd.prog 51 #[.slice A n c,.int .i64 e] w (fun e w'=>e=.returned (vl A n c)∧Ext w w'):=by
 refine calls_enter Tryd.func51 rfl rfl rfl fun _ hF=>?_
 refine wr fun K1 hK1=>?_
 refine hF.xv v0<|fun _ F3=>?_;clear hF
 refine wpList_nil (hK1 _ _ ?_);clear hK1
 refine wp_seq_k fun K4 hK4=>?_
 refine wr fun K5 hK5=>?_
 refine F3.xm rfl<|Xv (.bool (decide ((e:Int)≠(0:Int))))<|fun _ F9=>?_;clear F3
 refine wpList_nil (hK5 _ _ ?_);clear hK5
 by_cases hc10:(e:Int)≠(0:Int)
 ·skip
  refine F9.ct ?_
  exfalso;omega
 refine F9.cf ?_
 refine wp_skip ?_
 refine hK4 _ _ ?_;clear hK4
 refine wr fun K11 hK11=>?_
 refine F9.xm rfl<|Xa rfl<|fun _ F15=>?_;clear F9
 refine wpList_nil (hK11 _ _ ?_);clear hK11
 refine wp_ret ?_
 refine ret1 F15 rfl rfl ?_
 exact ⟨rfl,(Ext.refl w)⟩

set_option maxRecDepth 100000 in
set_option maxHeartbeats 1000000 in
theorem must_it_no (A:Option Addr) (n c:Nat) {e:Int} (w:World) (he:¬ e=0) :
  Calls Tryd.prog 51 #[.slice A n c,.int .i64 e] w (fun en w'=>en=.panicked [{ v:=.iface 99 (.agg #[]),recovered:=false }]∧Ext w w'):=by
 refine calls_enter Tryd.func51 rfl rfl rfl fun _ hF=>?_
 refine wr fun K1 hK1=>?_
 refine hF.xv v0<|fun _ F3=>?_;clear hF
 refine wpList_nil (hK1 _ _ ?_);clear hK1
 refine wp_seq_k fun K4 hK4=>?_
 refine wr fun K5 hK5=>?_
 refine F3.xm rfl<|Xv (.bool (decide ((e:Int)≠(0:Int))))<|fun _ F9=>?_;clear F3
 refine wpList_nil (hK5 _ _ ?_);clear hK5
 by_cases hc10:(e:Int)≠(0:Int)
 ·skip
  refine F9.ct ?_
  refine wp_region_lit ?_
  refine F9.xw (.agg #[]) (fun F=>rn_build (parts0 ) (by kernel_rfl))<|Xw (.iface 99 (.agg #[])) (fun F=>rn_mkIface (F.get rfl) (by kernel_rfl))<|fun _ F14=>?_;clear F9
  refine wpl_op (i:=2) rfl (o_panic rfl rfl rfl (F14.get rfl) ?_)
  refine pan_then ?_
  refine pan0 F14 ?_;exact ⟨rfl,(Ext.refl w)⟩
 refine F9.cf ?_
 refine wp_skip ?_
 refine hK4 _ _ ?_;clear hK4
 refine wr fun K15 hK15=>?_
 refine F9.xm rfl<|Xa rfl<|fun _ F19=>?_;clear F9
 refine wpList_nil (hK15 _ _ ?_);clear hK15
 refine wp_ret ?_
 refine ret1 F19 rfl rfl ?_
 exfalso;omega

set_option maxRecDepth 100000 in
set_option maxHeartbeats 1000000 in
theorem must_d_ok (d:List UInt8) {e:Int} (w:World) (he:e=0) (hd:d.length=32) :
  Calls Tryd.prog 53 #[.agg (byteVals d).toArray,.int .i64 e] w (fun e w'=>e=.returned (.agg (byteVals d).toArray)∧Ext w w'):=by
 refine calls_enter Tryd.func53 rfl rfl rfl fun _ hF=>?_
 refine wr fun K1 hK1=>?_
 refine hF.xb rfl fun g2 w3 _ F9 z6 z7 b4 hx5=>?_;clear hF
 refine F9.xz (byteVals (List.replicate 32 0)) 24 fun g10 w11 _ F17 z14 z15 b12 hx13=>?_;clear F9
 refine wpList_nil (hK1 _ _ ?_);clear hK1
 refine wp_seq_k fun K18 hK18=>?_
 refine wr fun K19 hK19=>?_
 refine F17.xm rfl<|Xv (.bool (decide ((e:Int)≠(0:Int))))<|fun _ F23=>?_;clear F17
 refine wpList_nil (hK19 _ _ ?_);clear hK19
 by_cases hc24:(e:Int)≠(0:Int)
 ·skip
  refine F23.ct ?_
  exfalso;omega
 refine F23.cf ?_
 refine wp_skip ?_
 refine hK18 _ _ ?_;clear hK18
 refine wr fun K25 hK25=>?_
 have b26:=(b4.ext hx13)
 refine F23.xw (.agg (byteVals d).toArray) (fun F=>rb F rfl b26 (hk:=byteVals_len hd))<|fun _ F28=>?_;clear F23
 refine F28.xs rfl b12 (fun w29 b30 hg31=>?_) (hk:=byteVals_len hd);have z32:=hg31.size
 refine wpList_nil (hK25 _ _ ?_);clear hK25
 refine wp_ret ?_
 refine retC F28 rfl rfl b30 Tryd.underlying24 rfl (sk inf24 (byteVals_len hd)) ?_
 exact ⟨rfl,((((Ext.refl w).trans hx5).trans hx13).gn hg31)⟩

set_option maxRecDepth 100000 in
set_option maxHeartbeats 1000000 in
theorem must_d_no (d:List UInt8) {e:Int} (w:World) (he:¬ e=0) (hd:d.length=32) :
  Calls Tryd.prog 53 #[.agg (byteVals d).toArray,.int .i64 e] w (fun en w'=>en=.panicked [{ v:=.iface 99 (.agg #[]),recovered:=false }]∧Ext w w'):=by
 refine calls_enter Tryd.func53 rfl rfl rfl fun _ hF=>?_
 refine wr fun K1 hK1=>?_
 refine hF.xb rfl fun g2 w3 _ F9 z6 z7 b4 hx5=>?_;clear hF
 refine F9.xz (byteVals (List.replicate 32 0)) 24 fun g10 w11 _ F17 z14 z15 b12 hx13=>?_;clear F9
 refine wpList_nil (hK1 _ _ ?_);clear hK1
 refine wp_seq_k fun K18 hK18=>?_
 refine wr fun K19 hK19=>?_
 refine F17.xm rfl<|Xv (.bool (decide ((e:Int)≠(0:Int))))<|fun _ F23=>?_;clear F17
 refine wpList_nil (hK19 _ _ ?_);clear hK19
 by_cases hc24:(e:Int)≠(0:Int)
 ·skip
  refine F23.ct ?_
  refine wp_region_lit ?_
  refine F23.xw (.agg #[]) (fun F=>rn_build (parts0 ) (by kernel_rfl))<|Xw (.iface 99 (.agg #[])) (fun F=>rn_mkIface (F.get rfl) (by kernel_rfl))<|fun _ F28=>?_;clear F23
  refine wpl_op (i:=2) rfl (o_panic rfl rfl rfl (F28.get rfl) ?_)
  refine pan_then ?_
  refine pan0 F28 ?_;exact ⟨rfl,(((Ext.refl w).trans hx5).trans hx13)⟩
 refine F23.cf ?_
 refine wp_skip ?_
 refine hK18 _ _ ?_;clear hK18
 refine wr fun K29 hK29=>?_
 have b30:=(b4.ext hx13)
 refine F23.xw (.agg (byteVals d).toArray) (fun F=>rb F rfl b30 (hk:=byteVals_len hd))<|fun _ F32=>?_;clear F23
 refine F32.xs rfl b12 (fun w33 b34 hg35=>?_) (hk:=byteVals_len hd);have z36:=hg35.size
 refine wpList_nil (hK29 _ _ ?_);clear hK29
 refine wp_ret ?_
 refine retC F32 rfl rfl b34 Tryd.underlying24 rfl (sk inf24 (byteVals_len hd)) ?_
 exfalso;omega

set_option maxRecDepth 100000 in
set_option maxHeartbeats 1000000 in
theorem catch_pan (f x k:Nat) (b0:Bool) (pub:List UInt8) (many no:Int) (FA:Option Addr) (fn fa:Nat) (FE:Option Addr) (en fe:Nat) (w:World) (hf:Blk w f 41 (dg pub [.int .i64 many,.int .i64 no,.slice FA fn fa,.slice FE en fe])) (hx:Blk w x 41 (dg zero32 [.int .i64 0,.int .i64 0,.slice none 0 0,.slice none 0 0])) (hk:Blk w k 4 [.bool b0]) (hp:pub.length=32) (h1:f≠x) (h2:f≠k) (h3:x≠k) :
  CallsD Tryd.prog 50 #[.pointer (some ⟨f,0,none⟩),.pointer (some ⟨x,0,none⟩),.pointer (some ⟨k,0,none⟩)] (.panicking [{ v:=.iface 99 (.agg #[]),recovered:=false }]) w (fun e u' w'=>e=.returned (.tuple #[])∧u'=.panicking [{ v:=.iface 99 (.agg #[]),recovered:=true }]∧Blk w' x 41 (dg pub [.int .i64 many,.int .i64 no,.slice FA fn fa,.slice FE en fe])∧Blk w' k 4 [.bool false]∧FarX (fun b=>b≠x∧b≠k∧b<w.heap.size) w w'):=by
 have hfl:=hf.lt;have hxl:=hx.lt;have hkl:=hk.lt
 refine callsD_rec (v:=(.iface 99 (.agg #[]))) (d0:=6) (d1:=3) (l:=[(.pointer (some ⟨f,0,none⟩)),(.pointer (some ⟨x,0,none⟩)),(.pointer (some ⟨k,0,none⟩))]) (u':=.panicking [{ v:=.iface 99 (.agg #[]),recovered:=true }]) Tryd.func50 rfl rfl rfl (fun _=>rfl) (fun _=>rfl) (fun _=>rfl) rfl rfl (fun _ h=>rn_assign h) rfl rfl (fun c₀ cs hu=>.inl (by cases c₀;simp only at hu;subst hu;rfl)) (fun aA hF=>?_)
 refine wr fun K1 hK1=>?_
 refine hF.xm rfl<|Xw (.bool true) (fun F=>rn_bin (F.get rfl) rfl (by kernel_rfl) (by kernel_rfl))<|fun _ F5=>?_;clear hF
 refine wpList_nil (hK1 _ _ ?_);clear hK1
 refine F5.ct ?_
 refine wp_seq_k fun K6 hK6=>?_
 refine wr fun K7 hK7=>?_
 refine F5.xm rfl<|Xw (.tuple #[(.agg #[]),(.bool true)]) (fun F=>rn_tassert (F.get rfl) (by kernel_rfl))<|Xm rfl<|Xv (.agg #[])<|Xv (.bool true)<|fun _ F17=>?_;clear F5
 refine F17.xz [] 99 fun g18 w19 _ F25 z22 z23 b20 hx21=>?_;clear F17
 refine F25.xs rfl b20 (fun w26 b27 hg28=>?_);have z29:=hg28.size
 refine F25.xa rfl<|fun _ F31=>?_;clear F25
 refine wpList_nil (hK7 _ _ ?_);clear hK7
 have F32:=F31.k [0,1,2,3,8,5];clear F31
 refine wr fun K33 hK33=>?_
 refine F32.xm rfl<|Xw (.bool false) (fun F=>rn_not' (F.get rfl) rfl)<|fun _ F37=>?_;clear F32
 refine wpList_nil (hK33 _ _ ?_);clear hK33
 refine F37.cf ?_
 refine wp_skip ?_
 refine hK6 _ _ ?_;clear hK6
 refine wp_region_lit ?_
 have b38:=((hf.ext hx21).gn hg28)
 refine F37.xw (ag (dg pub [(vi many),(vi no),(vl FA fn fa),(vl FE en fe)])) (fun F=>rb F rfl b38 (hk:=len_dig hp))<|fun _ F40=>?_;clear F37
 have b41:=((hx.ext hx21).gn hg28)
 refine F40.xs rfl b41 (fun w42 b43 hg44=>?_) (hk:=len_dig hp);have z45:=hg44.size
 have b49:=(((hk.ext hx21).gn hg28).gn hg44)
 refine wpl_op (i:=2) rfl (o_store1 (new:=[(.bool false)]) F40 rfl rfl rfl rfl (F40.get rfl) rfl b49 inf4 (by simp) rfl rfl ?_)
 intro w46 b47 hg48;have z50:=hg48.size
 refine wpList_nil ?_
 refine ret0 F40 rfl ?_
 have b51:=(b43.gn hg48)
 exact ⟨rfl,rfl,b51,b47,(((((FarX.refl w).ext hx21).grownN hg28 (fun h=>by have h9:=h.2.2;omega)).grownN hg44 (fun h=>h.1 rfl)).gc hg48)⟩

set_option maxRecDepth 100000 in
theorem catch_idle (p q r:Value) (w:World) :
  CallsD Tryd.prog 50 #[p,q,r] .returning w (fun e u' w'=>e=.returned (.tuple #[])∧u'=.returning∧w'=w):=by
 refine callsD_rec (v:=.nilIface) (d0:=6) (d1:=3) (l:=[p,q,r]) (u':=.returning) Tryd.func50 rfl rfl rfl (fun _=>rfl) (fun _=>rfl) (fun _=>rfl) rfl rfl (fun _ h=>rn_assign h) rfl rfl (fun c₀ cs hu=>.inr ⟨by cases c₀;simp only at hu;subst hu;rfl,rfl,by cases c₀;simp only at hu;subst hu;rfl⟩) (fun aA hF=>?_)
 refine wr fun K1 hK1=>?_
 refine hF.xm rfl<|Xw (.bool false) (fun F=>rn_bin (F.get rfl) rfl (by kernel_rfl) (by kernel_rfl))<|fun _ F5=>?_;clear hF
 refine wpList_nil (hK1 _ _ ?_);clear hK1
 refine F5.cf ?_
 refine wp_skip ?_
 refine ret0 F5 rfl ?_
 exact ⟨rfl,rfl,rfl⟩

end Go.Proofs.YtihgmaoghbnnaaaDoor
