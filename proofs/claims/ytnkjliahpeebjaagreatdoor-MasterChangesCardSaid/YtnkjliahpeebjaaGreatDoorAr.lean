/- Catalogs. -/
import Derived.Test.YtnkjliahpeebjaaGreatDoorOd
import Derived.Test.YtnkjliahpeebjaaGreatDoorYr
set_option maxRecDepth 8000
set_option maxHeartbeats 16000000
open Option renaming some->Z9,none->Z7
open Go.Proofs.Tryz renaming prog->Z8
open _root_ renaming ByteArray->Z6,List->Z3,decide_eq_true_eq->ZW,Option->Zm,id->V7
open Go.RowKit renaming Below->Z4
open Bool renaming false->Z2,and_eq_true->ZQ
open Go renaming Value->Z1,World->ZY,Calls->ZJ
open Nat renaming le_refl->ZV,lt_of_lt_of_le->ZH,le_trans->ZE,zero_le->Zc
open Go.Act renaming put->ZG
open List renaming length_cons->Zx,length_map->Zt,mem_cons->YN,mem_singleton->Yq,foldl_cons->WT,mem_map->Wt
open Int renaming le_refl->Yy
namespace Go.Proofs.YtnkjliahpeebjaaGreatDoor
variable{P:Rw->Prop}(c:Z1)(R l:Z3 Rw){D:Z3 Rw}{p:Prop}{d:Z1}(id k i:Int)(x:Fu)(w:ZY){b a:Z3 Ch × Int}(s:Z6)
theorem AN{x y:Rw}(h:ed x y=Z2):ed y x=Z2:=by
 have e:ed y x=ed x y:=by unfold ed;rw[decide_eq_decide.2 (eq_comm:y.1=x.1↔x.1=y.1),decide_eq_decide.2 (eq_comm:aU y=aU x↔aU x=aU y)]
 rw[e,h]
theorem oB(x:Rw)(o:Z3 Rw):(cO x o).Perm (x::o):=by
 have e:o.takeWhile (cy x)++o.dropWhile (cy x)=o:=List.takeWhile_append_dropWhile;unfold cO;refine List.perm_middle.trans ?_
 rw[e]
theorem tB{a b:Z3 Rw}(p:a.Perm b)(h:DstL b):DstL a:=(List.Perm.pairwise_iff (fun h=>AN h) p).2 h
theorem Cv{x:Rw}{o:Z3 Rw}(h:DstL o)(H:∀ y∈o,ed x y=Z2):DstL (cO x o):=tB (oB x o) (List.pairwise_cons.2 ⟨H,h⟩)
theorem rO:∀ (l o:Z3 Rw),(l.foldl (fun o x=>cO x o) o).Perm (l++o)
 | [],o=>List.Perm.refl _
 | x::l,o=>by
   rw[WT];refine (rO l (cO x o)).trans ?_
   exact ((oB x o).append_left l).trans (List.perm_middle)
theorem rD:(eA l).Perm l:=by
 have:=rO l [];rwa [List.append_nil] at this
theorem Dn(c:Ch)(h:DstL D):DstL (eJ D c):=by
 have e:DstL (cD c D):=List.Pairwise.filter _ h;unfold eJ;split
 .refine Cv e fun y j=>?_
  have f:=(List.mem_filter.1 j).2;unfold ed;rw[Bool.eq_false_iff];intro H;rw[ZQ,ZW,ZW] at H
  have g:jL c y=true:=by
   unfold jL;rw[ZQ,ZW,ZW];exact⟨H.1.symm,(Ds.bl_inj H.2).symm⟩
  rw[g] at f;cases f
 .exact e
theorem Dw(C:Z3 Ch)(h:DstL D):DstL (apl D C):=by
 have:∀ (l:Z3 Ch) (o:Z3 Rw),DstL o->DstL (l.foldl eJ o):=by
  intro l
  induction l with
  | nil=>intro o H;exact H
  | cons c l I=>intro o H;rw[WT];exact I _ (Dn c H)
 exact this C _ (tB (rD D) h)
theorem Dm{c:Ch}(h:∀ x∈D,P x)(e:P (c.2.1,c.2.2.1,c.2.2.2.1)):∀ x∈eJ D c,P x:=by
 intro x H;unfold eJ at H;split at H
 .rcases YN.1 ((oB _ _).subset H) with rfl|H
  .exact e
  .exact h x (List.mem_filter.1 H).1
 .exact h x (List.mem_filter.1 H).1
theorem Dv{C:Z3 Ch}(h:∀ x∈D,P x)(j:∀ c∈C,P (c.2.1,c.2.2.1,c.2.2.2.1)):∀ x∈apl D C,P x:=by
 have:∀ (l:Z3 Ch) (o:Z3 Rw),(∀ c∈l,P (c.2.1,c.2.2.1,c.2.2.2.1))->(∀ x∈o,P x)->∀ x∈l.foldl eJ o,P x:=by
  intro l
  induction l with
  | nil=>intro o _ H;exact H
  | cons c l I=>intro o e H;rw[WT];exact I _ (fun f g=>e f (by simp [g])) (Dm H (e c (by simp)))
 exact this C _ j (fun x m=>h x ((rD D).subset m))
theorem oY:(aC k s).size<=32:=by
 rw[<-Ds.bl_length,iU];unfold Ek.key;split
 .rename_i h;rw[Zx,Ek.pad_len _ h.2];omega
 .simp
def Kz(g:Z3 Ch × Int):Prop:=∀ c∈g.1,c.2.2.1.size<=32
theorem Kz.nil(e:Int):Kz ([],e):=fun _ h=>by cases h
theorem Kz.one{c:Ch}{e:Int}(h:c.2.2.1.size<=32):Kz ([c],e):=fun d H=>by rw[Yq.1 H];exact h
theorem nu:(bI id x).2.2.1.size<=32:=oY _ _
theorem mY:(bJ id x).2.2.1.size<=32:=oY _ _
theorem Kz.ite[Decidable p](h:Kz a)(H:Kz b):Kz (if p then a else b):=by split <;> assumption
theorem BG:Kz (eL l k i x s):=by
 have H:∀ id K name,Kz (gX l id K name):=fun id K name=>by
  unfold gX;refine Kz.ite (Kz.nil _) (Kz.ite (Kz.nil _) (Kz.ite (Kz.ite (Kz.nil _) ?_) (Kz.one (mY _ _))))
  intro c h;rcases List.mem_append.1 h with h|h
  .obtain⟨a,-,rfl⟩:=Wt.1 h;exact mY _ _
  .rw[Yq.1 h];exact mY _ _
 have n:∀ id name t,Kz (gu l id name t):=fun id name t=>by
  unfold gu;refine Kz.ite (Kz.nil _) (Kz.ite (Kz.nil _) (Kz.ite (Kz.nil _) (Kz.ite (Kz.nil _) (Kz.ite (Kz.nil _) ?_))))
  intro c h;unfold jO at h;rcases YN.1 h with rfl|h
  .exact mY _ _
  rcases YN.1 h with rfl|h
  .exact nu _ _
  obtain⟨a,-,rfl⟩:=Wt.1 h;exact nu _ _
 unfold eL;refine Kz.ite ?_ (Kz.ite ?_ (Kz.ite ?_ (Kz.ite ?_ ?_)))
 .unfold jg iK;exact Kz.ite (Kz.ite (Kz.nil _) (Kz.ite (Kz.ite (Kz.nil _) (Kz.ite (Kz.nil _) (Kz.ite (Kz.nil _) (Kz.one (nu _ _))))) (Kz.nil _))) (Kz.nil _)
 .unfold jb;exact Kz.ite (Kz.nil _) (H _ _ _)
 .unfold jd;exact Kz.ite (Kz.nil _) (Kz.ite (Kz.nil _) (Kz.ite (Kz.nil _) (Kz.ite (Kz.nil _) (n _ _ _))))
 .unfold jf;exact Kz.ite (Kz.nil _) (Kz.ite (Kz.nil _) (Kz.ite (Kz.nil _) (Kz.ite (Kz.nil _) (Kz.ite (Kz.nil _) (Kz.one (nu _ _))))))
 .unfold jh;exact Kz.ite (Kz.nil _) (Kz.ite (Kz.nil _) (Kz.ite (Kz.nil _) (Kz.one (oY _ _))))
def Lz(n:Nat)(g:Z3 Ch × Int):Prop:=g.1.length<=n
theorem Lz.nil(n:Nat)(e:Int):Lz n ([],e):=Zc _
theorem Lz.one{n:Nat}(h:1<=n)(c:Ch)(e:Int):Lz n ([c],e):=h
theorem Lz.ite{n:Nat}[Decidable p](h:Lz n a)(H:Lz n b):Lz n (if p then a else b):=by split <;> assumption
theorem uz:Lz (l.length+2) (eL l k i x s):=by
 have one:1<=l.length+2:=by omega
 have h:∀ id K name,Lz (l.length+2) (gX l id K name):=fun id K name=>by
  unfold gX;refine Lz.ite (Lz.nil _ _) (Lz.ite (Lz.nil _ _) (Lz.ite (Lz.ite (Lz.nil _ _) ?_) (Lz.one one _ _)))
  have:=mv l id name;show (List.map (bJ id) (cW l id name).1++[_]).length<=_
  rw[List.length_append,Zt,List.length_singleton];omega
 have H:∀ id name t,Lz (l.length+2) (gu l id name t):=fun id name t=>by
  unfold gu;refine Lz.ite (Lz.nil _ _) (Lz.ite (Lz.nil _ _) (Lz.ite (Lz.nil _ _) (Lz.ite (Lz.nil _ _) (Lz.ite (Lz.nil _ _) ?_))))
  have:=mv l id name;show (jO id _ t (cW l id name).1).length<=_
  unfold jO;rw[Zx,Zx,Zt];omega
 unfold eL;refine Lz.ite ?_ (Lz.ite ?_ (Lz.ite ?_ (Lz.ite ?_ ?_)))
 .unfold jg iK;exact Lz.ite (Lz.ite (Lz.nil _ _) (Lz.ite (Lz.ite (Lz.nil _ _) (Lz.ite (Lz.nil _ _) (Lz.ite (Lz.nil _ _) (Lz.one one _ _)))) (Lz.nil _ _))) (Lz.nil _ _)
 .unfold jb;exact Lz.ite (Lz.nil _ _) (h _ _ _)
 .unfold jd;exact Lz.ite (Lz.nil _ _) (Lz.ite (Lz.nil _ _) (Lz.ite (Lz.nil _ _) (Lz.ite (Lz.nil _ _) (H _ _ _))))
 .unfold jf;exact Lz.ite (Lz.nil _ _) (Lz.ite (Lz.nil _ _) (Lz.ite (Lz.nil _ _) (Lz.ite (Lz.nil _ _) (Lz.ite (Lz.nil _ _) (Lz.one one _ _)))))
 .unfold jh;exact Lz.ite (Lz.nil _ _) (Lz.ite (Lz.nil _ _) (Lz.ite (Lz.nil _ _) (Lz.one one _ _)))
abbrev Zo:=Int × Int × Fu × Z6
def iN(R:Z3 Rw)(z:Zo):Z3 Rw:=if (eL R z.1 z.2.1 z.2.2.1 z.2.2.2).2=0 then apl R (eL R z.1 z.2.1 z.2.2.1 z.2.2.2).1 else R
def dd(Z:Nat->Zo):Nat->Z3 Rw
 | 0=>[]
 | k+1=>iN (dd Z k) (Z k)
theorem Gp{R:Z3 Rw}(z:Zo)(h:DstL R/\∀ x∈R,x.2.1.size<=60):DstL (iN R z)/\∀ x∈iN R z,x.2.1.size<=60:=by
 unfold iN;split
 .exact⟨Dw _ h.1,Dv h.2 fun c H=>ZE (BG R _ _ _ _ c H) (by decide)⟩
 .exact h
theorem uV(Z:Nat->Zo):∀ n,DstL (dd Z n)/\∀ x∈dd Z n,x.2.1.size<=60
 | 0=>⟨List.Pairwise.nil,fun _ h=>by cases h⟩
 | k+1=>Gp (Z k) (uV Z k)
theorem Ei(z:Zo):(iN R z).length<=2*R.length+2:=by
 have h:=uz R z.1 z.2.1 z.2.2.1 z.2.2.2;unfold Lz at h;unfold iN;split
 .have:=pt R (eL R z.1 z.2.1 z.2.2.1 z.2.2.2).1;omega
 .omega
theorem tJ(Z:Nat->Zo):∀ n,(dd Z n).length+2<=2 ^ (n+1)
 | 0=>by simp [dd]
 | k+1=>by
   have h:=tJ Z k;have H:=Ei (dd Z k) (Z k);rw[dd,Nat.pow_succ];omega
theorem Hq(Z:Nat->Zo){n:Nat}(h:n<=8):(dd Z n).length<=510:=by
 have H:=tJ Z n;have e:2 ^ (n+1)<=2 ^ 9:=Nat.pow_le_pow_right (by decide) (by omega);have f:(2:Nat) ^ 9=512:=by decide
 omega
section
open Go.RowKit
set_option linter.unusedSimpArgs false
theorem sh36(a:Zm Addr)(n c:Nat)(w:ZY):ZJ Z8 21 #[.slice a n c] w fun r W=>r=.returned (.pointer (Z9 ⟨w.heap.size,0,Z7⟩))/\w.alloc (.cells #[.slice a n c,.int .i64 0,.int .i64 0,.int .i64 0] 119)=W:=by
 go_enter Tryz.func21,Tryz.ntmps21
 go_wp2_with fail
 go_ret
 exact⟨rfl,rfl⟩
theorem mh(r:RwS w c l)(H:∀ b,c.ownBlock=Z9 b->b<w.heap.size):SHs w (w.alloc (.cells #[c,.int .i64 0,.int .i64 0,.int .i64 0] 119)) w.heap.size c l 0 0 0:=by
 refine⟨⟨ak _ _ _ _,fun o=>by simp⟩,r.below ((Below.refl _ _).alloc (ZV _) _),fun b h e=>?_,ZV _,by simp,(Below.refl _ _).alloc (ZV _) _⟩
 have:=H b h;omega
theorem tO{w:ZY}{l:Z3 Int}(h:IS w d l)(H:0<l.length)(q:Nat)(g:d.ownBlock=Z9 q):q<w.heap.size:=by
 obtain⟨a,c,rfl,-,f⟩:=h;obtain⟨b,o,rfl,e,-⟩:=f H;cases g;exact e
theorem sV{w:ZY}{l:Z3 Gr}(h:GS w d l)(H:0<l.length)(q:Nat)(g:d.ownBlock=Z9 q):q<w.heap.size:=by
 obtain⟨a,c,rfl,-,f⟩:=h;obtain⟨b,o,rfl,e,-⟩:=f H;cases g;exact e
theorem vL(d g:Z1)(w:ZY)(v:MaxL w)(T:Tab w)(A:RwS w c R)(m:∀ b,c.ownBlock=Z9 b->b<w.heap.size)(t:DstL R)(u:R.length<=1000)(z:∀ x∈R,x.2.1.size<=60)(C:x.1.name.size<=60)(B:s.size<=60)(I:IS w d x.2.1)(G:GS w g x.2.2) :
 ZJ Z8 20 #[.iface 56 (.pointer (Z9 ⟨w.heap.size,0,Z7⟩)),.agg (opv k i x.1 d g s)] (w.alloc (.cells #[c,.int .i64 0,.int .i64 0,.int .i64 0] 119)) fun r W=>∃ o,r=.returned (.tuple #[o,.int .i64 (eL R k i x s).2])/\ChS W o (eL R k i x s).1/\RwS W c R/\Z4 w.heap.size w W:=by
 have H:=aj w (.cells #[c,.int .i64 0,.int .i64 0,.int .i64 0] 119);refine (do36 w.heap.size c R 0 0 0 k i x s d g w _ v T (mh c R w A m) (fun b e=>ZH (m b e) H.size) u (fun y E=>ZE (z y E) (by decide)) (Yy _) (by decide) (.inr (Yy _)) (by omega) (by omega) (I.below H) (G.below H) (fun h q f=>by have:=tO I h q f;omega) (fun h q f=>by have:=sV G h q f;omega)).mono ?_
 rintro _ W ⟨o,rfl,j,n,-⟩;rw[Gn R 0 0 0 k i x s (Yy _) (Yy _) t] at j |-;exact⟨o,rfl,j,n.r,n.b⟩
def OL(w:ZY)(a:Zm Addr)(n:Nat)(Z:Nat->Zo):Prop:=∀ k,k<n->∃ b o d g,a=Z9 ⟨b,o,Z7⟩/\b<w.heap.size/\eI w b (o+k*36)=opv (Z k).1 (Z k).2.1 (Z k).2.2.1.1 d g (Z k).2.2.2/\IS w d (Z k).2.2.1.2.1/\GS w g (Z k).2.2.1.2.2/\(Z k).2.2.1.1.name.size<=60/\(Z k).2.2.2.size<=60
theorem OL.below{w w':ZY}{a:Zm Addr}{n:Nat}{Z:Nat->Zo}(h:OL w a n Z)(H:Z4 w.heap.size w w'):OL w' a n Z:=fun k t=>by
 obtain⟨b,o,d,g,e,f,j,m,q,r⟩:=h k t;exact⟨b,o,d,g,e,ZH f H.size,rQ H j (by rw[eO];decide),m.below H,q.below H,r⟩
attribute [local go_sem ↓] wQ nJ
attribute [local go_sem] bn aS aH bE bH aK aT ak aI aw az aM eO aQ aL aP aO aR aY aW bD
theorem run36(a:Zm Addr)(n c:Nat)(Z:Nat->Zo)(w:ZY)(hn:n<=8)(hm:MaxL w)(hT:Tab w)(hF:OL w a n Z) :
 ZJ Z8 33 #[.slice a n c] w fun r w'=>∃ v',r=.returned v'/\RwS w' v' (dd Z n)/\(∀ q,v'.ownBlock=Z9 q->q<w'.heap.size)/\Z4 w.heap.size w w':=by
 have HF:=lh hF;have HM:=lh (fun W (b:Z4 w.heap.size w W)=>And.intro (hm.below b) (hT.below b));clear hF hm hT;go_enter Tryz.func33,Tryz.ntmps33
 go_wp2_with fail
 go_loopw [3,10] (fun v i wr=>∃ (k:Nat),k<=n/\i=.int .i64 k/\Hid (RwS wr v (dd Z k))/\Hid (∀ q,v.ownBlock=Z9 q->q<wr.heap.size)/\Hid (Z4 w.heap.size w wr)) (fun _ i _=>n - (intOf i).toNat)
 case atStart=>exact⟨0,Zc _,rfl,lh ⟨Z7,0,rfl,by simp [dd],fun h=>by simp [dd] at h⟩,lh (fun q E=>by cases E),lh (Below.refl _ _)⟩
 case round =>
  obtain⟨k,hk,rfl,HR,HQ,G⟩:=hrel;obtain⟨va,vc,rfl,-⟩:=V7 HR.o;have ac:=Hq Z (n:=k) (by omega);obtain⟨hd,B⟩:=uV Z k;have H:dd Z (k+1)=iN (dd Z k) (Z k):=rfl;unfold iN at H;by_cases ab:k<n
  .obtain⟨b,o,d,gr,rfl,hb,e,Q,N,m,j⟩:=(HF.o.below G.o) k ab;generalize dd Z k=D at ac hd B H HR HQ |-;generalize Z k=z at e Q N m j H;obtain⟨zk,zi,x,s⟩:=z;dsimp only at e Q N m j H;have a3:=kl (k:=zk) (i:=zi) (s:=s) (ay x.1 d gr (aD Q) (aE N));have ad:(eI wr b (o+k*36)).size=36:=by rw[e];exact eO _ _ _ _ _ _
   have j1:(0:Int)<=(k:Int):=by omega
   have j2:(k:Int)<(n:Int):=by omega
   have f:=fun W (b:Z4 wr.heap.size wr W)=>vL (.slice va D.length vc) D zk zi x s d gr W (HM.o W (bt G.o b)).1 (HM.o W (bt G.o b)).2 (HR.o.below b) (fun q E=>ZH (HQ.o q E) b.size) hd (by omega) B m j (Q.below b) (N.below b)
   have y:=uz D zk zi x s;unfold Lz at y;generalize eL D zk zi x s=g at f H y;obtain⟨cs,C⟩:=g;dsimp only at f H y
   have O:=lh f;have T:=lh H;generalize a1:opv zk zi x.1 d gr s=cv at e a3 O;have A:cv.size=36:=by rw[<-a1];exact eO _ _ _ _ _ _
   clear f H Q N m j hd B a1;have L:=ak wr cv 31 (0,0);go_upto_region 5 with fail
   generalize X:wr.alloc (.cells cv 31)=u at L |-;have B1:=lh (show Z4 wr.heap.size wr u by rw[<-X];exact aj _ _);clear X;refine wp_region_held_drew (S:=fun w'=>row w' wr.heap.size=cv) (by kernel_rfl) L (fun hHeld=>?_)
   (refine rgy (i:=0) (Z9 15) ?_;(try simp only[ZG,pz]))
   (refine eq (i:=3) (Z9 18) (v:=.agg (cv)) rfl rfl (by kernel_rfl) (by kernel_rfl) (by kernel_rfl) (fun _ _ _ h=>h) (by kernel_rfl) (fun wS V=>?_) (by assumption) ?_;focus (exact (lT _ wS _ _ _ _ _ _ rfl (by show (row wS (wr.heap.size)).size=36;rw[V];exact A)).trans (by show Result.ok (Next.value (.agg (row wS (wr.heap.size)))) wS=_;rw[V]));(try simp only[ZG,pz]))
   refine rgb (i:=1) (by kernel_rfl) rfl (fun K U=>?_)
   go_simp
   go_at_call 21
   refine (sh36 _ _ _ _).mono ?_
   rintro _ _ ⟨rfl,rfl⟩;refine U.out _ _ (am (aj u.drew _) L (by rw[A];decide)) (fun hHeld=>?_)
   (clear U K;(try simp only[ZG,pz]))
   (refine rgy (i:=2) (Z9 17) ?_;(try simp only[ZG,pz]))
   refine rgb (i:=4) (by kernel_rfl) rfl (fun K U=>?_)
   go_simp
   go_at_call 20
   refine (O.o u.drew B1.o.drew).mono ?_
   rintro _ w5 ⟨ov,rfl,hc,a4,Y⟩;have b5:Z4 u.heap.size u w5:=(Below.refl u.heap.size u).drew.trans Y;have R5:=am b5 L (by rw[A];decide);refine U.out _ _ R5 (fun hHeld=>?_)
   (clear U K;(try simp only[ZG,pz]))
   (refine rgy (i:=5) (Z9 14) ?_;(try simp only[ZG,pz]))
   (refine rgy (i:=6) (Z9 20) ?_;(try simp only[ZG,pz]))
   (refine rgy (i:=7) (Z9 21) ?_;(try simp only[ZG,pz]))
   (refine rgy (i:=8) (Z9 6) ?_;(try simp only[ZG,pz]))
   (refine rgy (i:=9) (Z9 7) ?_;(try simp only[ZG,pz]))
   refine wpAnyH_done (by kernel_rfl) ?_ _
   have HC:=lh hc;have J:=lh a4;have I:=lh (bt G.o (bt B1.o b5));have a8:=lh (fun q E=>ZH (HQ.o q E) (ZE B1.o.size b5.size));clear hc a4 Y b5 R5 hHeld L;by_cases F:C=0
   rotate_left
   .have t1:(C==0)=Z2:=beq_eq_false_iff_ne.2 F;have t:Hid (dd Z (k+1)=D):=lh (by rw[T.o,if_neg F]);clear F;go_wp2_with fail
    go_roundw
    case rel=>exact⟨k+1,by omega,by go_num,lh (by rw[t.o];exact J.o),a8,I⟩
    case measure=>simp [intOf];omega
   have t1:(C==0)=true:=beq_iff_eq.2 F;have t:Hid (dd Z (k+1)=apl D cs):=lh (by rw[T.o,if_pos F]);obtain⟨ca,cc,rfl,-⟩:=V7 HC.o;have a6:=lh (AY (.slice va D.length vc) D (.slice ca cs.length cc) cs w5 J.o HC.o (by omega) (by omega));clear F;go_wp2_with (go_at_call 29;(refine a6.o.mono ?_);rintro _ w6 ⟨v6,rfl,a5,a2,a0⟩;have aa:=lh a5;have a9:=lh (fun q E=>(a2 q E).2);have a7:=lh (bt I.o a0);clear a5 a2 a0)
   go_roundw
   case rel=>exact⟨k+1,by omega,by go_num,lh (by rw[t.o];exact aa.o),a9,a7⟩
   case measure=>simp [intOf];omega
  .obtain rfl:k=n:=by omega
   go_wp2_with fail
   go_ret
   exact⟨_,rfl,HR.o,HQ.o,G.o⟩
end
section
open Go.RowKit
def lU:Z6:=⟨#[80,65,89]⟩
def iO:Z6:=⟨#[80,65,89,46,84,69,83,84]⟩
def nP:Z6:=⟨#[80,65,89,46,77,65,83,84,69,82]⟩
def gE:Z6:=⟨#[80,65,89,46,84,69,83,84,46,65]⟩
def nQ:Z6:=⟨#[84,69,83,84,46,80,65,89]⟩
def d36:Fu:=({ En.zero with kind:=0,name:=gE,d0:=130 },[],[])
def Z36:Nat->Zo:=fun k=>if k=0 then (3,2,nR,lU) else if k=1 then (3,3,nR,iO) else (0,0,d36,⟨#[]⟩)
theorem IH:(dd Z36 3).length=3:=by decide +kernel
theorem nT:cj (dd Z36 3) nP=(2,0):=by decide +kernel
theorem nU:cj (dd Z36 3) iO=(3,0):=by decide +kernel
theorem nV:cj (dd Z36 3) nQ=(1,0):=by decide +kernel
theorem xD:(jH (dd Z36 3) gE).1.1.d0=130/\(jH (dd Z36 3) gE).2=(3,0):=by decide +kernel
def R36:Z3 Rw:=dd Z36 3
theorem l36:(opv 3 2 En.zero (.slice Z7 0 0) (.slice Z7 0 0) lU++opv 3 3 En.zero (.slice Z7 0 0) (.slice Z7 0 0) iO)++opv 0 0 d36.1 (.slice Z7 0 0) (.slice Z7 0 0) ⟨#[]⟩=#[.int .i64 3,.int .i64 2,.int .i64 0,.string ⟨#[]⟩,.int .i64 0,.int .i64 0,.int .i64 0,.int .i64 0,.int .i64 0,.int .i64 0,.int .i64 0,.int .i64 0,.int .i64 0,.int .i64 0,.int .i64 0,.int .i64 0,.int .i64 0,.int .i64 0,.bool Z2,.int .i64 0,.string ⟨#[]⟩,.string ⟨#[]⟩,.int .i64 0,.int .i64 0,.bool Z2,.slice Z7 0 0,.int .i64 0,.int .i64 0,.int .i64 0,.bool Z2,.string ⟨#[]⟩,.string ⟨#[]⟩,.int .i64 0,.int .i64 0,.slice Z7 0 0,.string ⟨#[80,65,89]⟩,.int .i64 3,.int .i64 3,.int .i64 0,.string ⟨#[]⟩,.int .i64 0,.int .i64 0,.int .i64 0,.int .i64 0,.int .i64 0,.int .i64 0,.int .i64 0,.int .i64 0,.int .i64 0,.int .i64 0,.int .i64 0,.int .i64 0,.int .i64 0,.int .i64 0,.bool Z2,.int .i64 0,.string ⟨#[]⟩,.string ⟨#[]⟩,.int .i64 0,.int .i64 0,.bool Z2,.slice Z7 0 0,.int .i64 0,.int .i64 0,.int .i64 0,.bool Z2,.string ⟨#[]⟩,.string ⟨#[]⟩,.int .i64 0,.int .i64 0,.slice Z7 0 0,.string ⟨#[80,65,89,46,84,69,83,84]⟩,.int .i64 0,.int .i64 0,.int .i64 0,.string ⟨#[80,65,89,46,84,69,83,84,46,65]⟩,.int .i64 130,.int .i64 0,.int .i64 0,.int .i64 0,.int .i64 0,.int .i64 0,.int .i64 0,.int .i64 0,.int .i64 0,.int .i64 0,.int .i64 0,.int .i64 0,.int .i64 0,.int .i64 0,.bool Z2,.int .i64 0,.string ⟨#[]⟩,.string ⟨#[]⟩,.int .i64 0,.int .i64 0,.bool Z2,.slice Z7 0 0,.int .i64 0,.int .i64 0,.int .i64 0,.bool Z2,.string ⟨#[]⟩,.string ⟨#[]⟩,.int .i64 0,.int .i64 0,.slice Z7 0 0,.string ⟨#[]⟩]:=by
 unfold opv opc En.vals d36 lU iO gE En.zero;rfl
theorem ext3(a b c:Array Z1)(h:a.size=36)(H:b.size=36)(e:c.size=36):((a++b)++c).extract (0+0*36) (0+0*36+36)=a/\((a++b)++c).extract (0+1*36) (0+1*36+36)=b/\((a++b)++c).extract (0+2*36) (0+2*36+36)=c:=by
 refine⟨?_,?_,?_⟩
 all_goals
  apply Array.ext_getElem?
  intro i;simp only[Array.getElem?_extract,Array.getElem?_append,Array.size_append,h,H,e]
  by_cases f:i<36
  .simp [f]
   try (repeat' split) <;> first|rfl|omega|(congr 1;omega)
  .rw[if_neg (by omega),Array.getElem?_eq_none (by omega)]
theorem ol36:OL (w.alloc (.cells (#[.int .i64 3,.int .i64 2,.int .i64 0,.string ⟨#[]⟩,.int .i64 0,.int .i64 0,.int .i64 0,.int .i64 0,.int .i64 0,.int .i64 0,.int .i64 0,.int .i64 0,.int .i64 0,.int .i64 0,.int .i64 0,.int .i64 0,.int .i64 0,.int .i64 0,.bool Z2,.int .i64 0,.string ⟨#[]⟩,.string ⟨#[]⟩,.int .i64 0,.int .i64 0,.bool Z2,.slice Z7 0 0,.int .i64 0,.int .i64 0,.int .i64 0,.bool Z2,.string ⟨#[]⟩,.string ⟨#[]⟩,.int .i64 0,.int .i64 0,.slice Z7 0 0,.string ⟨#[80,65,89]⟩,.int .i64 3,.int .i64 3,.int .i64 0,.string ⟨#[]⟩,.int .i64 0,.int .i64 0,.int .i64 0,.int .i64 0,.int .i64 0,.int .i64 0,.int .i64 0,.int .i64 0,.int .i64 0,.int .i64 0,.int .i64 0,.int .i64 0,.int .i64 0,.int .i64 0,.bool Z2,.int .i64 0,.string ⟨#[]⟩,.string ⟨#[]⟩,.int .i64 0,.int .i64 0,.bool Z2,.slice Z7 0 0,.int .i64 0,.int .i64 0,.int .i64 0,.bool Z2,.string ⟨#[]⟩,.string ⟨#[]⟩,.int .i64 0,.int .i64 0,.slice Z7 0 0,.string ⟨#[80,65,89,46,84,69,83,84]⟩,.int .i64 0,.int .i64 0,.int .i64 0,.string ⟨#[80,65,89,46,84,69,83,84,46,65]⟩,.int .i64 130,.int .i64 0,.int .i64 0,.int .i64 0,.int .i64 0,.int .i64 0,.int .i64 0,.int .i64 0,.int .i64 0,.int .i64 0,.int .i64 0,.int .i64 0,.int .i64 0,.int .i64 0,.bool Z2,.int .i64 0,.string ⟨#[]⟩,.string ⟨#[]⟩,.int .i64 0,.int .i64 0,.bool Z2,.slice Z7 0 0,.int .i64 0,.int .i64 0,.int .i64 0,.bool Z2,.string ⟨#[]⟩,.string ⟨#[]⟩,.int .i64 0,.int .i64 0,.slice Z7 0 0,.string ⟨#[]⟩]) 31)) (Z9 ⟨w.heap.size,0,Z7⟩) 3 Z36:=by
 rw[<-l36];obtain⟨e,E,f⟩:=ext3 (opv 3 2 En.zero (.slice Z7 0 0) (.slice Z7 0 0) lU) (opv 3 3 En.zero (.slice Z7 0 0) (.slice Z7 0 0) iO) (opv 0 0 d36.1 (.slice Z7 0 0) (.slice Z7 0 0) ⟨#[]⟩) (eO _ _ _ _ _ _) (eO _ _ _ _ _ _) (eO _ _ _ _ _ _);intro k h;have H:w.heap.size<(w.alloc (.cells ((opv 3 2 En.zero (.slice Z7 0 0) (.slice Z7 0 0) lU++opv 3 3 En.zero (.slice Z7 0 0) (.slice Z7 0 0) iO)++opv 0 0 d36.1 (.slice Z7 0 0) (.slice Z7 0 0) ⟨#[]⟩) 31)).heap.size:=by simp
 refine⟨w.heap.size,0,.slice Z7 0 0,.slice Z7 0 0,rfl,H,?_,?_,?_,?_,?_⟩
 .unfold eI;rw[ak w _ 31 (0,0)]
  match k,h with
  | 0,_=>exact e
  | 1,_=>exact E
  | 2,_=>exact f
 all_goals
  match k,h with
  | 0,_=>first|exact IS.nil _|exact GS.nil _|exact (by decide:(0:Nat)<=60)|exact (by decide:(3:Nat)<=60)
  | 1,_=>first|exact IS.nil _|exact GS.nil _|exact (by decide:(0:Nat)<=60)|exact (by decide:(8:Nat)<=60)
  | 2,_=>first|exact IS.nil _|exact GS.nil _|exact (by decide:(10:Nat)<=60)|exact (by decide:(0:Nat)<=60)
theorem Fy(m:MaxL w)(T:Tab w):ZJ Z8 33 #[.slice (Z9 ⟨w.heap.size,0,Z7⟩) 3 3] (w.alloc (.cells (#[.int .i64 3,.int .i64 2,.int .i64 0,.string ⟨#[]⟩,.int .i64 0,.int .i64 0,.int .i64 0,.int .i64 0,.int .i64 0,.int .i64 0,.int .i64 0,.int .i64 0,.int .i64 0,.int .i64 0,.int .i64 0,.int .i64 0,.int .i64 0,.int .i64 0,.bool Z2,.int .i64 0,.string ⟨#[]⟩,.string ⟨#[]⟩,.int .i64 0,.int .i64 0,.bool Z2,.slice Z7 0 0,.int .i64 0,.int .i64 0,.int .i64 0,.bool Z2,.string ⟨#[]⟩,.string ⟨#[]⟩,.int .i64 0,.int .i64 0,.slice Z7 0 0,.string ⟨#[80,65,89]⟩,.int .i64 3,.int .i64 3,.int .i64 0,.string ⟨#[]⟩,.int .i64 0,.int .i64 0,.int .i64 0,.int .i64 0,.int .i64 0,.int .i64 0,.int .i64 0,.int .i64 0,.int .i64 0,.int .i64 0,.int .i64 0,.int .i64 0,.int .i64 0,.int .i64 0,.bool Z2,.int .i64 0,.string ⟨#[]⟩,.string ⟨#[]⟩,.int .i64 0,.int .i64 0,.bool Z2,.slice Z7 0 0,.int .i64 0,.int .i64 0,.int .i64 0,.bool Z2,.string ⟨#[]⟩,.string ⟨#[]⟩,.int .i64 0,.int .i64 0,.slice Z7 0 0,.string ⟨#[80,65,89,46,84,69,83,84]⟩,.int .i64 0,.int .i64 0,.int .i64 0,.string ⟨#[80,65,89,46,84,69,83,84,46,65]⟩,.int .i64 130,.int .i64 0,.int .i64 0,.int .i64 0,.int .i64 0,.int .i64 0,.int .i64 0,.int .i64 0,.int .i64 0,.int .i64 0,.int .i64 0,.int .i64 0,.int .i64 0,.int .i64 0,.bool Z2,.int .i64 0,.string ⟨#[]⟩,.string ⟨#[]⟩,.int .i64 0,.int .i64 0,.bool Z2,.slice Z7 0 0,.int .i64 0,.int .i64 0,.int .i64 0,.bool Z2,.string ⟨#[]⟩,.string ⟨#[]⟩,.int .i64 0,.int .i64 0,.slice Z7 0 0,.string ⟨#[]⟩]) 31)) fun r W=>∃ a c,r=.returned (.slice a 3 c)/\RwS W (.slice a 3 c) R36/\(∀ q,(Value.slice a 3 c).ownBlock=Z9 q->q<W.heap.size)/\Z4 w.heap.size w W:=by
 have h:=aj w (.cells (#[.int .i64 3,.int .i64 2,.int .i64 0,.string ⟨#[]⟩,.int .i64 0,.int .i64 0,.int .i64 0,.int .i64 0,.int .i64 0,.int .i64 0,.int .i64 0,.int .i64 0,.int .i64 0,.int .i64 0,.int .i64 0,.int .i64 0,.int .i64 0,.int .i64 0,.bool Z2,.int .i64 0,.string ⟨#[]⟩,.string ⟨#[]⟩,.int .i64 0,.int .i64 0,.bool Z2,.slice Z7 0 0,.int .i64 0,.int .i64 0,.int .i64 0,.bool Z2,.string ⟨#[]⟩,.string ⟨#[]⟩,.int .i64 0,.int .i64 0,.slice Z7 0 0,.string ⟨#[80,65,89]⟩,.int .i64 3,.int .i64 3,.int .i64 0,.string ⟨#[]⟩,.int .i64 0,.int .i64 0,.int .i64 0,.int .i64 0,.int .i64 0,.int .i64 0,.int .i64 0,.int .i64 0,.int .i64 0,.int .i64 0,.int .i64 0,.int .i64 0,.int .i64 0,.int .i64 0,.bool Z2,.int .i64 0,.string ⟨#[]⟩,.string ⟨#[]⟩,.int .i64 0,.int .i64 0,.bool Z2,.slice Z7 0 0,.int .i64 0,.int .i64 0,.int .i64 0,.bool Z2,.string ⟨#[]⟩,.string ⟨#[]⟩,.int .i64 0,.int .i64 0,.slice Z7 0 0,.string ⟨#[80,65,89,46,84,69,83,84]⟩,.int .i64 0,.int .i64 0,.int .i64 0,.string ⟨#[80,65,89,46,84,69,83,84,46,65]⟩,.int .i64 130,.int .i64 0,.int .i64 0,.int .i64 0,.int .i64 0,.int .i64 0,.int .i64 0,.int .i64 0,.int .i64 0,.int .i64 0,.int .i64 0,.int .i64 0,.int .i64 0,.int .i64 0,.bool Z2,.int .i64 0,.string ⟨#[]⟩,.string ⟨#[]⟩,.int .i64 0,.int .i64 0,.bool Z2,.slice Z7 0 0,.int .i64 0,.int .i64 0,.int .i64 0,.bool Z2,.string ⟨#[]⟩,.string ⟨#[]⟩,.int .i64 0,.int .i64 0,.slice Z7 0 0,.string ⟨#[]⟩]) 31);refine (run36 _ 3 3 Z36 _ (by decide) (m.below h) (T.below h) (ol36 w)).mono ?_
 rintro _ W ⟨v,rfl,f,o,H⟩;obtain⟨a,c,e,-⟩:=V7 f;rw[IH] at e;subst e;exact⟨a,c,rfl,f,o,bt h H⟩
theorem oy(name:Z6)(g:Int × Int)(e:cj R name=g)(w:ZY)(m:MaxL w)(H:Tab w)(f:RwS w c R)(o:∀ b,c.ownBlock=Z9 b->b<w.heap.size) :
 ZJ Z8 34 #[.iface 56 (.pointer (Z9 ⟨w.heap.size,0,Z7⟩)),.string name] (w.alloc (.cells #[c,.int .i64 0,.int .i64 0,.int .i64 0] 119)) fun r W=>r=.returned (.tuple #[.int .i64 g.1,.int .i64 g.2])/\RwS W c R/\Z4 w.heap.size w W:=by
 refine (oJ w.heap.size c R 0 0 0 name w _ m H (mh c R w f o) (Yy _) (by decide) (.inr (Yy _))).mono ?_
 rintro _ W ⟨rfl,h,-⟩;rw[(ox R 0 0 0 name (Yy _) (Yy _)).1,e];exact⟨rfl,h.r,h.b⟩
theorem Cg(m:MaxL w)(T:Tab w)(j:RwS w c R36)(o:∀ b,c.ownBlock=Z9 b->b<w.heap.size) :
 ZJ Z8 42 #[.iface 56 (.pointer (Z9 ⟨w.heap.size,0,Z7⟩)),.string gE] (w.alloc (.cells #[c,.int .i64 0,.int .i64 0,.int .i64 0] 119)) fun r W=>∃ (x:Fu) (d g:Z1),r=.returned (.tuple #[.agg (x.1.vals d g),.int .i64 3,.int .i64 0])/\x.1.d0=130/\IS W d x.2.1/\GS W g x.2.2/\Z4 w.heap.size w W:=by
 refine (DX w.heap.size c R36 0 0 0 gE w _ m T (mh c R36 w j o) (Yy _) (by decide) (.inr (Yy _))).mono ?_
 rintro _ W ⟨⟨d,g,rfl,h,H,-,-⟩,n,-⟩;have e:=Aw R36 0 0 0 gE (Yy _) (Yy _);rw[e] at h H |-;obtain⟨F,f⟩:=xD;refine⟨(jH R36 gE).1,d,g,?_,F,h,H,n.b⟩
 rw[show (jH R36 gE).2.1=3 from congrArg Prod.fst f,show (jH R36 gE).2.2=0 from congrArg Prod.snd f]
attribute [local go_sem ↓] aZ bq
attribute [local go_sem ↓ high] bf
attribute [local go_sem] bn aS aH bE bH aK aT ak aI aw az aM ah aQ aL aP aO aR aY aW bD
theorem aw36(m:MaxL w)(T:Tab w):ZJ Z8 16 #[] w fun r Y=>r=.returned (.bool true)/\Z4 w.heap.size w Y:=by
 have U:=lh (Fy w m T);have e:=lh (fun c W (b:Z4 w.heap.size w W)=>oy c R36 nP (2,0) nT W (m.below b) (T.below b));have f:=lh (fun c W (b:Z4 w.heap.size w W)=>oy c R36 iO (3,0) nU W (m.below b) (T.below b));have g:=lh (fun c W (b:Z4 w.heap.size w W)=>oy c R36 nQ (1,0) nV W (m.below b) (T.below b));have I:=lh (fun c W (b:Z4 w.heap.size w W)=>Cg c W (m.below b) (T.below b));unfold nP at e;unfold iO at f;unfold nQ at g;unfold gE at I;generalize R36=R at U e f g I;clear m T;go_enter Tryz.func16,Tryz.ntmps16
 go_wp2_with first|go_at_call 33;(refine U.o.mono ?_);rintro _ w1 ⟨Z,vc,rfl,H,E,h⟩;have S:=lh H;have O:=lh E;have B:=lh h;clear H E h|(go_at_call 21;(with_reducible refine (sh36 _ _ _ _).mono ?_);rintro _ _ ⟨rfl,rfl⟩)|go_at_call 34;(with_reducible refine (e.o _ _ B.o S.o O.o).mono ?_);rintro _ w2 ⟨rfl,H,h⟩;have Q:=lh H;have o:=lh (bt B.o h);have v:=lh (fun q n=>ZH (O.o q n) h.size);clear H h|go_at_call 34;(with_reducible refine (f.o _ _ o.o Q.o v.o).mono ?_);rintro _ w3 ⟨rfl,H,h⟩;have V:=lh H;have t:=lh (bt o.o h);have y:=lh (fun q n=>ZH (v.o q n) h.size);clear H h|go_at_call 34;(with_reducible refine (g.o _ _ t.o V.o y.o).mono ?_);rintro _ w4 ⟨rfl,H,h⟩;have X:=lh H;have u:=lh (bt t.o h);have L:=lh (fun q n=>ZH (y.o q n) h.size);clear H h|go_at_call 42;(refine (I.o _ _ u.o X.o L.o).mono ?_);rintro _ J ⟨x,d,G,rfl,j,C,A,h⟩;have F:=ay x.1 d G (aD C) (aE A);have z:=ak J (x.1.vals d G) 29 (0,0);have N:=ae z 2 _ (vU _ _ _);rw[j] at N;have K:=lh (bt (bt u.o h) (aj J (.cells (x.1.vals d G) 29)));clear C A h j z
 go_ret
 exact⟨rfl,K.o⟩
end
end Go.Proofs.YtnkjliahpeebjaaGreatDoor
