/- Catalogs. -/
import Derived.Test.YtnkjliahpeebjaaGreatDoorOd
import Derived.Test.YtnkjliahpeebjaaGreatDoorYr
set_option maxRecDepth 8000
set_option maxHeartbeats 16000000
open Option renaming some->Z9
open _root_ renaming ByteArray->Z7,List->Z5,if_neg->Z0,if_pos->ZX,decide_eq_true_eq->ZU,decide_eq_true->ZL,beq_eq_false_iff_ne->ZG,Option->Zy,id->XP
open Go renaming World->Z2,wp_region_held_drew->Xf
open Bool renaming true->ZZ,false->ZW,and_eq_true->ZT,eq_false_iff->YJ
open Nat renaming lt_of_lt_of_le->ZY,le_refl->ZS,le_trans->ZD,zero_le->Y7
open Go.RowKit renaming Below->ZV,intOf->Y4
open List renaming length_append->ZQ,length_cons->ZK,mem_cons->Zw,length_map->Zq,mem_singleton->Zn,foldl_cons->YS,mem_append->YP,pairwise_cons->Ym,mem_map->X7
open Go.RowKit.Below renaming refl->ZM
open Go.Act renaming put->Zu
namespace Go.Proofs.YtnkjliahpeebjaaGreatDoor
variable{P:Rw->Prop}(c:Value)(l:Z5 Rw){p:Prop}{R D:Z5 Rw}{f:Value}{id d:Int}(k i:Int){cs:Z5 Ch}{name key r:Z7}(x:Fu)(s:Z7){b a:Z5 Ch × Int}
theorem AN{x y:Rw}(h:ed x y=ZW):ed y x=ZW:=by
 have e:ed y x=ed x y:=by unfold ed;rw[decide_eq_decide.2 (eq_comm:y.1=x.1↔x.1=y.1),decide_eq_decide.2 (eq_comm:aU y=aU x↔aU x=aU y)]
 rw[e,h]
theorem oB(x:Rw)(o:Z5 Rw):(cO x o).Perm (x::o):=by
 have e:o.takeWhile (cy x)++o.dropWhile (cy x)=o:=List.takeWhile_append_dropWhile;unfold cO;refine List.perm_middle.trans ?_
 rw[e]
theorem tB{a b:Z5 Rw}(p:a.Perm b)(h:DstL b):DstL a:=(List.Perm.pairwise_iff (fun h=>AN h) p).2 h
theorem Cv{x:Rw}{o:Z5 Rw}(h:DstL o)(H:∀ y∈o,ed x y=ZW):DstL (cO x o):=tB (oB x o) (Ym.2 ⟨H,h⟩)
theorem rO:∀ (l o:Z5 Rw),(l.foldl (fun o x=>cO x o) o).Perm (l++o)
 | [],o=>List.Perm.refl _
 | x::l,o=>by
   rw[YS];refine (rO l (cO x o)).trans ?_
   exact ((oB x o).append_left l).trans (List.perm_middle)
theorem rD:(eA l).Perm l:=by
 have:=rO l [];rwa [List.append_nil] at this
theorem Dn(c:Ch)(h:DstL D):DstL (eJ D c):=by
 have e:DstL (cD c D):=List.Pairwise.filter _ h;unfold eJ;split
 .refine Cv e fun y m=>?_
  have g:=(List.mem_filter.1 m).2;unfold ed;rw[YJ];intro H;rw[ZT,ZU,ZU] at H
  have j:jL c y=ZZ:=by
   unfold jL;rw[ZT,ZU,ZU];exact⟨H.1.symm,(Ds.bl_inj H.2).symm⟩
  rw[j] at g;cases g
 .exact e
theorem Dw(cs:Z5 Ch)(h:DstL D):DstL (apl D cs):=by
 have:∀ (l:Z5 Ch) (o:Z5 Rw),DstL o->DstL (l.foldl eJ o):=by
  intro l
  induction l with
  | nil=>intro o H;exact H
  | cons c l I=>intro o H;rw[YS];exact I _ (Dn c H)
 exact this cs _ (tB (rD D) h)
theorem Dm{c:Ch}(h:∀ x∈D,P x)(e:P (c.2.1,c.2.2.1,c.2.2.2.1)):∀ x∈eJ D c,P x:=by
 intro x H;unfold eJ at H;split at H
 .rcases Zw.1 ((oB _ _).subset H) with rfl|H
  .exact e
  .exact h x (List.mem_filter.1 H).1
 .exact h x (List.mem_filter.1 H).1
theorem Dv(h:∀ x∈D,P x)(j:∀ c∈cs,P (c.2.1,c.2.2.1,c.2.2.2.1)):∀ x∈apl D cs,P x:=by
 have:∀ (l:Z5 Ch) (o:Z5 Rw),(∀ c∈l,P (c.2.1,c.2.2.1,c.2.2.2.1))->(∀ x∈o,P x)->∀ x∈l.foldl eJ o,P x:=by
  intro l
  induction l with
  | nil=>intro o _ H;exact H
  | cons c l I=>intro o e H;rw[YS];exact I _ (fun C g=>e C (by simp [g])) (Dm H (e c (by simp)))
 exact this cs _ j (fun x m=>h x ((rD D).subset m))
theorem oY:(aC k s).size<=32:=by
 rw[<-Ds.bl_length,iU];unfold Ek.key;split
 .rename_i h;rw[ZK,Ek.pad_len _ h.2];omega
 .simp
def Kz(g:Z5 Ch × Int):Prop:=∀ c∈g.1,c.2.2.1.size<=32
theorem Kz.nil(e:Int):Kz ([],e):=fun _ h=>by cases h
theorem Kz.one{c:Ch}{e:Int}(h:c.2.2.1.size<=32):Kz ([c],e):=fun d H=>by rw[Zn.1 H];exact h
theorem nu(id:Int)(x:Fu):(bI id x).2.2.1.size<=32:=oY _ _
theorem mY(id:Int)(x:Fu):(bJ id x).2.2.1.size<=32:=oY _ _
theorem Kz.ite[Decidable p](h:Kz a)(H:Kz b):Kz (if p then a else b):=by split <;> assumption
theorem BG:Kz (eL l k i x s):=by
 have H:∀ id d name,Kz (gX l id d name):=fun id d name=>by
  unfold gX;refine Kz.ite (Kz.nil _) (Kz.ite (Kz.nil _) (Kz.ite (Kz.ite (Kz.nil _) ?_) (Kz.one (mY _ _))))
  intro c h;rcases YP.1 h with h|h
  .obtain⟨a,-,rfl⟩:=X7.1 h;exact mY _ _
  .rw[Zn.1 h];exact mY _ _
 have n:∀ id name t,Kz (gu l id name t):=fun id name t=>by
  unfold gu;refine Kz.ite (Kz.nil _) (Kz.ite (Kz.nil _) (Kz.ite (Kz.nil _) (Kz.ite (Kz.nil _) (Kz.ite (Kz.nil _) ?_))))
  intro c h;unfold jO at h;rcases Zw.1 h with rfl|h
  .exact mY _ _
  rcases Zw.1 h with rfl|h
  .exact nu _ _
  obtain⟨a,-,rfl⟩:=X7.1 h;exact nu _ _
 unfold eL;refine Kz.ite ?_ (Kz.ite ?_ (Kz.ite ?_ (Kz.ite ?_ ?_)))
 .unfold jg iK;exact Kz.ite (Kz.ite (Kz.nil _) (Kz.ite (Kz.ite (Kz.nil _) (Kz.ite (Kz.nil _) (Kz.ite (Kz.nil _) (Kz.one (nu _ _))))) (Kz.nil _))) (Kz.nil _)
 .unfold jb;exact Kz.ite (Kz.nil _) (H _ _ _)
 .unfold jd;exact Kz.ite (Kz.nil _) (Kz.ite (Kz.nil _) (Kz.ite (Kz.nil _) (Kz.ite (Kz.nil _) (n _ _ _))))
 .unfold jf;exact Kz.ite (Kz.nil _) (Kz.ite (Kz.nil _) (Kz.ite (Kz.nil _) (Kz.ite (Kz.nil _) (Kz.ite (Kz.nil _) (Kz.one (nu _ _))))))
 .unfold jh;exact Kz.ite (Kz.nil _) (Kz.ite (Kz.nil _) (Kz.ite (Kz.nil _) (Kz.one (oY _ _))))
def Lz(n:Nat)(g:Z5 Ch × Int):Prop:=g.1.length<=n
theorem Lz.nil(n:Nat)(e:Int):Lz n ([],e):=Y7 _
theorem Lz.one{n:Nat}(h:1<=n)(c:Ch)(e:Int):Lz n ([c],e):=h
theorem Lz.ite{n:Nat}[Decidable p](h:Lz n a)(H:Lz n b):Lz n (if p then a else b):=by split <;> assumption
theorem uz:Lz (l.length+2) (eL l k i x s):=by
 have one:1<=l.length+2:=by omega
 have h:∀ id d name,Lz (l.length+2) (gX l id d name):=fun id d name=>by
  unfold gX;refine Lz.ite (Lz.nil _ _) (Lz.ite (Lz.nil _ _) (Lz.ite (Lz.ite (Lz.nil _ _) ?_) (Lz.one one _ _)))
  have:=mv l id name;show (List.map (bJ id) (cW l id name).1++[_]).length<=_
  rw[ZQ,Zq,List.length_singleton];omega
 have H:∀ id name t,Lz (l.length+2) (gu l id name t):=fun id name t=>by
  unfold gu;refine Lz.ite (Lz.nil _ _) (Lz.ite (Lz.nil _ _) (Lz.ite (Lz.nil _ _) (Lz.ite (Lz.nil _ _) (Lz.ite (Lz.nil _ _) ?_))))
  have:=mv l id name;show (jO id _ t (cW l id name).1).length<=_
  unfold jO;rw[ZK,ZK,Zq];omega
 unfold eL;refine Lz.ite ?_ (Lz.ite ?_ (Lz.ite ?_ (Lz.ite ?_ ?_)))
 .unfold jg iK;exact Lz.ite (Lz.ite (Lz.nil _ _) (Lz.ite (Lz.ite (Lz.nil _ _) (Lz.ite (Lz.nil _ _) (Lz.ite (Lz.nil _ _) (Lz.one one _ _)))) (Lz.nil _ _))) (Lz.nil _ _)
 .unfold jb;exact Lz.ite (Lz.nil _ _) (h _ _ _)
 .unfold jd;exact Lz.ite (Lz.nil _ _) (Lz.ite (Lz.nil _ _) (Lz.ite (Lz.nil _ _) (Lz.ite (Lz.nil _ _) (H _ _ _))))
 .unfold jf;exact Lz.ite (Lz.nil _ _) (Lz.ite (Lz.nil _ _) (Lz.ite (Lz.nil _ _) (Lz.ite (Lz.nil _ _) (Lz.ite (Lz.nil _ _) (Lz.one one _ _)))))
 .unfold jh;exact Lz.ite (Lz.nil _ _) (Lz.ite (Lz.nil _ _) (Lz.ite (Lz.nil _ _) (Lz.one one _ _)))
abbrev Zo:=Int × Int × Fu × Z7
def iN(R:Z5 Rw)(z:Zo):Z5 Rw:=if (eL R z.1 z.2.1 z.2.2.1 z.2.2.2).2=0 then apl R (eL R z.1 z.2.1 z.2.2.1 z.2.2.2).1 else R
def dd(Z:Nat->Zo):Nat->Z5 Rw
 | 0=>[]
 | k+1=>iN (dd Z k) (Z k)
theorem Gp(z:Zo)(h:DstL R/\∀ x∈R,x.2.1.size<=60):DstL (iN R z)/\∀ x∈iN R z,x.2.1.size<=60:=by
 unfold iN;split
 .exact⟨Dw _ h.1,Dv h.2 fun c H=>ZD (BG R _ _ _ _ c H) (by decide)⟩
 .exact h
theorem uV(Z:Nat->Zo):∀ n,DstL (dd Z n)/\∀ x∈dd Z n,x.2.1.size<=60
 | 0=>⟨List.Pairwise.nil,fun _ h=>by cases h⟩
 | k+1=>Gp (Z k) (uV Z k)
theorem Mi(R:Z5 Rw)(z:Zo):(iN R z).length<=2*R.length+2:=by
 have h:=uz R z.1 z.2.1 z.2.2.1 z.2.2.2;unfold Lz at h;unfold iN;split
 .have:=pt R (eL R z.1 z.2.1 z.2.2.1 z.2.2.2).1;omega
 .omega
theorem uI(Z:Nat->Zo):∀ n,(dd Z n).length+2<=2 ^ (n+1)
 | 0=>by simp [dd]
 | k+1=>by
   have h:=uI Z k;have H:=Mi (dd Z k) (Z k);rw[dd,Nat.pow_succ];omega
theorem KH(Z:Nat->Zo){n:Nat}(h:n<=8):(dd Z n).length<=510:=by
 have H:=uI Z n;have e:2 ^ (n+1)<=2 ^ 9:=Nat.pow_le_pow_right (by decide) (by omega);have g:(2:Nat) ^ 9=512:=by decide
 omega
section
open Go.RowKit
set_option linter.unusedSimpArgs false
theorem sh36(a:Zy Addr)(n c:Nat)(w:Z2):Calls Tryz.prog 21 #[.slice a n c] w fun r W=>r=.returned (.pointer (Z9 ⟨w.heap.size,0,none⟩))/\w.alloc (.cells #[.slice a n c,.int .i64 0,.int .i64 0,.int .i64 0] 119)=W:=by
 go_enter Tryz.func21,Tryz.ntmps21
 go_wp2_with fail
 go_ret
 exact⟨rfl,rfl⟩
theorem gE(w:Z2)(g:RwS w c l)(H:∀ b,c.ownBlock=Z9 b->b<w.heap.size):SHs w (w.alloc (.cells #[c,.int .i64 0,.int .i64 0,.int .i64 0] 119)) w.heap.size c l 0 0 0:=by
 refine⟨⟨ak _ _ _ _,fun o=>by simp⟩,g.below ((ZM _ _).alloc (ZS _) _),fun b h e=>?_,ZS _,by simp,(ZM _ _).alloc (ZS _) _⟩
 have:=H b h;omega
theorem DY{w:Z2}{l:Z5 Int}(h:IS w f l)(H:0<l.length)(q:Nat)(j:f.ownBlock=Z9 q):q<w.heap.size:=by
 obtain⟨a,c,rfl,-,g⟩:=h;obtain⟨b,o,rfl,e,-⟩:=g H;cases j;exact e
theorem DG{w:Z2}{l:Z5 Gr}(h:GS w f l)(H:0<l.length)(q:Nat)(j:f.ownBlock=Z9 q):q<w.heap.size:=by
 obtain⟨a,c,rfl,-,g⟩:=h;obtain⟨b,o,rfl,e,-⟩:=g H;cases j;exact e
theorem yh(R:Z5 Rw)(k i:Int)(x:Fu)(s:Z7)(f g:Value)(w:Z2)(A:MaxL w)(T:Tab w)(B:RwS w c R)(n:∀ b,c.ownBlock=Z9 b->b<w.heap.size)(u:DstL R)(v:R.length<=1000)(z:∀ x∈R,x.2.1.size<=60)(E:x.1.name.size<=60)(C:s.size<=60)(I:IS w f x.2.1)(G:GS w g x.2.2) :
 Calls Tryz.prog 20 #[.iface 56 (.pointer (Z9 ⟨w.heap.size,0,none⟩)),.agg (opv k i x.1 f g s)] (w.alloc (.cells #[c,.int .i64 0,.int .i64 0,.int .i64 0] 119)) fun r W=>∃ o,r=.returned (.tuple #[o,.int .i64 (eL R k i x s).2])/\ChS W o (eL R k i x s).1/\RwS W c R/\ZV w.heap.size w W:=by
 have H:=aj w (.cells #[c,.int .i64 0,.int .i64 0,.int .i64 0] 119);refine (do36 w.heap.size c R 0 0 0 k i x s f g w _ A T (gE c R w B n) (fun b e=>ZY (n b e) H.size) v (fun y F=>ZD (z y F) (by decide)) (Int.le_refl _) (by decide) (.inr (Int.le_refl _)) (by omega) (by omega) (I.below H) (G.below H) (fun h q j=>by have:=DY I h q j;omega) (fun h q j=>by have:=DG G h q j;omega)).mono ?_
 rintro _ W ⟨o,rfl,m,t,-⟩;rw[I9 R 0 0 0 k i x s (Int.le_refl _) (Int.le_refl _) u] at m |-;exact⟨o,rfl,m,t.r,t.b⟩
def OL(w:Z2)(a:Zy Addr)(n:Nat)(Z:Nat->Zo):Prop:=∀ k,k<n->∃ b o f g,a=Z9 ⟨b,o,none⟩/\b<w.heap.size/\eI w b (o+k*36)=opv (Z k).1 (Z k).2.1 (Z k).2.2.1.1 f g (Z k).2.2.2/\IS w f (Z k).2.2.1.2.1/\GS w g (Z k).2.2.1.2.2/\(Z k).2.2.1.1.name.size<=60/\(Z k).2.2.2.size<=60
theorem OL.below{w W:Z2}{a:Zy Addr}{n:Nat}{Z:Nat->Zo}(h:OL w a n Z)(H:ZV w.heap.size w W):OL W a n Z:=fun k v=>by
 obtain⟨b,o,f,g,e,j,m,q,t,u⟩:=h k v;exact⟨b,o,f,g,e,ZY j H.size,rQ H m (by rw[eO];decide),q.below H,t.below H,u⟩
attribute [local go_sem ↓] wQ nJ
attribute [local go_sem] bn aS aH bE bH aK aT ak aI aw az aM eO aQ aL aP aO aR aY aW bD
theorem run36(a:Zy Addr)(n c:Nat)(Z:Nat->Zo)(w:Z2)(hn:n<=8)(hm:MaxL w)(hT:Tab w)(hF:OL w a n Z) :
 Calls Tryz.prog 33 #[.slice a n c] w fun r w'=>∃ v',r=.returned v'/\RwS w' v' (dd Z n)/\(∀ q,v'.ownBlock=Z9 q->q<w'.heap.size)/\ZV w.heap.size w w':=by
 have HF:=lh hF;have HM:=lh (fun W (b:ZV w.heap.size w W)=>And.intro (hm.below b) (hT.below b));clear hF hm hT;go_enter Tryz.func33,Tryz.ntmps33
 go_wp2_with fail
 go_loopw [3,10] (fun v i wr=>∃ (k:Nat),k<=n/\i=.int .i64 k/\Hid (RwS wr v (dd Z k))/\Hid (∀ q,v.ownBlock=Z9 q->q<wr.heap.size)/\Hid (ZV w.heap.size w wr)) (fun _ i _=>n - (Y4 i).toNat)
 case atStart=>exact⟨0,Y7 _,rfl,lh ⟨none,0,rfl,by simp [dd],fun h=>by simp [dd] at h⟩,lh (fun q F=>by cases F),lh (ZM _ _)⟩
 case round =>
  obtain⟨k,hk,rfl,HR,HQ,I⟩:=hrel;obtain⟨va,vc,rfl,-⟩:=XP HR.o;have ad:=KH Z (n:=k) (by omega);obtain⟨hd,E⟩:=uV Z k;have H:dd Z (k+1)=iN (dd Z k) (Z k):=rfl;unfold iN at H;by_cases ac:k<n
  .obtain⟨b,o,f,gr,rfl,hb,e,U,Q,t,m⟩:=(HF.o.below I.o) k ac;generalize dd Z k=D at ad hd E H HR HQ |-;generalize Z k=z at e U Q t m H;obtain⟨zk,zi,x,s⟩:=z;dsimp only at e U Q t m H;have a4:=kl (k:=zk) (i:=zi) (s:=s) (ay x.1 f gr (aD U) (aE Q));have af:(eI wr b (o+k*36)).size=36:=by rw[e];exact eO _ _ _ _ _ _
   have j1:(0:Int)<=(k:Int):=by omega
   have j2:(k:Int)<(n:Int):=by omega
   have j:=fun W (b:ZV wr.heap.size wr W)=>yh (.slice va D.length vc) D zk zi x s f gr W (HM.o W (bt I.o b)).1 (HM.o W (bt I.o b)).2 (HR.o.below b) (fun q F=>ZY (HQ.o q F) b.size) hd (by omega) E t m (U.below b) (Q.below b)
   have A:=uz D zk zi x s;unfold Lz at A;generalize eL D zk zi x s=g at j H A;obtain⟨cs,C⟩:=g;dsimp only at j H A
   have O:=lh j;have T:=lh H;generalize a2:opv zk zi x.1 f gr s=cv at e a4 O;have B:cv.size=36:=by rw[<-a2];exact eO _ _ _ _ _ _
   clear j H U Q t m hd E a2;have N:=ak wr cv 31 (0,0);go_upto_region 5 with fail
   generalize Y:wr.alloc (.cells cv 31)=y at N |-;have B1:=lh (show ZV wr.heap.size wr y by rw[<-Y];exact aj _ _);clear Y;refine Xf (S:=fun w'=>row w' wr.heap.size=cv) (by kernel_rfl) N (fun hHeld=>?_)
   (refine rgy (i:=0) (Z9 15) ?_;(try simp only[Zu,pz]))
   (refine eq (i:=3) (Z9 18) (v:=.agg (cv)) rfl rfl (by kernel_rfl) (by kernel_rfl) (by kernel_rfl) (fun _ _ _ h=>h) (by kernel_rfl) (fun wS X=>?_) (by assumption) ?_;focus (exact (lT _ wS _ _ _ _ _ _ rfl (by show (row wS (wr.heap.size)).size=36;rw[X];exact B)).trans (by show Result.ok (Next.value (.agg (row wS (wr.heap.size)))) wS=_;rw[X]));(try simp only[Zu,pz]))
   refine rgb (i:=1) (by kernel_rfl) rfl (fun K V=>?_)
   go_simp
   go_at_call 21
   refine (sh36 _ _ _ _).mono ?_
   rintro _ _ ⟨rfl,rfl⟩;refine V.out _ _ (am (aj y.drew _) N (by rw[B];decide)) (fun hHeld=>?_)
   (clear V K;(try simp only[Zu,pz]))
   (refine rgy (i:=2) (Z9 17) ?_;(try simp only[Zu,pz]))
   refine rgb (i:=4) (by kernel_rfl) rfl (fun K V=>?_)
   go_simp
   go_at_call 20
   refine (O.o y.drew B1.o.drew).mono ?_
   rintro _ w5 ⟨ov,rfl,hc,a5,a0⟩;have b5:ZV y.heap.size y w5:=(ZM y.heap.size y).drew.trans a0;have R5:=am b5 N (by rw[B];decide);refine V.out _ _ R5 (fun hHeld=>?_)
   (clear V K;(try simp only[Zu,pz]))
   (refine rgy (i:=5) (Z9 14) ?_;(try simp only[Zu,pz]))
   (refine rgy (i:=6) (Z9 20) ?_;(try simp only[Zu,pz]))
   (refine rgy (i:=7) (Z9 21) ?_;(try simp only[Zu,pz]))
   (refine rgy (i:=8) (Z9 6) ?_;(try simp only[Zu,pz]))
   (refine rgy (i:=9) (Z9 7) ?_;(try simp only[Zu,pz]))
   refine wpAnyH_done (by kernel_rfl) ?_ _
   have HC:=lh hc;have L:=lh a5;have J:=lh (bt I.o (bt B1.o b5));have a9:=lh (fun q F=>ZY (HQ.o q F) (ZD B1.o.size b5.size));clear hc a5 a0 b5 R5 hHeld N;by_cases G:C=0
   rotate_left
   .have t1:(C==0)=ZW:=ZG.2 G;have u:Hid (dd Z (k+1)=D):=lh (by rw[T.o,Z0 G]);clear G;go_wp2_with fail
    go_roundw
    case rel=>exact⟨k+1,by omega,by go_num,lh (by rw[u.o];exact L.o),a9,J⟩
    case measure=>simp [Y4];omega
   have t1:(C==0)=ZZ:=beq_iff_eq.2 G;have u:Hid (dd Z (k+1)=apl D cs):=lh (by rw[T.o,ZX G]);obtain⟨ca,cc,rfl,-⟩:=XP HC.o;have a7:=lh (AY (.slice va D.length vc) D (.slice ca cs.length cc) cs w5 L.o HC.o (by omega) (by omega));clear G;go_wp2_with (go_at_call 29;(refine a7.o.mono ?_);rintro _ w6 ⟨v6,rfl,a6,a3,a1⟩;have ab:=lh a6;have aa:=lh (fun q F=>(a3 q F).2);have a8:=lh (bt J.o a1);clear a6 a3 a1)
   go_roundw
   case rel=>exact⟨k+1,by omega,by go_num,lh (by rw[u.o];exact ab.o),aa,a8⟩
   case measure=>simp [Y4];omega
  .obtain rfl:k=n:=by omega
   go_wp2_with fail
   go_ret
   exact⟨_,rfl,HR.o,HQ.o,I.o⟩
end
/-! records in rows whose places differ -/
theorem Jj{id:Int}{key s:Z7}:∀ {l:Z5 Rw},bZ id key l=Z9 s->(id,key,s)∈l
 | [],h=>by cases h
 | x::l,h=>by
   rw[bZ] at h;split at h
   .rename_i g;obtain⟨a,b,c⟩:=x;obtain⟨H,e⟩:=g;dsimp only at H e h;cases h
    rw[H,e];exact List.mem_cons_self
   .exact List.mem_cons_of_mem _ (Jj h)
theorem Jo{id:Int}{key s:Z7}:∀ {l:Z5 Rw},DstL l->(id,key,s)∈l->bZ id key l=Z9 s
 | [],_,h=>by cases h
 | x::l,m,h=>by
   obtain⟨H,j⟩:=Ym.1 m;rw[bZ];rcases Zw.1 h with e|h
   .rw[<-e,ZX ⟨rfl,rfl⟩]
   .have:=H _ h;rw[Z0]
    .exact Jo j h
    .rintro ⟨E,g⟩;unfold ed at this;rw[ZL (by exact E),ZL (by show Ds.bl x.2.1=Ds.bl key;rw[g])] at this;cases this
theorem JM{a b:Z5 Rw}(p:a.Perm b)(h:DstL b):bZ id key a=bZ id key b:=by
 have ha:DstL a:=tB p h
 cases e:bZ id key b with
 | some s=>exact Jo ha (p.mem_iff.2 (Jj e))
 | none =>
   cases E:bZ id key a with
   | none=>rfl
   | some s=>rw[Jo h (p.mem_iff.1 (Jj E))] at e;cases e
theorem JN{id:Int}{key:Z7}(c:Ch):∀ (l:Z5 Rw),bZ id key (cD c l)=if c.2.1=id/\c.2.2.1=key then none else bZ id key l
 | []=>by unfold cD bZ;simp
 | x::l=>by
   have I:=JN (id:=id) (key:=key) c l;unfold cD at I |-;rw[List.filter_cons,bZ];by_cases H:jL c x=ZZ
   .rw[Z0 (by rw[H];simp),I];unfold jL at H;rw[ZT,ZU,ZU] at H;by_cases h:c.2.1=id/\c.2.2.1=key
    .rw[ZX h,ZX h]
    .rw[Z0 h,Z0 h,Z0 (fun q=>h ⟨H.1.symm.trans q.1,H.2.symm.trans q.2⟩)]
   .rw[ZX (by rw[YJ.2 H];rfl),bZ,I];unfold jL at H;rw[ZT,ZU,ZU] at H;by_cases e:x.1=id/\x.2.1=key
    .rw[ZX e,ZX e,Z0 (fun q=>H ⟨e.1.trans q.1.symm,e.2.trans q.2.symm⟩)]
    .rw[Z0 e,Z0 e]
theorem Ji(h:DstL R)(c:Ch):bZ id key (eJ R c)=if c.2.1=id/\c.2.2.1=key then (if c.1=0 then Z9 c.2.2.2.1 else none) else bZ id key R:=by
 have g:=Dn c h;have j:=JN (id:=id) (key:=key) c R;unfold eJ at g |-;by_cases e:c.1=0
 .rw[ZX e] at g;have p:=oB (c.2.1,c.2.2.1,c.2.2.2.1) (cD c R);have m:DstL ((c.2.1,c.2.2.1,c.2.2.2.1)::cD c R):=tB p.symm g;rw[ZX e,JM p m,bZ,j];by_cases H:c.2.1=id/\c.2.2.1=key
  .rw[ZX H,ZX H,ZX e]
  .rw[Z0 H,Z0 H,Z0 H]
 .rw[Z0 e,j];by_cases H:c.2.1=id/\c.2.2.1=key
  .rw[ZX H,ZX H,Z0 e]
  .rw[Z0 H,Z0 H]
theorem LK(h:DstL D):bZ id key (apl D [])=bZ id key D:=JM (rD D) h
theorem LL(h:DstL D)(g:∀ c∈cs,¬ (c.2.1=id/\c.2.2.1=key)):bZ id key (apl D cs)=bZ id key D:=by
 have:∀ (l:Z5 Ch) (o:Z5 Rw),DstL o->(∀ c∈l,¬ (c.2.1=id/\c.2.2.1=key))->bZ id key (l.foldl eJ o)=bZ id key o:=by
  intro l
  induction l with
  | nil=>intro o _ _;rfl
  | cons c l I =>
    intro o e H;rw[YS,I _ (Dn c e) (fun d j=>H d (List.mem_cons_of_mem _ j)),Ji e,Z0 (H c List.mem_cons_self)]
 exact (this cs _ (tB (rD D) h) g).trans (LK h)
theorem JC(h:DstL D){a b:Z5 Ch}{v:Z7}(j:∀ c∈b,¬ (c.2.1=id/\c.2.2.1=key)):bZ id key (apl D (a++(0,id,key,r,v)::b))=Z9 r:=by
 have:∀ (l:Z5 Ch) (o:Z5 Rw),DstL o->(∀ c∈l,¬ (c.2.1=id/\c.2.2.1=key))->bZ id key (l.foldl eJ o)=bZ id key o:=by
  intro l
  induction l with
  | nil=>intro o _ _;rfl
  | cons c l I =>
    intro o g H;rw[YS,I _ (Dn c g) (fun d m=>H d (List.mem_cons_of_mem _ m)),Ji g,Z0 (H c List.mem_cons_self)]
 have ha:=Dw a h
 have e:apl D (a++(0,id,key,r,v)::b)=b.foldl eJ (eJ (apl D a) (0,id,key,r,v)):=by
  unfold apl;rw[List.foldl_append,YS]
 rw[e,this b _ (Dn _ ha) j,Ji ha,ZX ⟨rfl,rfl⟩,ZX rfl]
theorem Lh{l L:Z5 Rw}(h:bZ id (aC d name) l=bZ id (aC d name) L):bz l id d name=bz L id d name:=by
 unfold bz aG;rw[h]
/-! keys of different kinds differ -/
theorem Jm{k j:Int}{a b:Z7}(g:0<=k/\k<=4)(H:0<=j/\j<=4)(ha:aC k a≠⟨#[]⟩)(h:aC k a=aC j b):k=j:=by
 have e:=congrArg Ds.bl h;rw[iU,iU] at e;unfold Ek.key at e;split at e
 .split at e
  .injection e with E _
   exact Ek.letter_inj _ _ g H E
  .cases e
 .rename_i n;exfalso
  refine ha ?_
  unfold aC Ek.key;rw[Z0 n]
theorem Li{l L:Z5 Rw}(h:aC d name≠⟨#[]⟩->bZ id (aC d name) l=bZ id (aC d name) L):bz l id d name=bz L id d name:=by
 by_cases H:aC d name=⟨#[]⟩
 .unfold bz aG;rw[ZX H,ZX H]
 .exact Lh (h H)
theorem JO{l L:Z5 Rw}(h:∀ m,bz l 1 3 m=bz L 1 3 m):cj l name=cj L name:=by
 have:∀ N,kp l name N=kp L name N:=by
  intro N
  induction N with
  | nil=>rfl
  | cons n N I=>rw[kp,kp,h,I]
 unfold cj;rw[this]
def I0(d:Int)(cs:Z5 Ch):Prop:=∀ c∈cs,∃ k n,(0<=k/\k<=4)/\k≠d/\c.2.2.1=aC k n
theorem I6(o:DstL D)(q:0<=d/\d<=4)(h:I0 d cs):bz (apl D cs) id d name=bz D id d name :=
 Li fun H=>LL o fun c n=>by
  rintro ⟨-,e⟩;obtain⟨k,N,g,j,m⟩:=h c n;rw[m] at e;exact j (Jm q g H e.symm).symm
/-! reading what was put -/
theorem Kw(h:aA x=ZZ):bw (aC x.1.kind x.1.name) (bC x)=(x,0):=by
 have H:cF (Ds.bl (bC x))=Z9 x:=by
  unfold bC;rw[ZX h,Ds.bl_mk];exact BV _ h (Bp _ h)
 unfold bw;rw[H];exact ZX (iU _ _).symm
theorem Jl(h:aA x=ZZ):¬ aC x.1.kind x.1.name=⟨#[]⟩:=by
 intro e;have:=ki x h;unfold dL at this;rw[<-iU,e] at this;cases this
theorem JR{l:Z5 Rw}{x:Fu}(H:aA x=ZZ)(h:bZ id (aC x.1.kind x.1.name) l=Z9 (bC x)):bz l id x.1.kind x.1.name=(x,0):=by
 unfold bz aG;rw[Z0 (Jl x H),Z0 (by decide),h];exact Kw x H
theorem FQ(h:aA x=ZZ):cF (Ds.bl (bC x))=Z9 x:=by
 unfold bC;rw[ZX h,Ds.bl_mk];exact BV _ h (Bp _ h)
theorem Jr{l:Z5 Rw}(h:(cj l name).2=0):(1<=(cj l name).1/\(cj l name).1<=15)/\Ds.name (Ds.bl name)=ZZ:=by
 have L:∀ N,(kp l name N).2=0->1<=(kp l name N).1/\(kp l name N).1<=15:=by
  intro N
  induction N with
  | nil=>intro _;exact⟨(by decide:(1:Int)<=1),(by decide:(1:Int)<=15)⟩
  | cons n N I =>
    intro h;rw[kp] at h |-;have j:=@pD l 1 3 (iF n name);generalize bz l 1 3 (iF n name)=g at j h |-;obtain⟨x,c⟩:=g;dsimp only at j h |-;by_cases e:c=0
    .rw[ZX e];obtain⟨-,H,t⟩:=j e;have m:x.1.kind=3:=Jm (pH H) (by decide) (Jl x H) t;unfold aA fK Vp.cat Vp.rng at H;rw[m] at H;simp at H
     exact H.1.2
    .rw[Z0 e] at h |-;by_cases o:c=6
     .rw[ZX o] at h |-;exact I h
     .rw[Z0 o] at h;exact absurd h e
 unfold cj at h |-;cases q:Ds.name (Ds.bl name)
 .rw[q,ZX rfl] at h;exact absurd h (by decide)
 .rw[q,Z0 (by simp)] at h;rw[Z0 (by simp)];exact⟨L _ h,rfl⟩
/-! the law -/
def bg(c:Ch):Zy Fu:=if c.1=0 then (match cF (Ds.bl c.2.2.2.1) with
 | some y=>if y.1.kind=0 then Z9 y else none
 | none=>none) else none
def zS(R:Z5 Rw)(y:Fu):Ch:=(7,y.1.d0,⟨#[]⟩,(kc R y.1.name).1,y.1.vol)
def bj(R:Z5 Rw)(cs:Z5 Ch):Z5 Ch:=cs.filterMap fun c=>(bg c).map (zS R)
theorem JP{c:Ch}{y:Fu}(h:nI c=Z9 y)(g:y.1.kind=0):bg c=Z9 y:=by
 unfold nI at h;split at h
 .rename_i e;unfold bg;rw[ZX e.1]
  cases H:cF (Ds.bl c.2.2.2.1) with
  | none=>rw[H] at h;cases h
  | some z =>
    rw[H] at h;dsimp only at h |-;split at h
    .cases h;rw[ZX g]
    .cases h
 .cases h
theorem Jx{D:Z5 Rw}:∀ (cs e o:Z5 Ch),(∀ c∈cs,bg c=none)->zip D e cs o=(o,0)
 | [],e,o,_=>by rw[zip]
 | c::cs,e,o,h=>by
   have g:=Jx (D:=D) cs (e++[c]) o fun d m=>h d (List.mem_cons_of_mem _ m)
   have j:=h c List.mem_cons_self
   cases H:nI c with
   | none=>rw[Jc H,g]
   | some y=>rw[IR H (fun n=>by rw[JP H n] at j;cases j),g]
def LwC(D:Z5 Rw)(g:Z5 Ch × Int):Prop:=g.2=0->zip D [] g.1 []=(bj (apl D g.1) g.1,0)/\∀ c∈g.1,∀ y,bg c=Z9 y->(kc (apl D g.1) y.1.name).2=0
theorem LwC.bad{e:Int}(h:e≠0):LwC D ([],e):=fun q=>absurd q h
theorem LwC.none{g:Z5 Ch × Int}(h:∀ c∈g.1,bg c=none):LwC D g:=fun _=>by
 refine⟨?_,fun c H y j=>by rw[h c H] at j;cases j⟩
 rw[Jx _ _ _ h]
 have e:bj (apl D g.1) g.1=[]:=by
  unfold bj;rw[List.filterMap_eq_nil_iff];intro c H;rw[h c H];rfl
 rw[e]
theorem LwC.ite[Decidable p](h:p->LwC D a)(H:¬ p->LwC D b):LwC D (if p then a else b):=by
 split
 .exact h ‹_›
 .exact H ‹_›
/-! an operation adds one row at most -/
theorem KL{x y z:Rw}(h:ed x y=ZZ)(H:ed x z=ZZ):ed y z=ZZ:=by
 unfold ed at h H |-;rw[ZT,ZU,ZU] at h H |-;exact⟨h.1.symm.trans H.1,h.2.symm.trans H.2⟩
theorem JZ:∀ (A B:Z5 Rw),DstL A->(∀ x∈A,∃ y∈B,ed y x=ZZ)->A.length<=B.length
 | [],B,_,_=>Y7 _
 | x::A,B,q,h=>by
   obtain⟨n,o⟩:=Ym.1 q;obtain⟨y,v,t⟩:=h x List.mem_cons_self;obtain⟨j,m,rfl⟩:=List.append_of_mem v
   have I:=JZ A (j++m) o fun z g=>by
    obtain⟨u,e,H⟩:=h z (List.mem_cons_of_mem _ g);rcases YP.1 e with e|e
    .exact⟨u,List.mem_append_left _ e,H⟩
    .rcases Zw.1 e with rfl|e
     .have:=n z g;rw[KL t H] at this;cases this
     .exact⟨u,List.mem_append_right _ e,H⟩
   rw[ZQ] at I;rw[ZQ,ZK,ZK];omega
def Old1(R:Z5 Rw)(cs:Z5 Ch):Prop:=∃ p:Rw,∀ c∈cs,c.1=0->∃ y∈p::R,y.1=c.2.1/\y.2.1=c.2.2.1
theorem Lt(j:DstL R)(h:Old1 R cs):(apl R cs).length<=R.length+1:=by
 obtain⟨p,t⟩:=h
 have e:∀ x∈apl R cs,∃ y∈p::R,ed y x=ZZ:=by
  have:∀ (l:Z5 Ch) (o:Z5 Rw),(∀ c∈l,c.1=0->∃ y∈p::R,y.1=c.2.1/\y.2.1=c.2.2.1)->(∀ x∈o,∃ y∈p::R,ed y x=ZZ)->∀ x∈l.foldl eJ o,∃ y∈p::R,ed y x=ZZ:=by
   intro l
   induction l with
   | nil=>intro o _ g;exact g
   | cons c l I =>
     intro o m g;rw[YS];refine I _ (fun d j=>m d (List.mem_cons_of_mem _ j)) fun x H=>?_
     unfold eJ at H;split at H
     .rename_i q;rcases Zw.1 ((oB _ _).subset H) with rfl|H
      .obtain⟨y,u,E,n⟩:=m c List.mem_cons_self q;refine⟨y,u,?_⟩
       unfold ed;rw[ZL (by exact E),ZL (by exact congrArg Ds.bl n)];rfl
      .exact g x (List.mem_filter.1 H).1
     .exact g x (List.mem_filter.1 H).1
  refine this cs _ t fun x H=>⟨x,List.mem_cons_of_mem _ ((rD R).subset H),?_⟩
  unfold ed;rw[ZL rfl,ZL rfl];rfl
 have:=JZ _ _ (Dw cs j) e;rw[ZK] at this;exact this
theorem Old1.nil(R:Z5 Rw):Old1 R []:=⟨(0,⟨#[]⟩,⟨#[]⟩),fun _ h=>by cases h⟩
theorem Old1.one(R:Z5 Rw)(c:Ch):Old1 R [c]:=⟨(c.2.1,c.2.2.1,⟨#[]⟩),fun d h _=>by rw[Zn.1 h];exact⟨_,List.mem_cons_self,rfl,rfl⟩⟩
theorem Old1.era(h:∀ c∈cs,c.1≠0):Old1 R cs:=⟨(0,⟨#[]⟩,⟨#[]⟩),fun c e H=>absurd H (h c e)⟩
theorem Old1.ite[Decidable p](h:Old1 R a.1)(H:Old1 R b.1):Old1 R (if p then a else b).1:=by split <;> assumption
theorem Ln:Old1 l (eL l k i x s).1:=by
 have N:=Old1.nil l;have E:∀ id y,(bJ id y).1≠0:=fun id y=>(show (1:Int)≠0 by decide)
 have m:∀ id d name,Old1 l (gX l id d name).1:=fun id d name=>by
  unfold gX;refine Old1.ite N (Old1.ite N (Old1.ite (Old1.ite N (Old1.era ?_)) (Old1.one _ _)))
  intro c h;rcases YP.1 h with h|h
  .obtain⟨a,-,rfl⟩:=X7.1 h;exact E _ _
  .rw[Zn.1 h];exact E _ _
 have n:∀ id name t,Old1 l (gu l id name t).1:=fun id name t=>by
  unfold gu;refine Old1.ite N (Old1.ite N (Old1.ite N (Old1.ite N (Old1.ite N ?_))))
  have H:=uo l id name;dsimp only;generalize (cW l id name).1=A at H |-;generalize (bz l id 0 name).1=e;refine⟨((bI id (dz e t)).2.1,(bI id (dz e t)).2.2.1,⟨#[]⟩),fun c h o=>?_⟩
  unfold jO at h;rcases Zw.1 h with rfl|h
  .exact absurd o (E _ _)
  rcases Zw.1 h with rfl|h
  .exact⟨_,List.mem_cons_self,rfl,rfl⟩
  obtain⟨a,ha,rfl⟩:=X7.1 h;obtain⟨-,q,x,u,g,j⟩:=H a ha;refine⟨x,List.mem_cons_of_mem _ u,g,?_⟩
  rw[j];show aC 2 a.1.name=aC a.1.kind a.1.name
  rw[q]
 unfold eL;refine Old1.ite ?_ (Old1.ite ?_ (Old1.ite ?_ (Old1.ite ?_ ?_)))
 .unfold jg iK;exact Old1.ite (Old1.ite N (Old1.ite (Old1.ite N (Old1.ite N (Old1.ite N (Old1.one _ _)))) N)) N
 .unfold jb;exact Old1.ite N (m _ _ _)
 .unfold jd;exact Old1.ite N (Old1.ite N (Old1.ite N (Old1.ite N (n _ _ _))))
 .unfold jf;exact Old1.ite N (Old1.ite N (Old1.ite N (Old1.ite N (Old1.ite N (Old1.one _ _)))))
 .unfold jh;exact Old1.ite N (Old1.ite N (Old1.ite N (Old1.one _ _)))
theorem LF(h:DstL R)(z:Zo):(iN R z).length<=R.length+1:=by
 unfold iN;split
 .exact Lt h (Ln R _ _ _ _)
 .omega
theorem Jf(Z:Nat->Zo):∀ n,(dd Z n).length<=n
 | 0=>Y7 _
 | k+1=>by
   have h:=Jf Z k;have H:=LF (uV Z k).1 (Z k);rw[dd];omega
section
open Go.RowKit
set_option linter.unusedSimpArgs false
attribute [local go_sem ↓] wQ nJ
attribute [local go_sem] bn aS aH bE bH aK aT ak aI aw az aM eO aQ aL aP aO aR aY aW bD
theorem run36b(a:Zy Addr)(n c:Nat)(Z:Nat->Zo)(w:Z2)(hn:n<=100)(hm:MaxL w)(hT:Tab w)(hF:OL w a n Z) :
 Calls Tryz.prog 33 #[.slice a n c] w fun r w'=>∃ v',r=.returned v'/\RwS w' v' (dd Z n)/\(∀ q,v'.ownBlock=Z9 q->q<w'.heap.size)/\ZV w.heap.size w w':=by
 have HF:=lh hF;have HM:=lh (fun W (b:ZV w.heap.size w W)=>And.intro (hm.below b) (hT.below b));clear hF hm hT;go_enter Tryz.func33,Tryz.ntmps33
 go_wp2_with fail
 go_loopw [3,10] (fun v i wr=>∃ (k:Nat),k<=n/\i=.int .i64 k/\Hid (RwS wr v (dd Z k))/\Hid (∀ q,v.ownBlock=Z9 q->q<wr.heap.size)/\Hid (ZV w.heap.size w wr)) (fun _ i _=>n - (Y4 i).toNat)
 case atStart=>exact⟨0,Y7 _,rfl,lh ⟨none,0,rfl,by simp [dd],fun h=>by simp [dd] at h⟩,lh (fun q F=>by cases F),lh (ZM _ _)⟩
 case round =>
  obtain⟨k,hk,rfl,HR,HQ,I⟩:=hrel;obtain⟨va,vc,rfl,-⟩:=XP HR.o;have ad:=Jf Z k;obtain⟨hd,E⟩:=uV Z k;have H:dd Z (k+1)=iN (dd Z k) (Z k):=rfl;unfold iN at H;by_cases ac:k<n
  .obtain⟨b,o,f,gr,rfl,hb,e,U,Q,t,m⟩:=(HF.o.below I.o) k ac;generalize dd Z k=D at ad hd E H HR HQ |-;generalize Z k=z at e U Q t m H;obtain⟨zk,zi,x,s⟩:=z;dsimp only at e U Q t m H;have a4:=kl (k:=zk) (i:=zi) (s:=s) (ay x.1 f gr (aD U) (aE Q));have af:(eI wr b (o+k*36)).size=36:=by rw[e];exact eO _ _ _ _ _ _
   have j1:(0:Int)<=(k:Int):=by omega
   have j2:(k:Int)<(n:Int):=by omega
   have j:=fun W (b:ZV wr.heap.size wr W)=>yh (.slice va D.length vc) D zk zi x s f gr W (HM.o W (bt I.o b)).1 (HM.o W (bt I.o b)).2 (HR.o.below b) (fun q F=>ZY (HQ.o q F) b.size) hd (by omega) E t m (U.below b) (Q.below b)
   have A:=uz D zk zi x s;unfold Lz at A;generalize eL D zk zi x s=g at j H A;obtain⟨cs,C⟩:=g;dsimp only at j H A
   have O:=lh j;have T:=lh H;generalize a2:opv zk zi x.1 f gr s=cv at e a4 O;have B:cv.size=36:=by rw[<-a2];exact eO _ _ _ _ _ _
   clear j H U Q t m hd E a2;have N:=ak wr cv 31 (0,0);go_upto_region 5 with fail
   generalize Y:wr.alloc (.cells cv 31)=y at N |-;have B1:=lh (show ZV wr.heap.size wr y by rw[<-Y];exact aj _ _);clear Y;refine Xf (S:=fun w'=>row w' wr.heap.size=cv) (by kernel_rfl) N (fun hHeld=>?_)
   (refine rgy (i:=0) (Z9 15) ?_;(try simp only[Zu,pz]))
   (refine eq (i:=3) (Z9 18) (v:=.agg (cv)) rfl rfl (by kernel_rfl) (by kernel_rfl) (by kernel_rfl) (fun _ _ _ h=>h) (by kernel_rfl) (fun wS X=>?_) (by assumption) ?_;focus (exact (lT _ wS _ _ _ _ _ _ rfl (by show (row wS (wr.heap.size)).size=36;rw[X];exact B)).trans (by show Result.ok (Next.value (.agg (row wS (wr.heap.size)))) wS=_;rw[X]));(try simp only[Zu,pz]))
   refine rgb (i:=1) (by kernel_rfl) rfl (fun K V=>?_)
   go_simp
   go_at_call 21
   refine (sh36 _ _ _ _).mono ?_
   rintro _ _ ⟨rfl,rfl⟩;refine V.out _ _ (am (aj y.drew _) N (by rw[B];decide)) (fun hHeld=>?_)
   (clear V K;(try simp only[Zu,pz]))
   (refine rgy (i:=2) (Z9 17) ?_;(try simp only[Zu,pz]))
   refine rgb (i:=4) (by kernel_rfl) rfl (fun K V=>?_)
   go_simp
   go_at_call 20
   refine (O.o y.drew B1.o.drew).mono ?_
   rintro _ w5 ⟨ov,rfl,hc,a5,a0⟩;have b5:ZV y.heap.size y w5:=(ZM y.heap.size y).drew.trans a0;have R5:=am b5 N (by rw[B];decide);refine V.out _ _ R5 (fun hHeld=>?_)
   (clear V K;(try simp only[Zu,pz]))
   (refine rgy (i:=5) (Z9 14) ?_;(try simp only[Zu,pz]))
   (refine rgy (i:=6) (Z9 20) ?_;(try simp only[Zu,pz]))
   (refine rgy (i:=7) (Z9 21) ?_;(try simp only[Zu,pz]))
   (refine rgy (i:=8) (Z9 6) ?_;(try simp only[Zu,pz]))
   (refine rgy (i:=9) (Z9 7) ?_;(try simp only[Zu,pz]))
   refine wpAnyH_done (by kernel_rfl) ?_ _
   have HC:=lh hc;have L:=lh a5;have J:=lh (bt I.o (bt B1.o b5));have a9:=lh (fun q F=>ZY (HQ.o q F) (ZD B1.o.size b5.size));clear hc a5 a0 b5 R5 hHeld N;by_cases G:C=0
   rotate_left
   .have t1:(C==0)=ZW:=ZG.2 G;have u:Hid (dd Z (k+1)=D):=lh (by rw[T.o,Z0 G]);clear G;go_wp2_with fail
    go_roundw
    case rel=>exact⟨k+1,by omega,by go_num,lh (by rw[u.o];exact L.o),a9,J⟩
    case measure=>simp [Y4];omega
   have t1:(C==0)=ZZ:=beq_iff_eq.2 G;have u:Hid (dd Z (k+1)=apl D cs):=lh (by rw[T.o,ZX G]);obtain⟨ca,cc,rfl,-⟩:=XP HC.o;have a7:=lh (AY (.slice va D.length vc) D (.slice ca cs.length cc) cs w5 L.o HC.o (by omega) (by omega));clear G;go_wp2_with (go_at_call 29;(refine a7.o.mono ?_);rintro _ w6 ⟨v6,rfl,a6,a3,a1⟩;have ab:=lh a6;have aa:=lh (fun q F=>(a3 q F).2);have a8:=lh (bt J.o a1);clear a6 a3 a1)
   go_roundw
   case rel=>exact⟨k+1,by omega,by go_num,lh (by rw[u.o];exact ab.o),aa,a8⟩
   case measure=>simp [Y4];omega
  .obtain rfl:k=n:=by omega
   go_wp2_with fail
   go_ret
   exact⟨_,rfl,HR.o,HQ.o,I.o⟩
end
end Go.Proofs.YtnkjliahpeebjaaGreatDoor
