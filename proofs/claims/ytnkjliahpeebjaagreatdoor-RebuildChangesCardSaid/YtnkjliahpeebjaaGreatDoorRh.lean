/- Catalogs. -/
import Derived.Test.YtnkjliahpeebjaaGreatDoorDcA
import Derived.Test.YtnkjliahpeebjaaGreatDoorRg0
set_option maxRecDepth 8000
set_option maxHeartbeats 16000000
open Option renaming some->Z9,none->Z7
open _root_ renaming ByteArray->Z6,List->Z1,decide_eq_true_eq->ZU,if_neg->ZS,if_pos->ZP,UInt8->ZM,decide_eq_true->ZI,decide_eq_false->ZG,decide_eq_false_iff_not->ZF
open Go.Proofs.YtnkjliahpeebjaaGreatDoor.Ds renaming bl->Z5,bl_length->ZZ,bl_mk->X1
open Go renaming Value->Z2,World->ZY,Calls->ZH,bodyPost_ret->ZD,below_setRow->ZA
open Bool renaming true->ZX,false->ZW
open Nat renaming le_refl->ZV,zero_lt_succ->Xp
open Go.World renaming cell?_of_block->ZT
open Go.RowKit.Below renaming refl->ZR,alloc->Xy
open Go.Proofs.YtnkjliahpeebjaaGreatDoor.En renaming base->Zi
namespace Go.Proofs.YtnkjliahpeebjaaGreatDoor
open Go.RowKit
variable{W:ZY}(n:Z6)(w:ZY)(x:Fu)(c cs:Array Z2)(e:En)(s:Z1 ZM × Nat)(t:TypeId){al:Z2}{l:Z1 Int}(o:Obj)(k:Int)(g p:Nat)
theorem mK{w:ZY}{g p n m:Nat}(h:Held w g n)(H:Held w p m)(a:n≠m):g≠p:=fun e=>by subst e;exact a (h.1.symm.trans H.1)
theorem da(n:Nat)(h:Held w g n):Held (w.alloc o) g n:=h.below ((ZR _ _).alloc (ZV _) o)
theorem gQ(h:cs.size=33):Held (w.alloc (.cells cs t)) w.heap.size 33:=Held.new w cs t _ h (by decide)
theorem GI(h:cs.size=2):Held (w.alloc (.cells cs t)) w.heap.size 2:=Held.new w cs t _ h (by decide)
theorem fU(h:Held w g 33)(H:Held w p 2):Held (w.setRow p c) g 33:=h.set c (fun e=>absurd e.symm (mK h H (by decide)))
theorem fD(h:Held w g 2)(H:Held w p 33):Held (w.setRow p c) g 2:=h.set c (fun e=>absurd e.symm (mK h H (by decide)))
theorem fE(al G:Z2)(g p:Nat)(h:Held w g 33):Held (w.setRow p (e.vals al G)) g 33:=h.set _ (fun _=>ah _ _ _)
theorem eb(al G:Z2)(t:TypeId):Held (w.alloc (.cells (e.vals al G) t)) w.heap.size 33:=gQ _ _ _ (ah _ _ _)
theorem gB(al G:Z2)(t:TypeId)(o:Obj):Held ((w.alloc o).alloc (.cells (e.vals al G) t)) (w.heap.size+1) 33:=by
 have:=eb (w.alloc o) e al G t;rwa [show (w.alloc o).heap.size=w.heap.size+1 by simp] at this
theorem cG:Held (w.alloc (.cells #[.int .i64 0,.string ⟨#[]⟩,.int .i64 0,.int .i64 0,.int .i64 0,.int .i64 0,.int .i64 0,.int .i64 0,.int .i64 0,.int .i64 0,.int .i64 0,.int .i64 0,.int .i64 0,.int .i64 0,.int .i64 0,.int .i64 0,.bool ZW,.int .i64 0,.string ⟨#[]⟩,.string ⟨#[]⟩,.int .i64 0,.int .i64 0,.bool ZW,.slice Z7 0 0,.int .i64 0,.int .i64 0,.int .i64 0,.bool ZW,.string ⟨#[]⟩,.string ⟨#[]⟩,.int .i64 0,.int .i64 0,.slice Z7 0 0] t)) w.heap.size 33:=gQ _ _ _ rfl
theorem eU:Held ((w.alloc (.cells #[.int .i64 0,.string ⟨#[]⟩,.int .i64 0,.int .i64 0,.int .i64 0,.int .i64 0,.int .i64 0,.int .i64 0,.int .i64 0,.int .i64 0,.int .i64 0,.int .i64 0,.int .i64 0,.int .i64 0,.int .i64 0,.int .i64 0,.bool ZW,.int .i64 0,.string ⟨#[]⟩,.string ⟨#[]⟩,.int .i64 0,.int .i64 0,.bool ZW,.slice Z7 0 0,.int .i64 0,.int .i64 0,.int .i64 0,.bool ZW,.string ⟨#[]⟩,.string ⟨#[]⟩,.int .i64 0,.int .i64 0,.slice Z7 0 0] t)).alloc o) w.heap.size 33:=da _ _ _ _ (cG _ _)
theorem eV:Held ((w.alloc o).alloc (.cells #[.int .i64 0,.string ⟨#[]⟩,.int .i64 0,.int .i64 0,.int .i64 0,.int .i64 0,.int .i64 0,.int .i64 0,.int .i64 0,.int .i64 0,.int .i64 0,.int .i64 0,.int .i64 0,.int .i64 0,.int .i64 0,.int .i64 0,.bool ZW,.int .i64 0,.string ⟨#[]⟩,.string ⟨#[]⟩,.int .i64 0,.int .i64 0,.bool ZW,.slice Z7 0 0,.int .i64 0,.int .i64 0,.int .i64 0,.bool ZW,.string ⟨#[]⟩,.string ⟨#[]⟩,.int .i64 0,.int .i64 0,.slice Z7 0 0] t)) (w.heap.size+1) 33:=by
 have:=cG (w.alloc o) t;rwa [show (w.alloc o).heap.size=w.heap.size+1 by simp] at this
theorem eo:Held (w.alloc (.cells #[.string ⟨#[]⟩,.int .i64 0] t)) w.heap.size 2:=GI _ _ _ rfl
theorem fi:Held ((w.alloc (.cells #[.string ⟨#[]⟩,.int .i64 0] t)).alloc o) w.heap.size 2:=da _ _ _ _ (eo _ _)
theorem fj:Held ((w.alloc o).alloc (.cells #[.string ⟨#[]⟩,.int .i64 0] t)) (w.heap.size+1) 2:=by
 have:=eo (w.alloc o) t;rwa [show (w.alloc o).heap.size=w.heap.size+1 by simp] at this
theorem eT(h:Held w p 33):row (w.setRow p c) p=c:=au h c
theorem gq(h:Held w p 2):row (w.setRow p c) p=c:=au h c
theorem fX(h:Held w g 33)(H:Held w p 2):row (w.setRow p c) g=row w g:=cT _ _ _ _ (mK h H (by decide))
theorem fY(h:Held w g 2)(H:Held w p 33):row (w.setRow p c) g=row w g:=cT _ _ _ _ (mK h H (by decide))
theorem FJ(h:Held w g 33):row (w.alloc o) g=row w g:=am ((ZR _ _).alloc (ZV _) o) rfl (by rw[h.1];decide)
section
set_option linter.unusedSimpArgs false
def nK(w a:ZY)(x:Fu)(S:Z1 ZM × Nat)(r:Ending):Prop:=∃ (al G:Z2) (t:Z6),r=.returned (.tuple #[.agg (x.1.vals al G),.agg #[.string t,.int .i64 S.2]])/\IS a al x.2.1/\GS a G x.2.2/\Z5 t=S.1/\Below w.heap.size w a/\(∀ y,al.ownBlock=Z9 y->w.heap.size<=y)/\(∀ y,G.ownBlock=Z9 y->w.heap.size<=y)
theorem iY:∀ (w:ZY) (y:Nat),(Value.slice Z7 0 0).ownBlock=Z9 y->w.heap.size<=y:=fun _ _ h=>by cases h
theorem wJ:dA 0 n s=(((ew (Zi 0 n) s).1,(ew (Zi 0 n) s).2.1,[]),(ew (Zi 0 n) s).2.2):=by unfold dA;rw[ZP rfl]
theorem wK:dA 1 n s=(((fo (Zi 1 n) s).1,[],[]),(fo (Zi 1 n) s).2):=by unfold dA;rw[ZS (by decide),ZP rfl]
theorem wL:dA 2 n s=(((fM (Zi 2 n) s).1,[],[]),(fM (Zi 2 n) s).2):=by unfold dA;rw[ZS (by decide),ZS (by decide),ZP rfl]
theorem wM:dA 3 n s=(((fN (Zi 3 n) s).1,[],[]),(fN (Zi 3 n) s).2):=by unfold dA;rw[ZS (by decide),ZS (by decide),ZS (by decide),ZP rfl]
theorem xp:dA 4 n s=(((ey (Zi 4 n) s).1,[],(ey (Zi 4 n) s).2.1),(ey (Zi 4 n) s).2.2):=by unfold dA;rw[ZS (by decide),ZS (by decide),ZS (by decide),ZS (by decide)]
theorem yE(j:0<=k/\k<=4)(N l:Z6)(w:ZY)(d:l.size<=1000) :
 ZH Tryz.prog 311 #[.agg (zlit k N),.agg #[.string l,.int .i64 0]] w fun r b=>nK w b (dA k N (Z5 l,0)).1 (dA k N (Z5 l,0)).2 r:=by
 rcases (by omega:k=0\/k=1\/k=2\/k=3\/k=4) with rfl|rfl|rfl|rfl|rfl
 .have h:=rfields0 N l w d;rw[wJ];generalize ew (Zi 0 N) (Z5 l,0)=R at h |-;refine h.mono ?_
  rintro r b ⟨al,t,rfl,f,H,a,i⟩;exact⟨al,.slice Z7 0 0,t,rfl,f,GS.nil _,H,a,i,iY w⟩
 .have h:=rfields1 N l w d;rw[wK];generalize fo (Zi 1 N) (Z5 l,0)=R at h |-;refine h.mono ?_
  rintro r b ⟨t,rfl,H,a⟩;exact⟨.slice Z7 0 0,.slice Z7 0 0,t,rfl,IS.nil _,GS.nil _,H,a,iY w,iY w⟩
 .have h:=rfields2 N l w d;rw[wL];generalize fM (Zi 2 N) (Z5 l,0)=R at h |-;refine h.mono ?_
  rintro r b ⟨t,rfl,H,a⟩;exact⟨.slice Z7 0 0,.slice Z7 0 0,t,rfl,IS.nil _,GS.nil _,H,a,iY w,iY w⟩
 .have h:=rfields3 N l w d;rw[wM];generalize fN (Zi 3 N) (Z5 l,0)=R at h |-;refine h.mono ?_
  rintro r b ⟨t,rfl,H,a⟩;exact⟨.slice Z7 0 0,.slice Z7 0 0,t,rfl,IS.nil _,GS.nil _,H,a,iY w,iY w⟩
 .have h:=rfields4 N l w d;rw[xp];generalize ey (Zi 4 N) (Z5 l,0)=R at h |-;refine h.mono ?_
  rintro r b ⟨G,t,rfl,f,H,a,i⟩;exact⟨.slice Z7 0 0,G,t,rfl,IS.nil _,f,H,a,iY w,i⟩
theorem CG(h:0<=k/\k<=4)(n:Z6)(s:Z1 ZM × Nat):(dA k n s).1.1.name=n:=by
 rcases (by omega:k=0\/k=1\/k=2\/k=3\/k=4) with rfl|rfl|rfl|rfl|rfl
 .rw[wJ];unfold ew;rfl
 .rw[wK];unfold fo;rfl
 .rw[wL];rfl
 .rw[wM];rfl
 .rw[xp];unfold ey;rfl
theorem Bh(s:Z6)(h:s.size<32\/200<s.size):cF (Z5 s)=Z7:=by
 unfold cF;rw[ZS (by rw[ZZ];omega)]
structure DR (wr W:ZY) (p r:Nat) (x:Fu) (al gr:Z2) (t:Z6) (st:Z1 ZM × Nat):Prop where
 bel:Below wr.heap.size wr W
 p0:wr.heap.size<=p
 rp:row W p=x.1.vals al gr
 hp:Held W p 33
 rr:row W r=#[.string t,.int .i64 st.2]
 is:IS W al x.2.1
 gs:GS W gr x.2.2
 ao:∀ y,al.ownBlock=Z9 y->wr.heap.size<=y
 go:∀ y,gr.ownBlock=Z9 y->wr.heap.size<=y
 tx:Z5 t=st.1
theorem vX{p:Nat}{c:Array Z2}(h:IS W al l)(r:∀ y,al.ownBlock=Z9 y->l≠[]->y≠p):IS (W.setRow p c) al l:=by
 obtain⟨a,C,rfl,i,j⟩:=h;refine⟨a,C,rfl,i,fun H=>?_⟩
 obtain⟨b,o,rfl,f,q⟩:=j H;have m:=r b rfl (by intro e;rw[e] at H;simp at H);exact⟨b,o,rfl,by simpa using f,fun k d=>(ZT (a:=⟨b,o+k,Z7⟩) (cP W p b c m)).trans (q k d)⟩
theorem vt{l:Z1 Gr}{p:Nat}{c:Array Z2}(h:GS W al l)(r:∀ y,al.ownBlock=Z9 y->l≠[]->y≠p):GS (W.setRow p c) al l:=by
 obtain⟨a,C,rfl,i,j⟩:=h;refine⟨a,C,rfl,i,fun H=>?_⟩
 obtain⟨b,o,rfl,f,q⟩:=j H;have m:=r b rfl (by intro e;rw[e] at H;simp at H);have e:=cP W p b c m;refine⟨b,o,rfl,by simpa using f,fun k d=>?_⟩
 obtain⟨Q,u,v⟩:=q k d;exact⟨(ZT (a:=⟨b,o+k*3,Z7⟩) e).trans Q,(ZT (a:=⟨b,o+k*3+1,Z7⟩) e).trans u,(ZT (a:=⟨b,o+k*3+2,Z7⟩) e).trans v⟩
theorem GO(h:IS W al l):∀ y,al.ownBlock=Z9 y->l≠[]->y<W.heap.size:=by
 obtain⟨a,C,rfl,i,d⟩:=h;intro y f b;obtain⟨B,o,rfl,H,j⟩:=d (List.length_pos_iff.2 b);cases f
 exact H
theorem Ho{l:Z1 Gr}(h:GS W al l):∀ y,al.ownBlock=Z9 y->l≠[]->y<W.heap.size:=by
 obtain⟨a,C,rfl,i,d⟩:=h;intro y f b;obtain⟨B,o,rfl,H,j⟩:=d (List.length_pos_iff.2 b);cases f
 exact H
theorem DR.below{wr a:ZY}{p r:Nat}{x:Fu}{G:Z2}{t:Z6}{S:Z1 ZM × Nat}(h:DR wr W p r x al G t S)(H:Below W.heap.size W a):DR wr a p r x al G t S :=
 ⟨bt h.bel H,h.p0,am H h.rp (by rw[ah];decide),h.hp.below H,am H h.rr (Xp 1),h.is.below H,h.gs.below H,h.ao,h.go,h.tx⟩
def TrR(C:ZM)(s:Z1 ZM)(k:Nat):Prop:=∀ j:Int,0<=j->j<k->Ek.letter j=C->gY j s=Z7
theorem TrR.next{C:ZM}{s:Z1 ZM}{k:Nat}(h:TrR C s k)(b:Ek.letter k=C->gY k s=Z7):TrR C s (k+1):=by
 intro j a d H;by_cases e:j=k
 .subst e;exact b H
 .exact h j a (by omega) H
theorem TrR.all{s:Z1 ZM}(h:TrR (s.headD 0) s 5)(a:32<=s.length/\s.length<=200):cF s=Z7:=by
 rw[tw s a]
 cases H:iW (s.headD 0) with
 | none=>rfl
 | some k =>
   simp only
   have:0<=k/\k<5/\Ek.letter k=s.headD 0:=by
    unfold iW at H
    (repeat' split at H) <;> first|(cases H;rename_i e;exact⟨by decide,by decide,e.symm⟩)|cases H
   exact h k this.1 this.2.1 this.2.2
theorem Dg(s:Z1 ZM)(k:Int)(x:Fu)(b:32<=s.length/\s.length<=200)(a:0<=k/\k<=4)(H:Ek.letter k=s.headD 0)(h:gY k s=Z9 x):cF s=Z9 x:=by
 rw[tw s b,<-H,l7 k a];exact h
theorem Ea(s:Z6)(H:32<=s.size)(i:Nat)(a:i<=31)(h:Ek.tlen ((Z5 s).drop 1 |>.take 31) 31=i):Z5 (s.extract 1 (i+1))=eE (Z5 s):=by
 unfold eE Ek.trim;have b:(((Z5 s).drop 1).take 31).length=31:=by rw[List.length_take,List.length_drop,ZZ];omega
 rw[b,h,List.take_take,Nat.min_eq_left a];unfold Z5;rw[ByteArray.data_extract,Array.toList_extract];rfl
theorem DB(s:Z6)(h:32<=s.size)(i:Nat)(H:i<31):((Z5 s).drop 1 |>.take 31)[i]?=Z9 (s[i+1]'(by omega)):=by
 rw[List.getElem?_take_of_lt H,List.getElem?_drop];unfold Z5;rw[Nat.add_comm 1 i,List.getElem?_eq_getElem (by simp;omega)];rfl
attribute [local go_sem ↓] aZ bf bq jM jR
attribute [local go_sem] bn aS aH aK aT ak aI aw az aM ah aQ aL aP aO aR aY aW
theorem zY(s:Z6)(w:ZY)(h:s.size<32\/200<s.size) :
 ZH Tryz.prog 280 #[.string s] w fun r a=>zpD w a (Z5 s) r:=by
 have D:=lh (Bh s h)
 have fin:∀ a:ZY,a=w.alloc (.cells (zlit 0 ⟨#[]⟩) 29)->zpD w a (Z5 s) (.returned (.tuple #[.agg (row a w.heap.size),.int .i64 11])):=fun a e=>by
  subst e;rw[ak,eh];exact⟨(En.zero,[],[]),_,_,11,rfl,IS.nil _,GS.nil _,by exact aB,Or.inr ⟨D.o,rfl,rfl⟩,(fun _ h=>by cases h),(fun _ h=>by cases h)⟩
 have H:=lh fin;clear fin;rcases h with h|h
 .have E:decide ((s.size:Int)<32)=ZX:=by rw[ZU];omega
  clear h;go_enter Tryz.func280,Tryz.ntmps280
  go_wp2_with fail
  refine ZD (bV (n:=32) rfl Tryz.underlying29 rfl (by kernel_rfl) _ _ w.heap.size rfl ?_) rfl ?_
  .rw[ak];rfl
  .exact H.o _ rfl
 .have E:decide ((s.size:Int)<32)=ZW:=by rw[ZF];omega
  have b:decide (200<(s.size:Int))=ZX:=by rw[ZU];omega
  clear h;go_enter Tryz.func280,Tryz.ntmps280
  go_wp2_with fail
  refine ZD (bV (n:=32) rfl Tryz.underlying29 rfl (by kernel_rfl) _ _ w.heap.size rfl ?_) rfl ?_
  .rw[ak];rfl
  .exact H.o _ rfl
theorem yJ(k:Nat)(h:k<5)(w:ZY):(Instr.index 9 (.string ⟨#[68,71,65,67,80]⟩) (.int .i64 (k:Int))).run Tryz.prog w=.ok (.int .u8 ((Ek.letter k).toNat:Int)) w:=by
 rcases (by omega:k=0\/k=1\/k=2\/k=3\/k=4) with rfl|rfl|rfl|rfl|rfl <;> kernel_rfl
def jk(x:Fu):Z6:=if aA x=ZX then ⟨(cJ x).toArray⟩ else ⟨#[]⟩
theorem F7(al G:Z2)(C:Int)(f:C=if aA x=ZX then 0 else 1)(w:ZY)(h:x.1.name.size<=60)(H:IS w al x.2.1)(b:GS w G x.2.2) :
 ZH Tryz.prog 136 #[.agg (x.1.vals al G)] w fun r a=>r=.returned (.tuple #[.string (jk x),.int .i64 C])/\Below w.heap.size w a:=by
 subst f;refine (tH x al G w h H b).mono ?_
 rintro r a ⟨t,rfl,i,d⟩
 obtain rfl:t=jk x:=by
  refine Ds.bl_inj (i.trans ?_)
  unfold jk;split
  .rw[X1]
  .rfl
 exact⟨rfl,d⟩
def Hit(x:Fu)(S:Z1 ZM × Nat)(s:Z6):Prop:=Rd.fin S=0/\aA x=ZX/\cJ x=Z5 s
theorem CR(S:Z1 ZM × Nat)(s:Z6)(C:Int)(i:C=if aA x=ZX then 0 else 1):((((Rd.fin S:Nat):Int)==0)=ZW/\Hid (¬ Hit x S s))\/((((Rd.fin S:Nat):Int)==0)=ZX/\(C==0)=ZW/\Hid (¬ Hit x S s))\/((((Rd.fin S:Nat):Int)==0)=ZX/\(C==0)=ZX/\((jk x).toList==s.toList)=ZW/\Hid (¬ Hit x S s))\/((((Rd.fin S:Nat):Int)==0)=ZX/\(C==0)=ZX/\((jk x).toList==s.toList)=ZX/\Hid (Hit x S s)):=by
 unfold Hit;subst i;rcases uK S with ⟨H,b⟩|⟨H,b⟩
 .cases f:aA x
  .exact .inr (.inl ⟨H,rfl,lh (by simp)⟩)
  .have q:jk x=⟨(cJ x).toArray⟩:=by unfold jk;rw[ZP f]
   have d:((jk x).toList==s.toList)=decide (cJ x=Z5 s):=by
    rw[q,Bool.eq_iff_iff,beq_iff_eq,ZU,lM];constructor
    .intro e;rw[<-e,X1]
    .intro e;exact Ds.bl_inj ((X1 _).trans e)
   by_cases a:cJ x=Z5 s
   .exact .inr (.inr (.inr ⟨H,rfl,d.trans (ZI a),lh ⟨b.o,rfl,a⟩⟩))
   .exact .inr (.inr (.inl ⟨H,rfl,d.trans (ZG a),lh (fun h=>a h.2.2)⟩))
 .exact .inl ⟨H,lh (fun h=>b.o h.1)⟩
attribute [local go_sem] cG eU eV eo fi fj da fD
attribute [local go_sem ↓ high] bf
theorem Bd(s:Z6)(w:ZY)(X:32<=s.size)(ad:s.size<=200) :
 ZH Tryz.prog 280 #[.string s] w fun r w'=>zpD w w' (Z5 s) r:=by
 have c1:0<s.size:=by omega
 have c3:(0:Int)<(s.size:Int):=by omega
 have a6:=lh (xn s c1);have E:32<=(Z5 s).length/\(Z5 s).length<=200:=by rw[ZZ];exact⟨X,ad⟩
 have u:Z5 (s.extract 32 s.size)=(Z5 s).drop 32:=by
  unfold Z5;rw[ByteArray.data_extract,Array.toList_extract];show (s.data.toList.drop 32).take (s.size - 32)=_
  rw[List.take_of_length_le (by rw[List.length_drop,Array.length_toList];exact ZV _)]
 have b6:(s.extract 32 s.size).size<=1000:=by simp;omega
 have be:=lh u;have a7:=lh E;have bk:=lh b6;have J:=lh (fun i A=>DB s X i A);have P:=lh (fun i A h=>Ea s X i A h);obtain⟨lst,F⟩:∃ lst,((Z5 s).drop 1).take 31=lst:=⟨_,rfl⟩;rw[F] at J P;clear u E b6 F;have e1:decide ((s.size:Int)<32)=ZW:=by rw[ZF];omega
 have e2:decide (200<(s.size:Int))=ZW:=by rw[ZF];omega
 have HH:=lh (Held.new w (zlit 0 ⟨#[]⟩) 29 33 rfl (by decide));have a4:zlit 0 ⟨#[]⟩=En.zero.vals (.slice Z7 0 0) (.slice Z7 0 0):=eh _ _;have b7:bh (zlit 0 ⟨#[]⟩).toList=ZX:=by rw[a4];exact ay _ _ _ rfl rfl
 have bp:=lh a4;clear a4;unfold zlit at b7;go_enter Tryz.func280,Tryz.ntmps280
 go_wp2_with fail
 go_loopw [4] (fun kv wr=>∃ k:Nat,k<=5/\kv=.int .i64 k/\TrR s[0] (Z5 s) k/\Held wr w.heap.size 33/\Below w.heap.size w wr) (fun kv _=>5 - (intOf kv).toNat)
 case atStart=>exact⟨0,by omega,rfl,(fun j h0 d=>by omega),HH.o,by exact aB⟩
 case round =>
  obtain⟨k,hk,rfl,af,hH,B⟩:=hrel;have Q:=lh af;have O:=lh hH;have HB:=lh B;have z0:=hH.lt;clear af hH B HH;by_cases bs:k<5
  .have t4:decide ((k:Int)<=4)=ZX:=by rw[ZU];omega
   have br:=fun W=>yJ k bs W
   have ab:Hid (Ek.letter k≠s[0]->TrR s[0] (Z5 s) (k+1)):=lh (fun h=>Q.o.next (fun e=>absurd e h));by_cases hc:Ek.letter k=s[0]
   rotate_left
   .have t1:((s[0].toNat:Int) != ((Ek.letter k).toNat:Int))=ZX:=by rw[bne_iff_ne];intro h;exact hc (UInt8.toNat_inj.1 (by omega))
    have HQ:=lh (ab.o hc);clear hc;go_wp2_with fail
    go_quiet (fail)
    go_wp2_with fail
    go_roundw
    case rel=>exact⟨k+1,by omega,by go_num,HQ.o,O.o,HB.o.trans ⟨rfl,rfl,rfl,ZV _,fun _ _=>rfl⟩⟩
    case measure=>simp [intOf];omega
   have t1:((s[0].toNat:Int) != ((Ek.letter k).toNat:Int))=ZW:=by rw[hc];simp
   have HC:=lh hc;clear hc ab;obtain⟨f,c0⟩:∃ f,f=wr:=⟨_,rfl⟩;subst c0;go_wp2_with fail
   go_quiet (fail)
   go_upto_block 2 with fail
   generalize hW:World.drewN f _=W0;have v:Below f.heap.size f W0:=by rw[<-hW];exact⟨rfl,rfl,rfl,ZV _,fun _ _=>rfl⟩
   clear hW br t1;go_cut [5] from 28 to 38 (fun t5 wx=>∃ i:Nat,i<=31/\t5=.int .i64 ((i+1:Nat):Int)/\Ek.tlen lst 31=i/\wx=W0)
   case first =>
    go_wp2_with fail
    go_loopw [5] (fun ev c2=>∃ i:Nat,i<=31/\ev=.int .i64 ((i+1:Nat):Int)/\Ek.tlen lst 31=Ek.tlen lst i/\c2=W0) (fun ev _=>(intOf ev).toNat)
    case atStart=>exact⟨31,by omega,rfl,rfl,rfl⟩
    case round =>
     obtain⟨i,A,rfl,ht,rfl⟩:=hrel;have HE:=lh ht;clear ht;by_cases h0:0<i
     .obtain⟨j,rfl⟩:∃ j,i=j+1:=⟨i - 1,by omega⟩;have c6:j+1<s.size:=by omega
      have c5:((j:Int)+1)<(s.size:Int):=by omega
      have t7:decide ((1:Int)<(j:Int)+1+1)=ZX:=by rw[ZU];omega
      have HJ:=lh (J.o j (by omega));have hx:=qQ s[j+1];by_cases h3:s[j+1]=32
      .rw[ZI h3] at hx;have H3:=lh h3;clear h3;go_wp2_with fail
       go_roundw
       case rel=>exact⟨j,by omega,by go_num,by rw[HE.o];exact Ek.tlen_yes _ _ (by rw[HJ.o,H3.o]),by trivial⟩
       case measure=>simp [intOf];try omega
      .rw[ZG h3] at hx;have H3:=lh h3;clear h3;go_wp2_with fail
       go_meet
       exact⟨j+1,A,by go_num,by rw[HE.o];exact Ek.tlen_no _ _ (by rw[HJ.o];intro e;exact H3.o (Option.some.inj e)),by trivial⟩
     .obtain rfl:i=0:=by omega
      go_wp2_with fail
      go_meet
      exact⟨0,A,by go_num,by rw[HE.o];rfl,by trivial⟩
   case rest =>
    obtain⟨i,A,rfl,ht,rfl⟩:=hcut;have av:=P.o i A ht;have c4:i+1<=s.size:=by omega
    have j1:(0:Int)<=(i:Int)+1:=by omega
    have j2:(i:Int)+1<=(s.size:Int):=by omega
    have j3:(1:Int)<=(i:Int)+1:=by omega
    have j4:(32:Int)<=(s.size:Int):=by omega
    have Z:=fun W=>yE (k:Int) ⟨by omega,by omega⟩ (s.extract 1 (i+1)) (s.extract 32 s.size) W bk.o
    obtain⟨x,S,a3⟩:∃ x S,dA (k:Int) (s.extract 1 (i+1)) (Z5 (s.extract 32 s.size),0)=(x,S):=⟨_,_,rfl⟩;have a0:=CG (k:Int) ⟨by omega,by omega⟩ (s.extract 1 (i+1)) (Z5 (s.extract 32 s.size),0);rw[a3] at Z a0
    have b3:x.1.name.size<=60:=by
     rw[show x.1.name=s.extract 1 (i+1) from a0];simp;omega
    have ac:Hid (gY (k:Int) (Z5 s)=if Rd.fin S=0/\aA x=ZX/\cJ x=Z5 s then Z9 x else Z7):=lh (by
     unfold gY;rw[<-av,<-be.o,Ds.mk_bl,a3])
    have N:=lh Z;have aa:=lh b3;clear av Z a3 a0 b3 ht;unfold zlit at N;go_upto_region 10 with fail
    go_cut [6,7] (fun t6 t7 wx=>∃ (p r:Nat) (al G:Z2) (t:Z6),t6=.pointer (Z9 ⟨p,0,Z7⟩)/\t7=.pointer (Z9 ⟨r,0,Z7⟩)/\DR f wx p r x al G t S)
    case first =>
     go_region_held3 (fun W=>Below f.heap.size f W) (first|exact v.drew|exact bt (by assumption) H|exact Xy (by assumption) (by first|(have:=v.size;simp;omega)|(have:=(by assumption:Below f.heap.size f _).size;simp at this |-;omega)) _|exact ZA (by assumption) (by first|(have:=v.size;simp;omega)|(have q1:=v.size;have q2:=H.size;simp at q2 |-;omega)) _|exact Xy m.o (by have q1:=m.o.size;first|exact q1|(simp;omega)) _|exact Xy (Xy m.o m.o.size _) (by have q1:=m.o.size;simp;omega) _) ((go_at_call 311;(with_reducible refine (N.o _).mono ?_);rintro _ I ⟨al,G,t,rfl,hI,hG,b4,H,b0,b1⟩;have b2:=ay x.1 al G (aD hI) (aE hG);have U:=fun g n (h:Held _ g n)=>h.below H;(try (have K:Held I wc.heap.size 33:=U _ 33 (cG _ _);have R:=fun o=>da I o _ _ K));(try (have K:Held I wc.heap.size 33:=U _ 33 (eU _ _ _)));(try (have K:Held I (wc.heap.size+1) 33:=U _ 33 (eV _ _ _)));(try (have z:Held I wc.heap.size 2:=U _ 2 (eo _ _);have T:=fun o=>da I o _ _ z));(try (have z:Held I wc.heap.size 2:=U _ 2 (fi _ _ _)));(try (have z:Held I (wc.heap.size+1) 2:=U _ 2 (fj _ _ _)));clear U;have m:=lh (bt (by assumption:Below f.heap.size f _) H);have HI:=lh hI;have HG:=lh hG;have bi:=lh b4;have a8:=lh b0;have a9:=lh b1;have bb:=lh (GO hI);have bc:=lh (Ho hG);clear hI hG b4 b0 b1))
     all_goals
      go_wp2_with fail
      go_meet
      have q1:=v.size;have q2:=m.o.size;have hh:=(by assumption:Below f.heap.size f _);refine⟨_,_,al,G,t,rfl,rfl,hh,?_,?_,?_,?_,?_,?_,?_,?_,bi.o⟩
      .omega
      .first|simp (maxDischargeDepth:=10) only [fX,fY,eT,gq,ak,aw,cG,eU,eV,eo,fi,fj,eb,gB,fE,fD,fU,K,R]|simp (maxDischargeDepth:=10) only [fX,fY,eT,gq,ak,aw,cG,eU,eV,eo,fi,fj,eb,gB,fE,fD,fU,z,T]|simp (maxDischargeDepth:=10) only [fX,fY,eT,gq,ak,aw,cG,eU,eV,eo,fi,fj,eb,gB,fE,fD,fU,K,z]|simp (maxDischargeDepth:=10) only [fX,fY,eT,gq,ak,aw,cG,eU,eV,eo,fi,fj,eb,gB,fE,fD,fU]
      .first|simp (maxDischargeDepth:=10) only [fX,fY,eT,gq,ak,aw,cG,eU,eV,eo,fi,fj,eb,gB,fE,fD,fU,K,R]|simp (maxDischargeDepth:=10) only [fX,fY,eT,gq,ak,aw,cG,eU,eV,eo,fi,fj,eb,gB,fE,fD,fU,z,T]|simp (maxDischargeDepth:=10) only [fX,fY,eT,gq,ak,aw,cG,eU,eV,eo,fi,fj,eb,gB,fE,fD,fU,K,z]|simp (maxDischargeDepth:=10) only [fX,fY,eT,gq,ak,aw,cG,eU,eV,eo,fi,fj,eb,gB,fE,fD,fU]
      .first|simp (maxDischargeDepth:=10) only [fX,fY,eT,gq,ak,aw,cG,eU,eV,eo,fi,fj,eb,gB,fE,fD,fU,K,R]|simp (maxDischargeDepth:=10) only [fX,fY,eT,gq,ak,aw,cG,eU,eV,eo,fi,fj,eb,gB,fE,fD,fU,z,T]|simp (maxDischargeDepth:=10) only [fX,fY,eT,gq,ak,aw,cG,eU,eV,eo,fi,fj,eb,gB,fE,fD,fU,K,z]|simp (maxDischargeDepth:=10) only [fX,fY,eT,gq,ak,aw,cG,eU,eV,eo,fi,fj,eb,gB,fE,fD,fU]
      . (repeat (first|exact HI.o|refine vX ?_ ?_|refine IS.below ?_ ((ZR _ _).alloc (ZV _) _)))
        all_goals (intro y d h2 e;have V:=a8.o y d;have a2:=bb.o y d h2;simp at V e;omega)
      . (repeat (first|exact HG.o|refine vt ?_ ?_|refine GS.below ?_ ((ZR _ _).alloc (ZV _) _)))
        all_goals (intro y d h2 e;have V:=a9.o y d;have a2:=bc.o y d h2;simp at V e;omega)
      .intro y d;have V:=a8.o y d;simp at V;omega
      .intro y d;have V:=a9.o y d;simp at V;omega
    case rest =>
     obtain⟨p,r,al,G,t,rfl,rfl,D⟩:=hcut;have b2:=ay x.1 al G (aD D.is) (aE D.gs);obtain⟨C,a⟩:∃ C:Int,C=if aA x=ZX then 0 else 1:=⟨_,rfl⟩
     have b5:=CR x S s C a;have ar:=fun W (b:Below _ _ W)=>F7 x al G C a W aa.o (D.is.below b) (D.gs.below b)
     have Y:=fun W=>Hs t S.2 W
     rw[show (Z5 t,S.2)=S by rw[D.tx]] at Y;have R1:=D.rp;have R2:=D.rr;have K1:=O.o.below D.bel;have L:=lh D;have ba:=lh ar;have b9:=lh Y;clear a ar Y D N aa J P;rcases b5 with ⟨f1,hh⟩|⟨f1,f2,hh⟩|⟨f1,f2,f3,hh⟩|⟨f1,f2,f3,hh⟩
     all_goals
      go_wp2_with first|go_at_call 136;(with_reducible refine (ba.o _ (ZR _ _)).mono ?_);rintro _ w4 ⟨rfl,H⟩;have R3:=am H R1 (by rw[ah];decide);have R4:=am H R2 (Xp 1);have K4:=K1.below H;have B4:=lh (bt L.o.bel H);have b8:=lh H;clear H|go_at_call 312;(with_reducible refine (b9.o _).mono ?_);rintro _ w5 ⟨rfl,H⟩;have R5:=am H R3 (by rw[ah];decide);have K5:=K4.below H;have B5:=lh (bt B4.o H);have a5:=lh (bt b8.o H);clear H
      first
      | (go_roundw
         case rel=>exact⟨k+1,by omega,by go_num,Q.o.next (fun _=>ac.o.trans (ZS hh.o)),K5,bt HB.o B5.o⟩
         case measure=>simp [intOf];omega)
      | (refine ZD (bV (n:=32) rfl Tryz.underlying29 rfl (by kernel_rfl) _ _ w.heap.size rfl ?_) rfl ?_
         .rw[au K5];exact ah _ _ _
         .rw[au K5];refine⟨x,al,G,0,rfl,vX (L.o.is.below a5.o) (fun y d _=>by have:=L.o.ao y d;omega),vt (L.o.gs.below a5.o) (fun y d _=>by have:=L.o.go y d;omega),ZA (bt HB.o B5.o) (ZV _) _,Or.inl ⟨Dg _ _ x a7.o ⟨by omega,by omega⟩ (HC.o.trans a6.o.symm) (ac.o.trans (ZP hh.o)),rfl⟩,fun q hq=>by have:=L.o.ao q hq;omega,fun q hq=>by have:=L.o.go q hq;omega⟩)
  .obtain rfl:k=5:=by omega
   have K1:=O.o;go_wp2_with fail
   refine ZD (bV (n:=32) rfl Tryz.underlying29 rfl (by kernel_rfl) _ _ w.heap.size rfl ?_) rfl ?_
   .rw[au K1];rfl
   .rw[au K1];have hn:cF (Z5 s)=Z7:=TrR.all (by rw[a6.o];exact Q.o) a7.o;have e:=bp.o;unfold zlit at e;rw[e];exact⟨(En.zero,[],[]),.slice Z7 0 0,.slice Z7 0 0,11,rfl,IS.nil _,GS.nil _,ZA HB.o (ZV _) _,Or.inr ⟨hn,rfl,rfl⟩,(fun _ h=>by cases h),(fun _ h=>by cases h)⟩
theorem Bm(s:Z6)(w:ZY):ZH Tryz.prog 280 #[.string s] w fun r a=>zpD w a (Z5 s) r:=by
 by_cases h:s.size<32\/200<s.size
 .exact zY s w h
 .exact Bd s w (by omega) (by omega)
end
end Go.Proofs.YtnkjliahpeebjaaGreatDoor
