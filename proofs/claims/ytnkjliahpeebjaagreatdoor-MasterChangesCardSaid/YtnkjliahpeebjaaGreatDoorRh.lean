/- Catalogs. -/
import Derived.Test.YtnkjliahpeebjaaGreatDoorDcA
import Derived.Test.YtnkjliahpeebjaaGreatDoorRg0
set_option maxRecDepth 8000
set_option maxHeartbeats 16000000
open Option renaming some->Z9,none->Z7
open _root_ renaming ByteArray->Z6,List->Z3,if_neg->ZX,decide_eq_true_eq->ZW,if_pos->ZT,UInt8->ZP,decide_eq_true->ZO,decide_eq_false->ZN,decide_eq_false_iff_not->ZI
open Go.Proofs.YtnkjliahpeebjaaGreatDoor.Ds renaming bl->Z5,bl_length->Z0,bl_mk->Xj
open Bool renaming false->Z2,true->ZZ
open Go renaming Value->Z1,World->ZY,Calls->ZJ,bodyPost_ret->ZA,below_setRow->Zy
open Nat renaming le_refl->ZV,zero_lt_succ->WM
open Go.World renaming cell?_of_block->ZU
open Go.RowKit.Below renaming refl->ZR,alloc->Xr
open Go.Proofs.YtnkjliahpeebjaaGreatDoor.En renaming base->Zh
namespace Go.Proofs.YtnkjliahpeebjaaGreatDoor
open Go.RowKit
variable{W:ZY}(n:Z6)(w:ZY)(x:Fu)(c cs:Array Z1)(e:En)(s:Z3 ZP × Nat)(t:TypeId){al:Z1}{l:Z3 Int}(o:Obj)(k:Int)(g p:Nat)
theorem mK{w:ZY}{g p n m:Nat}(h:Held w g n)(H:Held w p m)(a:n≠m):g≠p:=fun e=>by subst e;exact a (h.1.symm.trans H.1)
theorem da(n:Nat)(h:Held w g n):Held (w.alloc o) g n:=h.below ((ZR _ _).alloc (ZV _) o)
theorem gQ(h:cs.size=33):Held (w.alloc (.cells cs t)) w.heap.size 33:=Held.new w cs t _ h (by decide)
theorem GI(h:cs.size=2):Held (w.alloc (.cells cs t)) w.heap.size 2:=Held.new w cs t _ h (by decide)
theorem fU(h:Held w g 33)(H:Held w p 2):Held (w.setRow p c) g 33:=h.set c (fun e=>absurd e.symm (mK h H (by decide)))
theorem fD(h:Held w g 2)(H:Held w p 33):Held (w.setRow p c) g 2:=h.set c (fun e=>absurd e.symm (mK h H (by decide)))
theorem fE(al G:Z1)(g p:Nat)(h:Held w g 33):Held (w.setRow p (e.vals al G)) g 33:=h.set _ (fun _=>ah _ _ _)
theorem eb(al G:Z1)(t:TypeId):Held (w.alloc (.cells (e.vals al G) t)) w.heap.size 33:=gQ _ _ _ (ah _ _ _)
theorem gB(al G:Z1)(t:TypeId)(o:Obj):Held ((w.alloc o).alloc (.cells (e.vals al G) t)) (w.heap.size+1) 33:=by
 have:=eb (w.alloc o) e al G t;rwa [show (w.alloc o).heap.size=w.heap.size+1 by simp] at this
theorem cG:Held (w.alloc (.cells #[.int .i64 0,.string ⟨#[]⟩,.int .i64 0,.int .i64 0,.int .i64 0,.int .i64 0,.int .i64 0,.int .i64 0,.int .i64 0,.int .i64 0,.int .i64 0,.int .i64 0,.int .i64 0,.int .i64 0,.int .i64 0,.int .i64 0,.bool Z2,.int .i64 0,.string ⟨#[]⟩,.string ⟨#[]⟩,.int .i64 0,.int .i64 0,.bool Z2,.slice Z7 0 0,.int .i64 0,.int .i64 0,.int .i64 0,.bool Z2,.string ⟨#[]⟩,.string ⟨#[]⟩,.int .i64 0,.int .i64 0,.slice Z7 0 0] t)) w.heap.size 33:=gQ _ _ _ rfl
theorem eU:Held ((w.alloc (.cells #[.int .i64 0,.string ⟨#[]⟩,.int .i64 0,.int .i64 0,.int .i64 0,.int .i64 0,.int .i64 0,.int .i64 0,.int .i64 0,.int .i64 0,.int .i64 0,.int .i64 0,.int .i64 0,.int .i64 0,.int .i64 0,.int .i64 0,.bool Z2,.int .i64 0,.string ⟨#[]⟩,.string ⟨#[]⟩,.int .i64 0,.int .i64 0,.bool Z2,.slice Z7 0 0,.int .i64 0,.int .i64 0,.int .i64 0,.bool Z2,.string ⟨#[]⟩,.string ⟨#[]⟩,.int .i64 0,.int .i64 0,.slice Z7 0 0] t)).alloc o) w.heap.size 33:=da _ _ _ _ (cG _ _)
theorem eV:Held ((w.alloc o).alloc (.cells #[.int .i64 0,.string ⟨#[]⟩,.int .i64 0,.int .i64 0,.int .i64 0,.int .i64 0,.int .i64 0,.int .i64 0,.int .i64 0,.int .i64 0,.int .i64 0,.int .i64 0,.int .i64 0,.int .i64 0,.int .i64 0,.int .i64 0,.bool Z2,.int .i64 0,.string ⟨#[]⟩,.string ⟨#[]⟩,.int .i64 0,.int .i64 0,.bool Z2,.slice Z7 0 0,.int .i64 0,.int .i64 0,.int .i64 0,.bool Z2,.string ⟨#[]⟩,.string ⟨#[]⟩,.int .i64 0,.int .i64 0,.slice Z7 0 0] t)) (w.heap.size+1) 33:=by
 have:=cG (w.alloc o) t;rwa [show (w.alloc o).heap.size=w.heap.size+1 by simp] at this
theorem eo:Held (w.alloc (.cells #[.string ⟨#[]⟩,.int .i64 0] t)) w.heap.size 2:=GI _ _ _ rfl
theorem fi:Held ((w.alloc (.cells #[.string ⟨#[]⟩,.int .i64 0] t)).alloc o) w.heap.size 2:=da _ _ _ _ (eo _ _)
theorem fj:Held ((w.alloc o).alloc (.cells #[.string ⟨#[]⟩,.int .i64 0] t)) (w.heap.size+1) 2:=by
 have:=eo (w.alloc o) t;rwa [show (w.alloc o).heap.size=w.heap.size+1 by simp] at this
theorem eT(h:Held w p 33):row (w.setRow p c) p=c:=au h c
theorem gq(h:Held w p 2):row (w.setRow p c) p=c:=au h c
theorem fX(h:Held w g 33)(H:Held w p 2):row (w.setRow p c) g=row w g:=cT _ _ _ _ (mK h H (by decide))
theorem fY(h:Held w g 2)(H:Held w p 33):row (w.setRow p c) g=row w g:=cT _ _ _ _ (mK h H (by decide))
theorem FJ(h:Held w g 33):row (w.alloc o) g=row w g:=am ((ZR _ _).alloc (ZV _) o) rfl (by rw[h.1];decide)
section
set_option linter.unusedSimpArgs false
def nK(w a:ZY)(x:Fu)(S:Z3 ZP × Nat)(r:Ending):Prop:=∃ (al G:Z1) (t:Z6),r=.returned (.tuple #[.agg (x.1.vals al G),.agg #[.string t,.int .i64 S.2]])/\IS a al x.2.1/\GS a G x.2.2/\Z5 t=S.1/\Below w.heap.size w a/\(∀ y,al.ownBlock=Z9 y->w.heap.size<=y)/\(∀ y,G.ownBlock=Z9 y->w.heap.size<=y)
theorem iY:∀ (w:ZY) (y:Nat),(Value.slice Z7 0 0).ownBlock=Z9 y->w.heap.size<=y:=fun _ _ h=>by cases h
theorem wJ:dA 0 n s=(((ew (Zh 0 n) s).1,(ew (Zh 0 n) s).2.1,[]),(ew (Zh 0 n) s).2.2):=by unfold dA;rw[ZT rfl]
theorem wK:dA 1 n s=(((fo (Zh 1 n) s).1,[],[]),(fo (Zh 1 n) s).2):=by unfold dA;rw[ZX (by decide),ZT rfl]
theorem wL:dA 2 n s=(((fM (Zh 2 n) s).1,[],[]),(fM (Zh 2 n) s).2):=by unfold dA;rw[ZX (by decide),ZX (by decide),ZT rfl]
theorem wM:dA 3 n s=(((fN (Zh 3 n) s).1,[],[]),(fN (Zh 3 n) s).2):=by unfold dA;rw[ZX (by decide),ZX (by decide),ZX (by decide),ZT rfl]
theorem xp:dA 4 n s=(((ey (Zh 4 n) s).1,[],(ey (Zh 4 n) s).2.1),(ey (Zh 4 n) s).2.2):=by unfold dA;rw[ZX (by decide),ZX (by decide),ZX (by decide),ZX (by decide)]
theorem yE(j:0<=k/\k<=4)(N l:Z6)(w:ZY)(d:l.size<=1000) :
 ZJ Tryz.prog 311 #[.agg (zlit k N),.agg #[.string l,.int .i64 0]] w fun r b=>nK w b (dA k N (Z5 l,0)).1 (dA k N (Z5 l,0)).2 r:=by
 rcases (by omega:k=0\/k=1\/k=2\/k=3\/k=4) with rfl|rfl|rfl|rfl|rfl
 .have h:=rfields0 N l w d;rw[wJ];generalize ew (Zh 0 N) (Z5 l,0)=R at h |-;refine h.mono ?_
  rintro r b ⟨al,t,rfl,f,H,a,i⟩;exact⟨al,.slice Z7 0 0,t,rfl,f,GS.nil _,H,a,i,iY w⟩
 .have h:=rfields1 N l w d;rw[wK];generalize fo (Zh 1 N) (Z5 l,0)=R at h |-;refine h.mono ?_
  rintro r b ⟨t,rfl,H,a⟩;exact⟨.slice Z7 0 0,.slice Z7 0 0,t,rfl,IS.nil _,GS.nil _,H,a,iY w,iY w⟩
 .have h:=rfields2 N l w d;rw[wL];generalize fM (Zh 2 N) (Z5 l,0)=R at h |-;refine h.mono ?_
  rintro r b ⟨t,rfl,H,a⟩;exact⟨.slice Z7 0 0,.slice Z7 0 0,t,rfl,IS.nil _,GS.nil _,H,a,iY w,iY w⟩
 .have h:=rfields3 N l w d;rw[wM];generalize fN (Zh 3 N) (Z5 l,0)=R at h |-;refine h.mono ?_
  rintro r b ⟨t,rfl,H,a⟩;exact⟨.slice Z7 0 0,.slice Z7 0 0,t,rfl,IS.nil _,GS.nil _,H,a,iY w,iY w⟩
 .have h:=rfields4 N l w d;rw[xp];generalize ey (Zh 4 N) (Z5 l,0)=R at h |-;refine h.mono ?_
  rintro r b ⟨G,t,rfl,f,H,a,i⟩;exact⟨.slice Z7 0 0,G,t,rfl,IS.nil _,f,H,a,iY w,i⟩
theorem CG(h:0<=k/\k<=4)(n:Z6)(s:Z3 ZP × Nat):(dA k n s).1.1.name=n:=by
 rcases (by omega:k=0\/k=1\/k=2\/k=3\/k=4) with rfl|rfl|rfl|rfl|rfl
 .rw[wJ];unfold ew;rfl
 .rw[wK];unfold fo;rfl
 .rw[wL];rfl
 .rw[wM];rfl
 .rw[xp];unfold ey;rfl
theorem Bh(s:Z6)(h:s.size<32\/200<s.size):cF (Z5 s)=Z7:=by
 unfold cF;rw[ZX (by rw[Z0];omega)]
structure DR (wr W:ZY) (p r:Nat) (x:Fu) (al gr:Z1) (t:Z6) (st:Z3 ZP × Nat):Prop where
 bel:Below wr.heap.size wr W
 p0:wr.heap.size<=p
 rp:row W p=x.1.vals al gr
 hp:Held W p 33
 rr:row W r=#[.string t,.int .i64 st.2]
 is:IS W al x.2.1
 gs:GS W gr x.2.2
 ao:∀ y,al.ownBlock=Z9 y->wr.heap.size<=y
 go:∀ y,gr.ownBlock=Z9 y->wr.heap.size<=y
 tx:Z5 t=st.1
theorem vX{p:Nat}{c:Array Z1}(h:IS W al l)(r:∀ y,al.ownBlock=Z9 y->l≠[]->y≠p):IS (W.setRow p c) al l:=by
 obtain⟨a,C,rfl,i,j⟩:=h;refine⟨a,C,rfl,i,fun H=>?_⟩
 obtain⟨b,o,rfl,f,q⟩:=j H;have m:=r b rfl (by intro e;rw[e] at H;simp at H);exact⟨b,o,rfl,by simpa using f,fun k d=>(ZU (a:=⟨b,o+k,Z7⟩) (cP W p b c m)).trans (q k d)⟩
theorem vt{l:Z3 Gr}{p:Nat}{c:Array Z1}(h:GS W al l)(r:∀ y,al.ownBlock=Z9 y->l≠[]->y≠p):GS (W.setRow p c) al l:=by
 obtain⟨a,C,rfl,i,j⟩:=h;refine⟨a,C,rfl,i,fun H=>?_⟩
 obtain⟨b,o,rfl,f,q⟩:=j H;have m:=r b rfl (by intro e;rw[e] at H;simp at H);have e:=cP W p b c m;refine⟨b,o,rfl,by simpa using f,fun k d=>?_⟩
 obtain⟨Q,u,v⟩:=q k d;exact⟨(ZU (a:=⟨b,o+k*3,Z7⟩) e).trans Q,(ZU (a:=⟨b,o+k*3+1,Z7⟩) e).trans u,(ZU (a:=⟨b,o+k*3+2,Z7⟩) e).trans v⟩
theorem GO(h:IS W al l):∀ y,al.ownBlock=Z9 y->l≠[]->y<W.heap.size:=by
 obtain⟨a,C,rfl,i,d⟩:=h;intro y f b;obtain⟨B,o,rfl,H,j⟩:=d (List.length_pos_iff.2 b);cases f
 exact H
theorem Ho{l:Z3 Gr}(h:GS W al l):∀ y,al.ownBlock=Z9 y->l≠[]->y<W.heap.size:=by
 obtain⟨a,C,rfl,i,d⟩:=h;intro y f b;obtain⟨B,o,rfl,H,j⟩:=d (List.length_pos_iff.2 b);cases f
 exact H
theorem DR.below{wr a:ZY}{p r:Nat}{x:Fu}{G:Z1}{t:Z6}{S:Z3 ZP × Nat}(h:DR wr W p r x al G t S)(H:Below W.heap.size W a):DR wr a p r x al G t S :=
 ⟨bt h.bel H,h.p0,am H h.rp (by rw[ah];decide),h.hp.below H,am H h.rr (WM 1),h.is.below H,h.gs.below H,h.ao,h.go,h.tx⟩
def TrR(C:ZP)(s:Z3 ZP)(k:Nat):Prop:=∀ j:Int,0<=j->j<k->Ek.letter j=C->gY j s=Z7
theorem TrR.next{C:ZP}{s:Z3 ZP}{k:Nat}(h:TrR C s k)(b:Ek.letter k=C->gY k s=Z7):TrR C s (k+1):=by
 intro j a d H;by_cases e:j=k
 .subst e;exact b H
 .exact h j a (by omega) H
theorem TrR.all{s:Z3 ZP}(h:TrR (s.headD 0) s 5)(a:32<=s.length/\s.length<=200):cF s=Z7:=by
 rw[tw s a]
 cases H:iW (s.headD 0) with
 | none=>rfl
 | some k =>
   simp only
   have:0<=k/\k<5/\Ek.letter k=s.headD 0:=by
    unfold iW at H
    (repeat' split at H) <;> first|(cases H;rename_i e;exact⟨by decide,by decide,e.symm⟩)|cases H
   exact h k this.1 this.2.1 this.2.2
theorem Dg(s:Z3 ZP)(k:Int)(x:Fu)(b:32<=s.length/\s.length<=200)(a:0<=k/\k<=4)(H:Ek.letter k=s.headD 0)(h:gY k s=Z9 x):cF s=Z9 x:=by
 rw[tw s b,<-H,l7 k a];exact h
theorem Ea(s:Z6)(H:32<=s.size)(i:Nat)(a:i<=31)(h:Ek.tlen ((Z5 s).drop 1 |>.take 31) 31=i):Z5 (s.extract 1 (i+1))=eE (Z5 s):=by
 unfold eE Ek.trim;have b:(((Z5 s).drop 1).take 31).length=31:=by rw[List.length_take,List.length_drop,Z0];omega
 rw[b,h,List.take_take,Nat.min_eq_left a];unfold Z5;rw[ByteArray.data_extract,Array.toList_extract];rfl
theorem DB(s:Z6)(h:32<=s.size)(i:Nat)(H:i<31):((Z5 s).drop 1 |>.take 31)[i]?=Z9 (s[i+1]'(by omega)):=by
 rw[List.getElem?_take_of_lt H,List.getElem?_drop];unfold Z5;rw[Nat.add_comm 1 i,List.getElem?_eq_getElem (by simp;omega)];rfl
attribute [local go_sem ↓] aZ bf bq jM jR
attribute [local go_sem] bn aS aH aK aT ak aI aw az aM ah aQ aL aP aO aR aY aW
theorem zY(s:Z6)(w:ZY)(h:s.size<32\/200<s.size) :
 ZJ Tryz.prog 280 #[.string s] w fun r a=>je w a (Z5 s) r:=by
 have D:=lh (Bh s h)
 have fin:∀ a:ZY,a=w.alloc (.cells (zlit 0 ⟨#[]⟩) 29)->je w a (Z5 s) (.returned (.tuple #[.agg (row a w.heap.size),.int .i64 11])):=fun a e=>by
  subst e;rw[ak,eh];exact⟨(En.zero,[],[]),_,_,11,rfl,IS.nil _,GS.nil _,by exact aB,Or.inr ⟨D.o,rfl,rfl⟩,(fun _ h=>by cases h),(fun _ h=>by cases h)⟩
 have H:=lh fin;clear fin;rcases h with h|h
 .have E:decide ((s.size:Int)<32)=ZZ:=by rw[ZW];omega
  clear h;go_enter Tryz.func280,Tryz.ntmps280
  go_wp2_with fail
  refine ZA (bV (n:=32) rfl Tryz.underlying29 rfl (by kernel_rfl) _ _ w.heap.size rfl ?_) rfl ?_
  .rw[ak];rfl
  .exact H.o _ rfl
 .have E:decide ((s.size:Int)<32)=Z2:=by rw[ZI];omega
  have b:decide (200<(s.size:Int))=ZZ:=by rw[ZW];omega
  clear h;go_enter Tryz.func280,Tryz.ntmps280
  go_wp2_with fail
  refine ZA (bV (n:=32) rfl Tryz.underlying29 rfl (by kernel_rfl) _ _ w.heap.size rfl ?_) rfl ?_
  .rw[ak];rfl
  .exact H.o _ rfl
theorem yJ(k:Nat)(h:k<5)(w:ZY):(Instr.index 9 (.string ⟨#[68,71,65,67,80]⟩) (.int .i64 (k:Int))).run Tryz.prog w=.ok (.int .u8 ((Ek.letter k).toNat:Int)) w:=by
 rcases (by omega:k=0\/k=1\/k=2\/k=3\/k=4) with rfl|rfl|rfl|rfl|rfl <;> kernel_rfl
def jk(x:Fu):Z6:=if aA x=ZZ then ⟨(cJ x).toArray⟩ else ⟨#[]⟩
theorem F7(al G:Z1)(C:Int)(f:C=if aA x=ZZ then 0 else 1)(w:ZY)(h:x.1.name.size<=60)(H:IS w al x.2.1)(b:GS w G x.2.2) :
 ZJ Tryz.prog 136 #[.agg (x.1.vals al G)] w fun r a=>r=.returned (.tuple #[.string (jk x),.int .i64 C])/\Below w.heap.size w a:=by
 subst f;refine (tH x al G w h H b).mono ?_
 rintro r a ⟨t,rfl,i,d⟩
 obtain rfl:t=jk x:=by
  refine Ds.bl_inj (i.trans ?_)
  unfold jk;split
  .rw[Xj]
  .rfl
 exact⟨rfl,d⟩
def Hit(x:Fu)(S:Z3 ZP × Nat)(s:Z6):Prop:=Rd.fin S=0/\aA x=ZZ/\cJ x=Z5 s
theorem CR(S:Z3 ZP × Nat)(s:Z6)(C:Int)(i:C=if aA x=ZZ then 0 else 1):((((Rd.fin S:Nat):Int)==0)=Z2/\Hid (¬ Hit x S s))\/((((Rd.fin S:Nat):Int)==0)=ZZ/\(C==0)=Z2/\Hid (¬ Hit x S s))\/((((Rd.fin S:Nat):Int)==0)=ZZ/\(C==0)=ZZ/\((jk x).toList==s.toList)=Z2/\Hid (¬ Hit x S s))\/((((Rd.fin S:Nat):Int)==0)=ZZ/\(C==0)=ZZ/\((jk x).toList==s.toList)=ZZ/\Hid (Hit x S s)):=by
 unfold Hit;subst i;rcases uK S with ⟨H,b⟩|⟨H,b⟩
 .cases f:aA x
  .exact .inr (.inl ⟨H,rfl,lh (by simp)⟩)
  .have q:jk x=⟨(cJ x).toArray⟩:=by unfold jk;rw[ZT f]
   have d:((jk x).toList==s.toList)=decide (cJ x=Z5 s):=by
    rw[q,Bool.eq_iff_iff,beq_iff_eq,ZW,lM];constructor
    .intro e;rw[<-e,Xj]
    .intro e;exact Ds.bl_inj ((Xj _).trans e)
   by_cases a:cJ x=Z5 s
   .exact .inr (.inr (.inr ⟨H,rfl,d.trans (ZO a),lh ⟨b.o,rfl,a⟩⟩))
   .exact .inr (.inr (.inl ⟨H,rfl,d.trans (ZN a),lh (fun h=>a h.2.2)⟩))
 .exact .inl ⟨H,lh (fun h=>b.o h.1)⟩
attribute [local go_sem] cG eU eV eo fi fj da fD
attribute [local go_sem ↓ high] bf
theorem Bd(s:Z6)(w:ZY)(X:32<=s.size)(ad:s.size<=200) :
 ZJ Tryz.prog 280 #[.string s] w fun r w'=>je w w' (Z5 s) r:=by
 have bp:0<s.size:=by omega
 have bs:(0:Int)<(s.size:Int):=by omega
 have a6:=lh (xn s bp);have E:32<=(Z5 s).length/\(Z5 s).length<=200:=by rw[Z0];exact⟨X,ad⟩
 have u:Z5 (s.extract 32 s.size)=(Z5 s).drop 32:=by
  unfold Z5;rw[ByteArray.data_extract,Array.toList_extract];show (s.data.toList.drop 32).take (s.size - 32)=_
  rw[List.take_of_length_le (by rw[List.length_drop,Array.length_toList];exact ZV _)]
 have b5:(s.extract 32 s.size).size<=1000:=by simp;omega
 have bc:=lh u;have a7:=lh E;have be:=lh b5;have J:=lh (fun i A=>DB s X i A);have P:=lh (fun i A h=>Ea s X i A h);obtain⟨lst,F⟩:∃ lst,((Z5 s).drop 1).take 31=lst:=⟨_,rfl⟩;rw[F] at J P;clear u E b5 F;have e1:decide ((s.size:Int)<32)=Z2:=by rw[ZI];omega
 have e2:decide (200<(s.size:Int))=Z2:=by rw[ZI];omega
 have HH:=lh (Held.new w (zlit 0 ⟨#[]⟩) 29 33 rfl (by decide));have a4:zlit 0 ⟨#[]⟩=En.zero.vals (.slice Z7 0 0) (.slice Z7 0 0):=eh _ _;have b6:bh (zlit 0 ⟨#[]⟩).toList=ZZ:=by rw[a4];exact ay _ _ _ rfl rfl
 have bg:=lh a4;clear a4;unfold zlit at b6;go_enter Tryz.func280,Tryz.ntmps280
 go_wp2_with fail
 go_loopw [4] (fun kv wr=>∃ k:Nat,k<=5/\kv=.int .i64 k/\TrR s[0] (Z5 s) k/\Held wr w.heap.size 33/\Below w.heap.size w wr) (fun kv _=>5 - (intOf kv).toNat)
 case atStart=>exact⟨0,by omega,rfl,(fun j h0 d=>by omega),HH.o,by exact aB⟩
 case round =>
  obtain⟨k,hk,rfl,af,hH,B⟩:=hrel;have Q:=lh af;have O:=lh hH;have HB:=lh B;have z0:=hH.lt;clear af hH B HH;by_cases bj:k<5
  .have t4:decide ((k:Int)<=4)=ZZ:=by rw[ZW];omega
   have bi:=fun W=>yJ k bj W
   have ab:Hid (Ek.letter k≠s[0]->TrR s[0] (Z5 s) (k+1)):=lh (fun h=>Q.o.next (fun e=>absurd e h));by_cases hc:Ek.letter k=s[0]
   rotate_left
   .have t1:((s[0].toNat:Int) != ((Ek.letter k).toNat:Int))=ZZ:=by rw[bne_iff_ne];intro h;exact hc (UInt8.toNat_inj.1 (by omega))
    have HQ:=lh (ab.o hc);clear hc;go_wp2_with fail
    go_quiet (fail)
    go_wp2_with fail
    go_roundw
    case rel=>exact⟨k+1,by omega,by go_num,HQ.o,O.o,HB.o.trans ⟨rfl,rfl,rfl,ZV _,fun _ _=>rfl⟩⟩
    case measure=>simp [intOf];omega
   have t1:((s[0].toNat:Int) != ((Ek.letter k).toNat:Int))=Z2:=by rw[hc];simp
   have HC:=lh hc;clear hc ab;obtain⟨f,bk⟩:∃ f,f=wr:=⟨_,rfl⟩;subst bk;go_wp2_with fail
   go_quiet (fail)
   go_upto_block 2 with fail
   generalize hW:World.drewN f _=W0;have v:Below f.heap.size f W0:=by rw[<-hW];exact⟨rfl,rfl,rfl,ZV _,fun _ _=>rfl⟩
   clear hW bi t1;go_cut [5] from 28 to 38 (fun t5 wx=>∃ i:Nat,i<=31/\t5=.int .i64 ((i+1:Nat):Int)/\Ek.tlen lst 31=i/\wx=W0)
   case first =>
    go_wp2_with fail
    go_loopw [5] (fun ev br=>∃ i:Nat,i<=31/\ev=.int .i64 ((i+1:Nat):Int)/\Ek.tlen lst 31=Ek.tlen lst i/\br=W0) (fun ev _=>(intOf ev).toNat)
    case atStart=>exact⟨31,by omega,rfl,rfl,rfl⟩
    case round =>
     obtain⟨i,A,rfl,ht,rfl⟩:=hrel;have HE:=lh ht;clear ht;by_cases h0:0<i
     .obtain⟨j,rfl⟩:∃ j,i=j+1:=⟨i - 1,by omega⟩;have c1:j+1<s.size:=by omega
      have c0:((j:Int)+1)<(s.size:Int):=by omega
      have t7:decide ((1:Int)<(j:Int)+1+1)=ZZ:=by rw[ZW];omega
      have HJ:=lh (J.o j (by omega));have hx:=qQ s[j+1];by_cases h3:s[j+1]=32
      .rw[ZO h3] at hx;have H3:=lh h3;clear h3;go_wp2_with fail
       go_roundw
       case rel=>exact⟨j,by omega,by go_num,by rw[HE.o];exact Ek.tlen_yes _ _ (by rw[HJ.o,H3.o]),by trivial⟩
       case measure=>simp [intOf];try omega
      .rw[ZN h3] at hx;have H3:=lh h3;clear h3;go_wp2_with fail
       go_meet
       exact⟨j+1,A,by go_num,by rw[HE.o];exact Ek.tlen_no _ _ (by rw[HJ.o];intro e;exact H3.o (Option.some.inj e)),by trivial⟩
     .obtain rfl:i=0:=by omega
      go_wp2_with fail
      go_meet
      exact⟨0,A,by go_num,by rw[HE.o];rfl,by trivial⟩
   case rest =>
    obtain⟨i,A,rfl,ht,rfl⟩:=hcut;have ar:=P.o i A ht;have bv:i+1<=s.size:=by omega
    have j1:(0:Int)<=(i:Int)+1:=by omega
    have j2:(i:Int)+1<=(s.size:Int):=by omega
    have j3:(1:Int)<=(i:Int)+1:=by omega
    have j4:(32:Int)<=(s.size:Int):=by omega
    have Z:=fun W=>yE (k:Int) ⟨by omega,by omega⟩ (s.extract 1 (i+1)) (s.extract 32 s.size) W be.o
    obtain⟨x,S,a3⟩:∃ x S,dA (k:Int) (s.extract 1 (i+1)) (Z5 (s.extract 32 s.size),0)=(x,S):=⟨_,_,rfl⟩;have a0:=CG (k:Int) ⟨by omega,by omega⟩ (s.extract 1 (i+1)) (Z5 (s.extract 32 s.size),0);rw[a3] at Z a0
    have b2:x.1.name.size<=60:=by
     rw[show x.1.name=s.extract 1 (i+1) from a0];simp;omega
    have ac:Hid (gY (k:Int) (Z5 s)=if Rd.fin S=0/\aA x=ZZ/\cJ x=Z5 s then Z9 x else Z7):=lh (by
     unfold gY;rw[<-ar,<-bc.o,Ds.mk_bl,a3])
    have N:=lh Z;have aa:=lh b2;clear ar Z a3 a0 b2 ht;unfold zlit at N;go_upto_region 10 with fail
    go_cut [6,7] (fun t6 t7 wx=>∃ (p r:Nat) (al G:Z1) (t:Z6),t6=.pointer (Z9 ⟨p,0,Z7⟩)/\t7=.pointer (Z9 ⟨r,0,Z7⟩)/\DR f wx p r x al G t S)
    case first =>
     go_region_held3 (fun W=>Below f.heap.size f W) (first|exact v.drew|exact bt (by assumption) H|exact Xr (by assumption) (by first|(have:=v.size;simp;omega)|(have:=(by assumption:Below f.heap.size f _).size;simp at this |-;omega)) _|exact Zy (by assumption) (by first|(have:=v.size;simp;omega)|(have q1:=v.size;have q2:=H.size;simp at q2 |-;omega)) _|exact Xr m.o (by have q1:=m.o.size;first|exact q1|(simp;omega)) _|exact Xr (Xr m.o m.o.size _) (by have q1:=m.o.size;simp;omega) _) ((go_at_call 311;(with_reducible refine (N.o _).mono ?_);rintro _ I ⟨al,G,t,rfl,hI,hG,b3,H,av,b0⟩;have b1:=ay x.1 al G (aD hI) (aE hG);have U:=fun g n (h:Held _ g n)=>h.below H;(try (have K:Held I wc.heap.size 33:=U _ 33 (cG _ _);have R:=fun o=>da I o _ _ K));(try (have K:Held I wc.heap.size 33:=U _ 33 (eU _ _ _)));(try (have K:Held I (wc.heap.size+1) 33:=U _ 33 (eV _ _ _)));(try (have z:Held I wc.heap.size 2:=U _ 2 (eo _ _);have T:=fun o=>da I o _ _ z));(try (have z:Held I wc.heap.size 2:=U _ 2 (fi _ _ _)));(try (have z:Held I (wc.heap.size+1) 2:=U _ 2 (fj _ _ _)));clear U;have m:=lh (bt (by assumption:Below f.heap.size f _) H);have HI:=lh hI;have HG:=lh hG;have bd:=lh b3;have a8:=lh av;have a9:=lh b0;have ba:=lh (GO hI);have bb:=lh (Ho hG);clear hI hG b3 av b0))
     all_goals
      go_wp2_with fail
      go_meet
      have q1:=v.size;have q2:=m.o.size;have hh:=(by assumption:Below f.heap.size f _);refine⟨_,_,al,G,t,rfl,rfl,hh,?_,?_,?_,?_,?_,?_,?_,?_,bd.o⟩
      .omega
      .first|simp (maxDischargeDepth:=10) only [fX,fY,eT,gq,ak,aw,cG,eU,eV,eo,fi,fj,eb,gB,fE,fD,fU,K,R]|simp (maxDischargeDepth:=10) only [fX,fY,eT,gq,ak,aw,cG,eU,eV,eo,fi,fj,eb,gB,fE,fD,fU,z,T]|simp (maxDischargeDepth:=10) only [fX,fY,eT,gq,ak,aw,cG,eU,eV,eo,fi,fj,eb,gB,fE,fD,fU,K,z]|simp (maxDischargeDepth:=10) only [fX,fY,eT,gq,ak,aw,cG,eU,eV,eo,fi,fj,eb,gB,fE,fD,fU]
      .first|simp (maxDischargeDepth:=10) only [fX,fY,eT,gq,ak,aw,cG,eU,eV,eo,fi,fj,eb,gB,fE,fD,fU,K,R]|simp (maxDischargeDepth:=10) only [fX,fY,eT,gq,ak,aw,cG,eU,eV,eo,fi,fj,eb,gB,fE,fD,fU,z,T]|simp (maxDischargeDepth:=10) only [fX,fY,eT,gq,ak,aw,cG,eU,eV,eo,fi,fj,eb,gB,fE,fD,fU,K,z]|simp (maxDischargeDepth:=10) only [fX,fY,eT,gq,ak,aw,cG,eU,eV,eo,fi,fj,eb,gB,fE,fD,fU]
      .first|simp (maxDischargeDepth:=10) only [fX,fY,eT,gq,ak,aw,cG,eU,eV,eo,fi,fj,eb,gB,fE,fD,fU,K,R]|simp (maxDischargeDepth:=10) only [fX,fY,eT,gq,ak,aw,cG,eU,eV,eo,fi,fj,eb,gB,fE,fD,fU,z,T]|simp (maxDischargeDepth:=10) only [fX,fY,eT,gq,ak,aw,cG,eU,eV,eo,fi,fj,eb,gB,fE,fD,fU,K,z]|simp (maxDischargeDepth:=10) only [fX,fY,eT,gq,ak,aw,cG,eU,eV,eo,fi,fj,eb,gB,fE,fD,fU]
      . (repeat (first|exact HI.o|refine vX ?_ ?_|refine IS.below ?_ ((ZR _ _).alloc (ZV _) _)))
        all_goals (intro y d h2 e;have V:=a8.o y d;have a2:=ba.o y d h2;simp at V e;omega)
      . (repeat (first|exact HG.o|refine vt ?_ ?_|refine GS.below ?_ ((ZR _ _).alloc (ZV _) _)))
        all_goals (intro y d h2 e;have V:=a9.o y d;have a2:=bb.o y d h2;simp at V e;omega)
      .intro y d;have V:=a8.o y d;simp at V;omega
      .intro y d;have V:=a9.o y d;simp at V;omega
    case rest =>
     obtain⟨p,r,al,G,t,rfl,rfl,D⟩:=hcut;have b1:=ay x.1 al G (aD D.is) (aE D.gs);obtain⟨C,a⟩:∃ C:Int,C=if aA x=ZZ then 0 else 1:=⟨_,rfl⟩
     have b4:=CR x S s C a;have ag:=fun W (b:Below _ _ W)=>F7 x al G C a W aa.o (D.is.below b) (D.gs.below b)
     have Y:=fun W=>Hs t S.2 W
     rw[show (Z5 t,S.2)=S by rw[D.tx]] at Y;have R1:=D.rp;have R2:=D.rr;have K1:=O.o.below D.bel;have L:=lh D;have b9:=lh ag;have b8:=lh Y;clear a ag Y D N aa J P;rcases b4 with ⟨f1,hh⟩|⟨f1,f2,hh⟩|⟨f1,f2,f3,hh⟩|⟨f1,f2,f3,hh⟩
     all_goals
      go_wp2_with first|go_at_call 136;(with_reducible refine (b9.o _ (ZR _ _)).mono ?_);rintro _ w4 ⟨rfl,H⟩;have R3:=am H R1 (by rw[ah];decide);have R4:=am H R2 (WM 1);have K4:=K1.below H;have B4:=lh (bt L.o.bel H);have b7:=lh H;clear H|go_at_call 312;(with_reducible refine (b8.o _).mono ?_);rintro _ w5 ⟨rfl,H⟩;have R5:=am H R3 (by rw[ah];decide);have K5:=K4.below H;have B5:=lh (bt B4.o H);have a5:=lh (bt b7.o H);clear H
      first
      | (go_roundw
         case rel=>exact⟨k+1,by omega,by go_num,Q.o.next (fun _=>ac.o.trans (ZX hh.o)),K5,bt HB.o B5.o⟩
         case measure=>simp [intOf];omega)
      | (refine ZA (bV (n:=32) rfl Tryz.underlying29 rfl (by kernel_rfl) _ _ w.heap.size rfl ?_) rfl ?_
         .rw[au K5];exact ah _ _ _
         .rw[au K5];refine⟨x,al,G,0,rfl,vX (L.o.is.below a5.o) (fun y d _=>by have:=L.o.ao y d;omega),vt (L.o.gs.below a5.o) (fun y d _=>by have:=L.o.go y d;omega),Zy (bt HB.o B5.o) (ZV _) _,Or.inl ⟨Dg _ _ x a7.o ⟨by omega,by omega⟩ (HC.o.trans a6.o.symm) (ac.o.trans (ZT hh.o)),rfl⟩,fun q hq=>by have:=L.o.ao q hq;omega,fun q hq=>by have:=L.o.go q hq;omega⟩)
  .obtain rfl:k=5:=by omega
   have K1:=O.o;go_wp2_with fail
   refine ZA (bV (n:=32) rfl Tryz.underlying29 rfl (by kernel_rfl) _ _ w.heap.size rfl ?_) rfl ?_
   .rw[au K1];rfl
   .rw[au K1];have hn:cF (Z5 s)=Z7:=TrR.all (by rw[a6.o];exact Q.o) a7.o;have e:=bg.o;unfold zlit at e;rw[e];exact⟨(En.zero,[],[]),.slice Z7 0 0,.slice Z7 0 0,11,rfl,IS.nil _,GS.nil _,Zy HB.o (ZV _) _,Or.inr ⟨hn,rfl,rfl⟩,(fun _ h=>by cases h),(fun _ h=>by cases h)⟩
theorem Bm(s:Z6)(w:ZY):ZJ Tryz.prog 280 #[.string s] w fun r a=>je w a (Z5 s) r:=by
 by_cases h:s.size<32\/200<s.size
 .exact zY s w h
 .exact Bd s w (by omega) (by omega)
end
end Go.Proofs.YtnkjliahpeebjaaGreatDoor
