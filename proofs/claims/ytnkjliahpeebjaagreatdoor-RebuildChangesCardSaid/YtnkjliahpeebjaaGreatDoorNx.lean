/- Catalogs. -/
import Derived.Test.YtnkjliahpeebjaaGreatDoorGt
set_option maxRecDepth 8000
set_option maxHeartbeats 16000000
open Option renaming some->Z9,none->Z7
open Go.Proofs.Tryz renaming prog->Z8
open _root_ renaming ByteArray->Z6,List->Z1,decide_eq_true_eq->ZU,if_neg->ZS,if_pos->ZP,UInt8->ZM,decide_eq_true->ZI,decide_eq_false->ZG,Array->Zy,Option->Zp,bne_iff_ne->YQ
open Go.Proofs.YtnkjliahpeebjaaGreatDoor.Ds renaming bl->Z5,bl_length->ZZ,bl_mk->X1,bl_inj->XR,gen->XA
open Go.RowKit renaming Below->Z4
open Go renaming Value->Z2,World->ZY,Calls->ZH,bodyPost_ret->ZD,below_setRow->ZA,wpAnyH_done->XJ,Ending->VK
open Bool renaming true->ZX,false->ZW,and_eq_true->ZQ,eq_iff_iff->Zn,false_eq_true->Xi
open Nat renaming le_refl->ZV,le_trans->ZC,lt_of_lt_of_le->Zz
open Go.World renaming cell?_of_block->ZT
open Go.RowKit.Below renaming refl->ZR,drew->Y3
open List renaming length_append->ZO,setIfInBounds_toArray->Zt,set_cons_zero->Ze,set_cons_succ->Zd
open Option.some renaming inj->ZN
open Go.Proofs.YtnkjliahpeebjaaGreatDoor.En renaming zero->YS
open Go.Proofs.YtnkjliahpeebjaaGreatDoor.Rd renaming txt->Yu,fin->WV,txt_len->WR,txt_enc->WE
open Or renaming inr->Xb,inl->VZ
namespace Go.Proofs.YtnkjliahpeebjaaGreatDoor
variable(n:Z1 ZM)(l:Z1 Rw)(x g:Fu){w' w j W:ZY}(s t:Z6)(a:Int){d c:ZY}(f i id b:Int){rb q p:Nat}(name:Z6){al2 gr gr2 al k m v:Z2}
def wtx(s:Z1 ZM):Z1 ZM:=Wi.enc s.length++s
def nR:Fu:=(YS,[],[])
def IO(g:Fu):Bool:=dh g.1 YS g.2.1 [] g.2.2 []
theorem KC(h:IO g=ZX):g=nR:=by
 obtain⟨e,l,r⟩:=g;unfold IO at h;obtain⟨H,o,u⟩:=(dV _ _ _ _ _ _).1 h;simp only at H o u
 subst H o u;rfl
theorem JI:IO nR=ZX:=(dV _ _ _ _ _ _).2 ⟨rfl,rfl,rfl⟩
def uc(n:Z1 ZM)(g:Fu):Bool:=if XA n=ZX then aA g&&(decide (g.1.kind=1)&&decide (Z5 g.1.name=Ds.splG n)) else IO g
def bv(x g:Fu):Bool:=aA x&&(decide (x.1.kind=0)&&uc (Z5 x.1.name) g)
def ek(x g:Fu):Z1 ZM:=if XA (Z5 x.1.name)=ZX then cJ g else []
def sc(x g:Fu):Z1 ZM:=wtx (cJ x)++wtx (ek x g)
def sr(x g:Fu):Zp (Z1 ZM):=if bv x g=ZX then Z9 (sc x g) else Z7
theorem LM(h:aA g=ZX)(o:g.1.kind=1):(cJ g).length<=60:=by
 have u:=ki g h;obtain⟨e,l,r⟩:=g;simp only at o
 unfold aA at h;simp only[o] at h
 rw[ZS (by decide),ZP trivial] at h;unfold fm at h;simp only[ZQ] at h
 obtain⟨⟨-,H⟩,-⟩:=h;unfold Vp.grp at H;simp only[ZQ] at H
 obtain⟨⟨Q,y⟩,z⟩:=H;have D:=rng1 _ _ _ Q;have F:=rng1 _ _ _ y;have R:=own8 _ z;have A:=dT e.lim.toNat 0 (by omega);have B:=dT e.last.toNat 1 (by omega);have C:=dT e.owner.size 0 (by rw[ZZ] at R;omega);unfold cJ;rw[ZO,u];have E:dX (e,l,r)=dG e:=by unfold dX;simp only[o];rw[ZS (by decide),ZP trivial]
 rw[E];unfold dG encs encs encs;simp only[ZO,List.length_cons,List.length_nil] at *
 omega
theorem Kd(h:aA x=ZX):32<=(cJ x).length:=by
 unfold cJ;rw[ZO,ki x h];omega
theorem I4(h:uc n g=ZX)(H:XA n=ZX):aA g=ZX/\g.1.kind=1:=by
 unfold uc at h;rw[ZP H] at h;simp only[ZQ,ZU] at h
 exact⟨h.1,h.2.1⟩
theorem Lg(h:uc n g=ZX)(H:XA n=ZW):g=nR:=by
 unfold uc at h;rw[ZS (by rw[H];simp)] at h;exact KC g h
theorem IL(h:bv x g=ZX):aA x=ZX/\x.1.kind=0/\uc (Z5 x.1.name) g=ZX:=by
 unfold bv at h;simp only[ZQ,ZU] at h
 exact h
theorem JS(h:bv x g=ZX):(ek x g).length<=60:=by
 obtain⟨-,-,H⟩:=IL x g h;unfold ek;split
 .rename_i c;obtain⟨e,o⟩:=I4 _ _ H c;exact LM g e o
 .simp
theorem LD(h:bv x g=ZX):(sc x g).length<=400:=by
 have H:=Bp x (IL x g h).1;have o:=JS x g h;have e:=dT (cJ x).length 1 (by omega);have E:=dT (ek x g).length 0 (by omega);unfold sc wtx;simp only[ZO]
 omega
theorem Lj(h:bv x g=ZX):(if ek x g=[] then Z9 nR else cF (ek x g))=Z9 g:=by
 obtain⟨-,-,r⟩:=IL x g h;cases H:XA (Z5 x.1.name)
 .rw[show ek x g=[] by unfold ek;rw[ZS (by rw[H];simp)],ZP rfl,Lg _ _ r H]
 .obtain⟨o,u⟩:=I4 _ _ r H;rw[show ek x g=cJ g by unfold ek;rw[ZP H]];have:=Kd g o;rw[ZS (by intro e;rw[e] at this;simp at this),BV g o (Bp g o)]
def co(s:Z1 ZM):Zp (Fu × Fu) :=
 let a:=Yu 200 (s,0)
 let b:=Yu 200 a.2
 if WV b.2=0 then
  match cF a.1 with
  | none=>Z7
  | some x=>match (if b.1=[] then Z9 nR else cF b.1) with
    | none=>Z7
    | some g=>if sr x g=Z9 s then Z9 (x,g) else Z7
 else Z7
theorem KI(h:bv x g=ZX):co (sc x g)=Z9 (x,g):=by
 obtain⟨H,-,-⟩:=IL x g h;have L:=Bp x H;have o:=JS x g h
 have e:Yu 200 (sc x g,0)=(cJ x,(wtx (ek x g),0)):=by
  unfold sc wtx;rw[List.append_assoc];exact WE 200 (cJ x) _ L (by omega)
 have E:Yu 200 (wtx (ek x g),0)=(ek x g,([],0)):=by
  have:=WE 200 (ek x g) [] (by omega) (by omega);rw[List.append_nil] at this;exact this
 unfold co;simp only[e,E]
 rw[ZP (by rfl),BV x H L];simp only
 rw[Lj x g h];simp only
 rw[ZP (by unfold sr;rw[ZP h])]
section
open Go.RowKit
set_option linter.unusedSimpArgs false
theorem Ja(w:ZY)(e:s.size<=1000)(H:MaxL w) :
 ZH Z8 71 #[.string s] w fun r w'=>r=.returned (.tuple #[.string ⟨(Ds.splG (Z5 s)).toArray⟩,.bool (XA (Z5 s))])/\Z4 w.heap.size w w':=by
 have h:=lq s w e H;generalize (⟨(Ds.splG (Z5 s)).toArray⟩:Z6)=S at h |-;generalize Ds.splN (Z5 s)=o at h;generalize XA (Z5 s)=b at h |-;go_enter Tryz.func71,Tryz.ntmps71
 go_wp2_with (go_at_call 155;(with_reducible refine h.mono ?_);rintro _ u ⟨rfl,B⟩)
 go_ret2
 exact⟨rfl,B⟩
theorem Ke(a b:Z6):(a.toList==b.toList)=decide (Z5 a=Z5 b):=by
 rw[Zn,beq_iff_eq,ZU,lM];exact⟨fun h=>by rw[h],fun h=>XR h⟩
theorem JE(a b:Int):(a==b)=decide (a=b):=by
 rw[Zn,beq_iff_eq,ZU]
def nz(x:Fu):Z6:=if aA x=ZX then ⟨(cJ x).toArray⟩ else ⟨#[]⟩
theorem JG:(nz x).size<=200:=by
 unfold nz;split
 .rename_i h;rw[<-ZZ,X1];exact Bp x h
 .decide
theorem JD(al gr:Z2)(w:ZY)(y:MaxL w)(T:Tab w)(h:x.1.name.size<=1000)(H:IS w al x.2.1)(o:GS w gr x.2.2) :
 ZH Z8 76 #[.agg (x.1.vals al gr)] w fun r w'=>r=.returned (.tuple #[.string (nz x),.int .i64 (if aA x=ZX then 0 else 1)])/\Z4 w.heap.size w w':=by
 refine (si x.1 al gr x.2.1 x.2.2 w y T h H o).mono ?_
 rintro r w' ⟨t,rfl,z,u⟩
 have e:t=nz x:=by
  refine XR (z.trans ?_)
  unfold nz;show (if aA x=ZX then cJ x else [])=_
  split
  .rw[X1]
  .rfl
 subst e;exact⟨rfl,u⟩
def zw(s t:Z6):Z6:=⟨(Z5 s++wtx (Z5 t)).toArray⟩
theorem IW:Z5 (zw s t)=Z5 s++wtx (Z5 t):=X1 _
theorem LO(h:t.size<=10000):(zw s t).size<=s.size+t.size+10:=by
 rw[<-ZZ,IW,ZO,ZZ];unfold wtx;rw[ZO,ZZ];have:=Wi.enc_len 9 t.size (by omega);omega
theorem LZ(w:ZY)(H:s.size<=10000)(o:t.size<=10000) :
 ZH Z8 114 #[.string s,.string t] w fun r w'=>r=.returned (.string (zw s t))/\Z4 w.heap.size w w':=by
 refine (Dt s t w H o).mono ?_
 rintro r w' ⟨u,rfl,y,h⟩;have e:u=zw s t:=XR (y.trans (by rw[IW];unfold wtx;rw[ZZ]));subst e;exact⟨rfl,h⟩
def eg(x g:Fu):Z6:=if bv x g=ZX then ⟨(sc x g).toArray⟩ else ⟨#[]⟩
theorem Ku(h:bv x g=ZX):zw (zw ⟨#[]⟩ (nz x)) (if XA (Z5 x.1.name)=ZX then nz g else ⟨#[]⟩)=eg x g:=by
 obtain⟨H,o,e⟩:=IL x g h;refine XR ?_
 rw[IW,IW];unfold eg;rw[ZP h,X1];unfold sc ek;rw[show Z5 (nz x)=cJ x by unfold nz;rw[ZP H,X1]];show wtx (cJ x)++_=_
 congr 2
 split
 .rename_i c;unfold nz;rw[ZP (I4 _ _ e c).1,X1]
 .rfl
theorem LC(h:bv x g=ZW):eg x g=⟨#[]⟩:=by
 unfold eg;rw[ZS (by rw[h];simp)]
attribute [local go_sem ↓] aZ bf
attribute [local go_sem] aS aH aK aT ak aI aw az aM ah aQ aL aP aO aR aY aW bD
theorem Jn(al gr al2 gr2:Z2)(w:ZY)(S:MaxL w)(hT:Tab w)(A:x.1.name.size<=1000)(R:g.1.name.size<=1000)(P:IS w al x.2.1)(Q:GS w gr x.2.2)(D:IS w al2 g.2.1)(F:GS w gr2 g.2.2) :
 ZH Z8 44 #[.agg (x.1.vals al gr),.agg (g.1.vals al2 gr2)] w fun r w'=>r=.returned (.tuple #[.string (eg x g),.int .i64 (if bv x g=ZX then 0 else 1)])/\Z4 w.heap.size w w':=by
 have a1:=ay x.1 al gr (aD P) (aE Q);have a2:=ay g.1 al2 gr2 (aD D) (aE F);have G:=fun W (B:Z4 w.heap.size w W)=>JD x al gr W (S.below B) (hT.below B) A (P.below B) (Q.below B)
 have I:=fun W (B:Z4 w.heap.size w W)=>JD g al2 gr2 W (S.below B) (hT.below B) R (D.below B) (F.below B)
 have J:=fun W (B:Z4 w.heap.size w W)=>Ja x.1.name W A (S.below B)
 have e:=fun W (B:Z4 w.heap.size w W)=>lD g.1 YS al2 gr2 (.slice Z7 0 0) (.slice Z7 0 0) g.2.1 [] g.2.2 [] W (D.below B) (IS.nil W) (F.below B) (GS.nil W)
 rw[show En.zero.vals (.slice Z7 0 0) (.slice Z7 0 0)=zlit 0 ⟨#[]⟩ from (eh 0 ⟨#[]⟩).symm] at e;unfold zlit at e;have z1:=JG x;have z2:=JG g;have Y:=Ku x g;have N:=LC x g;have z:bv x g=(aA x&&(decide (x.1.kind=0)&&(if XA (Z5 x.1.name)=ZX then aA g&&(decide (g.1.kind=1)&&decide (Z5 g.1.name=Ds.splG (Z5 x.1.name))) else dh g.1 YS g.2.1 [] g.2.2 []))):=rfl;have e1:=JE x.1.kind 0;have e3:=JE g.1.kind 1;have C:=Ke g.1.name ⟨(Ds.splG (Z5 x.1.name)).toArray⟩;rw[show Z5 ⟨(Ds.splG (Z5 x.1.name)).toArray⟩=Ds.splG (Z5 x.1.name) from X1 _] at C;have u:(g.1.kind != 1)=!(decide (g.1.kind=1)):=by rw[<-e3];rfl
 have E:(g.1.name.toList != (⟨(Ds.splG (Z5 x.1.name)).toArray⟩:Z6).toList)=!(decide (Z5 g.1.name=Ds.splG (Z5 x.1.name))):=by rw[<-C];rfl
 generalize nz x=sx at G z1 Y;generalize nz g=sy at I z2 Y;generalize eg x g=ns at Y N |-;generalize bv x g=a0 at z Y N |-;subst z;generalize aA x=c0 at G Y N |-;generalize decide (x.1.kind=0)=c1 at e1 Y N |-;generalize aA g=c2 at I Y N |-;generalize decide (g.1.kind=1)=c3 at e3 u Y N |-;generalize decide (Z5 g.1.name=Ds.splG (Z5 x.1.name))=c4 at C E Y N |-;generalize dh g.1 YS g.2.1 [] g.2.2 []=c5 at e Y N |-;generalize (⟨(Ds.splG (Z5 x.1.name)).toArray⟩:Z6)=sg at J C E;generalize XA (Z5 x.1.name)=ge at J Y N |-;have T:Z4 w.heap.size w ((w.alloc (.cells (x.1.vals al gr) 29)).alloc (.cells (g.1.vals al2 gr2) 29)):=by exact aB
 have R0:=aI w (x.1.vals al gr) 29 (0,0) (.cells (g.1.vals al2 gr2) 29);have Q0:=aw w (g.1.vals al2 gr2) 29 (0,0) (.cells (x.1.vals al gr) 29);have V:=lh G;have X:=lh I;have HP:=lh J;have HS:=lh e;have HY:=lh Y;have Z:=lh N;have HT:=lh (fun s t (W:ZY) (h:s.size<=10000) h'=>LZ s t W h h');have t0:(⟨#[]⟩:Z6).size=0:=rfl;have z3:=LO ⟨#[]⟩ sx (by omega);clear G I J e Y N P Q D F;cases c0
 case' true=>cases c1
 case' true.true=>cases ge
 case' true.true.false=>cases c5
 case' true.true.true=>cases c2
 case' true.true.true.true=>cases c3
 case' true.true.true.true.true=>cases c4
 all_goals
  first
  | (obtain rfl:ns=⟨#[]⟩:=Z.o rfl)
  | (have y:=HY.o rfl;simp only[Xi,if_false,if_true] at y;subst y)
  simp only[Bool.false_and,Bool.and_false,Bool.true_and,Bool.and_true,Bool.and_self,Xi,if_false,if_true,Bool.not_true,Bool.not_false] at u E |-
  simp only[Xi,if_false,if_true] at V X
  clear HY Z;go_enter Tryz.func44,Tryz.ntmps44
  go_wp2_with first|go_at_call 76;have O:=o;clear O;(refine (X.o _ o).mono ?_);rintro _ d ⟨rfl,H⟩;have Q3:=am H Q2 (by simp [ah]);have n0:=ae Q3 0 _ (ap g.1 _ _);have n1:=ae Q3 1 _ (aq g.1 _ _);have L:=bt o H;clear H|go_at_call 76;(refine (V.o _ T).mono ?_);rintro _ w1 ⟨rfl,H⟩;have R1:=am H R0 (by simp [ah]);have Q1:=am H Q0 (by simp [ah]);have x0:=ae R1 0 _ (ap x.1 _ _);have x1:=ae R1 1 _ (aq x.1 _ _);have K:=bt T H;clear H|go_at_call 71;(refine (HP.o _ K).mono ?_);rintro _ w2 ⟨rfl,H⟩;have Q2:=am H Q1 (by simp [ah]);have o:=bt K H;clear H|go_at_call 14;(refine (HS.o _ o).mono ?_);rintro _ d ⟨rfl,H⟩;have L:=bt o H;clear H|go_at_call 114;have O:=U;clear O;(refine (HT.o _ _ _ (by omega) (by omega)).mono ?_);rintro _ j ⟨rfl,H⟩;have B5:=bt U H;clear H|go_at_call 114;(refine (HT.o _ _ _ (by omega) (by omega)).mono ?_);rintro _ w4 ⟨rfl,H⟩;have U:=bt L H;clear H
  go_ret2
  exact⟨rfl,by first|exact B5|exact L|exact o|exact K⟩
end
section
open Go.RowKit
def zQ(w w':ZY)(s:Z1 ZM)(r:VK):Prop:=∃ (x g:Fu) (al gr al2 gr2:Z2) (C:Int),r=.returned (.tuple #[.agg (x.1.vals al gr),.agg (g.1.vals al2 gr2),.int .i64 C])/\IS w' al x.2.1/\GS w' gr x.2.2/\IS w' al2 g.2.1/\GS w' gr2 g.2.2/\Z4 w.heap.size w w'/\(co s=Z9 (x,g)/\C=0\/co s=Z7/\x=nR/\g=nR/\C=11)
def ParRo(w w':ZY)(s:Z1 ZM)(r:VK):Prop:=∃ (x g:Fu) (al gr al2 gr2:Z2) (C:Int),r=.returned (.tuple #[.agg (x.1.vals al gr),.agg (g.1.vals al2 gr2),.int .i64 C])/\IS w' al x.2.1/\GS w' gr x.2.2/\IS w' al2 g.2.1/\GS w' gr2 g.2.2/\Z4 w.heap.size w w'/\(co s=Z9 (x,g)/\C=0\/co s=Z7/\x=nR/\g=nR/\C=11)/\
 (∀ y,al.ownBlock=Z9 y->w.heap.size<=y)/\(∀ y,gr.ownBlock=Z9 y->w.heap.size<=y)/\(∀ y,al2.ownBlock=Z9 y->w.heap.size<=y)/\(∀ y,gr2.ownBlock=Z9 y->w.heap.size<=y)
theorem ParRo.par{s:Z1 ZM}{r:VK}(h:ParRo w w' s r):zQ w w' s r:=by
 obtain⟨x,g,al,gr,al2,gr2,C,H,e,o,u,y,z,A,-⟩:=h;exact⟨x,g,al,gr,al2,gr2,C,H,e,o,u,y,z,A⟩
theorem ParRo.bad{s:Z1 ZM}(e:co s=Z7)(H:Z4 w.heap.size w w'):ParRo w w' s (.returned (.tuple #[.agg (zlit 0 ⟨#[]⟩),.agg (zlit 0 ⟨#[]⟩),.int .i64 11])):=by
 rw[eh];exact⟨nR,nR,.slice Z7 0 0,.slice Z7 0 0,.slice Z7 0 0,.slice Z7 0 0,11,rfl,IS.nil _,GS.nil _,IS.nil _,GS.nil _,H,Xb ⟨e,rfl,rfl,rfl⟩,(fun y h=>by cases h),(fun y h=>by cases h),(fun y h=>by cases h),(fun y h=>by cases h)⟩
theorem Kv(s:Z1 ZM):∃ (a b:Z1 ZM) (R r:Z1 ZM × Nat),Yu 200 (s,0)=(a,R)/\Yu 200 R=(b,r)/\a.length<=200/\b.length<=200/\R.1.length<=s.length/\r.1.length<=s.length/\
 (WV r≠0->co s=Z7)/\(WV r=0->cF a=Z7->co s=Z7)/\
 (∀ x g:Fu,WV r=0->cF a=Z9 x->(if b=[] then Z9 nR else cF b)=Z9 g->co s=if sr x g=Z9 s then Z9 (x,g) else Z7)/\
 (∀ x:Fu,WV r=0->cF a=Z9 x->b≠[]->cF b=Z7->co s=Z7):=by
 have Q:=WR 200 (s,0);have o:=WR 200 (Yu 200 (s,0)).2;refine⟨(Yu 200 (s,0)).1,(Yu 200 (Yu 200 (s,0)).2).1,(Yu 200 (s,0)).2,(Yu 200 (Yu 200 (s,0)).2).2,rfl,rfl,Q.2,o.2,Q.1,ZC o.1 Q.1,?_,?_,?_,?_⟩
 .intro h;unfold co;simp only;rw[ZS h]
 .intro h H;unfold co;simp only;rw[ZP h,H]
 .intro x g h H e;unfold co;simp only;rw[ZP h,H];simp only;rw[e]
 .intro x h H u e;unfold co;simp only;rw[ZP h,H];simp only;rw[ZS u,e]
def PW(w W:ZY)(rb:Nat):Prop:=Z4 w.heap.size w W/\Held W w.heap.size 33/\Held W (w.heap.size+1) 33/\w.heap.size+1<rb/\rb<W.heap.size
theorem PW.lt(h:PW w W rb):rb<W.heap.size:=h.2.2.2.2
theorem PW.bel(h:PW w W rb):Z4 w.heap.size w W:=h.1
theorem PW.r0(h:PW w W rb):Held W w.heap.size 33:=h.2.1
theorem PW.r1(h:PW w W rb):Held W (w.heap.size+1) 33:=h.2.2.1
theorem PW.grown(h:PW w W rb)(H:W.grownBy c (Z9 rb)):PW w c rb:=by
 obtain⟨u,o,r,y,z⟩:=h;refine⟨u.trans (gJ H (by omega) (by omega)),o.of_block (H.block _ o.lt (by intro e;have:=ZN e;omega)),r.of_block (H.block _ r.lt (by intro e;have:=ZN e;omega)),y,Zz z H.size⟩
theorem PW.below(h:PW w W rb)(H:Z4 W.heap.size W c):PW w c rb :=
 ⟨bt h.1 H,h.2.1.below H,h.2.2.1.below H,h.2.2.2.1,Zz h.2.2.2.2 H.size⟩
theorem PW.alloc(h:PW w W rb)(o:Obj):PW w (W.alloc o) rb:=h.below ((ZR _ _).alloc (ZV _) o)
def P4(W:ZY)(g p q:Nat)(X gv:Zy Z2):Prop:=row W p=X/\row W q=gv/\Held W g 33/\Held W (g+1) 33
theorem P4.set{g k:Nat}{X gv:Zy Z2}(h:P4 W g p q X gv)(c:Zy Z2)(H:c.size=33)(o:g+1<p)(r:g+1<q)(e:k=g\/k=g+1):P4 (W.setRow k c) g p q X gv :=
 ⟨by rw[cT _ _ _ _ (by omega)];exact h.1,by rw[cT _ _ _ _ (by omega)];exact h.2.1,h.2.2.1.set c (fun _=>H),h.2.2.2.set c (fun _=>H)⟩
def Two(w W c:ZY)(cx C:Zy Z2):Prop:=row c w.heap.size=cx/\row c (w.heap.size+1)=C/\Z4 w.heap.size w c/\c.heap.size=W.heap.size/\∀ j,w.heap.size+1<j->c.heap[j]?=W.heap[j]?
theorem zg(h:PW w W rb)(cx C:Zy Z2)(H:cx.size=33):Two w W ((W.setRow w.heap.size cx).setRow (w.heap.size+1) C) cx C:=by
 have e:=(h.2.2.1.set (g':=w.heap.size) cx (fun _=>H));refine⟨by rw[cT _ _ _ _ (by omega),au h.2.1],au e _,ZA (ZA h.1 (ZV _) _) (by omega) _,by simp,fun j o=>?_⟩
 rw[cP _ _ _ _ (by omega),cP _ _ _ _ (by omega)]
theorem Ko(h:PW w W rb)(cx C:Zy Z2)(H:C.size=33):Two w W ((W.setRow (w.heap.size+1) C).setRow w.heap.size cx) cx C:=by
 have e:=(h.2.1.set (g':=w.heap.size+1) C (fun _=>H));refine⟨au e _,by rw[cT _ _ _ _ (by omega),au h.2.2.1],ZA (ZA h.1 (by omega) _) (ZV _) _,by simp,fun j o=>?_⟩
 rw[cP _ _ _ _ (by omega),cP _ _ _ _ (by omega)]
theorem LP:bh (zlit 0 ⟨#[]⟩).toList=ZX:=rfl
theorem LH(al gr al2 gr2:Z2)(s:Z6)(w:ZY)(D:MaxL w)(T:Tab w)(o:x.1.name.size<=1000)(h:g.1.name.size<=1000)(u:IS w al x.2.1)(y:GS w gr x.2.2)(z:IS w al2 g.2.1)(A:GS w gr2 g.2.2) :
 ZH Z8 44 #[.agg (x.1.vals al gr),.agg (g.1.vals al2 gr2)] w fun r w'=>∃ t C,r=.returned (.tuple #[.string t,.int .i64 C])/\Z4 w.heap.size w w'/\((C=0/\(t.toList==s.toList)=ZX/\Hid (sr x g=Z9 (Z5 s)))\/(C=0/\(t.toList==s.toList)=ZW/\Hid (sr x g≠Z9 (Z5 s)))\/(C=1/\Hid (sr x g≠Z9 (Z5 s)))):=by
 refine (Jn x g al gr al2 gr2 w D T o h u y z A).mono ?_
 rintro r w' ⟨rfl,B⟩;refine⟨_,_,rfl,B,?_⟩
 cases H:bv x g
 .refine Xb (Xb ⟨by simp,lh ?_⟩)
  unfold sr;rw[ZS (by rw[H];simp)];intro e;cases e
 .have E:sr x g=Z9 (Z5 (eg x g)):=by unfold sr eg;rw[ZP H,ZP H,X1]
  rw[E,Ke];by_cases e:Z5 (eg x g)=Z5 s
  .exact VZ ⟨by simp,ZI e,lh (by rw[e])⟩
  .exact Xb (VZ ⟨by simp,ZG e,lh (fun q=>e (ZN q))⟩)
theorem KT{b:Z1 ZM}{g:Fu}{c:Int}(h:cF b=Z9 g/\c=0\/cF b=Z7/\g=(YS,[],[])/\c=11):g.1.name.size<=1000:=by
 rcases h with ⟨h,_⟩|⟨_,rfl,_⟩
 .have:=(iR g (mb _ _ h).1).1;rw[ZZ] at this;omega
 .decide
theorem below2'(w:ZY)(a b:Obj):Z4 w.heap.size w ((w.alloc a).alloc b):=by exact aB
theorem GL{l:Z1 Int}(h:IS W v l)(c:Zy Z2)(E:∀ y,v.ownBlock=Z9 y->y≠q):IS (W.setRow q c) v l:=by
 obtain⟨a,C,rfl,u,z⟩:=h;refine⟨a,C,rfl,u,fun r=>?_⟩
 obtain⟨B,o,rfl,H,A⟩:=z r;refine⟨B,o,rfl,by simpa using H,fun k D=>?_⟩
 have e:=E B rfl;rw[ZT (a:=⟨B,o+k,Z7⟩) (cP W q B c e)];exact A k D
theorem GF{l:Z1 Gr}(h:GS W v l)(c:Zy Z2)(F:∀ y,v.ownBlock=Z9 y->y≠q):GS (W.setRow q c) v l:=by
 obtain⟨a,C,rfl,z,A⟩:=h;refine⟨a,C,rfl,z,fun u=>?_⟩
 obtain⟨B,o,rfl,H,D⟩:=A u;have r:=F B rfl;refine⟨B,o,rfl,by simpa using H,fun k E=>?_⟩
 have e:=fun j=>ZT (a:=⟨B,j,Z7⟩) (cP W q B c r)
 rw[e,e,e];exact D k E
structure FNs (w W:ZY) (rb p q:Nat) (x g:Fu) (al gr al2 gr2:Z2):Prop where
 pw:PW w W rb
 rx:row W p=x.1.vals al gr
 rg:row W q=g.1.vals al2 gr2
 ix:IS W al x.2.1
 gx:GS W gr x.2.2
 ig:IS W al2 g.2.1
 gg:GS W gr2 g.2.2
 nx:x.1.name.size<=1000
 ng:g.1.name.size<=1000
 pp:w.heap.size+1<p
 qq:w.heap.size+1<q
 o1:∀ y,al.ownBlock=Z9 y->w.heap.size+2<=y
 o2:∀ y,gr.ownBlock=Z9 y->w.heap.size+2<=y
 o3:∀ y,al2.ownBlock=Z9 y->w.heap.size+2<=y
 o4:∀ y,gr2.ownBlock=Z9 y->w.heap.size+2<=y
theorem FNs.onex{x g:Fu}(h:FNs w W rb p q x g al gr al2 gr2):bh (x.1.vals al gr).toList=ZX:=ay _ _ _ (aD h.ix) (aE h.gx)
theorem FNs.oneg{x g:Fu}(h:FNs w W rb p q x g al gr al2 gr2):bh (g.1.vals al2 gr2).toList=ZX:=ay _ _ _ (aD h.ig) (aE h.gg)
theorem FNs.below{x g:Fu}(h:FNs w W rb p q x g al gr al2 gr2)(H:Z4 W.heap.size W c):FNs w c rb p q x g al gr al2 gr2 :=
 ⟨h.pw.below H,am H h.rx (by rw[ah];decide),am H h.rg (by rw[ah];decide),h.ix.below H,h.gx.below H,h.ig.below H,h.gg.below H,h.nx,h.ng,h.pp,h.qq,h.o1,h.o2,h.o3,h.o4⟩
theorem FNs.p4{x g:Fu}(h:FNs w W rb p q x g al gr al2 gr2):P4 W w.heap.size p q (x.1.vals al gr) (g.1.vals al2 gr2):=⟨h.rx,h.rg,h.pw.r0,h.pw.r1⟩
theorem FNs.start{x:Fu}{t t':TypeId}(H:PW w j rb)(e:rb<d.heap.size)(u:x.1.name.size<=1000)(r:IS j al x.2.1)(o:GS j gr x.2.2)(O:∀ y,al.ownBlock=Z9 y->d.heap.size<=y)(z:∀ y,gr.ownBlock=Z9 y->d.heap.size<=y) :
 FNs w ((j.alloc (.cells (x.1.vals al gr) t)).alloc (.cells (zlit 0 ⟨#[]⟩) t')) rb j.heap.size (j.heap.size+1) x nR al gr (.slice Z7 0 0) (.slice Z7 0 0)/\Held ((j.alloc (.cells (x.1.vals al gr) t)).alloc (.cells (zlit 0 ⟨#[]⟩) t')) (j.heap.size+1) 33:=by
 have B:=below2' j (.cells (x.1.vals al gr) t) (.cells (zlit 0 ⟨#[]⟩) t');have Z:=H.2.2.2.1;have A:=H.lt;refine⟨⟨H.below B,aI _ _ _ _ _,?_,r.below B,o.below B,IS.nil _,GS.nil _,u,by decide,by omega,by omega,fun y h=>by have:=O y h;omega,fun y h=>by have:=z y h;omega,(fun y h=>by cases h),(fun y h=>by cases h)⟩,?_⟩
 .rw[aw,eh];rfl
 .have:=Held.new (j.alloc (.cells (x.1.vals al gr) t)) (zlit 0 ⟨#[]⟩) t' 33 rfl (by decide);simpa using this
theorem FNs.setg{x K g:Fu}(h:FNs w W rb p q x K al gr k m)(r:Z4 W.heap.size W c)(u:p≠q)(Q:Held c q 33)(N:IS c al2 g.2.1)(L:GS c gr2 g.2.2)(P:g.1.name.size<=1000)(R:q<W.heap.size)(B:Z4 j.heap.size j W)(o:j.heap.size<=q)(I:IS j al x.2.1)(G:GS j gr x.2.2)(O:∀ y,al2.ownBlock=Z9 y->W.heap.size<=y)(A:∀ y,gr2.ownBlock=Z9 y->W.heap.size<=y) :
 FNs w (c.setRow q (g.1.vals al2 gr2)) rb p q x g al gr al2 gr2:=by
 have z:=h.below r;obtain⟨C,D,E,F,J⟩:=z.pw;have S:=h.qq;refine⟨⟨ZA C (by omega) _,D.set _ (fun e=>by omega),E.set _ (fun e=>by omega),F,by simpa using J⟩,?_,au Q _,?_,?_,?_,?_,h.nx,P,h.pp,h.qq,h.o1,h.o2,fun y H=>by have:=O y H;omega,fun y H=>by have:=A y H;omega⟩
 .rw[cT _ _ _ _ u];exact z.rx
 .exact I.below (ZA (bt B r) o _)
 .exact G.below (ZA (bt B r) o _)
 .exact GL N _ (fun y H=>by have:=O y H;omega)
 .exact GF L _ (fun y H=>by have:=A y H;omega)
theorem FNs.doneo{x g:Fu}{s:Z1 ZM}(h:FNs w W rb p q x g al gr al2 gr2)(T:Two w W c (x.1.vals al gr) (g.1.vals al2 gr2))(o:co s=Z9 (x,g)) :
 ParRo w c s (.returned (.tuple #[.agg (x.1.vals al gr),.agg (g.1.vals al2 gr2),.int .i64 0])):=by
 obtain⟨A,B,r,C,u⟩:=T;have e:∀ j,w.heap.size+2<=j->j<W.heap.size->c.heap[j]?=W.heap[j]?:=fun j z _=>u j (by omega)
 exact⟨x,g,al,gr,al2,gr2,0,rfl,h.ix.keep _ h.o1 (by omega) e,h.gx.keep _ h.o2 (by omega) e,h.ig.keep _ h.o3 (by omega) e,h.gg.keep _ h.o4 (by omega) e,r,VZ ⟨o,rfl⟩,(fun y H=>by have:=h.o1 y H;omega),(fun y H=>by have:=h.o2 y H;omega),(fun y H=>by have:=h.o3 y H;omega),(fun y H=>by have:=h.o4 y H;omega)⟩
attribute [local go_sem ↓] aZ bf bq
attribute [local go_sem] bn aS aH aK aT ak aI aw az aM ah aQ aL aP aO aR aY aW bD
theorem KK(w:ZY)(hs:s.size<=1000)(hm:MaxL w)(hT:Tab w) :
 ZH Z8 13 #[.string s] w fun r w'=>ParRo w w' (Z5 s) r:=by
 obtain⟨a,b,r1,r2,e1,e2,la,lb,l1,l2,p1,p2,p3,p4⟩:=Kv (Z5 s);rw[ZZ] at l1 l2;have HA:=lh (fun (rb:Nat) (W:ZY) (o:rb<W.heap.size) (hR:RL W rb (Z5 s,0))=>DP rb 200 (Z5 s,0) W (by simp only[ZZ];omega) o hR (by decide));have HB:=lh (fun (rb:Nat) (W:ZY) (o:rb<W.heap.size) (hR:RL W rb r1)=>DP rb 200 r1 W (by omega) o hR (by decide));rw[e1] at HA;rw[e2] at HB;simp only[show (((200:Nat):Int))=(200:Int) from rfl] at HA HB
 have HE:=lh (fun (rb:Nat) (W:ZY) (hR:RL W rb r2)=>wl rb r2 W hR);have Y:=lh p1;clear p1 e1 e2
 have HZ:Held ((w.alloc (.cells (zlit 0 ⟨#[]⟩) 29)).alloc (.cells (zlit 0 ⟨#[]⟩) 29)) (w.heap.size+1) 33:=by
  have:=Held.new (w.alloc (.cells (zlit 0 ⟨#[]⟩) 29)) (zlit 0 ⟨#[]⟩) 29 33 rfl (by decide);simpa using this
 have HY:Held ((w.alloc (.cells (zlit 0 ⟨#[]⟩) 29)).alloc (.cells (zlit 0 ⟨#[]⟩) 29)) w.heap.size 33:=(Held.new w (zlit 0 ⟨#[]⟩) 29 33 rfl (by decide)).below ((ZR _ _).alloc (ZV _) _);have HV:=lh (RD.new s ((w.alloc (.cells (zlit 0 ⟨#[]⟩) 29)).alloc (.cells (zlit 0 ⟨#[]⟩) 29)));have a9:=fun W=>rR s W
 have B0:Z4 w.heap.size w ((w.alloc (.cells (zlit 0 ⟨#[]⟩) 29)).alloc (.cells (zlit 0 ⟨#[]⟩) 29)):=by exact aB
 have s0:((w.alloc (.cells (zlit 0 ⟨#[]⟩) 29)).alloc (.cells (zlit 0 ⟨#[]⟩) 29)).heap.size=w.heap.size+1+1:=by simp
 unfold zlit at HV HZ HY B0 s0;go_enter Tryz.func13,Tryz.ntmps13
 go_upto_region 1 with fail
 generalize hW:((w.alloc _).alloc _)=W0 at HV HZ HY B0 s0 |-;clear hW;have S0:=lh s0;clear s0;have Z0:=lh HY;have Y0:=lh HZ;clear HY HZ;go_upto_region 2 with (go_at_call 45;(with_reducible refine (a9 _).mono ?_);rintro _ w1 ⟨rfl,S⟩;have V1:=lh (show RL w1 W0.heap.size (Z5 s,0) from ⟨s,rfl,by rw[S];exact HV.o⟩);have P1:=lh (show PW w w1 W0.heap.size from ⟨by rw[S];exact B0.alloc B0.size _,by rw[S];exact Z0.o.below ((ZR _ _).alloc (ZV _) _),by rw[S];exact Y0.o.below ((ZR _ _).alloc (ZV _) _),by have:=S0.o;omega,by rw[S];simp⟩);clear S)
 clear HV B0 Z0 Y0 a9 S0;generalize ba:W0.heap.size=rb at V1 P1 |-;clear ba;have U:=lh (fun (t:Z6) (W:ZY) (hB:Z4 w.heap.size w W)=>rM t W (hm.below hB) (hT.below hB));have HN:=lh (fun (x g:Fu) (al gr al2 gr2:Z2) (W:ZY) (hB:Z4 w.heap.size w W) hx E S h2 h3 h4=>LH x g al gr al2 gr2 s W (hm.below hB) (hT.below hB) hx E S h2 h3 h4);by_cases hf:WV r2=0
 rotate_left
 .have af:=Y.o hf;have e0:(((WV r2:Nat):Int)==0)=ZW:=by rw[beq_eq_false_iff_ne];omega
  have N:=lh af;clear p2 p3 p4 hf af Y U HN
  go_upto_region 4 with (first
   | (go_at_call 46;have b6:=V2;clear b6;(with_reducible refine (HB.o rb _ P2.o.lt V2.o).mono ?_);rintro _ d ⟨tb,rfl,R,V,E⟩;have V3:=lh V;have P3:=lh (P2.o.grown E);clear R V E)
   | (go_at_call 46;(with_reducible refine (HA.o rb _ P1.o.lt V1.o).mono ?_);rintro _ w2 ⟨ta,rfl,Q,V,E⟩;have V2:=lh V;have P2:=lh (P1.o.grown E);clear Q V E)
   | (go_at_call 47;(with_reducible refine (HE.o rb _ V3.o).mono ?_);rintro _ w4 ⟨rfl,rfl⟩))
  clear HA HB HE;have k1:=P3.o.r0;have k2:∀ c,Held (d.setRow w.heap.size c) (w.heap.size+1) 33:=fun c=>P3.o.r1.set c (fun e=>absurd e (by omega))
  have T:=zg P3.o (zlit 0 ⟨#[]⟩) (zlit 0 ⟨#[]⟩) rfl;unfold zlit at T;have H:=lh T;clear T;go_wp2_with fail
  refine ZD (tv (n:=32) (n':=32) rfl Tryz.underlying29 rfl (by kernel_rfl) Tryz.underlying29 rfl (by kernel_rfl) _ _ w.heap.size (w.heap.size+1) rfl rfl (by rw[H.o.1];rfl) (by rw[H.o.2.1];rfl)) rfl ?_
  rw[H.o.1,H.o.2.1];exact ParRo.bad N.o H.o.2.2.1
 have e0:(((WV r2:Nat):Int)==0)=ZX:=by rw[hf];rfl
 have H2:=lh (p2 hf);have H3:=lh (fun x g=>p3 x g hf);have H4:=lh (fun x=>p4 x hf);clear p2 p3 p4 hf Y
 go_upto_region 5 with (first
  | (go_at_call 46;have b6:=V2;clear b6;(with_reducible refine (HB.o rb _ P2.o.lt V2.o).mono ?_);rintro _ d ⟨tb,rfl,R,V,E⟩;have V3:=lh V;have P3:=lh (P2.o.grown E);have a0:=lh R;clear R V E)
  | (go_at_call 46;(with_reducible refine (HA.o rb _ P1.o.lt V1.o).mono ?_);rintro _ w2 ⟨ta,rfl,Q,V,E⟩;have V2:=lh V;have P2:=lh (P1.o.grown E);have b3:=lh Q;clear Q V E)
  | (go_at_call 47;(with_reducible refine (HE.o rb _ V3.o).mono ?_);rintro _ w4 ⟨rfl,rfl⟩))
 clear HA HB HE V1 V2 V3 P1 P2;have y:=U.o ta;rw[b3.o] at y;have y:=lh y;have z:=U.o tb;rw[a0.o] at z;have z:=lh z;have bc:=LP;unfold zlit at bc;go_upto_region 7 with (go_at_call 30;(with_reducible refine (y.o _ P3.o.bel).mono ?_);rintro _ j ⟨x,al,gr,C,rfl,hI,hG,o,h,aa,ab⟩;have P5:=lh (P3.o.below o);have B:=ay x.1 al gr (aD hI) (aE hG);have HI:=lh hI;have HG:=lh hG;have a6:=lh aa;have a7:=lh ab;have Z3:=lh (ZC P3.o.lt (ZV _));have be:=o.size;clear hI hG aa ab o;rcases h with ⟨O,rfl⟩|⟨O,hx,rfl⟩;rotate_left 1;have HX:=lh hx;clear hx;rotate_left 1)
 -- PRINTED BY mknp.py
 rotate_left 1
 .have N:=lh (H2.o O);have F6:=FNs.start (t:=29) (t':=29) P5.o Z3.o (by rw[HX.o];decide) HI.o HG.o a6.o a7.o;have F7:j.heap.size+1<((j.alloc (.cells (x.1.vals al gr) 29)).alloc (.cells (zlit 0 ⟨#[]⟩) 29)).heap.size:=by simp
  unfold zlit at F6 F7;have F:=below2' j (.cells (x.1.vals al gr) 29) (.cells (zlit 0 ⟨#[]⟩) 29);unfold zlit at F;have L:=lh (And.intro F6 (And.intro F7 F));clear F6 F7 F;generalize a3:((j.alloc _).alloc _)=W6 at L |-;clear a3;have FN:=lh L.o.1.1;clear O HX B H2 H3 H4 U y z;have rX:=FN.o.rx;have rG:=FN.o.rg;go_upto_region 10 with (go_at_call 44;(with_reducible refine (HN.o x nR al gr (.slice Z7 0 0) (.slice Z7 0 0) _ FN.o.pw.bel FN.o.nx FN.o.ng FN.o.ix FN.o.gx FN.o.ig FN.o.gg).mono ?_);rintro _ G ⟨t,C,rfl,o,h⟩;have FB:=lh o;clear o;rcases h with ⟨rfl,ht,A⟩|⟨rfl,ht,A⟩|⟨rfl,A⟩)
  all_goals
   have F:=lh (FN.o.below FB.o);clear rX rG FN FB;have k1:=F.o.pw.r0;have k2:∀ c,Held (G.setRow w.heap.size c) (w.heap.size+1) 33:=fun c=>F.o.pw.r1.set c (fun e=>absurd e (by omega))
   have T:=zg F.o.pw (zlit 0 ⟨#[]⟩) (zlit 0 ⟨#[]⟩) rfl;unfold zlit at T;have H:=lh T;clear T
  all_goals
   go_wp2_with fail
   refine ZD (tv (n:=32) (n':=32) rfl Tryz.underlying29 rfl (by kernel_rfl) Tryz.underlying29 rfl (by kernel_rfl) _ _ w.heap.size (w.heap.size+1) rfl rfl (by rw[H.o.1];rfl) (by rw[H.o.2.1];rfl)) rfl ?_
   rw[H.o.1,H.o.2.1];exact ParRo.bad (N.o) H.o.2.2.1
 have bb:=lh (ZC (by have:=(iR x (mb _ _ O).1).1;rw[ZZ] at this;exact this) (by decide):x.1.name.size<=1000);have F6:=FNs.start (t:=29) (t':=29) P5.o Z3.o (bb.o) HI.o HG.o a6.o a7.o;have F7:j.heap.size+1<((j.alloc (.cells (x.1.vals al gr) 29)).alloc (.cells (zlit 0 ⟨#[]⟩) 29)).heap.size:=by simp
 unfold zlit at F6 F7;have F:=below2' j (.cells (x.1.vals al gr) 29) (.cells (zlit 0 ⟨#[]⟩) 29);unfold zlit at F;have L:=lh (And.intro F6 (And.intro F7 F));clear F6 F7 F;generalize a3:((j.alloc _).alloc _)=W6 at L |-;clear a3;by_cases D:b=[]
 .have h0:tb.size=0:=by rw[<-ZZ,a0.o,D];rfl
  have e1:=ju tb h0;have X:=lh (H3.o x nR O (by rw[ZP D]));have FN:=lh L.o.1.1;clear h0 D O B H2 H3 H4 U y z;have rX:=FN.o.rx;have rG:=FN.o.rg;go_upto_region 10 with (go_at_call 44;(with_reducible refine (HN.o x nR al gr (.slice Z7 0 0) (.slice Z7 0 0) _ FN.o.pw.bel FN.o.nx FN.o.ng FN.o.ix FN.o.gx FN.o.ig FN.o.gg).mono ?_);rintro _ G ⟨t,C,rfl,o,h⟩;have FB:=lh o;clear o;rcases h with ⟨rfl,ht,A⟩|⟨rfl,ht,A⟩|⟨rfl,A⟩)
  all_goals
   have F:=lh (FN.o.below FB.o);clear rX rG FN FB;have k1:=F.o.pw.r0;have k2:∀ c,Held (G.setRow w.heap.size c) (w.heap.size+1) 33:=fun c=>F.o.pw.r1.set c (fun e=>absurd e (by omega))
   have T:=zg F.o.pw (zlit 0 ⟨#[]⟩) (zlit 0 ⟨#[]⟩) rfl;unfold zlit at T;have H:=lh T;clear T
  rotate_left 1
  iterate 2
   ·
    go_wp2_with fail
    refine ZD (tv (n:=32) (n':=32) rfl Tryz.underlying29 rfl (by kernel_rfl) Tryz.underlying29 rfl (by kernel_rfl) _ _ w.heap.size (w.heap.size+1) rfl rfl (by rw[H.o.1];rfl) (by rw[H.o.2.1];rfl)) rfl ?_
    rw[H.o.1,H.o.2.1];exact ParRo.bad (by rw[X.o,ZS A.o]) H.o.2.2.1
  clear H k2;have b8:=F.o.onex;have b7:=F.o.oneg;have q1:=F.o.pp;have q2:=F.o.qq;have Z:P4 G.drew w.heap.size j.heap.size (j.heap.size+1) _ _:=F.o.p4;go_upto_region 12 with fail
  go_region_held3 (fun w'=>row w' j.heap.size=x.1.vals al gr/\row w' (j.heap.size+1)=nR.1.vals (.slice Z7 0 0) (.slice Z7 0 0)/\Held w' w.heap.size 33/\Held w' (w.heap.size+1) 33) (first|assumption|exact Z|exact P4.set (by assumption) _ (ah _ _ _) q1 q2 (VZ rfl)|exact P4.set (by assumption) _ (ah _ _ _) q1 q2 (Xb rfl)) (fail)
  have P:=F.o.below (Y3 (ZR G.heap.size G));have I:=lh (zg P.pw (x.1.vals al gr) (nR.1.vals (.slice Z7 0 0) (.slice Z7 0 0)) (ah _ _ _));have J:=lh (Ko P.pw (x.1.vals al gr) (nR.1.vals (.slice Z7 0 0) (.slice Z7 0 0)) (ah _ _ _))
  all_goals
   go_wp2_with fail
   first
   | (refine ZD (tv (n:=32) (n':=32) rfl Tryz.underlying29 rfl (by kernel_rfl) Tryz.underlying29 rfl (by kernel_rfl) _ _ w.heap.size (w.heap.size+1) rfl rfl (by rw[I.o.1];exact ah _ _ _) (by rw[I.o.2.1];exact ah _ _ _)) rfl ?_
      rw[I.o.1,I.o.2.1];exact P.doneo I.o (by rw[X.o,ZP A.o]))
   | (refine ZD (tv (n:=32) (n':=32) rfl Tryz.underlying29 rfl (by kernel_rfl) Tryz.underlying29 rfl (by kernel_rfl) _ _ w.heap.size (w.heap.size+1) rfl rfl (by rw[J.o.1];exact ah _ _ _) (by rw[J.o.2.1];exact ah _ _ _)) rfl ?_
      rw[J.o.1,J.o.2.1];exact P.doneo J.o (by rw[X.o,ZP A.o]))
 have h0:0<tb.size:=by rw[<-ZZ,a0.o];exact List.length_pos_iff.2 D
 have e1:=gG tb h0;have k6:=L.o.1.2;go_upto_region 9 with (go_at_call 30;(with_reducible refine (z.o _ L.o.1.1.pw.bel).mono ?_);rintro _ w7 ⟨g,al2,gr2,b5,rfl,a2,a1,a4,u,ac,ad⟩;have k7:=k6.below a4;have ao:=lh a4;have b9:=ay g.1 al2 gr2 (aD a2) (aE a1);have b0:=lh a2;have ar:=lh a1;have b1:=lh ac;have b2:=lh ad;clear a2 a1 ac ad a4;have a5:=lh u;have av:=lh (KT u);rcases u with ⟨K,rfl⟩|⟨K,a8,rfl⟩;rotate_left 1;have b4:=lh a8;clear a8;rotate_left 1)
 all_goals
  have FN:=lh (L.o.1.1.setg ao.o (by omega) k7 b0.o ar.o av.o L.o.2.1 L.o.2.2 (by omega) HI.o HG.o b1.o b2.o)
 rotate_left 1
 .have N:=lh (H4.o x O D K);clear K b4 O B H2 H3 H4 U y z a5 HI HG k6 k7;have rX:=FN.o.rx;have rG:=FN.o.rg;go_upto_region 10 with (go_at_call 44;(with_reducible refine (HN.o x g al gr al2 gr2 _ FN.o.pw.bel FN.o.nx FN.o.ng FN.o.ix FN.o.gx FN.o.ig FN.o.gg).mono ?_);rintro _ G ⟨t,C,rfl,o,h⟩;have FB:=lh o;clear o;rcases h with ⟨rfl,ht,A⟩|⟨rfl,ht,A⟩|⟨rfl,A⟩)
  all_goals
   have F:=lh (FN.o.below FB.o);clear rX rG FN FB;have k1:=F.o.pw.r0;have k2:∀ c,Held (G.setRow w.heap.size c) (w.heap.size+1) 33:=fun c=>F.o.pw.r1.set c (fun e=>absurd e (by omega))
   have T:=zg F.o.pw (zlit 0 ⟨#[]⟩) (zlit 0 ⟨#[]⟩) rfl;unfold zlit at T;have H:=lh T;clear T
  all_goals
   go_wp2_with fail
   refine ZD (tv (n:=32) (n':=32) rfl Tryz.underlying29 rfl (by kernel_rfl) Tryz.underlying29 rfl (by kernel_rfl) _ _ w.heap.size (w.heap.size+1) rfl rfl (by rw[H.o.1];rfl) (by rw[H.o.2.1];rfl)) rfl ?_
   rw[H.o.1,H.o.2.1];exact ParRo.bad (N.o) H.o.2.2.1
 have X:=lh (H3.o x g O (by rw[ZS D];exact K));clear K O B H2 H3 H4 U y z a5 HI HG k6 k7;have rX:=FN.o.rx;have rG:=FN.o.rg;go_upto_region 10 with (go_at_call 44;(with_reducible refine (HN.o x g al gr al2 gr2 _ FN.o.pw.bel FN.o.nx FN.o.ng FN.o.ix FN.o.gx FN.o.ig FN.o.gg).mono ?_);rintro _ G ⟨t,C,rfl,o,h⟩;have FB:=lh o;clear o;rcases h with ⟨rfl,ht,A⟩|⟨rfl,ht,A⟩|⟨rfl,A⟩)
 all_goals
  have F:=lh (FN.o.below FB.o);clear rX rG FN FB;have k1:=F.o.pw.r0;have k2:∀ c,Held (G.setRow w.heap.size c) (w.heap.size+1) 33:=fun c=>F.o.pw.r1.set c (fun e=>absurd e (by omega))
  have T:=zg F.o.pw (zlit 0 ⟨#[]⟩) (zlit 0 ⟨#[]⟩) rfl;unfold zlit at T;have H:=lh T;clear T
 rotate_left 1
 iterate 2
  ·
   go_wp2_with fail
   refine ZD (tv (n:=32) (n':=32) rfl Tryz.underlying29 rfl (by kernel_rfl) Tryz.underlying29 rfl (by kernel_rfl) _ _ w.heap.size (w.heap.size+1) rfl rfl (by rw[H.o.1];rfl) (by rw[H.o.2.1];rfl)) rfl ?_
   rw[H.o.1,H.o.2.1];exact ParRo.bad (by rw[X.o,ZS A.o]) H.o.2.2.1
 clear H k2;have b8:=F.o.onex;have b7:=F.o.oneg;have q1:=F.o.pp;have q2:=F.o.qq;have Z:P4 G.drew w.heap.size j.heap.size (j.heap.size+1) _ _:=F.o.p4;go_upto_region 12 with fail
 go_region_held3 (fun w'=>row w' j.heap.size=x.1.vals al gr/\row w' (j.heap.size+1)=g.1.vals al2 gr2/\Held w' w.heap.size 33/\Held w' (w.heap.size+1) 33) (first|assumption|exact Z|exact P4.set (by assumption) _ (ah _ _ _) q1 q2 (VZ rfl)|exact P4.set (by assumption) _ (ah _ _ _) q1 q2 (Xb rfl)) (fail)
 have P:=F.o.below (Y3 (ZR G.heap.size G));have I:=lh (zg P.pw (x.1.vals al gr) (g.1.vals al2 gr2) (ah _ _ _));have J:=lh (Ko P.pw (x.1.vals al gr) (g.1.vals al2 gr2) (ah _ _ _))
 all_goals
  go_wp2_with fail
  first
  | (refine ZD (tv (n:=32) (n':=32) rfl Tryz.underlying29 rfl (by kernel_rfl) Tryz.underlying29 rfl (by kernel_rfl) _ _ w.heap.size (w.heap.size+1) rfl rfl (by rw[I.o.1];exact ah _ _ _) (by rw[I.o.2.1];exact ah _ _ _)) rfl ?_
     rw[I.o.1,I.o.2.1];exact P.doneo I.o (by rw[X.o,ZP A.o]))
  | (refine ZD (tv (n:=32) (n':=32) rfl Tryz.underlying29 rfl (by kernel_rfl) Tryz.underlying29 rfl (by kernel_rfl) _ _ w.heap.size (w.heap.size+1) rfl rfl (by rw[J.o.1];exact ah _ _ _) (by rw[J.o.2.1];exact ah _ _ _)) rfl ?_
     rw[J.o.1,J.o.2.1];exact P.doneo J.o (by rw[X.o,ZP A.o]))
theorem LJ(w:ZY)(o:s.size<=1000)(e:MaxL w)(H:Tab w) :
 ZH Z8 13 #[.string s] w fun r w'=>zQ w w' (Z5 s) r:=(KK s w o e H).mono fun _ _ h=>h.par
end
section
open Go.RowKit
set_option linter.unusedSimpArgs false
attribute [local go_sem ↓] aZ bf
attribute [local go_sem] aS aH aK aT ak aI aw az aM ah aQ aL aP aO aR aY aW bD
end
section
open Go.RowKit
set_option linter.unusedSimpArgs false
theorem FNs.two{o e:ZY}{x g:Fu}{t T:TypeId}(u:PW w o rb)(r:Z4 o.heap.size o d)(G:IS d al x.2.1)(E:GS d gr x.2.2)(I:∀ y,al.ownBlock=Z9 y->o.heap.size<=y)(J:∀ y,gr.ownBlock=Z9 y->o.heap.size<=y)(K:x.1.name.size<=60)(H:Z4 (d.alloc (.cells (x.1.vals al gr) t)).heap.size (d.alloc (.cells (x.1.vals al gr) t)) e)(A:IS e al2 g.2.1)(z:GS e gr2 g.2.2)(O:∀ y,al2.ownBlock=Z9 y->(d.alloc (.cells (x.1.vals al gr) t)).heap.size<=y)(D:∀ y,gr2.ownBlock=Z9 y->(d.alloc (.cells (x.1.vals al gr) t)).heap.size<=y)(F:g.1.name.size<=60) :
 FNs w (e.alloc (.cells (g.1.vals al2 gr2) T)) rb d.heap.size e.heap.size x g al gr al2 gr2:=by
 have P:=u.below r;have P4:=((P.alloc (.cells (x.1.vals al gr) t)).below H).alloc (.cells (g.1.vals al2 gr2) T);have L:=r.size;have Z:=H.size;have Q:=u.2.2.2.1;have N:=u.lt;simp at Z O D
 have B:Z4 e.heap.size e (e.alloc (.cells (g.1.vals al2 gr2) T)):=(ZR _ _).alloc (ZV _) _;have C:Z4 d.heap.size d (e.alloc (.cells (g.1.vals al2 gr2) T)):=bt (((ZR _ _).alloc (ZV _) _).trans (H.mono (by simp))) B;refine⟨P4,?_,ak _ _ _ _,G.below C,E.below C,A.below B,z.below B,by omega,by omega,by omega,by omega,fun y h=>by have:=I y h;omega,fun y h=>by have:=J y h;omega,fun y h=>by have:=O y h;omega,fun y h=>by have:=D y h;omega⟩
 exact am B (am H (ak d _ _ _) (by rw[ah];decide)) (by rw[ah];decide)
attribute [local go_sem ↓] aZ bq jM jR
attribute [local go_sem ↓ high] bf
attribute [local go_sem] bn aS aH aK aT ak aI aw az aM ah aQ aL aP aO aR aY aW eo
end
section
open Go.RowKit
def dK(s:Z6):Z6:=⟨(Ds.splG (Z5 s)).toArray⟩
def cR(x g:Fu):Z6 × Int:=(eg x g,if bv x g=ZX then 0 else 1)
def eu(l:Z1 Rw)(a f i id:Int)(x:Fu):(Z6 × Int) × Int :=
 if XA (Z5 x.1.name)=ZX then match aG l a f i id 1 (dK x.1.name) with
  | ((g,c),C)=>if c≠0 then ((⟨#[]⟩,c),C) else (cR x g,C)
 else (cR x bL,i)
def yy(l:Z1 Rw)(a f i:Int)(name:Z6):(Z6 × Int) × Int:=match iX l a f i name with
 | ((x,id,c),C)=>if c≠0 then ((⟨#[]⟩,c),C) else if x.1.kind≠0 then ((⟨#[]⟩,7),C) else eu l a f C id x
def ci(l:Z1 Rw)(id:Int)(x:Fu):Z6 × Int :=
 if XA (Z5 x.1.name)=ZX then match bz l id 1 (dK x.1.name) with
  | (g,c)=>if c≠0 then (⟨#[]⟩,c) else cR x g
 else cR x bL
def kc(l:Z1 Rw)(name:Z6):Z6 × Int:=match jH l name with
 | (x,id,c)=>if c≠0 then (⟨#[]⟩,c) else if x.1.kind≠0 then (⟨#[]⟩,7) else ci l id x
theorem Jv(x:Fu)(H:a<=0)(h:0<=i):(eu l a f i id x).1=ci l id x:=by
 unfold eu ci;split
 .have e:=iz l a f i id 1 (dK x.1.name) H h;rw[<-e];generalize aG l a f i id 1 (dK x.1.name)=g;obtain⟨⟨y,c⟩,C⟩:=g;dsimp only;split <;> rfl
 .rfl
theorem JH:i<=(iX l a f i name).2/\(iX l a f i name).2<=i+8:=by
 have H:=sD l a f i name;unfold iX kC;generalize dJ l a f i name=g at H;obtain⟨⟨id,c⟩,h⟩:=g;dsimp only at H |-;split
 .exact⟨H.1,by show h<=_;omega⟩
 have o:=jq l a f h id name;generalize bY l a f h id name=g at o;obtain⟨⟨x,u⟩,C⟩:=g;dsimp only at o |-;split
 .exact⟨by show i<=C;omega,by show C<=_;omega⟩
 split
 .exact⟨by show i<=C;omega,by show C<=_;omega⟩
 have r:=jq l a f C id x.1.target;generalize bY l a f C id x.1.target=g at r;obtain⟨⟨y,z⟩,e⟩:=g;dsimp only at r |-;split
 .exact⟨by show i<=e;omega,by show e<=_;omega⟩
 split
 .exact⟨by show i<=e;omega,by show e<=_;omega⟩
 .exact⟨by show i<=e;omega,by show e<=_;omega⟩
theorem KE(H:a<=0)(o:0<=i):(yy l a f i name).1=kc l name:=by
 have e:=Aw l a f i name H o;have h:=JH l a f i name;unfold yy kc;rw[<-e];generalize iX l a f i name=g at h;obtain⟨⟨x,id,c⟩,C⟩:=g;dsimp only at h |-;split
 .rfl
 split
 .rfl
 .exact Jv l a f C id x H (by omega)
def kq(x:Fu):Prop:=x.1.name.size<=60
theorem jF:kq bL:=by show (0:Nat)<=60;omega
theorem yD(key s:Z6):kq (bw key s).1:=by
 unfold bw
 cases h:cF (Z5 s) with
 | none=>exact jF
 | some y =>
   dsimp only;split
   .have:=(iR y (mb _ _ h).1).1;rw[ZZ] at this;exact ZC this (by decide)
   .exact jF
theorem rP:kq (aG l a f i id b name).1.1:=by
 unfold aG;split
 .exact jF
 split
 .exact jF
 split
 .exact jF
 .exact yD _ _
theorem rq(l:Z1 Rw)(a f id:Int)(name:Z6):∀ (K:Z1 Int) (i:Int),kq (gm l a f id name K i).1.1
 | [],_=>jF
 | k::K,i=>by
   unfold gm;split
   .exact rq l a f id name K _
   .exact rP _ _ _ _ _ _ _
theorem rn:kq (bY l a f i id name).1.1:=by
 unfold bY;split
 .exact jF
 .exact rq _ _ _ _ _ _ _
theorem KR:kq (iX l a f i name).1.1:=by
 unfold iX kC;generalize dJ l a f i name=g;obtain⟨⟨id,c⟩,C⟩:=g;dsimp only;split
 .exact jF
 have h:=rn l a f C id name;generalize bY l a f C id name=g at h;obtain⟨⟨x,o⟩,e⟩:=g;dsimp only at h |-;split
 .exact jF
 split
 .exact h
 have H:=rn l a f e id x.1.target;generalize bY l a f e id x.1.target=g at H;obtain⟨⟨y,r⟩,u⟩:=g;dsimp only at H |-;split
 .exact jF
 split
 .exact jF
 .exact H
theorem fP{l:Z1 Int}(h:IS w al l)(H:w.grownBy w' (Z9 p))(r:∀ q,al.ownBlock=Z9 q->p<q):IS w' al l :=
 h.keep (p+1) (fun q u=>r q u) H.size (fun k y o=>H.block k o (fun e=>by have:=ZN e;omega))
theorem fQ{l:Z1 Gr}(h:GS w al l)(H:w.grownBy w' (Z9 p))(r:∀ q,al.ownBlock=Z9 q->p<q):GS w' al l :=
 h.keep (p+1) (fun q u=>r q u) H.size (fun k y o=>H.block k o (fun e=>by have:=ZN e;omega))
theorem dP{b:Nat}{C:Zy Z2}(h:row w b=C)(r:0<C.size)(y:w.grownBy w' (Z9 p))(o:b≠p):row w' b=C:=by
 have u:b<w.heap.size:=by
  rcases Nat.lt_or_ge b w.heap.size with H|H
  .exact H
  .exfalso
   unfold row at h;rw[Array.getElem?_eq_none H] at h;subst h;simp at r
 unfold row at *;rw[y.block b u (fun e=>o (ZN e))];exact h
attribute [local go_sem ↓] aZ bf bq cl
attribute [local go_sem] bn aS aH bE bH aK aT ak aI aw az aM ah aQ aL aP aO aR aY aW bD ap aq
theorem KP{l:Z1 Int}(h:IS w v l)(e:l≠[])(b:Nat)(H:v.ownBlock=Z9 b):b<w.heap.size:=by
 obtain⟨a,c,rfl,z,o⟩:=h;obtain⟨B,O,ha,r,-⟩:=o (List.length_pos_iff.2 e);rw[ha] at H;cases H;exact r
theorem Ky{l:Z1 Gr}(h:GS w v l)(e:l≠[])(b:Nat)(H:v.ownBlock=Z9 b):b<w.heap.size:=by
 obtain⟨a,c,rfl,z,o⟩:=h;obtain⟨B,O,ha,r,-⟩:=o (List.length_pos_iff.2 e);rw[ha] at H;cases H;exact r
theorem Jb(al gr al2 gr2:Z2)(w:ZY)(z:MaxL w)(T:Tab w)(H:x.1.name.size<=1000)(h:g.1.name.size<=1000)(e:IS w al x.2.1)(o:GS w gr x.2.2)(u:IS w al2 g.2.1)(y:GS w gr2 g.2.2) :
 ZH Z8 44 #[.agg (x.1.vals al gr),.agg (g.1.vals al2 gr2)] w fun r w'=>r=.returned (.tuple #[.string (cR x g).1,.int .i64 (cR x g).2])/\Z4 w.heap.size w w':=Jn x g al gr al2 gr2 w z T H h e o u y
theorem Kj(p:Nat)(sv:Z2)(l:Z1 Rw)(a f i id:Int)(x:Fu)(al gr:Z2)(A w:ZY)(hm:MaxL A)(hT:Tab A)(hS:SHs A w p sv l a f i)(aa:0<=i)(af:i<=90000)(ab:f≠0\/a<=0)(hx:kq x)(X:IS w al x.2.1)(L:GS w gr x.2.2)(o1:∀ q,al.ownBlock=Z9 q->p<q)(o2:∀ q,gr.ownBlock=Z9 q->p<q) :
 ZH Z8 72 #[.iface 56 (.pointer (Z9 ⟨p,0,Z7⟩)),.int .i64 id,.agg (x.1.vals al gr)] w fun r w'=>r=.returned (.tuple #[.string (eu l a f i id x).1.1,.int .i64 (eu l a f i id x).1.2])/\SHs A w' p sv l a f (eu l a f i id x).2/\w.grownBy w' (Z9 p):=by
 have a1:=ay x.1 al gr (aD X) (aE L);have S:=lh hS;have ad:=hS.pl;have Q:x.1.name.size<=1000:=ZC hx (by decide);have U:=lh (fun W (b:Z4 A.heap.size A W)=>Ja x.1.name W Q (hm.below b));have HI:=lh X;have R:=lh L;have R0:=aI w (x.1.vals al gr) 29 (0,0) (.cells (zlit 0 ⟨#[]⟩) 29);have Q0:=aw w (zlit 0 ⟨#[]⟩) 29 (0,0) (.cells (x.1.vals al gr) 29);unfold zlit at R0 Q0;have Z:=lh R0;have a9:=lh Q0;clear X L R0 Q0;generalize z:eu l a f i id x=g;unfold eu at z;cases H:XA (Z5 x.1.name)
 .rw[ZS (by rw[H];simp)] at z;subst z;rw[H] at U;have J:=fun W (b:Z4 A.heap.size A W) (b2:Z4 w.heap.size w W)=>Jb x bL al gr (.slice Z7 0 0) (.slice Z7 0 0) W (hm.below b) (hT.below b) Q (ZC jF (by decide)) (HI.o.below b2) (R.o.below b2) (IS.nil _) (GS.nil _)
  rw[show bL.1.vals (.slice Z7 0 0) (.slice Z7 0 0)=zlit 0 ⟨#[]⟩ from (eh 0 ⟨#[]⟩).symm] at J;unfold zlit at J;generalize cR x bL=nc at J |-;obtain⟨ns,nc⟩:=nc;have HN:=lh J;clear J H;go_enter Tryz.func72,Tryz.ntmps72
  go_wp2_with first|go_at_call 71;(refine (U.o _ (S.o.below (below2' _ _ _)).b).mono ?_);rintro _ w2 ⟨rfl,o⟩;have B:=lh (bt (below2' _ _ _) o);have V:=lh (S.o.below B.o);have R2:=am o Z.o (by rw[ah];decide);have Q2:=am o a9.o (by decide);clear o|go_at_call 44;(refine (HN.o _ V.o.b B.o).mono ?_);rintro _ d ⟨rfl,o⟩;have B3:=lh (bt B.o o);clear o
  go_ret2
  exact⟨rfl,S.o.below B3.o,bo _ B3.o⟩
 rw[ZP H] at z;rw[H] at U;have ac:(Z9 p:Zp Nat)≠Z9 (w.heap.size+1):=fun e=>by have:=ZN e;omega
 have n0:w.heap.size≠p:=by omega
 have HH:=lh (eV w 29 (.cells (x.1.vals al gr) 29));unfold dK at z;generalize (⟨(Ds.splG (Z5 x.1.name)).toArray⟩:Z6)=sg at U z;have D:=fun W (h:SHs A W p sv l a f i)=>iy p sv l a f i id 1 sg A W hm hT h aa (by omega) ab
 have P:=rP l a f i id 1 sg;generalize aG l a f i id 1 sg=gg at D P z;obtain⟨⟨y,K⟩,cb⟩:=gg;dsimp only at P z;have Y:=lh D;clear D H;by_cases F:K=0
 rotate_left
 .rw[ZP F] at z;subst z;have t1:(K != 0)=ZX:=by rw[YQ];exact F
  clear F;go_enter Tryz.func72,Tryz.ntmps72
  go_wp2_with first|go_at_call 71;(refine (U.o _ (S.o.below (below2' _ _ _)).b).mono ?_);rintro _ w2 ⟨rfl,o⟩;have B:=lh (bt (below2' _ _ _) o);have V:=lh (S.o.below B.o);clear o|go_at_call 82;(refine (Y.o _ V.o).mono ?_);rintro _ d ⟨⟨al2,gr2,rfl,X,a0,G,I⟩,E,u⟩;have a4:=ay y.1 al2 gr2 (aD X) (aE a0);have S3:=lh E;have T:=lh u;clear X a0 G I E u
  go_ret2
  exact⟨rfl,S3.o.below (aj _ _),bx (aJ (bo _ B.o) T.o) ((aj _ _).mono (by have:=(aJ (bo _ B.o) T.o).size;omega))⟩
 rw[ZS (fun h=>h F)] at z;subst F z;have J:=fun W al2 gr2 (b:Z4 A.heap.size A W) i1 i2 i3 i4=>Jb x y al gr al2 gr2 W (hm.below b) (hT.below b) Q (ZC P (by decide)) i1 i2 i3 i4
 generalize cR x y=nc at J |-;obtain⟨ns,nc⟩:=nc;have HN:=lh J;clear J;go_enter Tryz.func72,Tryz.ntmps72
 go_wp2_with first|go_at_call 71;(refine (U.o _ (S.o.below (below2' _ _ _)).b).mono ?_);rintro _ w2 ⟨rfl,o⟩;have B:=lh (bt (below2' _ _ _) o);have V:=lh (S.o.below B.o);have R2:=am o Z.o (by rw[ah];decide);have H2:=HH.o.below o;have z2:w.heap.size+1+1<=w2.heap.size:=(by have:=o.size;simpa using this);clear o|go_at_call 82;(refine (Y.o _ V.o).mono ?_);rintro _ d ⟨⟨al2,gr2,rfl,N,C,G,I⟩,E,u⟩;have a4:=ay y.1 al2 gr2 (aD N) (aE C);have S3:=lh E;have T:=lh u;have a8:=lh N;have a7:=lh C;have a5:=lh G;have a6:=lh I;have z3:=u.size;have H3:=da d (.cells (y.1.vals al2 gr2) 29) _ _ (H2.grown u ac);have R3:=ak d (y.1.vals al2 gr2) 29 (0,0);have K3:=eT (d.alloc (.cells (y.1.vals al2 gr2) 29)) (y.1.vals al2 gr2) (w.heap.size+1) H3;have L3:=(cT (d.alloc (.cells (y.1.vals al2 gr2) 29)) w.heap.size (w.heap.size+1) (y.1.vals al2 gr2) (by omega)).trans (am (aj d (.cells (y.1.vals al2 gr2) 29)) (dP R2 (by rw[ah];decide) u n0) (by rw[ah];decide));clear N C G I E u|go_at_call 44;have b6:=K3;clear b6;(refine (HN.o _ al2 gr2 (Below.trans (b:=d.alloc (.cells (y.1.vals al2 gr2) 29)) (S3.o.below (aj _ _)).b (ZA (ZR _ _) (by have:=V.o.p0;omega) _)) (vX (((fP (HI.o.below B.o) T.o o1)).below (aj _ _)) (fun q O F=>by have:=KP HI.o F q O;omega)) (vt (((fQ (R.o.below B.o) T.o o2)).below (aj _ _)) (fun q O F=>by have:=Ky R.o F q O;omega)) (vX (a8.o.below (aj _ _)) (fun q O _=>by have:=a5.o q O;omega)) (vt (a7.o.below (aj _ _)) (fun q O _=>by have:=a6.o q O;omega))).mono ?_);rintro _ w4 ⟨rfl,a2⟩;have B4:=lh a2;clear a2
 go_ret2
 have a3:Z4 w.heap.size (d.alloc (.cells (y.1.vals al2 gr2) 29)) w4:=(ZA (ZR _ _) (Nat.le_succ _) _).trans (B4.o.mono (by simp;omega));exact⟨rfl,(S3.o.below (aj _ _)).belowB a3 ad (fun h b o=>jw S.o.r h b o),bx (bx (aJ (bo _ B.o) T.o) ((aj _ _).mono (by omega))) a3⟩
theorem Mc(p:Nat)(P:Z2)(l:Z1 Rw)(a f i:Int)(name:Z6)(F w:ZY)(hm:MaxL F)(Y:Tab F)(O:SHs F w p P l a f i)(Z:0<=i)(a0:i<=60000)(K:f≠0/\f≠6\/a<=0) :
 ZH Z8 31 #[.iface 56 (.pointer (Z9 ⟨p,0,Z7⟩)),.string name] w fun r w'=>r=.returned (.tuple #[.string (yy l a f i name).1.1,.int .i64 (yy l a f i name).1.2])/\SHs F w' p P l a f (yy l a f i name).2/\w.grownBy w' (Z9 p):=by
 have HS:=lh O;have a1:=O.pl;have A:f≠0\/a<=0:=by omega
 have z:=DX p P l a f i name F w hm Y O Z a0 K;have J:=JH l a f i name;have D:=KR l a f i name;generalize y:yy l a f i name=g;unfold yy at y;generalize iX l a f i name=gg at z J D y;obtain⟨⟨x,id,c⟩,cb⟩:=gg;dsimp only at z J D y;have R:=lh z;have HN:=lh (fun W al gr h i1 i2 o1 o2=>Kj p P l a f cb id x al gr F W hm Y h (by omega) (by omega) A D i1 i2 o1 o2);clear z K A hm Y O;by_cases G:c=0
 rotate_left
 .rw[ZP G] at y;subst y;have t1:(c != 0)=ZX:=by rw[YQ];exact G
  clear G;go_enter Tryz.func31,Tryz.ntmps31
  go_wp2_with (go_at_call 42;(refine R.o.mono ?_);rintro _ Q ⟨⟨al,gr,rfl,I,H,o,u⟩,C,e⟩;have B:=ay x.1 al gr (aD I) (aE H);have S:=lh C;have G2:=lh e;clear I H o u C e)
  go_ret2
  exact⟨rfl,S.o.below (aj _ _),bx G2.o ((aj _ _).mono G2.o.size)⟩
 rw[ZS (fun h=>h G)] at y;subst G;by_cases E:x.1.kind=0
 rotate_left
 .rw[ZP E] at y;subst y;have t2:(x.1.kind != 0)=ZX:=by rw[YQ];exact E
  clear E;go_enter Tryz.func31,Tryz.ntmps31
  go_wp2_with (go_at_call 42;(refine R.o.mono ?_);rintro _ Q ⟨⟨al,gr,rfl,I,H,o,u⟩,C,e⟩;have B:=ay x.1 al gr (aD I) (aE H);have S:=lh C;have G2:=lh e;have X:=ak Q (x.1.vals al gr) 29 (0,0);have N2:=ae X 0 _ (ap _ _ _);clear I H o u C e)
  go_ret2
  exact⟨rfl,S.o.below (aj _ _),bx G2.o ((aj _ _).mono G2.o.size)⟩
 rw[ZS (fun h=>h E)] at y;subst y;have t2:(x.1.kind != 0)=ZW:=by rw[E];rfl
 clear E;generalize eu l a f cb id x=g at HN |-;obtain⟨⟨ns,nc⟩,ce⟩:=g;go_enter Tryz.func31,Tryz.ntmps31
 go_wp2_with first|go_at_call 42;(refine R.o.mono ?_);rintro _ Q ⟨⟨al,gr,rfl,I,H,o,u⟩,C,e⟩;have B:=ay x.1 al gr (aD I) (aE H);have S:=lh C;have G2:=lh e;have X:=ak Q (x.1.vals al gr) 29 (0,0);have N2:=ae X 0 _ (ap _ _ _);have HI:=lh I;have V:=lh H;have T:=lh o;have U:=lh u;clear I H o u C e|go_at_call 72;(refine (HN.o _ al gr (S.o.below (aj _ _)) (HI.o.below (aj _ _)) (V.o.below (aj _ _)) (fun q hq=>by have:=T.o q hq;omega) (fun q hq=>by have:=U.o q hq;omega)).mono ?_);rintro _ d ⟨rfl,N,L⟩;have S3:=lh N;have G3:=lh L;clear N L
 go_ret2
 exact⟨rfl,S3.o,aJ (bx G2.o ((aj _ _).mono G2.o.size)) G3.o⟩
end
section
open Go.RowKit
attribute [local go_sem ↓] aZ bf bq cl
attribute [local go_sem] bn aS aH bE bH aK aT ak aI aw az aM ah aQ aL aP aO aR aY aW bD ap aq
end
section
open Go.RowKit
set_option linter.unusedSimpArgs false
abbrev Ch:=Int × Int × Z6 × Z6 × Z6
def nI(c:Ch):Zp Fu :=
 if c.1=0/\1<=c.2.1/\c.2.1<=15 then (match cF (Z5 c.2.2.2.1) with
  | some y=>if dL y=Z5 c.2.2.1 then Z9 y else Z7
  | none=>Z7) else Z7
def PutR(w w':ZY)(o:Zp Fu)(r:VK):Prop:=∃ (x:Fu) (al gr:Z2) (b:Bool),r=.returned (.tuple #[.agg (x.1.vals al gr),.bool b])/\IS w' al x.2.1/\GS w' gr x.2.2/\Z4 w.heap.size w w'/\(o=Z9 x/\b=ZX\/o=Z7/\b=ZW)/\(∀ q,al.ownBlock=Z9 q->w.heap.size<=q)/\(∀ q,gr.ownBlock=Z9 q->w.heap.size<=q)
theorem PutR.put{o:Zp Fu}{x:Fu}{b:Bool}(A:Held W (w.heap.size+1) 33)(B:Z4 w.heap.size w W)(I:IS W al x.2.1)(C:GS W gr x.2.2)(h:∀ q,al.ownBlock=Z9 q->w.heap.size+1<q)(r:∀ q,gr.ownBlock=Z9 q->w.heap.size+1<q)(D:o=Z9 x/\b=ZX\/o=Z7/\b=ZW) :
 PutR w (W.setRow (w.heap.size+1) (x.1.vals al gr)) o (.returned (.tuple #[.agg (row (W.setRow (w.heap.size+1) (x.1.vals al gr)) (w.heap.size+1)),.bool b])):=by
 have u:∀ j,w.heap.size+1+1<=j->j<W.heap.size->(W.setRow (w.heap.size+1) (x.1.vals al gr)).heap[j]?=W.heap[j]?:=fun j h _=>cP _ _ _ _ (by omega)
 exact⟨x,al,gr,b,congrArg (fun z=>Ending.returned (.tuple #[.agg z,.bool b])) (au A _),I.keep (w.heap.size+1+1) (fun y e=>h y e) (by simp) u,C.keep (w.heap.size+1+1) (fun y e=>r y e) (by simp) u,ZA B (by omega) _,D,fun q H=>by have:=h q H;omega,fun q H=>by have:=r q H;omega⟩
theorem PutR.put0(H:Held W (w.heap.size+1) 33)(e:Z4 w.heap.size w W) :
 PutR w (W.setRow (w.heap.size+1) (zlit 0 ⟨#[]⟩)) Z7 (.returned (.tuple #[.agg (row (W.setRow (w.heap.size+1) (zlit 0 ⟨#[]⟩)) (w.heap.size+1)),.bool ZW])):=by
 rw[eh];exact PutR.put (x:=bL) H e (IS.nil _) (GS.nil _) (fun _ h=>by cases h) (fun _ h=>by cases h) (Xb ⟨rfl,rfl⟩)
attribute [local go_sem ↓] aZ bf bq cl
attribute [local go_sem] bn aS aH bE bH aK aT ak aI aw az aM ah aQ aL aP aO aR aY aW bD ap aq
theorem LV(k id:Int)(key R V:Z6)(w:ZY)(hm:MaxL w)(hT:Tab w) :
 ZH Z8 70 #[.agg #[.int .i64 k,.int .i64 id,.string key,.string R,.string V]] w fun r w'=>PutR w w' (nI (k,id,key,R,V)) r:=by
 have HH:=lh (eV w 29 (.cells #[.int .i64 k,.int .i64 id,.string key,.string R,.string V] 67));generalize o:nI (k,id,key,R,V)=P;unfold nI at o;dsimp only at o;have c0:=aI w #[.int .i64 k,.int .i64 id,.string key,.string R,.string V] 67 (0,0) (.cells (zlit 0 ⟨#[]⟩) 29);unfold zlit at c0;have HC:=lh c0;clear c0;by_cases L:k=0
 rotate_left
 .rw[ZS (fun h=>L h.1)] at o;subst o;have t1:(k != 0)=ZX:=by rw[YQ];exact L
  have I:=HH.o;clear L;go_enter Tryz.func70,Tryz.ntmps70
  go_wp2_with fail
  refine ZD (bV (n:=32) rfl Tryz.underlying29 rfl (by kernel_rfl) _ _ (w.heap.size+1) rfl (dF I rfl)) rfl ?_
  exact PutR.put0 I (below2' _ _ _)
 have t1:(k != 0)=ZW:=by rw[L];rfl
 by_cases h1:id<1
 .rw[ZS (fun h=>by omega)] at o;subst o;have t2:decide (id<1)=ZX:=ZI h1;have I:=HH.o;clear L h1;go_enter Tryz.func70,Tryz.ntmps70
  go_wp2_with fail
  refine ZD (bV (n:=32) rfl Tryz.underlying29 rfl (by kernel_rfl) _ _ (w.heap.size+1) rfl (dF I rfl)) rfl ?_
  exact PutR.put0 I (below2' _ _ _)
 have t2:decide (id<1)=ZW:=ZG h1;by_cases h2:15<id
 .rw[ZS (fun h=>by omega)] at o;subst o;have t3:decide (15<id)=ZX:=ZI h2;have I:=HH.o;clear L h1 h2;go_enter Tryz.func70,Tryz.ntmps70
  go_wp2_with fail
  refine ZD (bV (n:=32) rfl Tryz.underlying29 rfl (by kernel_rfl) _ _ (w.heap.size+1) rfl (dF I rfl)) rfl ?_
  exact PutR.put0 I (below2' _ _ _)
 have t3:decide (15<id)=ZW:=ZG h2;rw[ZP ⟨L,by omega,by omega⟩] at o;clear L h1 h2;have HD:=lh (fun W (b:Z4 w.heap.size w W)=>rM R W (hm.below b) (hT.below b));clear hm hT;go_enter Tryz.func70,Tryz.ntmps70
 go_upto_region 4 with (go_at_call 30;(refine (HD.o _ (below2' _ _ _)).mono ?_);rintro _ d ⟨x,al,gr,aa,rfl,hI,U,C,hc,a0,a8⟩;have E:=ay x.1 al gr (aD hI) (aE U);have B3:=lh (bt (below2' _ _ _) C);have H3:=da d (.cells (x.1.vals al gr) 29) _ _ (HH.o.below C);have a9:=lh (am C HC.o (by show 0<5;omega));have z3:w.heap.size+1+1<=d.heap.size:=(by have:=C.size;simpa using this);have HI:=lh hI;have T:=lh U;have O:=lh a0;have Q:=lh a8;clear hI U C a0 a8)
 have z:∀ {c:ZY},Z4 (d.heap.size+1) (d.alloc (.cells (x.1.vals al gr) 29)) c->row c d.heap.size=x.1.vals al gr/\c.cell? ⟨d.heap.size,0,Z7⟩=Z9 (.int .i64 x.1.kind)/\c.cell? ⟨d.heap.size,1,Z7⟩=Z9 (.string x.1.name)/\c.cell? ⟨w.heap.size,0,Z7⟩=Z9 (.int .i64 k)/\c.cell? ⟨w.heap.size,1,Z7⟩=Z9 (.int .i64 id)/\c.cell? ⟨w.heap.size,2,Z7⟩=Z9 (.string key)/\Held c (w.heap.size+1) 33:=fun {c} h=>by
  have h':Z4 (d.alloc (.cells (x.1.vals al gr) 29)).heap.size (d.alloc (.cells (x.1.vals al gr) 29)) c:=by rw[World.size_alloc];exact h
  have q:=am h' (ak d (x.1.vals al gr) 29 (0,0)) (by rw[ah];decide);have q2:∀ i v,#[.int .i64 k,.int .i64 id,.string key,.string R,.string V][i]?=Z9 v->c.cell? ⟨w.heap.size,i,Z7⟩=Z9 v:=fun i v hv=>(h'.cell (p:=⟨w.heap.size,i,Z7⟩) (by show w.heap.size<_;simp;omega)).trans (((aj d _).cell (p:=⟨w.heap.size,i,Z7⟩) (by show w.heap.size<d.heap.size;omega)).trans (ae a9.o i v hv))
  exact⟨q,ae q 0 _ (ap _ _ _),ae q 1 _ (aq _ _ _),q2 0 _ rfl,q2 1 _ rfl,q2 2 _ rfl,H3.below h'⟩
 refine wp_region_held_drew (S:=fun w'=>row w' d.heap.size=x.1.vals al gr/\w'.cell? ⟨d.heap.size,0,Z7⟩=Z9 (.int .i64 x.1.kind)/\w'.cell? ⟨d.heap.size,1,Z7⟩=Z9 (.string x.1.name)/\w'.cell? ⟨w.heap.size,0,Z7⟩=Z9 (.int .i64 k)/\w'.cell? ⟨w.heap.size,1,Z7⟩=Z9 (.int .i64 id)/\w'.cell? ⟨w.heap.size,2,Z7⟩=Z9 (.string key)/\Held w' (w.heap.size+1) 33) (by kernel_rfl) ?_ (fun hHeld=>?_)
 .exact z (Y3 (ZR _ _))
 obtain⟨y,G⟩:∃ y,(d.alloc (.cells (x.1.vals al gr) 29)).drew=y:=⟨_,rfl⟩;rw[G] at hHeld |-;have b2:Z4 (d.heap.size+1) (d.alloc (.cells (x.1.vals al gr) 29)) y:=by rw[<-G];exact Y3 (ZR _ _)
 have z2:y.heap.size=d.heap.size+1:=by rw[<-G];simp
 clear G;have D:=uF x key;rcases hc with ⟨hd,rfl⟩|⟨hd,rfl,rfl⟩
 .rw[hd] at o;dsimp only at o;have HK:=lh (fun W=>jI x.1.kind x.1.name W);clear hd;by_cases A:dL x=Z5 key
  .rw[ZP A] at o;rw[ZI A] at D;clear A;generalize aC x.1.kind x.1.name=kz at D HK;refine eq (i:=0) (Z9 26) (v:=.agg (x.1.vals al gr)) rfl rfl (by kernel_rfl) (by kernel_rfl) (by kernel_rfl) (fun _ _ _ h=>h) (by kernel_rfl) (fun w' J=>?_) (by assumption) ?_
   .refine (aZ _ w' _ _ _ _ _ _ (by rfl) (by show (row w' d.heap.size).size=33;rw[J.1];exact ah _ _ _)).trans ?_
    show Result.ok (Next.value (.agg (row w' d.heap.size))) w'=_
    rw[J.1]
   try simp only[Act.put,Zt,Ze,Zd]
   (refine rgy (i:=1) (Z9 27) ?_;(try simp only[Act.put,pz]))
   (refine rgy (i:=2) (Z9 28) ?_;(try simp only[Act.put,pz]))
   (refine rgy (i:=3) (Z9 29) ?_;(try simp only[Act.put,pz]))
   (refine rgy (i:=4) (Z9 30) ?_;(try simp only[Act.put,pz]))
   (refine rgy (i:=5) (Z9 31) ?_;(try simp only[Act.put,pz]))
   (refine rgy (i:=6) (Z9 32) ?_;(try simp only[Act.put,pz]))
   (refine rgy (i:=7) (Z9 33) ?_;(try simp only[Act.put,pz]))
   (refine rgy (i:=9) (Z9 35) ?_;(try simp only[Act.put,pz]))
   (refine rgy (i:=10) (Z9 36) ?_;(try simp only[Act.put,pz]))
   refine rgb (i:=8) (by kernel_rfl) rfl (fun K hK=>?_)
   go_simp
   go_at_call 88
   refine (HK.o _).mono ?_
   rintro _ j ⟨rfl,X⟩;have b5:Z4 (d.heap.size+1) (d.alloc (.cells (x.1.vals al gr) 29)) j:=b2.trans (X.mono (by omega));refine hK.out _ _ (z b5) (fun hHeld=>?_)
   (clear hK K;(try simp only[Act.put,pz]))
   (refine rgy (i:=11) (Z9 37) ?_;(try simp only[Act.put,pz]))
   (refine rgy (i:=12) (Z9 38) ?_;(try simp only[Act.put,pz]))
   have u:row (j.setRow (w.heap.size+1) (x.1.vals al gr)) d.heap.size=x.1.vals al gr/\(j.setRow (w.heap.size+1) (x.1.vals al gr)).cell? ⟨d.heap.size,0,Z7⟩=Z9 (.int .i64 x.1.kind)/\(j.setRow (w.heap.size+1) (x.1.vals al gr)).cell? ⟨d.heap.size,1,Z7⟩=Z9 (.string x.1.name)/\(j.setRow (w.heap.size+1) (x.1.vals al gr)).cell? ⟨w.heap.size,0,Z7⟩=Z9 (.int .i64 k)/\(j.setRow (w.heap.size+1) (x.1.vals al gr)).cell? ⟨w.heap.size,1,Z7⟩=Z9 (.int .i64 id)/\(j.setRow (w.heap.size+1) (x.1.vals al gr)).cell? ⟨w.heap.size,2,Z7⟩=Z9 (.string key)/\Held (j.setRow (w.heap.size+1) (x.1.vals al gr)) (w.heap.size+1) 33:=by
    obtain⟨Y,Z,a3,a4,a5,a6,a7⟩:=hHeld;have N:d.heap.size≠w.heap.size+1:=by omega
    have e:w.heap.size≠w.heap.size+1:=by omega
    exact⟨(cT _ _ _ _ N).trans Y,(ZT (a:=⟨d.heap.size,0,Z7⟩) (cP _ _ _ _ N)).trans Z,(ZT (a:=⟨d.heap.size,1,Z7⟩) (cP _ _ _ _ N)).trans a3,(ZT (a:=⟨w.heap.size,0,Z7⟩) (cP _ _ _ _ e)).trans a4,(ZT (a:=⟨w.heap.size,1,Z7⟩) (cP _ _ _ _ e)).trans a5,(ZT (a:=⟨w.heap.size,2,Z7⟩) (cP _ _ _ _ e)).trans a6,a7.set _ (fun _=>ah _ _ _)⟩
   have H:=hHeld.2.2.2.2.2.2;refine lS (i:=13) Z7 (j.setRow (w.heap.size+1) (x.1.vals al gr)) rfl rfl (by kernel_rfl) (by kernel_rfl) (bq _ _ _ _ _ _ _ _ _ (by rfl) (by exact H) (by rfl) (ah _ _ _) E) u ?_
   try simp only[Act.put,Zt,Ze,Zd]
   (refine rgy (i:=14) (Z9 3) ?_;(try simp only[Act.put,pz]))
   refine XJ (by kernel_rfl) ?_ _
   clear hHeld u z;go_wp2_with fail
   refine ZD (bV (n:=32) rfl Tryz.underlying29 rfl (by kernel_rfl) _ _ (w.heap.size+1) rfl (dF H (ah _ _ _))) rfl ?_
   have B:Z4 d.heap.size d j:=(aj _ _).trans (b5.mono (Nat.le_succ _));exact PutR.put (x:=x) H (bt B3.o B) (HI.o.below B) (T.o.below B) (fun q F=>by have:=O.o q F;simp at this;omega) (fun q F=>by have:=Q.o q F;simp at this;omega) (VZ ⟨o.symm,rfl⟩)
  .rw[ZS A] at o;rw[ZG A] at D;clear A;generalize aC x.1.kind x.1.name=kz at D HK;refine eq (i:=0) (Z9 26) (v:=.agg (x.1.vals al gr)) rfl rfl (by kernel_rfl) (by kernel_rfl) (by kernel_rfl) (fun _ _ _ h=>h) (by kernel_rfl) (fun w' J=>?_) (by assumption) ?_
   .refine (aZ _ w' _ _ _ _ _ _ (by rfl) (by show (row w' d.heap.size).size=33;rw[J.1];exact ah _ _ _)).trans ?_
    show Result.ok (Next.value (.agg (row w' d.heap.size))) w'=_
    rw[J.1]
   try simp only[Act.put,Zt,Ze,Zd]
   (refine rgy (i:=1) (Z9 27) ?_;(try simp only[Act.put,pz]))
   (refine rgy (i:=2) (Z9 28) ?_;(try simp only[Act.put,pz]))
   (refine rgy (i:=3) (Z9 29) ?_;(try simp only[Act.put,pz]))
   (refine rgy (i:=4) (Z9 30) ?_;(try simp only[Act.put,pz]))
   (refine rgy (i:=5) (Z9 31) ?_;(try simp only[Act.put,pz]))
   (refine rgy (i:=6) (Z9 32) ?_;(try simp only[Act.put,pz]))
   (refine rgy (i:=7) (Z9 33) ?_;(try simp only[Act.put,pz]))
   (refine rgy (i:=9) (Z9 35) ?_;(try simp only[Act.put,pz]))
   (refine rgy (i:=10) (Z9 36) ?_;(try simp only[Act.put,pz]))
   refine rgb (i:=8) (by kernel_rfl) rfl (fun K hK=>?_)
   go_simp
   go_at_call 88
   refine (HK.o _).mono ?_
   rintro _ j ⟨rfl,X⟩;have b5:Z4 (d.heap.size+1) (d.alloc (.cells (x.1.vals al gr) 29)) j:=b2.trans (X.mono (by omega));refine hK.out _ _ (z b5) (fun hHeld=>?_)
   (clear hK K;(try simp only[Act.put,pz]))
   (refine rgy (i:=11) (Z9 37) ?_;(try simp only[Act.put,pz]))
   (refine rgy (i:=12) (Z9 38) ?_;(try simp only[Act.put,pz]))
   have u:row (j.setRow (w.heap.size+1) (x.1.vals al gr)) d.heap.size=x.1.vals al gr/\(j.setRow (w.heap.size+1) (x.1.vals al gr)).cell? ⟨d.heap.size,0,Z7⟩=Z9 (.int .i64 x.1.kind)/\(j.setRow (w.heap.size+1) (x.1.vals al gr)).cell? ⟨d.heap.size,1,Z7⟩=Z9 (.string x.1.name)/\(j.setRow (w.heap.size+1) (x.1.vals al gr)).cell? ⟨w.heap.size,0,Z7⟩=Z9 (.int .i64 k)/\(j.setRow (w.heap.size+1) (x.1.vals al gr)).cell? ⟨w.heap.size,1,Z7⟩=Z9 (.int .i64 id)/\(j.setRow (w.heap.size+1) (x.1.vals al gr)).cell? ⟨w.heap.size,2,Z7⟩=Z9 (.string key)/\Held (j.setRow (w.heap.size+1) (x.1.vals al gr)) (w.heap.size+1) 33:=by
    obtain⟨Y,Z,a3,a4,a5,a6,a7⟩:=hHeld;have N:d.heap.size≠w.heap.size+1:=by omega
    have e:w.heap.size≠w.heap.size+1:=by omega
    exact⟨(cT _ _ _ _ N).trans Y,(ZT (a:=⟨d.heap.size,0,Z7⟩) (cP _ _ _ _ N)).trans Z,(ZT (a:=⟨d.heap.size,1,Z7⟩) (cP _ _ _ _ N)).trans a3,(ZT (a:=⟨w.heap.size,0,Z7⟩) (cP _ _ _ _ e)).trans a4,(ZT (a:=⟨w.heap.size,1,Z7⟩) (cP _ _ _ _ e)).trans a5,(ZT (a:=⟨w.heap.size,2,Z7⟩) (cP _ _ _ _ e)).trans a6,a7.set _ (fun _=>ah _ _ _)⟩
   have H:=hHeld.2.2.2.2.2.2;refine lS (i:=13) Z7 (j.setRow (w.heap.size+1) (x.1.vals al gr)) rfl rfl (by kernel_rfl) (by kernel_rfl) (bq _ _ _ _ _ _ _ _ _ (by rfl) (by exact H) (by rfl) (ah _ _ _) E) u ?_
   try simp only[Act.put,Zt,Ze,Zd]
   (refine rgy (i:=14) (Z9 3) ?_;(try simp only[Act.put,pz]))
   refine XJ (by kernel_rfl) ?_ _
   clear hHeld u z;go_wp2_with fail
   refine ZD (bV (n:=32) rfl Tryz.underlying29 rfl (by kernel_rfl) _ _ (w.heap.size+1) rfl (dF H (ah _ _ _))) rfl ?_
   have B:Z4 d.heap.size d j:=(aj _ _).trans (b5.mono (Nat.le_succ _));exact PutR.put (x:=x) H (bt B3.o B) (HI.o.below B) (T.o.below B) (fun q F=>by have:=O.o q F;simp at this;omega) (fun q F=>by have:=Q.o q F;simp at this;omega) (Xb ⟨o.symm,rfl⟩)
 .rw[hd] at o;dsimp only at o;clear hd D;refine eq (i:=0) (Z9 26) (v:=.agg (((YS,[],[]):Fu).1.vals al gr)) rfl rfl (by kernel_rfl) (by kernel_rfl) (by kernel_rfl) (fun _ _ _ h=>h) (by kernel_rfl) (fun w' J=>?_) (by assumption) ?_
  .refine (aZ _ w' _ _ _ _ _ _ (by rfl) (by show (row w' d.heap.size).size=33;rw[J.1];exact ah _ _ _)).trans ?_
   show Result.ok (Next.value (.agg (row w' d.heap.size))) w'=_
   rw[J.1]
  try simp only[Act.put,Zt,Ze,Zd]
  (refine rgy (i:=1) (Z9 27) ?_;(try simp only[Act.put,pz]))
  (refine rgy (i:=2) (Z9 28) ?_;(try simp only[Act.put,pz]))
  (refine rgy (i:=3) (Z9 29) ?_;(try simp only[Act.put,pz]))
  (refine rgs (i:=4) (Z9 30) ?_;(try simp only[Act.put,pz]))
  (refine rgs (i:=5) (Z9 31) ?_;(try simp only[Act.put,pz]))
  (refine rgs (i:=6) (Z9 32) ?_;(try simp only[Act.put,pz]))
  (refine rgs (i:=7) (Z9 33) ?_;(try simp only[Act.put,pz]))
  (refine rgs (i:=8) (Z9 34) ?_;(try simp only[Act.put,pz]))
  (refine rgs (i:=9) (Z9 35) ?_;(try simp only[Act.put,pz]))
  (refine rgs (i:=10) (Z9 36) ?_;(try simp only[Act.put,pz]))
  (refine rgs (i:=11) (Z9 37) ?_;(try simp only[Act.put,pz]))
  (refine rgy (i:=12) (Z9 38) ?_;(try simp only[Act.put,pz]))
  have u:row (y.setRow (w.heap.size+1) (((YS,[],[]):Fu).1.vals al gr)) d.heap.size=((YS,[],[]):Fu).1.vals al gr/\(y.setRow (w.heap.size+1) (((YS,[],[]):Fu).1.vals al gr)).cell? ⟨d.heap.size,0,Z7⟩=Z9 (.int .i64 ((YS,[],[]):Fu).1.kind)/\(y.setRow (w.heap.size+1) (((YS,[],[]):Fu).1.vals al gr)).cell? ⟨d.heap.size,1,Z7⟩=Z9 (.string ((YS,[],[]):Fu).1.name)/\(y.setRow (w.heap.size+1) (((YS,[],[]):Fu).1.vals al gr)).cell? ⟨w.heap.size,0,Z7⟩=Z9 (.int .i64 k)/\(y.setRow (w.heap.size+1) (((YS,[],[]):Fu).1.vals al gr)).cell? ⟨w.heap.size,1,Z7⟩=Z9 (.int .i64 id)/\(y.setRow (w.heap.size+1) (((YS,[],[]):Fu).1.vals al gr)).cell? ⟨w.heap.size,2,Z7⟩=Z9 (.string key)/\Held (y.setRow (w.heap.size+1) (((YS,[],[]):Fu).1.vals al gr)) (w.heap.size+1) 33:=by
   obtain⟨Y,Z,a3,a4,a5,a6,a7⟩:=hHeld;have N:d.heap.size≠w.heap.size+1:=by omega
   have e:w.heap.size≠w.heap.size+1:=by omega
   exact⟨(cT _ _ _ _ N).trans Y,(ZT (a:=⟨d.heap.size,0,Z7⟩) (cP _ _ _ _ N)).trans Z,(ZT (a:=⟨d.heap.size,1,Z7⟩) (cP _ _ _ _ N)).trans a3,(ZT (a:=⟨w.heap.size,0,Z7⟩) (cP _ _ _ _ e)).trans a4,(ZT (a:=⟨w.heap.size,1,Z7⟩) (cP _ _ _ _ e)).trans a5,(ZT (a:=⟨w.heap.size,2,Z7⟩) (cP _ _ _ _ e)).trans a6,a7.set _ (fun _=>ah _ _ _)⟩
  have H:=hHeld.2.2.2.2.2.2;refine lS (i:=13) Z7 (y.setRow (w.heap.size+1) (((YS,[],[]):Fu).1.vals al gr)) rfl rfl (by kernel_rfl) (by kernel_rfl) (bq _ _ _ _ _ _ _ _ _ (by rfl) (by exact H) (by rfl) (ah _ _ _) E) u ?_
  try simp only[Act.put,Zt,Ze,Zd]
  (refine rgy (i:=14) (Z9 3) ?_;(try simp only[Act.put,pz]))
  refine XJ (by kernel_rfl) ?_ _
  clear hHeld u z;go_wp2_with fail
  refine ZD (bV (n:=32) rfl Tryz.underlying29 rfl (by kernel_rfl) _ _ (w.heap.size+1) rfl (dF H (ah _ _ _))) rfl ?_
  have B:Z4 d.heap.size d y:=(aj _ _).trans (b2.mono (Nat.le_succ _));exact PutR.put (x:=(YS,[],[])) H (bt B3.o B) (HI.o.below B) (T.o.below B) (fun q F=>by have:=O.o q F;simp at this;omega) (fun q F=>by have:=Q.o q F;simp at this;omega) (Xb ⟨o.symm,rfl⟩)
end
section
open Go.RowKit
set_option linter.unusedSimpArgs false
attribute [local go_sem ↓] aZ bf bq cl
attribute [local go_sem] bn aS aH bE bH aK aT ak aI aw az aM ah aQ aL aP aO aR aY aW bD ap aq
end
end Go.Proofs.YtnkjliahpeebjaaGreatDoor
