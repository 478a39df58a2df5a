/- Catalogs. -/
import Derived.Test.YtnkjliahpeebjaaGreatDoorAcA
set_option maxRecDepth 8000
set_option maxHeartbeats 4000000
open Option renaming some->Z9,none->Z8
open _root_ renaming ByteArray->Z7,List->Z5,if_neg->Z0,if_pos->ZX,decide_eq_true_eq->ZU,UInt8->ZP,decide_eq_true->ZL,decide_eq_false->ZF,Option->Zy,of_decide_eq_true->Xi
open Go.Proofs.YtnkjliahpeebjaaGreatDoor.Ds renaming bl->Z4
open Go renaming Value->Z3,World->Z2,block_lt_of_cell->YR
open Bool renaming true->ZZ,false->ZW,and_eq_true->ZT,false_and->Xt
open List renaming length_cons->ZK,take_succ_eq_append_getElem->ZB,mem_cons->Zw
open Go.World renaming cell?_setCell_other->Zt,drewN->WB
open Go.Lib renaming compareBytes->YG,toList_data->Xs
open Go.Addr renaming add_lit->Yr,add->WX
namespace Go.Proofs.YtnkjliahpeebjaaGreatDoor
variable{b a k key:Z5 ZP}(p:Nat)(f:Z3){v:Z3}(fl cd d:Int)(w:Z2){j id:Int}
abbrev Rw:=Int × Z7 × Z7
def bB(a b:Z5 ZP):Bool:=decide (YG a b<0)
theorem iO(a:Z5 ZP):bB a a=ZW:=by unfold bB;rw[(Ds.cmp_zero a a).2 rfl];rfl
theorem oR(h:bB a b=ZZ):bB b a=ZW:=by
 have H:YG a b<0:=Xi h;have c:=Ds.cmp_neg a b;exact ZF (show ¬ YG b a<0 by omega)
theorem mV(h:bB a b=ZW)(H:a≠b):bB b a=ZZ:=by
 have c:¬ YG a b<0:=of_decide_eq_false h;have g:YG a b≠0:=fun e=>H ((Ds.cmp_zero a b).1 e)
 have i:=Ds.cmp_neg a b;exact ZL (show YG b a<0 by omega)
theorem ir{c:Z5 ZP}(h:bB a b=ZZ)(k:bB b c=ZZ):bB a c=ZZ:=by
 have H:YG a b<0:=Xi h;have k1:YG b c<0:=Xi k;have t:=Ds.cmp_trans a b c (by omega) (by omega);rcases Int.lt_or_eq_of_le t with t|t
 .exact ZL t
 .have e:=(Ds.cmp_zero a c).1 t;subst e;have:=Ds.cmp_neg a b;omega
def nxq(id:Int)(k:Z5 ZP)(o:Zy Rw)(x:Rw):Bool:=decide (x.1=id)&&(bB k (Z4 x.2.1)&&(match o with|none=>ZZ|some y=>bB (Z4 x.2.1) (Z4 y.2.1)))
def nxs(id:Int)(k:Z5 ZP)(o:Zy Rw)(x:Rw):Zy Rw:=if nxq id k o x=ZZ then Z9 x else o
def nx(id:Int)(k:Z5 ZP)(l:Z5 Rw):Zy Rw:=l.foldl (nxs id k) Z8
theorem po(id:Int)(k:Z5 ZP)(l:Z5 Rw)(x:Rw):nx id k (l++[x])=nxs id k (nx id k l) x:=by
 unfold nx;rw[List.foldl_append];rfl
theorem yW(id:Int)(k:Z5 ZP):∀ (l:Z5 Rw) (o:Zy Rw) (x:Rw),l.foldl (nxs id k) o=Z9 x->o=Z9 x\/(x∈l/\x.1=id/\bB k (Z4 x.2.1)=ZZ)
 | [],o,x,h=>Or.inl h
 | y::l,o,x,h=>by
   rw[List.foldl_cons] at h;rcases yW id k l _ x h with H|H
   .unfold nxs at H;split at H
    .rename_i c;cases H;unfold nxq at c;simp only[ZT,ZU] at c
     exact Or.inr ⟨by simp,c.1,c.2.1⟩
    .exact Or.inl H
   .exact Or.inr ⟨by simp [H.1],H.2⟩
theorem jP{l:Z5 Rw}{x:Rw}(h:nx id k l=Z9 x):x∈l/\x.1=id/\bB k (Z4 x.2.1)=ZZ:=by
 rcases yW id k l Z8 x h with h|h
 .cases h
 .exact h
theorem Ec{l:Z5 Rw}{x:Rw}(h:nxq id k (nx id k l) x=ZW):nx id k (l++[x])=nx id k l:=by
 rw[po];unfold nxs;rw[Z0 (by rw[h];simp)]
theorem Ed{l:Z5 Rw}{x:Rw}(h:nxq id k (nx id k l) x=ZZ):nx id k (l++[x])=Z9 x:=by
 rw[po];unfold nxs;rw[ZX h]
def NI(id:Int)(key:Z5 ZP)(l:Z5 Rw)(k:Nat)(j:Int):Prop:=(nx id key (l.take k)=Z8/\j=-1)\/∃ (i:Nat) (h:i<l.length),j=i/\i<k/\nx id key (l.take k)=Z9 l[i]
theorem NI.keep{l:Z5 Rw}{k:Nat}(h:NI id key l k j)(m:k<l.length)(q:nxq id key (nx id key (l.take k)) l[k]=ZW):NI id key l (k+1) j:=by
 have e:nx id key (l.take (k+1))=nx id key (l.take k):=by rw[ZB m];exact Ec q
 unfold NI;rw[e];rcases h with h|⟨i,H,c,n,g⟩
 .exact Or.inl h
 .exact Or.inr ⟨i,H,c,by omega,g⟩
theorem NI.take{l:Z5 Rw}{k:Nat}(h:k<l.length)(H:nxq id key (nx id key (l.take k)) l[k]=ZZ):NI id key l (k+1) (k:Int):=by
 refine Or.inr ⟨k,h,rfl,by omega,?_⟩
 rw[ZB h];exact Ed H
def cnt(id:Int)(k:Z5 ZP)(l:Z5 Rw):Nat:=l.countP fun x=>decide (x.1=id)&&bB k (Z4 x.2.1)
theorem oL{α:Type}(p q:α->Bool):∀ (l:Z5 α),(∀ x∈l,p x=ZZ->q x=ZZ)->(∃ x∈l,q x=ZZ/\p x=ZW)->l.countP p<l.countP q
 | [],_,h=>by obtain⟨x,H,-⟩:=h;cases H
 | y::l,g,n=>by
   have o:l.countP p<=l.countP q:=List.countP_mono_left (fun x H=>g x (by simp [H]));rw[List.countP_cons,List.countP_cons];have r:=g y (by simp);by_cases m:q y=ZZ/\p y=ZW
   .rw[ZX m.1,Z0 (by rw[m.2];simp)];omega
   .have t:l.countP p<l.countP q:=oL p q l (fun x H=>g x (by simp [H])) (by
     obtain⟨x,H,c,e⟩:=n;rcases Zw.1 H with rfl|H
     .exact absurd ⟨c,e⟩ m
     .exact⟨x,H,c,e⟩)
    by_cases i:p y=ZZ
    .rw[ZX i,ZX (r i)];omega
    .rw[Z0 i];split <;> omega
theorem rI{l:Z5 Rw}{x:Rw}(h:nx id k l=Z9 x):cnt id (Z4 x.2.1) l<cnt id k l:=by
 obtain⟨e,g,c⟩:=jP h;refine oL _ _ l (fun y _ H=>?_) ⟨x,e,?_,?_⟩
 .rw[ZT] at H |-;exact⟨H.1,ir c H.2⟩
 .rw[ZT];exact⟨ZL g,c⟩
 .rw[iO,Bool.and_false]
theorem cnt_le(id:Int)(k:Z5 ZP)(l:Z5 Rw):cnt id k l<=l.length:=List.countP_le_length
theorem lF(a:Z5 ZP):bB a []=ZW:=by
 unfold bB;cases a <;> simp [YG]
section
open Go.RowKit
def RwS(w:Z2)(v:Z3)(l:Z5 Rw):Prop :=
 ∃ a c,v=.slice a l.length c/\l.length<=1000000/\(0<l.length->∃ b o,a=Z9 ⟨b,o,Z8⟩/\b<w.heap.size/\∀ k (h:k<l.length),w.cell? ⟨b,o+k*3,Z8⟩=Z9 (.int .i64 l[k].1)/\w.cell? ⟨b,o+k*3+1,Z8⟩=Z9 (.string l[k].2.1)/\w.cell? ⟨b,o+k*3+2,Z8⟩=Z9 (.string l[k].2.2))
theorem RwS.keep{w w':Z2}{l:Z5 Rw}(h:RwS w v l)(s:w.heap.size<=w'.heap.size)(H:∀ b,v.ownBlock=Z9 b->b<w.heap.size->w'.heap[b]?=w.heap[b]?):RwS w' v l:=by
 obtain⟨a,c,g,n,r⟩:=h;refine⟨a,c,g,n,fun m=>?_⟩
 obtain⟨b,o,ha,t,e⟩:=r m;subst ha;have q:=fun i=>World.cell?_of_block (w:=w) (w':=w') (a:=⟨b,i,Z8⟩) (H b (by rw[g];rfl) t)
 exact⟨b,o,rfl,Nat.lt_of_lt_of_le t s,fun k H=>⟨(q _).trans (e k H).1,(q _).trans (e k H).2.1,(q _).trans (e k H).2.2⟩⟩
theorem RwS.below{w W:Z2}{l:Z5 Rw}(h:RwS w v l)(H:Below w.heap.size w W):RwS W v l:=h.keep H.size (fun b _ c=>H.block b c)
theorem RwS.nil:RwS w (.slice Z8 0 0) []:=⟨Z8,0,rfl,by decide,fun h=>by simp at h⟩
def SHf(w:Z2)(p:Nat)(f:Z3)(fl cd d:Int):Prop:=row w p=#[f,.int .i64 fl,.int .i64 cd,.int .i64 d]/\∀ o,w.frozen? ⟨p,o,Z8⟩=ZW
theorem nM(q n:Nat):(w.drewN q).drewN n=w.drewN (q+n):=by simp [WB,Nat.add_assoc]
theorem sN(h:SHf w p f fl cd d)(n:0<=d)(o:d<1000000000) :
 Calls Tryz.prog 372 #[.pointer (Z9 ⟨p,0,Z8⟩)] w fun r m=>r=.returned (.bool (decide (d+1=fl)))/\∃ q,m=(w.setCell ⟨p,3,Z8⟩ (.int .i64 (d+1))).drewN q:=by
 obtain⟨H,g⟩:=h;have C:=ae H 1 _ rfl;have c:=ae H 3 _ rfl;have F:=g 3;have s:=YR c;have t:IntKind.i64.wrap (d+1)=d+1:=IntWalk.i64_in _ ⟨by omega,by omega⟩
 have D:(w.setCell ⟨p,3,Z8⟩ (.int .i64 (d+1))).cell? ⟨p,1,Z8⟩=Z9 (.int .i64 fl):=by
  rw[Zt _ _ _ _ (by intro h;cases h)];exact C
 have l:(w.setCell ⟨p,3,Z8⟩ (.int .i64 (d+1))).cell? ⟨p,3,Z8⟩=Z9 (.int .i64 (d+1)):=World.cell?_setCell_same' _ _ _ (by rw[c];rfl);have E:=lh (show (d+1==fl)=decide (d+1=fl) by rw[Bool.eq_iff_iff,beq_iff_eq,ZU]);clear H g;go_enter Tryz.func372,Tryz.ntmps372
 go_wp2_with fail
 generalize e:w.setCell ⟨p,3,Z8⟩ (.int .i64 (d+1))=W at D l |-;have i:=lh e;clear e;go_quiet (fail)
 go_wp2_with fail
 go_ret
 exact⟨aF E.o,_,(congrArg (fun z=>WB z _) i.o).symm⟩
def iM(fl cd d:Int)(o:Zy Rw):Z3:=if d+1=fl then .tuple #[.string ⟨#[]⟩,.string ⟨#[]⟩,.int .i64 cd] else match o with|none=>.tuple #[.string ⟨#[]⟩,.string ⟨#[]⟩,.int .i64 6]|some x=>.tuple #[.string x.2.1,.string x.2.2,.int .i64 0]
theorem mN(a b:Z7):Op.bytesLess a.toList b.toList=bB (Z4 a) (Z4 b):=by
 rw[show a.toList=Z4 a from Xs a,show b.toList=Z4 b from Xs b,Ds.less_cmp];rfl
theorem Mn(id:Int)(key:Z7)(l:Z5 Rw)(w:Z2)(h:SHf w p f fl cd d)(hl:RwS w f l)(I:∀ b,f.ownBlock=Z9 b->b≠p)(h0:0<=d)(h1:d<1000000000) :
 Calls Tryz.prog 371 #[.pointer (Z9 ⟨p,0,Z8⟩),.int .i64 id,.string key] w fun r w'=>r=.returned (iM fl cd d (nx id (Z4 key) l))/\∃ q,w'=(w.setCell ⟨p,3,Z8⟩ (.int .i64 (d+1))).drewN q:=by
 have g:=sN p f fl cd d w h h0 h1;obtain⟨R,-⟩:=h;have Y:=ae R 2 _ rfl;have X:=ae R 0 _ rfl
 have d2:(w.setCell ⟨p,3,Z8⟩ (.int .i64 (d+1))).cell? ⟨p,2,Z8⟩=Z9 (.int .i64 cd):=by
  rw[Zt _ _ _ _ (by intro h;cases h)];exact Y
 have d0:(w.setCell ⟨p,3,Z8⟩ (.int .i64 (d+1))).cell? ⟨p,0,Z8⟩=Z9 f:=by
  rw[Zt _ _ _ _ (by intro h;cases h)];exact X
 have C:RwS (w.setCell ⟨p,3,Z8⟩ (.int .i64 (d+1))) f l:=hl.keep (by simp) fun b L t=>(de w ⟨p,3,Z8⟩ _).block b t (fun e=>I b L (Option.some.inj e))
 generalize w.setCell ⟨p,3,Z8⟩ (.int .i64 (d+1))=W at g d2 d0 C |-;clear R Y X hl I;unfold iM;by_cases F:d+1=fl
 .rw[ZL F] at g;rw[ZX F];have J:=lh g;clear g F C;go_enter Tryz.func371,Tryz.ntmps371
  go_wp2_with (go_at_call 372;(with_reducible refine J.o.mono ?_);rintro _ w2 ⟨rfl,q,rfl⟩)
  go_quiet (fail)
  go_wp2_with fail
  go_ret3
  exact⟨rfl,_,nM _ _ _⟩
 rw[ZF F] at g;rw[Z0 F];generalize hA:(match nx id (Z4 key) l with|none=>Value.tuple #[.string ⟨#[]⟩,.string ⟨#[]⟩,.int .i64 6]|some x=>.tuple #[.string x.2.1,.string x.2.2,.int .i64 0])=A;have S:=lh hA;clear hA;have J:=lh g;obtain⟨a,c,rfl,hz,hc⟩:=C;have U:=lh hc;clear g F hc;go_enter Tryz.func371,Tryz.ntmps371
 go_wp2_with (go_at_call 372;(with_reducible refine J.o.mono ?_);rintro _ w2 ⟨rfl,q0,rfl⟩)
 go_loopw [9,10] (fun bj i wr=>∃ (k:Nat) (j:Int),k<=l.length/\i=.int .i64 k/\bj=.int .i64 j/\NI id (Z4 key) l k j/\∃ q,wr=W.drewN q) (fun _ i _=>l.length - (intOf i).toNat)
 case atStart=>exact⟨0,-1,Nat.zero_le _,rfl,rfl,Or.inl ⟨rfl,rfl⟩,_,rfl⟩
 case round =>
  obtain⟨k,j,hk,rfl,rfl,hj,q,rfl⟩:=hrel;have HJ:=lh hj;clear hj;by_cases t:k<l.length
  .obtain⟨b,o,rfl,L,H⟩:=U.o (by omega);obtain⟨p0,p1,p2⟩:=H k t;have j1:(0:Int)<=(k:Int):=by omega
   have j2:(k:Int)<(l.length:Int):=by omega
   have K:Hid (nxq id (Z4 key) (nx id (Z4 key) (l.take k)) l[k]=ZW->NI id (Z4 key) l (k+1) j):=lh (fun h=>HJ.o.keep t h);have V:Hid (nxq id (Z4 key) (nx id (Z4 key) (l.take k)) l[k]=ZZ->NI id (Z4 key) l (k+1) k):=lh (fun h=>NI.take t h);by_cases E:l[k].1=id
   rotate_left
   .have t1:(l[k].1==id)=ZW:=by rw[beq_eq_false_iff_ne];exact E
    have Q:=lh (K.o (by unfold nxq;rw[ZF E];rfl));clear E H;go_wp2_with fail
    go_quiet (fail)
    go_wp2_with fail
    go_roundw
    case rel=>exact⟨k+1,j,by omega,by go_num,rfl,Q.o,_,rfl⟩
    case measure=>simp [intOf];omega
   have t1:(l[k].1==id)=ZZ:=by rw[beq_iff_eq];exact E
   have t2:=mN l[k].2.1 key;have T:=fd l[k].2.1 key;rcases Bool.eq_false_or_eq_true (bB (Z4 l[k].2.1) (Z4 key)) with s|s
   .rw[s] at t2;have Q:=lh (K.o (by unfold nxq;rw[oR s,Xt,Bool.and_false]));clear E s H T;go_wp2_with fail
    go_quiet (fail)
    go_wp2_with fail
    go_roundw
    case rel=>exact⟨k+1,j,by omega,by go_num,rfl,Q.o,_,rfl⟩
    case measure=>simp [intOf];omega
   rw[s] at t2;by_cases D:l[k].2.1=key
   .rw[ZL D] at T;have Q:=lh (K.o (by unfold nxq;rw[D,iO,Xt,Bool.and_false]));clear E s D H;go_wp2_with fail
    go_quiet (fail)
    go_wp2_with fail
    go_roundw
    case rel=>exact⟨k+1,j,by omega,by go_num,rfl,Q.o,_,rfl⟩
    case measure=>simp [intOf];omega
   rw[ZF D] at T;have Z:bB (Z4 key) (Z4 l[k].2.1)=ZZ:=mV s (fun e=>D (Ds.bl_inj e));have N:Hid (nxq id (Z4 key) (nx id (Z4 key) (l.take k)) l[k]=(match nx id (Z4 key) (l.take k) with|none=>ZZ|some y=>bB (Z4 l[k].2.1) (Z4 y.2.1))):=lh (by unfold nxq;rw[ZL E,Z];rfl);clear E s D Z;rcases HJ.o with ⟨m,rfl⟩|⟨i,B,rfl,P,n⟩
   .have Q:=lh (V.o (by rw[N.o,m]));clear m H;go_wp2_with fail
    go_quiet (fail)
    go_wp2_with fail
    go_roundw
    case rel=>exact⟨k+1,k,by omega,by go_num,rfl,Q.o,_,rfl⟩
    case measure=>simp [intOf];omega
   .obtain⟨s0,s1,s2⟩:=H i B;have i1:(0:Int)<=(i:Int):=by omega
    have i2:(i:Int)<(l.length:Int):=by omega
    have i3:¬ ((i:Int)<0):=by omega
    have t4:=mN l[k].2.1 l[i].2.1;have G:Hid (nxq id (Z4 key) (nx id (Z4 key) (l.take k)) l[k]=bB (Z4 l[k].2.1) (Z4 l[i].2.1)):=lh (by rw[N.o,n]);clear H n;rcases Bool.eq_false_or_eq_true (bB (Z4 l[k].2.1) (Z4 l[i].2.1)) with z|z
    .rw[z] at t4;have Q:=lh (V.o (by rw[G.o,z]));clear z;go_wp2_with fail
     go_quiet (fail)
     go_wp2_with fail
     go_roundw
     case rel=>exact⟨k+1,k,by omega,by go_num,rfl,Q.o,_,rfl⟩
     case measure=>simp [intOf];omega
    .rw[z] at t4;have Q:=lh (K.o (by rw[G.o,z]));clear z;go_wp2_with fail
     go_quiet (fail)
     go_wp2_with fail
     go_roundw
     case rel=>exact⟨k+1,i,by omega,by go_num,rfl,Q.o,_,rfl⟩
     case measure=>simp [intOf];omega
  .obtain rfl:k=l.length:=by omega
   have u:=HJ.o;unfold NI at u;rw[List.take_length] at u;rcases u with ⟨m,rfl⟩|⟨i,B,rfl,P,n⟩
   .have N:=lh m;clear m;go_wp2_with fail
    go_ret3
    exact⟨by rw[<-S.o,N.o];rfl,_,rfl⟩
   .have O:=lh n;obtain⟨b,o,rfl,L,H⟩:=U.o (by omega);obtain⟨s0,s1,s2⟩:=H i B;have i1:(0:Int)<=(i:Int):=by omega
    have i2:(i:Int)<(l.length:Int):=by omega
    have i3:¬ ((i:Int)<0):=by omega
    clear H n;go_wp2_with fail
    go_quiet (fail)
    go_wp2_with fail
    go_ret3
    exact⟨by rw[<-S.o,O.o];rfl,_,nM _ _ _⟩
end
section
open Go.RowKit
def rv:Z5 Rw->Z5 Z3
 | []=>[]
 | x::r=>[.int .i64 x.1,.string x.2.1,.string x.2.2]++rv r
theorem lK:∀ l:Z5 Rw,(rv l).length=l.length*3
 | []=>rfl
 | x::r=>by rw[rv,List.length_append,lK r,ZK,ZK,ZK,ZK,List.length_nil];omega
theorem bM:∀ (l:Z5 Rw),∀ u∈rv l,u.oneCell'=ZZ
 | [],u,h=>by cases h
 | x::r,u,h=>by
   rw[rv,List.mem_append] at h;rcases h with h|h
   .simp only[Zw,List.not_mem_nil,or_false] at h
    rcases h with rfl|rfl|rfl <;> rfl
   .exact bM r u h
theorem fB:∀ (l m:Z5 Rw),rv (l++m)=rv l++rv m
 | [],m=>rfl
 | x::r,m=>by rw[List.cons_append,rv,rv,fB r m,List.append_assoc]
theorem nd:∀ (l:Z5 Rw) (k:Nat) (h:k<l.length),(rv l)[k*3]?=Z9 (.int .i64 l[k].1)/\(rv l)[k*3+1]?=Z9 (.string l[k].2.1)/\(rv l)[k*3+2]?=Z9 (.string l[k].2.2)
 | x::r,0,_=>⟨rfl,rfl,rfl⟩
 | x::r,k+1,h=>by
   have:=nd r k (by simpa using h);have e:(k+1)*3=k*3+3:=by omega
   rw[e,rv];simpa using this
theorem Hr(l:Z5 Rw)(P:Nat->Z3->Prop)(h:∀ k (h:k<l.length),P (k*3) (.int .i64 l[k].1)/\P (k*3+1) (.string l[k].2.1)/\P (k*3+2) (.string l[k].2.2)):∀ j u,(rv l)[j]?=Z9 u->P j u:=by
 intro j u H;have o:=(List.getElem?_eq_some_iff.1 H).1;rw[lK] at o;have c:j / 3<l.length:=by omega
 obtain⟨g,i,m⟩:=h (j / 3) c;obtain⟨q,Q,n⟩:=nd l (j / 3) c;rcases (by omega:j=j / 3*3\/j=j / 3*3+1\/j=j / 3*3+2) with e|e|e
 .rw[<-e] at g q;rw[q] at H;cases H;exact g
 .rw[<-e] at i Q;rw[Q] at H;cases H;exact i
 .rw[<-e] at m n;rw[n] at H;cases H;exact m
theorem RwS.cells{w:Z2}{l:Z5 Rw}(h:RwS w v l):CS w 3 v l.length (rv l):=by
 obtain⟨a,c,rfl,-,e⟩:=h;refine⟨a,c,rfl,lK l,fun H=>?_⟩
 obtain⟨b,o,rfl,-,p⟩:=e H;refine⟨_,rfl,Hr l (fun j u=>w.cell? ((⟨b,o,Z8⟩:Addr).add j)=Z9 u) fun k g=>?_⟩
 rw[Yr,Yr,Yr];exact p k g
theorem jX{w:Z2}{l:Z5 Rw}(z:l.length<=1000000)(h:CS w 3 v l.length (rv l)):RwS w v l:=by
 obtain⟨a,c,rfl,n,g⟩:=h;refine⟨a,c,rfl,z,fun H=>?_⟩
 obtain⟨⟨b,o,s⟩,rfl,p⟩:=g H;have P:=p 0 _ (nd l 0 H).1
 obtain rfl:s=Z8:=by
  have:=World.cell?_spot P;simpa [WX] using this
 refine⟨b,o,rfl,YR (by simpa [WX] using P:w.cell? ⟨b,o,Z8⟩=_),fun k i=>?_⟩
 obtain⟨q,Q,m⟩:=nd l k i;have r:=p _ _ q;have R:=p _ _ Q;have e:=p _ _ m;rw[Yr] at r R e;exact⟨r,R,e⟩
theorem aj(o:Obj):Below w.heap.size w (w.alloc o):=(Below.refl _ _).alloc (Nat.le_refl _) o
theorem bR:Tryz.prog.info? 89=Z9 ((Tryz.prog.info? 89).getD default):=by kernel_rfl
theorem bO:((Tryz.prog.info? 89).getD default).zero=Z9 (.agg #[.int .i64 0,.string ⟨#[]⟩,.string ⟨#[]⟩]):=by kernel_rfl
theorem bP:((Tryz.prog.info? 89).getD default).size=3:=by kernel_rfl
theorem bQ:((Tryz.prog.info? 89).getD default).bytes=40:=by kernel_rfl
theorem eN(W:Z2)(x:Rw)(t:TypeId)(k:Nat)(H:k=W.heap.size):CS (W.alloc (.cells #[.int .i64 x.1,.string x.2.1,.string x.2.2] t)) 3 (.slice (Z9 ⟨k,0,Z8⟩) 1 1) 1 (rv [x]):=by
 subst H;refine⟨_,_,rfl,rfl,fun _=>⟨_,rfl,fun j u h=>?_⟩⟩
 rw[Yr,Nat.zero_add,cell_of_row _ W.heap.size j _ t (0,0) (heap_alloc_new W _)];have:rv [x]=(#[Value.int .i64 x.1,Value.string x.2.1,Value.string x.2.2]:Array Z3).toList:=rfl;rw[this] at h;simpa using h
attribute [local go_sem ↓] fb
attribute [local go_sem] aH bE bH az aM
end
end Go.Proofs.YtnkjliahpeebjaaGreatDoor
