/- Catalogs. -/
import Derived.Test.YtnkjliahpeebjaaGreatDoorMz
set_option maxRecDepth 8000
set_option maxHeartbeats 16000000
open _root_ renaming ByteArray->Z6,List->Z1,decide_eq_true_eq->ZU,if_neg->ZS,if_pos->ZP,beq_eq_false_iff_ne->ZJ,decide_eq_true->ZI,decide_eq_false->ZG,congrArg->Y7,beq_iff_eq->YV
open Bool renaming true->ZX,false->ZW,and_eq_true->ZQ
open Nat renaming le_refl->ZV,zero_le->Y6
open List renaming length_append->ZO,length_map->Y4,getElem?_map->Xz
open Classical renaming byContradiction->YD
namespace Go.Proofs.YtnkjliahpeebjaaGreatDoor
variable(W:World){x:Fu}(l:Z1 Rw){b:Z6}(id:Int)(name:Z6)
theorem pD{l:Z1 Rw}{id K:Int}{name:Z6}(h:(bz l id K name).2=0):(0<=K/\K<=4)/\aA (bz l id K name).1=ZX/\aC (bz l id K name).1.1.kind (bz l id K name).1.1.name=aC K name:=by
 unfold bz aG at h |-;by_cases a:aC K name=⟨#[]⟩
 .rw[ZP a] at h;exact absurd (show (1:Int)=0 from h) (by decide)
 rw[ZS a,ZS (by decide)] at h |-;refine⟨?_,?_⟩
 .by_cases H:Ek.isKind K=ZX
  .unfold Ek.isKind at H;simpa using H
  .exfalso
   refine a ?_
   unfold aC Ek.key;rw[ZS (fun q=>H q.1)]
 .cases c:bZ id (aC K name) l with
  | none=>rw[c] at h;exact absurd (show (6:Int)=0 from h) (by decide)
  | some s =>
    rw[c] at h;dsimp only at h |-;obtain⟨d,H⟩:=lw (k:=aC K name) (r:=s) (fun q=>q h);refine⟨d,?_⟩
    have e:aC (bw (aC K name) s).1.1.kind (bw (aC K name) s).1.1.name=⟨(dL (bw (aC K name) s).1).toArray⟩:=rfl;rw[e,H,Ds.mk_bl]
theorem oP(name:Z6):∀ (S:Z1 Rw) (o:Z1 Fu),(eH name S o).1.length<=o.length+S.length
 | [],o=>ZV _
 | x::S,o=>by
   rw[eH,List.length_cons];split
   .exact Y6 _
   .split
    .have:=oP name S (o++[(bw x.2.1 x.2.2).1]);rw[ZO,List.length_singleton] at this;omega
    .have:=oP name S o;omega
theorem mv:(cW l id name).1.length<=l.length:=by
 have h:=oP name (srt id 65 l) [];have H:=qy id 65 l;unfold cW;rw[List.length_nil] at h;omega
def gX(l:Z1 Rw)(id k:Int)(name:Z6):Z1 Ch × Int :=
 if (bz l id k name).2≠0 then ([],(bz l id k name).2)
 else if k=1/\jj l id name≠[] then ([],9)
 else if k<=1 then (if (cW l id name).2≠0 then ([],(cW l id name).2) else ((cW l id name).1.map (bJ id)++[bJ id (bz l id k name).1],0))
 else ([bJ id (bz l id k name).1],0)
def gu(l:Z1 Rw)(id:Int)(name b:Z6):Z1 Ch × Int :=
 if Ds.name (Ds.bl b)=ZW then ([],1)
 else if (bz l id 0 name).2≠0 then ([],(bz l id 0 name).2)
 else if Ds.gen (Ds.bl name)=ZX\/Ds.gen (Ds.bl b)=ZX then ([],7)
 else if cE (dx l id b).2≠0 then ([],cE (dx l id b).2)
 else if (cW l id name).2≠0 then ([],(cW l id name).2)
 else (jO id (bz l id 0 name).1 b (cW l id name).1,0)
theorem pH(h:aA x=ZX):0<=x.1.kind/\x.1.kind<=4:=by
 unfold aA at h;by_cases k0:x.1.kind=0
 .omega
 by_cases k1:x.1.kind=1
 .omega
 by_cases k:x.1.kind=2
 .omega
 by_cases K:x.1.kind=3
 .omega
 by_cases a:x.1.kind=4
 .omega
 rw[ZS k0,ZS k1,ZS k,ZS K,ZS a] at h;cases h
def jb(l:Z1 Rw)(k:Int)(name:Z6):Z1 Ch × Int :=
 if (dp l k name).2≠0 then ([],(dp l k name).2) else gX l (dp l k name).1 k name
def jd(l:Z1 Rw)(name b:Z6):Z1 Ch × Int :=
 if Ds.name (Ds.bl name)=ZW\/Ds.name (Ds.bl b)=ZW then ([],1)
 else if (cj l name).2≠0 then ([],(cj l name).2)
 else if (cj l b).2≠0 then ([],(cj l b).2)
 else if (cj l name).1≠(cj l b).1 then ([],9)
 else gu l (cj l name).1 name b
theorem vD{p:Z6}{id:Int}(h:dy p=ZX)(c:2<=id)(d:id<=15):aA (di p id)=ZX:=by
 unfold dy at h;rw[ZQ,ZU] at h;obtain⟨n,H⟩:=h;have a:(Ds.bl p).count 46<2:=by unfold Lib.countByte at H;unfold Ds.bl;omega
 have e:=Ds.pieces_len (Ds.bl p);unfold aA di;rw[ZS (show ¬ ((3:Int)=0) by decide),ZS (show ¬ ((3:Int)=1) by decide),ZS (show ¬ ((3:Int)=2) by decide),ZP (show (3:Int)=3 from rfl)];unfold fK;rw[ZQ,ZQ];refine⟨⟨?_,?_⟩,(dV _ _ _ _ _ _).2 ⟨rfl,rfl,rfl⟩⟩
 .unfold Vp.nameC;simp only[n,Bool.true_and,ZU]
  omega
 .unfold Vp.cat Vp.rng;simp
  omega
def jf(l:Z1 Rw)(p:Z6)(id:Int):Z1 Ch × Int :=
 if dy p=ZW\/id<2\/15<id then ([],1)
 else if (bz l 1 3 p).2=0 then ([],5)
 else if (bz l 1 3 p).2≠6 then ([],(bz l 1 3 p).2)
 else if (cj l p).2≠0 then ([],(cj l p).2)
 else if fI l (cj l p).1 p=ZX then ([],9)
 else ([bI 1 (di p id)],0)
def jh(l:Z1 Rw)(p:Z6):Z1 Ch × Int :=
 if dy p=ZW then ([],1)
 else if (bz l 1 3 p).2≠0 then ([],(bz l 1 3 p).2)
 else if fI l (bz l 1 3 p).1.1.cat p=ZX then ([],9)
 else ([(1,1,aC 3 p,⟨#[]⟩,⟨#[]⟩)],0)
theorem Eg(h:aA x=ZX)(k:x.1.kind=0)(n:Ds.name (Ds.bl b)=ZX):aA (dz x b)=ZX:=by
 obtain⟨e,L,g⟩:=x;unfold aA dz at *;dsimp only at *;rw[ZP k] at h |-;unfold fL at *;dsimp only;rw[ZQ,ZQ] at h |-;obtain⟨⟨-,H⟩,c⟩:=h;refine⟨⟨n,H⟩,?_⟩
 obtain⟨E,d,a⟩:=(dV _ _ _ _ _ _).1 c;refine (dV _ _ _ _ _ _).2 ⟨?_,rfl,a⟩
 have:=Y7 (fun z:En=>{ z with name:=b }) E;exact this
theorem Eh(h:aA x=ZX)(k:x.1.kind=2)(n:Ds.name (Ds.bl b)=ZX)(H:b≠x.1.name):aA (bT x b)=ZX:=by
 obtain⟨e,L,g⟩:=x;unfold aA bT at *;dsimp only at *;rw[ZS (by omega),ZS (by omega),ZP k] at h |-;unfold eY at *;dsimp only;rw[ZQ,ZQ] at h |-;obtain⟨⟨d,-⟩,f⟩:=h;obtain⟨E,a,c⟩:=(dV _ _ _ _ _ _).1 f;refine⟨⟨d,?_⟩,(dV _ _ _ _ _ _).2 ⟨?_,a,c⟩⟩
 .unfold Vp.ali;dsimp only;rw[n,fd,ZG H];rfl
 .have:=Y7 (fun z:En=>{ z with target:=b }) E;exact this
theorem pr(h:aA x=ZX)(k:x.1.kind=2):x.2.1=[]/\x.2.2=[]/\x.1.name.size<=31:=by
 have H:=(iR x h).1;rw[Ds.bl_length] at H;obtain⟨e,L,g⟩:=x;unfold aA at h;dsimp only at *;rw[ZS (by omega),ZS (by omega),ZP k] at h;unfold eY at h;rw[ZQ] at h;obtain⟨c,E,a⟩:=(dV _ _ _ _ _ _).1 h.2;exact⟨E.symm,a.symm,H⟩
theorem oO(name:Z6)(P:Fu->Prop):∀ (S:Z1 Rw) (o:Z1 Fu),(∀ a∈o,P a)->(∀ x∈S,(bw x.2.1 x.2.2).2=0->P (bw x.2.1 x.2.2).1)->∀ a∈(eH name S o).1,P a
 | [],o,h,_=>h
 | x::S,o,h,c=>by
   rw[eH];by_cases H:(bw x.2.1 x.2.2).2≠0
   .rw[ZP H];intro a ha;cases ha
   .rw[ZS H];have f:=c x (by simp) (YD fun q=>H q);by_cases e:(bw x.2.1 x.2.2).1.1.target=name
    .rw[ZP e];refine oO name P S _ (fun a ha=>?_) (fun y d=>c y (by simp [d]))
     rcases List.mem_append.1 ha with ha|ha
     .exact h a ha
     .rw[List.mem_singleton] at ha;rw[ha];exact f
    .rw[ZS e];exact oO name P S _ h (fun y d=>c y (by simp [d]))
theorem Ar{k:Int}(h:Ek.letter k=65):k=2:=by
 unfold Ek.letter at h
 (repeat' split at h) <;> first|assumption|(exact absurd h (by decide))
theorem uo:∀ a∈(cW l id name).1,aA a=ZX/\a.1.kind=2/\∃ x∈l,x.1=id/\x.2.1=aC 2 a.1.name:=by
 unfold cW;refine oO name (fun a=>aA a=ZX/\a.1.kind=2/\∃ x∈l,x.1=id/\x.2.1=aC 2 a.1.name) (srt id 65 l) [] (fun a ha=>by cases ha) fun x i f=>?_
 obtain⟨g,H⟩:=uX i;obtain⟨d,Q⟩:=lw (k:=x.2.1) (r:=x.2.2) (fun q=>q f);generalize (bw x.2.1 x.2.2).1=y at d Q |-;unfold cH at H;simp only[ZQ,ZU] at H
 have c:y.1.kind=2:=by
  have h:=H.2;rw[show aU x=Ds.bl x.2.1 from rfl,<-Q] at h;unfold dL Ek.key at h;split at h
  .exact Ar (by simpa using h)
  .simp at h
 refine⟨d,c,x,g,H.1,?_⟩
 have e:aC 2 y.1.name=⟨(dL y).toArray⟩:=by unfold aC dL;rw[c]
 rw[e,Q,Ds.mk_bl]
theorem sL{id:Int}{key:Z6}:∀ {l:Z1 Rw},bZ id key l=none->∀ x∈l,¬ (x.1=id/\x.2.1=key)
 | [],_,x,H=>by cases H
 | y::l,h,x,H=>by
   rw[bZ] at h;split at h
   .cases h
   .rename_i a;rcases List.mem_cons.1 H with rfl|H
    .exact a
    .exact sL h x H
theorem sU{l:Z1 Rw}{id k:Int}{name:Z6}(h:(bz l id k name).2=6):bZ id (aC k name) l=none:=by
 unfold bz aG at h;by_cases H:aC k name=⟨#[]⟩
 .rw[ZP H] at h;exact absurd (show (1:Int)=6 from h) (by decide)
 rw[ZS H,ZS (by decide)] at h
 cases r:bZ id (aC k name) l with
 | none=>rfl
 | some s =>
   rw[r] at h;exfalso
   dsimp only at h;unfold bw at h;split at h
   .exact absurd (show (11:Int)=6 from h) (by decide)
   .split at h
    .exact absurd (show (0:Int)=6 from h) (by decide)
    .exact absurd (show (11:Int)=6 from h) (by decide)
theorem Ax{l:Z1 Rw}{id:Int}{name:Z6}(h:cE (dx l id name).2=0):bZ id (aC 2 name) l=none:=by
 have H:(dx l id name).2=6:=by
  unfold cE at h;split at h
  .exact absurd h (by decide)
  .split at h
   .assumption
   .rename_i q _;exact absurd h q
 unfold dx at H;split at H
 .exact absurd (show (1:Int)=6 from H) (by decide)
 rw[ij,ij,ij,ij] at H;split at H
 .split at H
  .split at H
   .rename_i q;exact sU q
   .exact sU H
  .rename_i q;exact absurd H q
 .rename_i q;exact absurd H q
theorem Fw{l:Z1 Rw}{id:Int}{name b:Z6}(h:cE (dx l id b).2=0):∀ a∈(cW l id name).1,b≠a.1.name:=by
 intro a ha e;obtain⟨-,-,x,c,d,H⟩:=uo l id name a ha;rw[<-e] at H;exact sL (Ax h) x c ⟨d,H⟩
theorem Cp{l:Z1 Rw}{id:Int}{name:Z6}(h:(bz l id 0 name).2=0):aA (bz l id 0 name).1=ZX/\(bz l id 0 name).1.1.kind=0:=by
 obtain⟨-,a,c⟩:=pD h;refine⟨a,?_⟩
 have e:=Y7 Ds.bl c;rw[iU,iU] at e;have d:=pH a;have z:=(iR _ a).1;have H:=ki _ a;unfold dL at H;rw[e] at H;unfold Ek.key at e H;rw[ZP ⟨by unfold Ek.isKind;simp;omega,by omega⟩] at e;split at e
 .injection e with E f
  generalize (bz l id 0 name).1.1.kind=k at E d;unfold Ek.letter at E;rw[ZP (show (0:Int)=0 from rfl)] at E
  (repeat' split at E) <;> first|assumption|(exact absurd E (by decide))
 .cases e
section
open Go.RowKit
set_option linter.unusedSimpArgs false
attribute [local go_sem ↓] aZ fb bf bq cl eX
attribute [local go_sem] bn aS aH bE bH aK aT ak aI aw az aM ah aQ aL aP aO aR aY aW bD ap aq
theorem gH{w a:World}{B e s m:Nat}{v:Value}{X:Z1 Value}(h:w.ownsRow B e s v m X)(H:Below w.heap.size w a):a.ownsRow B e s v m X:=aV h (fun x c=>H.block x (ax h x c).2)
theorem pB(k:Z6):CS (W.alloc (.cells #[.int .i64 1,.int .i64 id,.string k,.string ⟨#[]⟩,.string ⟨#[]⟩] 67)) 5 (.slice (some ⟨W.heap.size,0,none⟩) 1 1) 1 (cv [((1,id,k,⟨#[]⟩,⟨#[]⟩):Ch)]):=iE W (1,id,k,⟨#[]⟩,⟨#[]⟩) _ _ rfl
theorem zP(v:Value)(l:Z1 Rw)(id K:Int)(name:Z6)(w:World)(hl:RwS w v l)(hn:l.length<=1000)(b7:∀ x∈l,x.2.1.size<=60) :
 Calls Tryz.prog 129 #[v,.int .i64 id,.int .i64 K,.string name] w fun r w'=>Ch2 w w' (gX l id K name) r:=by
 have S:=lh (iA v l id K name w hl);have j:=lh (fun W (b:Below w.heap.size w W)=>yz v l id name W hn (hl.below b) b7);have t:=fun W (b:Below w.heap.size w W)=>rA v l id name W hn (hl.below b)
 have E:=mv l id name;obtain⟨a0,c0,rfl,-⟩:=_root_.id hl;unfold gX;generalize bz l id K name=gg at S |-;obtain⟨y,a3⟩:=gg;dsimp only at S |-;clear hl b7;by_cases h0:a3=0
 rotate_left
 .rw[ZP h0];have t1:(a3 != 0)=ZX:=bne_iff_ne.2 h0;clear h0 j t;go_enter Tryz.func129,Tryz.ntmps129
  go_wp2_with (go_at_call 134;(refine S.o.mono ?_);rintro _ f ⟨⟨A,g,rfl,I,a,c,d⟩,H⟩;have e:=ay y.1 A g (aD I) (aE a);have Q:=lh (bt H (aj f (.cells (y.1.vals A g) 29)));clear I a c d H)
  go_ret2
  exact⟨_,rfl,bu _,Q.o⟩
 subst h0;rw[ZS (fun h=>h rfl)];generalize jj l id name=T at j |-;by_cases G:K=1/\T≠[]
 .rw[ZP G];have t2:(K==1)=ZX:=YV.2 G.1;have hp:0<T.length:=List.length_pos_iff.2 G.2;have t3:decide ((0:Int)<(T.length:Int))=ZX:=ZI (by omega);have t6:decide (0<T.length)=ZX:=ZI hp;clear G t;go_enter Tryz.func129,Tryz.ntmps129
  go_wp2_with first|go_at_call 134;(refine S.o.mono ?_);rintro _ f ⟨⟨A,g,rfl,I,a,c,d⟩,H⟩;have e:=ay y.1 A g (aD I) (aE a);have Q:=lh (bt H (aj f (.cells (y.1.vals A g) 29)));clear I a c d H|go_at_call 214;(refine (j.o _ Q.o).mono ?_);rintro _ w3 ⟨ov,rfl,m,H⟩;obtain⟨na,nc,rfl⟩:=bX m;have B3:=lh (bt Q.o H);clear m H
  all_goals try (exfalso;omega)
  go_ret2
  exact⟨_,rfl,bu _,B3.o⟩
 rw[ZS G];have ao:∀ W (x:Fu) A g,bh (x.1.vals A g).toList=ZX->Calls Tryz.prog 216 #[.int .i64 id,.agg (x.1.vals A g)] W fun r w'=>r=.returned (.agg #[.int .i64 1,.int .i64 id,.string (aC x.1.kind x.1.name),.string ⟨#[]⟩,.string ⟨#[]⟩])/\Below W.heap.size W w':=fun W x A g h=>rX id x A g W h
 have b1:=lh ao;have ad:=fun W A g h=>ao W y A g h
 have b5:bJ id y=(1,id,aC y.1.kind y.1.name,⟨#[]⟩,⟨#[]⟩):=rfl;rw[b5];generalize aC y.1.kind y.1.name=ky at ad |-;have a7:=lh ad;clear ao ad b5;by_cases B:K<=1
 rotate_left
 .rw[ZS B];have t2:(K==1)=ZW:=ZJ.2 (by omega);have t4:decide (K<=1)=ZW:=ZG B;clear G B t j;go_enter Tryz.func129,Tryz.ntmps129
  go_upto_region 6 with (go_at_call 134;(refine S.o.mono ?_);rintro _ f ⟨⟨A,g,rfl,I,a,c,d⟩,H⟩;have e:=ay y.1 A g (aD I) (aE a);have J:=ak f (y.1.vals A g) 29 (0,0);have U:=bt H (aj f (.cells (y.1.vals A g) 29));clear I a c d H)
  generalize f.alloc (.cells (y.1.vals A g) 29)=p at J U |-;generalize f.heap.size=q at J |-;have V:=lh (show (p.alloc (.cells #[] 67)).ownsRow w.heap.size 67 5 (.slice (some ⟨p.heap.size,0,none⟩) 0 0) 0 [] from eP rfl U.size);have B6:=lh (bt U (aj p (.cells #[] 67)));have R6:=am (aj p (.cells #[] 67)) J (by rw[ah];decide);clear J
  go_wp2_with first|go_at_call 216;(refine (a7.o _ _ _ e).mono ?_);rintro _ w7 ⟨rfl,H⟩;have O7:=lh (gH V.o H);have B7:=lh (bt B6.o H);clear H|at_builtin;refine dQ _ rfl (.tmp 65) (.tmp 69) 53 67 _ _ 5 64 rfl Tryz.underlying53 gA fZ ge gi rfl (by decide) w.heap.size _ (.slice (some ⟨w7.heap.size,0,none⟩) 1 1) 0 1 [] (cv [((1,id,ky,⟨#[]⟩,⟨#[]⟩):Ch)]) rfl (gH O7.o (aj w7 _)) rfl (pB w7 id ky) (fC _) (by unfold maxLen;omega) (by omega) (by simp;have:=B7.o.size;omega) ?_;intro a8 c8 w8 n N _;have O8:=lh n;have B8:=lh ((bt B7.o (aj w7 _)).trans (fy N (fun q D=>(ax O7.o q D).1) (bt B7.o (aj w7 _)).size));clear n N
  go_ret2
  exact⟨.slice a8 (0+1) c8,rfl,jp (l:=[(1,id,ky,⟨#[]⟩,⟨#[]⟩)]) (by simp) (dU O8.o),B8.o⟩
 rw[ZP B];have t4:decide (K<=1)=ZX:=ZI B;have E:(cW l id name).1.length<=1000:=by have:=E;omega
 generalize cW l id name=aa at t E |-;obtain⟨s,ac⟩:=aa;dsimp only at t E |-;have a5:=lh t;clear t;by_cases Y:ac=0
 rotate_left
 .rw[ZP Y];have t5:(ac != 0)=ZX:=bne_iff_ne.2 Y
  have z:(K=1/\T=[])\/K≠1:=by
   by_cases h:K=1
   .exact .inl ⟨h,YD fun q=>G ⟨h,q⟩⟩
   .exact .inr h
  clear G B Y b1 a7;rcases z with ⟨D,C⟩|D
  .have t2:(K==1)=ZX:=YV.2 D;have t3:decide ((0:Int)<(T.length:Int))=ZW:=by rw[C];rfl
   have t6:decide (0<T.length)=ZW:=by rw[C];rfl
   clear D C;go_enter Tryz.func129,Tryz.ntmps129
   go_wp2_with first|go_at_call 134;(refine S.o.mono ?_);rintro _ f ⟨⟨A,g,rfl,I,a,c,d⟩,H⟩;have e:=ay y.1 A g (aD I) (aE a);have Q:=lh (bt H (aj f (.cells (y.1.vals A g) 29)));clear I a c d H|go_at_call 214;(refine (j.o _ Q.o).mono ?_);rintro _ w3 ⟨ov,rfl,m,H⟩;obtain⟨na,nc,rfl⟩:=bX m;have B3:=lh (bt (bt Q.o H) (aj w3 (.cells #[] 67)));clear m H|go_at_call 215;(refine (a5.o _ B3.o).mono ?_);rintro _ w4 ⟨hv,a4,rfl,X,H⟩;obtain⟨ja,jc,rfl⟩:=bX (jC X.own);have B4:=lh (bt B3.o H);clear H X
   all_goals try (exfalso;omega)
   go_ret2
   exact⟨_,rfl,bu _,B4.o⟩
  .have t2:(K==1)=ZW:=ZJ.2 D;clear D j;go_enter Tryz.func129,Tryz.ntmps129
   go_wp2_with first|go_at_call 134;(refine S.o.mono ?_);rintro _ f ⟨⟨A,g,rfl,I,a,c,d⟩,H⟩;have e:=ay y.1 A g (aD I) (aE a);have B3:=lh (bt (bt H (aj f (.cells (y.1.vals A g) 29))) (aj _ (.cells #[] 67)));clear I a c d H|go_at_call 215;(refine (a5.o _ B3.o).mono ?_);rintro _ w4 ⟨hv,a4,rfl,X,H⟩;obtain⟨ja,jc,rfl⟩:=bX (jC X.own);have B4:=lh (bt B3.o H);clear H X
   go_ret2
   exact⟨_,rfl,bu _,B4.o⟩
 subst Y;rw[ZS (fun h=>h rfl)]
 have z:(K=1/\T=[])\/K≠1:=by
  by_cases h:K=1
  .exact .inl ⟨h,YD fun q=>G ⟨h,q⟩⟩
  .exact .inr h
 clear G B;rcases z with ⟨D,C⟩|D
 have t2:(K==1)=ZX:=YV.2 D;have t3:decide ((0:Int)<(T.length:Int))=ZW:=by rw[C];rfl
 have t6:decide (0<T.length)=ZW:=by rw[C];rfl
 clear D C
 focus
  go_enter Tryz.func129,Tryz.ntmps129
  go_upto_region 6 with (first
   | (go_at_call 134;(refine S.o.mono ?_);rintro _ f ⟨⟨A,g,rfl,I,a,c,d⟩,H⟩;have e:=ay y.1 A g (aD I) (aE a);have R:=ak f (y.1.vals A g) 29 (0,0);have Q:=lh (bt H (aj f (.cells (y.1.vals A g) 29)));clear I a c d H)
   | (go_at_call 214;(refine (j.o _ Q.o).mono ?_);rintro _ p ⟨ov,rfl,m,H⟩;obtain⟨na,nc,rfl⟩:=bX m;have J:=am H R (by rw[ah];decide);have U:=bt Q.o H;clear m H R))
  all_goals try (exfalso;omega)
  generalize f.heap.size=q at J |-
 rotate_left;have t2:(K==1)=ZW:=ZJ.2 D;clear D
 focus
  go_enter Tryz.func129,Tryz.ntmps129
  go_upto_region 6 with (go_at_call 134;(refine S.o.mono ?_);rintro _ f ⟨⟨A,g,rfl,I,a,c,d⟩,H⟩;have e:=ay y.1 A g (aD I) (aE a);have J:=ak f (y.1.vals A g) 29 (0,0);have U:=bt H (aj f (.cells (y.1.vals A g) 29));clear I a c d H)
  generalize f.alloc (.cells (y.1.vals A g) 29)=p at J U |-;generalize f.heap.size=q at J |-
 all_goals
  clear j S;have V:=lh (show (p.alloc (.cells #[] 67)).ownsRow p.heap.size 67 5 (.slice (some ⟨p.heap.size,0,none⟩) 0 0) 0 [] from eP rfl (ZV _));have B6:=lh (bt U (aj p (.cells #[] 67)));have bi:=lh J;have ba:=lh U;clear J U;go_wp2_with (go_at_call 215;(refine (a5.o _ B6.o).mono ?_);rintro _ w7 ⟨hv,a4,rfl,X,H⟩;obtain⟨ja,jc,rfl⟩:=bX (jC X.own);have bc:=lh X;have a6:=lh H;clear H X)
  have b2:=lh (show KW p w7 w7 (.slice (some ⟨p.heap.size,0,none⟩) 0 0) from ⟨kd a6.o,ZV _,fun _ _ _=>rfl,fun b D=>.inl (by cases D;rfl),(kd a6.o).size⟩);have b3:=lh (gH V.o a6.o);clear V;go_loopw [12,15] (fun v i wr=>∃ (k:Nat),k<=s.length/\i=.int .i64 k/\Hid (wr.ownsRow p.heap.size 67 5 v k (cv ((s.take k).map (bJ id))))/\Hid (KW p w7 wr v)) (fun _ i _=>s.length - (intOf i).toNat)
  case atStart=>exact⟨0,Y6 _,rfl,b3,b2⟩
  case round =>
   clear b2 b3;obtain⟨k,hk,rfl,HO,HK⟩:=hrel;obtain⟨ra,rc,rfl⟩:=bX HO.o;have zK:=HK.o.s;have zB:=HK.o.b.size;by_cases Z:k<s.length
   .obtain⟨bp,br,GG,b9,ab,O,-⟩:=(bc.o.keep HK.o.s (fun y G h2=>HK.o.k y (Nat.lt_of_lt_of_le (by simp) G) h2)).es (by rw[Y4];omega);rw[Y4] at b9 ab O;injection b9 with v1 v2 v3
    subst v1 v3;clear v2;obtain⟨b,o,rfl,H,a1,c1,a2,a9,F,-,-,-⟩:=ab.2 k Z
    have b4:GG k=cY s[k]:=by
     have e1:(lst GG s.length)[k]?=(s.map cY)[k]?:=by rw[O]
     unfold lst at e1;rw[Xz,List.getElem?_range Z,Xz,List.getElem?_eq_getElem Z] at e1;exact Option.some.inj e1
    rw[b4] at F;have b0:s.take (k+1)=s.take k++[s[k]]:=List.take_succ_eq_append_getElem Z;generalize s[k]=x at F b0;have ar:mid wr b (o+k*33)=x.1.vals (.slice a1 x.2.1.length c1) (.slice a2 x.2.2.length a9):=F;have av:=ay x.1 (.slice a1 x.2.1.length c1) (.slice a2 x.2.2.length a9) rfl rfl;have bk:(mid wr b (o+k*33)).size=33:=by rw[ar];exact ah _ _ _
    have j1:(0:Int)<=(k:Int):=by omega
    have j2:(k:Int)<(s.length:Int):=by omega
    have P:((s.take (k+1)).map (bJ id))=((s.take k).map (bJ id))++[(1,id,aC x.1.kind x.1.name,⟨#[]⟩,⟨#[]⟩)]:=by rw[b0,List.map_append];rfl
    have af:=fun W=>b1.o W x (.slice a1 x.2.1.length c1) (.slice a2 x.2.2.length a9) av
    generalize aC x.1.kind x.1.name=k3 at P af;have bb:=lh af;have be:=lh P;clear af P b0 F b4 ab O
    go_wp2_with first|go_at_call 216;(refine (bb.o _).mono ?_);rintro _ w9 ⟨rfl,u⟩;have O9:=lh (gH HO.o u);have K9:=lh (HK.o.below u);clear u|at_builtin;refine dQ _ rfl (.tmp 56) (.tmp 63) 53 67 _ _ 5 64 rfl Tryz.underlying53 gA fZ ge gi rfl (by decide) p.heap.size (.slice ra k rc) (.slice (some ⟨w9.heap.size,0,none⟩) 1 1) k 1 _ (cv [((1,id,k3,⟨#[]⟩,⟨#[]⟩):Ch)]) rfl (gH O9.o (aj w9 _)) rfl (pB w9 id k3) (fC _) (by unfold maxLen;omega) (by omega) (by simp;have:=K9.o.b.size;omega) ?_;intro aX cX wX n b6 L;have OX:=lh n;have KX:=lh ((K9.o.below (aj w9 _)).grown b6 L);clear n b6 L
    go_roundw
    case rel=>exact⟨k+1,by omega,by go_num,lh (by rw[be.o,gP];exact OX.o),KX⟩
    case measure=>simp [intOf];omega
   .obtain rfl:k=s.length:=by omega
    rw[List.take_of_length_le (ZV _)] at HO;have RE:=am HK.o.b bi.o (by rw[ah];decide)
    go_wp2_with first|go_at_call 216;(refine (a7.o _ _ _ e).mono ?_);rintro _ w9 ⟨rfl,u⟩;have O9:=lh (gH HO.o u);have K9:=lh (HK.o.below u);clear u|at_builtin;refine dQ _ rfl (.tmp 65) (.tmp 69) 53 67 _ _ 5 64 rfl Tryz.underlying53 gA fZ ge gi rfl (by decide) p.heap.size (.slice ra s.length rc) (.slice (some ⟨w9.heap.size,0,none⟩) 1 1) s.length 1 (cv (s.map (bJ id))) (cv [((1,id,ky,⟨#[]⟩,⟨#[]⟩):Ch)]) rfl (gH O9.o (aj w9 _)) rfl (pB w9 id ky) (fC _) (by unfold maxLen;omega) (by omega) (by simp;have:=K9.o.b.size;omega) ?_;intro a8 c8 w8 n N L;have O8:=lh n;have K8:=lh ((K9.o.below (aj w9 _)).grown N L);clear n N L
    go_ret2
    refine⟨.slice a8 (s.length+1) c8,rfl,?_,bt ba.o K8.o.b⟩
    have b8:((s.map (bJ id))++[((1,id,ky,⟨#[]⟩,⟨#[]⟩):Ch)]).length=s.length+1:=by rw[ZO,Y4];rfl
    exact jp (w:=w8) (v:=.slice a8 (s.length+1) c8) (l:=(s.map (bJ id))++[((1,id,ky,⟨#[]⟩,⟨#[]⟩):Ch)]) (by rw[b8];omega) (by rw[b8,gP];exact dU O8.o)
end
end Go.Proofs.YtnkjliahpeebjaaGreatDoor
