/- Catalogs. -/
import Derived.Test.YtnkjliahpeebjaaGreatDoorChA
import Derived.Test.YtnkjliahpeebjaaGreatDoorRuC
set_option maxRecDepth 8000
set_option maxHeartbeats 40000000
open Option renaming some->Z9,none->Z7
open _root_ renaming ByteArray->Z6,if_neg->ZS,if_pos->ZP,decide_eq_false->ZG,Bool->Zj
open Go.Proofs.YtnkjliahpeebjaaGreatDoor.Ds renaming bl->Z5,bl_length->ZZ,pieces->Xw
open Go.RowKit renaming Below->Z4,intOf->Zq
open Go renaming World->ZY,maxLen->YB,wpList_make_full->VD
open Bool renaming true->ZX,false->ZW,true_and->Zc
open Nat renaming le_refl->ZV,le_trans->ZC
open Go.RowKit.Below renaming refl->ZR,trans->XL
open List renaming length_map->Y4
namespace Go.Proofs.YtnkjliahpeebjaaGreatDoor
variable(p s:Z6){w' t:ZY}{B e:Nat}{w q W:ZY}{l g m n:Nat}{d b:List Z6}{F f T:Nat->Zj}{a c r j:Nat}{x y:Z6}
section
open Go.RowKit
def BI(w:ZY)(g n:Nat)(F:Nat->Zj):Prop:=(∀ k,k<n->w.cell? ⟨g,k,Z7⟩=Z9 (.bool (F k)))/\(∀ o,w.frozen? ⟨g,o,Z7⟩=ZW)
theorem BI.lt(h:BI w g n F)(H:0<n):g<w.heap.size:=block_lt_of_cell (h.1 0 H)
theorem BI.below(h:BI w g n F)(H:Z4 w.heap.size w w')(u:0<n):BI w' g n F :=
 ⟨fun k i=>ai H (h.1 k i),fun o=>by rw[(bcell H).2 g o (h.lt u)];exact h.2 o⟩
theorem BI.drew(h:BI w g n F):BI w.drew g n F:=h
theorem BI.drewN(h:BI w g n F)(m:Nat):BI (w.drewN m) g n F:=h
theorem BI.grown(h:BI w g n F)(i:w.grownBy w' Z7)(v:0<n):BI w' g n F:=by
 have H:=i.block g (h.lt v) (by simp);refine⟨fun k u=>?_,fun o=>?_⟩
 .rw[World.cell?_of_block (a:=⟨g,k,Z7⟩) H];exact h.1 k u
 .rw[World.frozen?_of_block (a:=⟨g,o,Z7⟩) H];exact h.2 o
theorem BI.set(h:BI w g n F)(c:Nat)(z:c<n)(v:Zj):BI (w.setCell ⟨g,c,Z7⟩ (.bool v)) g n (fun k=>if k=c then v else F k):=by
 refine⟨fun k A=>?_,fun o=>by have:=h.2 o;simpa using this⟩
 have u:=h.1 k A;have H:=h.1 c z;by_cases e:k=c
 .subst e;simp [go_sem,H]
 .show _=Z9 (Value.bool (if k=c then v else F k))
  rw[ZS e,<-u];have E:c≠k:=fun h=>e h.symm
  have i:(c==k)=ZW:=by simpa using E
  simp [go_sem]
theorem BI.other(h:BI w g n F)(a c:Nat)(H:g≠a)(v:Value):BI (w.setCell ⟨a,c,Z7⟩ v) g n F:=by
 refine⟨fun k i=>?_,fun o=>by have:=h.2 o;simpa using this⟩
 rw[<-h.1 k i];have E:(a==g)=ZW:=by simpa using fun h=>H h.symm
 simp [go_sem]
theorem BI.made(h:w.ownsRow B e 1 (.slice (Z9 ⟨g,0,Z7⟩) n n) n (madeCells (Value.bool ZW).cells (n*1)).toList):BI w g n (fun _=>ZW):=by
 refine⟨fun k H=>?_,fun o=>h.frozenAt o⟩
 rw[h.cellAt k (by omega)];show (madeCells #[Value.bool ZW] (n*1)).toList[k]?=_
 rw[toList_madeCells_one,List.getElem?_replicate,ZP (by omega)]
theorem Ds.ne42(c:UInt8)(h:¬ c.toNat=42):decide (c=42)=ZW:=ZG fun e=>h (by rw[e];rfl)
theorem Ds.beq_u8(c d:UInt8):((c.toNat:Int)==d.toNat)=decide (c=d):=by
 rw[Bool.eq_iff_iff];simp only[beq_iff_eq,decide_eq_true_eq]
 exact⟨fun h=>UInt8.toNat_inj.1 (by omega),fun h=>by rw[h]⟩
theorem tf:(Tryz.prog.info? 4).map (fun i=>(i.zero,i.size,i.bytes))=Z9 (Z9 (.bool ZW),1,1):=by kernel_rfl
theorem vi(H:BI t g n F)(i:BI t a n f)(h:g≠a)(z:c<n)(v:Zj)(D:v=T c)(o:∀ C,C<c->f C=T C)(u:Z4 B w t)(A:B<=a) :
 BI (t.setCell ⟨a,c,Z7⟩ (.bool v)) g n F/\BI (t.setCell ⟨a,c,Z7⟩ (.bool v)) a n (fun k=>if k=c then v else f k)/\(∀ C,C<c+1->(if C=c then v else f C)=T C)/\Z4 B w (t.setCell ⟨a,c,Z7⟩ (.bool v)):=by
 refine⟨H.other a c h _,i.set c z v,fun C E=>?_,u.setCell (by simpa using A) _⟩
 by_cases e:C=c
 .subst e;rw[ZP rfl];exact D
 .rw[ZS e];exact o C (by omega)
theorem xZ(w:ZY)(hp:p.size<=1000)(hs:s.size<=1000) :
 Calls Tryz.prog 281 #[.string p,.string s] w fun e w'=>e=.returned (.bool (Ds.mtQ (Z5 p) (Z5 s)))/\Z4 w.heap.size w w':=by
 obtain⟨i0,hi,a4,a5,K⟩:=info_parts tf;have HI:=lh hi;have O:=lh a4;have P:=lh a5;have ab:=lh K;have HM:Hid (i0.bytes*(s.size+1)<=281474976710656):=lh (by rw[K];omega);have a1:s.size+1<=YB:=by unfold YB;omega
 have HX:=lh a1;clear hi a4 a5 K a1;go_enter Tryz.func281,Tryz.ntmps281
 go_wp2_with (at_make;refine VD _ rfl _ _ 308 rfl w.heap.size 4 i0 (.bool ZW) 1 Tryz.underlying308 HI.o O.o P.o _ _ _ _ (s.size+1) rfl rfl (by omega) (by omega) HM.o HX.o (ZV _) ?_;intro w1 u H;have A:=BI.made u;have h0:=A.1 0 (by omega);have f0:=A.2 0;have B:=(ZR w.heap.size w).grown H (ZV _) (by simp);have HB:=lh A;clear u H A)
 go_loopw [5,6,7,8] (fun v i _ _ wr=>∃ (r g:Nat) (F:Nat->Zj),r<=p.size/\i=.int .i64 r/\v=.slice (Z9 ⟨g,0,Z7⟩) (s.size+1) (s.size+1)/\BI wr g (s.size+1) F/\(∀ k,k<s.size+1->F k=Ds.fw (fun c=>decide (c=42)) (fun c d=>decide (c=d)) (Z5 p) (Z5 s) r k)/\Z4 w.heap.size w wr) (fun _ i _ _ _=>p.size - (Zq i).toNat)
 case atStart =>
  refine⟨0,w.heap.size,_,by omega,rfl,rfl,HB.o.set 0 (by omega) ZX,?_,B.setCell (by simp) _⟩
  intro k hk;rw[Ds.fw_zero _ _ _ _ _ (by rw[ZZ];omega)];by_cases e:k=0 <;> simp [e]
 case round =>
  clear HB h0 f0 B;obtain⟨r,g,F,hr,rfl,rfl,G,hF,B⟩:=hrel;have HF:=lh hF;have HA:=lh G;have ac:=G.lt (by omega);clear hF G;by_cases a0:r<p.size
  .have a3:r<(Z5 p).length:=by rw[ZZ];exact a0
   have a2:=Ds.bl_get p r a0;have N:=lh a3;have R:=lh a2;clear a3 a2;obtain⟨wo,aa⟩:∃ wo:ZY,wo=wr:=⟨_,rfl⟩;subst aa;go_wp2_with (at_make;refine VD _ rfl _ _ 308 rfl w.heap.size 4 i0 (.bool ZW) 1 Tryz.underlying308 HI.o O.o P.o _ _ _ _ (s.size+1) rfl rfl (by omega) (by omega) HM.o HX.o B.size ?_;intro w1 u H;have A:=lh (BI.made u);have Q:=lh (HA.o.grown H (by omega));have B2:=B.grown H B.size (by simp);clear u H)
   go_loopw [8] (fun k t=>∃ (c:Nat) (f:Nat->Zj),c<=s.size+1/\k=.int .i64 c/\BI t g (s.size+1) F/\BI t wo.heap.size (s.size+1) f/\(∀ c',c'<c->f c'=Ds.fw (fun c=>decide (c=42)) (fun c d=>decide (c=d)) (Z5 p) (Z5 s) (r+1) c')/\Z4 w.heap.size w t) (fun k _=>s.size+1 - (Zq k).toNat)
   case atStart=>exact⟨0,_,by omega,rfl,Q.o,A.o,by intro c' h;omega,B2⟩
   case round =>
    have a7:=B.size;clear A Q B2 B HA;obtain⟨c,f,hc,rfl,G,L,hG,B⟩:=hrel;have HG:=lh hG;clear hG;have a9:g≠wo.heap.size:=by omega
    have S:=lh (fun (v:Zj) (a8:c<s.size+1) z=>vi G L a9 a8 v z HG.o B a7);have fz:=L.2 c;by_cases o:c<s.size+1
    .have cz:=L.1 c o;by_cases D:p[r].toNat=42
     .have a6:((p[r].toNat:Int)==42)=ZX:=by simp [D]
      have C:decide ((Z5 p)[r]'N.o=42)=ZX:=by rw[<-R.o];exact decide_eq_true (UInt8.toNat_inj.1 D)
      have I:=Ds.fw_star (fun c=>decide (c=42)) (fun c d=>decide (c=d)) (Z5 p) (Z5 s) r c N.o (by rw[ZZ];omega) C;rw[<-HF.o c o] at I;have E:=lh I;have U:=G.1 c o;clear I D C;cases z:F c
      .rw[z] at U;have V:=lh z;rcases c with _|j
       .clear z;go_wp2_with fail
        go_roundw
        case rel=>
         have Z:=S.o ZW o (by rw[E.o,V.o];simp);exact⟨1,_,by omega,by go_num,Z.1,Z.2.1,Z.2.2.1,Z.2.2.2⟩
        case measure=>simp [Zq]
       .have J:=L.1 j (by omega);have HJ:=lh (HG.o j (by omega));clear z;go_wp2_with fail
        go_roundw
        case rel=>
         have Z:=S.o (f j) o (by rw[E.o,V.o,HJ.o];simp);exact⟨j+1+1,_,by omega,by go_num,Z.1,Z.2.1,Z.2.2.1,Z.2.2.2⟩
        case measure=>simp [Zq];omega
      .rw[z] at U;have V:=lh z;clear z;go_wp2_with fail
       go_roundw
       case rel=>
        have Z:=S.o ZX o (by rw[E.o,V.o];simp);exact⟨c+1,_,by omega,by go_num,Z.1,Z.2.1,Z.2.2.1,Z.2.2.2⟩
       case measure=>simp [Zq];omega
     .have a6:((p[r].toNat:Int)==42)=ZW:=by simp;omega
      have C:decide ((Z5 p)[r]'N.o=42)=ZW:=by
       rw[<-R.o];exact Ds.ne42 _ D
      rcases c with _|j
      .have E:=lh (Ds.fw_one0 (fun c=>decide (c=42)) (fun c d=>decide (c=d)) (Z5 p) (Z5 s) r N.o C);clear D C;go_wp2_with fail
       go_region
       go_wp2_with fail
       go_roundw
       case rel=>
        have Z:=S.o ZW o (by rw[E.o]);exact⟨1,_,by omega,by go_num,Z.1.drew,Z.2.1.drew,Z.2.2.1,Z.2.2.2.drew⟩
       case measure=>simp [Zq]
      .have Y:j<s.size:=by omega
       have X:j<(Z5 s).length:=by rw[ZZ];exact Y
       have I:=Ds.fw_one (fun c=>decide (c=42)) (fun c d=>decide (c=d)) (Z5 p) (Z5 s) r j N.o X C;rw[<-HF.o j (by omega),<-R.o,<-Ds.bl_get s j Y] at I;have E:=lh I;have J:=G.1 j (by omega);clear D C I X;cases z:F j
       .rw[z] at J;have V:=lh z;clear z;go_wp2_with fail
        go_region
        go_wp2_with fail
        go_roundw
        case rel=>
         have Z:=S.o ZW o (by rw[E.o,V.o];simp);exact⟨j+1+1,_,by omega,by go_num,Z.1.drew,Z.2.1.drew,Z.2.2.1,Z.2.2.2.drew⟩
        case measure=>simp [Zq];omega
       .rw[z] at J;have V:=lh z;clear z;have HE:=lh (Ds.beq_u8 p[r] s[j]);go_wp2_with fail
        go_region
        go_wp2_with fail
        go_roundw
        case rel=>
         have Z:=S.o ((p[r].toNat:Int)==s[j].toNat) o (by rw[E.o,V.o,HE.o,Zc];exact decide_eq_decide.2 Iff.rfl);exact⟨j+1+1,_,by omega,by go_num,Z.1.drew,Z.2.1.drew,Z.2.2.1,Z.2.2.2.drew⟩
        case measure=>simp [Zq];omega
    .obtain rfl:c=s.size+1:=by omega
     have HC:=lh L;clear fz G L;go_wp2_with fail
     go_roundw
     case rel=>exact⟨r+1,wo.heap.size,f,by omega,by go_num,rfl,HC.o,HG.o,B⟩
     case measure=>simp [Zq];omega
  .obtain rfl:r=p.size:=by omega
   have o:=HA.o.1 s.size (by omega);have V:=lh (HF.o s.size (by omega));go_wp2_with fail
   go_ret
   refine⟨aF ?_,B⟩
   rw[V.o];have:=Ds.fw_all (fun c:UInt8=>decide (c=42)) (fun c d=>decide (c=d)) (Z5 p) (Z5 s);rw[ZZ,ZZ] at this;exact this
end
section
open Go.RowKit
theorem oj(w:ZY)(z:s.size<=1000) :
 Calls Tryz.prog 149 #[.string s] w fun e w'=>∃ (d:List Z6) (g C:Nat),d.map Z5=Xw (Z5 s)/\d.length<=s.size+1/\w.heap.size<=g/\g<w'.heap.size/\e=.returned (.slice (Z9 ⟨g,0,Z7⟩) d.length C)/\Strs w' g d/\d.length<=C/\Z4 w.heap.size w w' :=
 (js s w z).mono fun _ _ ⟨Q,q,g,C,h,A,H,i,k,o,_,u,v⟩=>⟨Q++[q],g,C,h,by simp;omega,H,i,by simpa using k,o,by simpa using u,v⟩
abbrev iI(q:List UInt8):Zj:=decide (q=[42,42])
def KJ(W:ZY)(l m:Nat)(d b:List Z6)(g a n c:Nat)(F f:Nat->Zj)(w:ZY):Prop :=
 Strs w l d/\Strs w m b/\BI w g n F/\(∃ v,BI w a n (fun k=>if k=c then v else f k))/\Z4 W.heap.size W w
theorem KJ.start(H:Strs w l d)(i:Strs w m b)(o:BI w g n F)(h:BI w a n f)(u:Z4 W.heap.size W w):KJ W l m d b g a n c F f w.drew :=
 ⟨H,i,o,⟨f c,⟨fun k v=>by
  rw[show (w.drew).cell? ⟨a,k,Z7⟩=w.cell? ⟨a,k,Z7⟩ from rfl,h.1 k v];show _=Z9 (Value.bool (if k=c then f c else f k))
  by_cases e:k=c
  .rw[ZP e,e]
  .rw[ZS e],h.2⟩⟩,u.drew⟩
def SKP(W:ZY)(l m:Nat)(d b:List Z6)(g a n c:Nat)(F f:Nat->Zj)(r j:Nat)(x y:Z6)(w:ZY):Prop :=
 w.cell? ⟨g,j,Z7⟩=Z9 (.bool ZX)/\w.cell? ⟨l,r,Z7⟩=Z9 (.string x)/\w.cell? ⟨m,j,Z7⟩=Z9 (.string y)/\w.cell? ⟨a,c,Z7⟩=Z9 (.bool (bvc w a c))/\(∀ o,w.frozen? ⟨a,o,Z7⟩=ZW)/\KJ W l m d b g a n c F f w
theorem SKP.call(G:c<n)(H:Z4 w.heap.size w q)(h:SKP W l m d b g a n c F f r j x y w):SKP W l m d b g a n c F f r j x y q:=by
 obtain⟨i,o,u,z,E,k1,K,A,⟨v,C⟩,D⟩:=h;have k:=C.below H (by omega);exact⟨ai H i,ai H o,ai H u,kw (ai H z),k.2,k1.below H,K.below H,A.below H (by omega),⟨v,k⟩,bt D H⟩
theorem Strs.other{b:Nat}(h:Strs w b d)(g c:Nat)(H:b≠g)(v:Value):Strs (w.setCell ⟨g,c,Z7⟩ v) b d:=fun k i=>by
 rw[<-h k i];have E:(g==b)=ZW:=by simpa using fun h=>H h.symm
 simp [go_sem]
theorem KJ.set(C:c<n)(ha:l≠a)(A:m≠a)(o:g≠a)(i:W.heap.size<=a)(u:Zj)(h:KJ W l m d b g a n c F f w):BI (w.setCell ⟨a,c,Z7⟩ (.bool u)) g n F/\BI (w.setCell ⟨a,c,Z7⟩ (.bool u)) a n (fun k=>if k=c then u else f k)/\Z4 W.heap.size W (w.setCell ⟨a,c,Z7⟩ (.bool u))/\KJ W l m d b g a n c F f (w.setCell ⟨a,c,Z7⟩ (.bool u)):=by
 obtain⟨k1,D,K,⟨v,E⟩,z⟩:=h;have H:=E.set c C u
 have e:(fun k=>if k=c then u else (if k=c then v else f k))=fun k=>if k=c then u else f k:=by
  funext k;split <;> rfl
 rw[e] at H;exact⟨K.other a c o _,H,z.setCell i _,k1.other a c ha _,D.other a c A _,K.other a c o _,⟨u,H⟩,z.setCell i _⟩
theorem SKP.store(k:c<n)(ha:l≠a)(H:m≠a)(i:g≠a)(D:W.heap.size<=a)(u:Zj)(h:SKP W l m d b g a n c F f r j x y w):SKP W l m d b g a n c F f r j x y (w.setCell ⟨a,c,Z7⟩ (.bool u)):=by
 obtain⟨o,v,A,K,L,E⟩:=h;obtain⟨Q,z,R,Z⟩:=E.set k ha H i D u;have C:=z.1 c k;have G:(a==g)=ZW:=by simpa using fun h=>i h.symm
 have I:(a==l)=ZW:=by simpa using fun h=>ha h.symm
 have J:(a==m)=ZW:=by simpa using fun h=>H h.symm
 have O:a≠g:=fun h=>i h.symm
 have N:a≠l:=fun h=>ha h.symm
 have P:a≠m:=fun h=>H h.symm
 refine⟨?_,?_,?_,kw C,z.2,Z⟩
 .rw[<-o];simp [go_sem]
 .rw[<-v];simp [go_sem]
 .rw[<-A];simp [go_sem]
theorem Bg(w:ZY) :
 Calls Tryz.prog 221 #[.string p,.string s] w fun e w'=>e=.returned (.bool (Ds.match_ (Z5 p) (Z5 s)))/\Z4 w.heap.size w w':=by
 have B:=ZR w.heap.size w;cases hp:Ds.pat (Z5 p)
 .have D:=lh (show Ds.match_ (Z5 p) (Z5 s)=ZW by unfold Ds.match_;rw[hp];rfl);go_enter Tryz.func221,Tryz.ntmps221
  go_wp2_with (go_at_call 150;(with_reducible refine (mP _ _).mono ?_);rintro e w1 ⟨rfl,z⟩;have B:=XL B (z.mono B.size);clear z)
  go_ret
  exact⟨aF D.o.symm,B⟩
 cases hs:Ds.name (Z5 s)
 .have D:=lh (show Ds.match_ (Z5 p) (Z5 s)=ZW by unfold Ds.match_;rw[hs];simp);go_enter Tryz.func221,Tryz.ntmps221
  go_wp2_with (first|(go_at_call 150;(with_reducible refine (mP _ _).mono ?_);rintro e w1 ⟨rfl,z⟩;have B:=XL B (z.mono B.size);clear z)|(go_at_call 130;(with_reducible refine (dt _ _).mono ?_);rintro e w1 ⟨rfl,z⟩;have B:=XL B (z.mono B.size);clear z))
  go_ret
  exact⟨aF D.o.symm,B⟩
 have D:=lh (show Ds.match_ (Z5 p) (Z5 s)=Ds.mtP (Xw (Z5 p)) (Xw (Z5 s)) by unfold Ds.match_;rw[hp,hs];rfl);have p1:p.size<=31:=by have:=((Ds.pat_parts _).1 hp).1.2;rwa [ZZ] at this
 have s1:=(mf s hs).1;have p2:p.size<=1000:=by omega
 have s2:s.size<=1000:=by omega
 obtain⟨i0,hi,af,al,ao⟩:=info_parts tf;have HI:=lh hi;have a7:=lh af;have a8:=lh al;have HM:Hid (∀ n:Nat,n<=1000->i0.bytes*n<=281474976710656):=lh (fun n hn=>by rw[ao];omega);have HX:=lh (fun n (hn:n<=1000)=>show n<=YB by unfold YB;omega);clear hi af al ao;go_enter Tryz.func221,Tryz.ntmps221
 go_wp2_with (first|(go_at_call 150;(with_reducible refine (mP _ _).mono ?_);rintro e w1 ⟨rfl,z⟩;have B:=XL B (z.mono B.size);clear z)|(go_at_call 130;(with_reducible refine (dt _ _).mono ?_);rintro e w1 ⟨rfl,z⟩;have B:=XL B (z.mono B.size);clear z)|(go_at_call 149;(with_reducible refine (oj p _ p2).mono ?_);rintro e w1 ⟨d,l,ca,ac,ck,c6,bi,rfl,hS,c5,z⟩;have HP:=lh ac;have U:=lh hS;have B:=bt B z;clear ac hS z)|(go_at_call 149;(with_reducible refine (oj s _ s2).mono ?_);rintro e q ⟨b,m,cb,ab,ce,c8,c9,rfl,Q,bk,z⟩;have HN:=lh ab;have HT:=lh Q;have av:=lh (U.o.below z);have B:=bt B z;have c7:=Nat.lt_of_lt_of_le bi z.size;clear ab Q z)|(at_make;refine VD _ rfl _ _ 308 rfl q.heap.size 4 i0 (.bool ZW) 1 Tryz.underlying308 HI.o a7.o a8.o _ _ _ _ (b.length+1) rfl rfl (by omega) (by omega) (HM.o _ (by omega)) (HX.o _ (by omega)) (ZV _) ?_;intro w3 C u;have G:=BI.made C;have h0:=G.1 0 (by omega);have f0:=G.2 0;have B3:=(ZR q.heap.size q).grown u (ZV _) (by simp);have HB:=lh G;clear C u G))
 have bs:=lh (fun k (h:k<d.length)=>ZC (Ds.piece_len HP.o k h) (by rw[ZZ];exact p2));have br:=lh (fun k (h:k<b.length)=>ZC (Ds.piece_len HN.o k h) (by rw[ZZ];exact s2));go_loopw [7,8,9,10] (fun v i _ _ wr=>∃ (r g:Nat) (F:Nat->Zj),r<=d.length/\i=.int .i64 r/\v=.slice (Z9 ⟨g,0,Z7⟩) (b.length+1) (b.length+1)/\q.heap.size<=g/\BI wr g (b.length+1) F/\(∀ k,k<b.length+1->F k=Ds.fw iI Ds.mtQ (d.map Z5) (b.map Z5) r k)/\Z4 q.heap.size q wr) (fun _ i _ _ _=>d.length - (Zq i).toNat)
 case atStart =>
  refine⟨0,q.heap.size,_,by omega,rfl,rfl,ZV _,HB.o.set 0 (by omega) ZX,?_,B3.setCell (by simp) _⟩
  intro k hk;rw[Ds.fw_zero _ _ _ _ _ (by rw[Y4];omega)];by_cases e:k=0 <;> simp [e]
 case round =>
  clear HB h0 f0 B3 U;obtain⟨r,g,F,hr,rfl,rfl,cc,L,hF,BR⟩:=hrel;have HF:=lh hF;have HA:=lh L;have cd:=L.lt (by omega);have a4:=lh BR;have J:=BR.size;clear hF L BR;obtain⟨N,c0⟩:∃ N:ZY,N=wr:=⟨_,rfl⟩;subst c0;by_cases a2:r<d.length
  .have ad:r<(d.map Z5).length:=by simpa using a2
   have HR:=lh ad;obtain⟨x,hx⟩:∃ x,x=d[r]:=⟨_,rfl⟩;have Y:=lh (show (d.map Z5)[r]'HR.o=Z5 x by rw[hx];simp);have c2:x.size<=1000:=by rw[hx];exact bs.o r a2
   have ba:=lh (fun W (h:Strs W l d)=>show W.cell? ⟨l,r,Z7⟩=Z9 (.string x) by rw[hx];exact h r a2);clear ad hx;go_wp2_with (at_make;refine VD _ rfl _ _ 308 rfl q.heap.size 4 i0 (.bool ZW) 1 Tryz.underlying308 HI.o a7.o a8.o _ _ _ _ (b.length+1) rfl rfl (by omega) (by omega) (HM.o _ (by omega)) (HX.o _ (by omega)) J ?_;intro w4 C u;have G:=lh (BI.made C);have a9:=lh (HA.o.grown u (by omega));have B2:=lh (a4.o.grown u J (by simp));clear C u)
   go_loopw [10] (fun k t=>∃ (c:Nat) (f:Nat->Zj),c<=b.length+1/\k=.int .i64 c/\BI t g (b.length+1) F/\BI t N.heap.size (b.length+1) f/\(∀ K,K<c->f K=Ds.fw iI Ds.mtQ (d.map Z5) (b.map Z5) (r+1) K)/\Z4 q.heap.size q t) (fun k _=>b.length+1 - (Zq k).toNat)
   case atStart=>exact⟨0,_,by omega,rfl,a9.o,G.o,by intro K h;omega,B2.o⟩
   case round =>
    clear G a9 B2 HA;obtain⟨c,f,hc,rfl,L,P,hG,R⟩:=hrel;have HG:=lh hG;have X:=lh R;clear hG;have a3:g≠N.heap.size:=by omega
    have U:=lh (fun (v:Zj) (bp:c<b.length+1) E=>vi L P a3 bp v E HG.o X.o J);have SA:=av.o.below R;have SB:=HT.o.below R;have b0:=lh SA;have a6:=lh SB;have c1:=ba.o _ SA;have a5:=lh P;have ar:=lh L;clear SA SB R;by_cases H:c<b.length+1
    .have cz:=P.1 c H;have fz:=P.2;by_cases O:x=⟨#[42,42]⟩
     .have I:iI ((d.map Z5)[r]'HR.o)=ZX:=by rw[Y.o,O];rfl
      have Q:=Ds.fw_star iI Ds.mtQ (d.map Z5) (b.map Z5) r c HR.o (by rw[Y4];omega) I;rw[<-HF.o c H] at Q;have A:=lh Q;have aa:=L.1 c H;subst O;clear Q I L;cases E:F c
      .rw[E] at aa;have V:=lh E;rcases c with _|j
       .clear E P;go_wp2_with fail
        go_roundw
        case rel =>
         have Z:=U.o ZW H (by rw[A.o,V.o];simp);exact⟨1,_,by omega,by go_num,Z.1,Z.2.1,Z.2.2.1,Z.2.2.2⟩
        case measure=>simp [Zq]
       .have S:=P.1 j (by omega);have HJ:=lh (HG.o j (by omega));clear E P;go_wp2_with fail
        go_roundw
        case rel =>
         have Z:=U.o (f j) H (by rw[A.o,V.o,HJ.o];simp);exact⟨j+1+1,_,by omega,by go_num,Z.1,Z.2.1,Z.2.2.1,Z.2.2.2⟩
        case measure=>simp [Zq];omega
      .rw[E] at aa;have V:=lh E;clear E P;go_wp2_with fail
       go_roundw
       case rel =>
        have Z:=U.o ZX H (by rw[A.o,V.o];simp);exact⟨c+1,_,by omega,by go_num,Z.1,Z.2.1,Z.2.2.1,Z.2.2.2⟩
       case measure=>simp [Zq];omega
     .have I:iI ((d.map Z5)[r]'HR.o)=ZW:=by rw[Y.o];exact ZG (fun e=>O ((Ds.bl_eq x [42,42]).2 e))
      have cg:=Ds.bl_beq x [42,42] O;clear O P;rcases c with _|j
      .have A:=lh (Ds.fw_one0 iI Ds.mtQ (d.map Z5) (b.map Z5) r HR.o I);clear I L;go_wp2_with fail
       go_region
       go_wp2_with fail
       go_roundw
       case rel =>
        have Z:=U.o ZW H (by rw[A.o]);exact⟨1,_,by omega,by go_num,Z.1.drew,Z.2.1.drew,Z.2.2.1,Z.2.2.2.drew⟩
       case measure=>simp [Zq]
      .have a1:j<b.length:=by omega
       have a0:j<(b.map Z5).length:=by simpa using a1
       have Q:=Ds.fw_one iI Ds.mtQ (d.map Z5) (b.map Z5) r j HR.o a0 I;obtain⟨y,hy⟩:∃ y,y=b[j]:=⟨_,rfl⟩;have c4:y.size<=1000:=by rw[hy];exact br.o j a1
       have c3:wr.cell? ⟨m,j,Z7⟩=Z9 (.string y):=by rw[hy];exact a6.o j a1
       rw[<-HF.o j (by omega),Y.o,show (b.map Z5)[j]'a0=Z5 y by rw[hy];simp] at Q;have A:=lh Q;have S:=L.1 j (by omega);clear I Q a0 hy L;cases E:F j
       .rw[E] at S;have V:=lh E;clear E;go_wp2_with fail
        go_region
        go_wp2_with fail
        go_roundw
        case rel =>
         have Z:=U.o ZW H (by rw[A.o,V.o];simp);exact⟨j+1+1,_,by omega,by go_num,Z.1.drew,Z.2.1.drew,Z.2.2.1,Z.2.2.2.drew⟩
        case measure=>simp [Zq];omega
       .rw[E] at S;have V:=lh E;have KS:=KJ.start (c:=j+1) b0.o a6.o ar.o a5.o X.o;have H0:=lh (show SKP q l m d b g N.heap.size (b.length+1) (j+1) F f r j x y wr.drew from ⟨S,c1,c3,kw cz,fz,KS⟩);have d1:l≠N.heap.size:=by omega
        have d2:m≠N.heap.size:=by omega
        clear E KS;go_wp2_with fail
        have b1:IntKind.i64.wrap (j:Int)=(j:Int):=IntWalk.i64_in _ (by omega);have b2:(0:Int)<=(j:Int):=by omega
        have b3:(j:Int)<b.length:=by omega
        have b4:(j:Int)+1<(b.length:Int)+1:=by omega
        have b5:(0:Int)<=(j:Int)+1:=by omega
        have b6:(0:Int)<(j:Int)+1:=by omega
        have b7:(r:Int)<d.length:=by omega
        have b8:(0:Int)<=(r:Int):=by omega
        have b9:(j:Int)<(b.length:Int)+1:=by omega
        have bb:((j:Int)).toNat=j:=by omega
        have bc:((j:Int)+1).toNat=j+1:=by omega
        have be:((r:Int)).toNat=r:=by omega
        go_region_held3 (fun w'=>w'.cell? ⟨g,j,Z7⟩=Z9 (.bool ZX)/\w'.cell? ⟨l,r,Z7⟩=Z9 (.string x)/\w'.cell? ⟨m,j,Z7⟩=Z9 (.string y)/\w'.cell? ⟨N.heap.size,j+1,Z7⟩=Z9 (.bool (bvc w' N.heap.size (j+1)))/\(∀ o,w'.frozen? ⟨N.heap.size,o,Z7⟩=ZW)/\KJ q l m d b g N.heap.size (b.length+1) (j+1) F f w') (first|exact H0.o|exact SKP.call H z (by assumption)|exact SKP.store H d1 d2 a3 J _ (by assumption)) (first|(go_at_call 281;(with_reducible refine (xZ x y _ c2 c4).mono ?_);rintro e w5 ⟨rfl,z⟩))
        have S2:=SKP.call H z H0.o;have Z:=S2.2.2.2.2.2.set H d1 d2 a3 J (Ds.mtQ (Z5 x) (Z5 y));have HZ:=lh (And.intro Z.1 (And.intro Z.2.1 Z.2.2.1))
        have HW:=lh (show ∀ K,K<j+1+1->(if K=j+1 then Ds.mtQ (Z5 x) (Z5 y) else f K)=Ds.fw iI Ds.mtQ (d.map Z5) (b.map Z5) (r+1) K by
         intro K h';by_cases e:K=j+1
         .rw[ZP e,e,A.o,V.o,Zc]
         .rw[ZS e];exact HG.o K (by omega))
        clear S2 Z b1 b2 b3 b4 b5 b6 b7 b8 b9 bb bc be;go_wp2_with fail
        go_roundw
        case rel=>exact⟨j+1+1,_,by omega,by go_num,HZ.o.1,HZ.o.2.1,HW.o,HZ.o.2.2⟩
        case measure=>simp [Zq];omega
    .obtain rfl:c=b.length+1:=by omega
     clear L P;go_wp2_with fail
     go_roundw
     case rel=>exact⟨r+1,N.heap.size,f,by omega,by go_num,rfl,J,a5.o,HG.o,X.o⟩
     case measure=>simp [Zq];omega
  .obtain rfl:r=d.length:=by omega
   have H:=HA.o.1 b.length (by omega);have V:=lh (HF.o b.length (by omega));go_wp2_with fail
   go_ret
   refine⟨aF ?_,B.trans (a4.o.mono B.size)⟩
   rw[V.o,D.o,<-HP.o,<-HN.o];have:=Ds.fw_all iI Ds.mtQ (d.map Z5) (b.map Z5);rw[Y4,Y4] at this;exact this
end
section
open Go.RowKit
attribute [local go_sem ↓] aZ bf qA bq fb
attribute [local go_sem] bn aS aH bE bH aK aT ak aI aw az aM ah aQ aL aP aO aR aY aW bD ap aq bN cK cC
end
section
open Go.RowKit
attribute [local go_sem ↓] aZ bf qA
attribute [local go_sem] aS aH aK aT ak aI aw az aM ah aQ aL aP aO aR aY aW bD
end
end Go.Proofs.YtnkjliahpeebjaaGreatDoor
