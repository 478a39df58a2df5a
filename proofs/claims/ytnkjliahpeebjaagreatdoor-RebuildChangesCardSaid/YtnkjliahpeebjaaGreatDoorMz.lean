/- Catalogs. -/
import Derived.Test.YtnkjliahpeebjaaGreatDoorRm
import Derived.StillTailTactics
import Derived.Test.YtnkjliahpeebjaaGreatDoorMx
import Derived.Test.YtnkjliahpeebjaaGreatDoorCu
set_option maxRecDepth 8000
set_option maxHeartbeats 16000000
open Option renaming some->Z9,none->Z7
open Go.Proofs.Tryz renaming prog->Z8
open _root_ renaming ByteArray->Z6,List->Z1,decide_eq_true_eq->ZU,if_neg->ZS,if_pos->ZP,UInt8->ZM,beq_eq_false_iff_ne->ZJ,decide_eq_true->ZI,decide_eq_false->ZG,beq_iff_eq->YV,id->VW
open Go.Proofs.YtnkjliahpeebjaaGreatDoor.Ds renaming bl->Z5,bl_length->ZZ,gen->XA
open Go.RowKit renaming Below->Z4,intOf->Zq
open Go renaming Value->Z2,World->ZY,Calls->ZH
open Bool renaming true->ZX,false->ZW,eq_iff_iff->Zn,true_and->Zc,false_and->XT,false_or->WX
open Nat renaming le_refl->ZV,le_trans->ZC,zero_le->Y6
open Go.RowKit.Below renaming refl->ZR
open List renaming length_append->ZO,drop_eq_getElem_cons->Zb,eq_nil_of_length_eq_zero->Y5,length_map->Y4,getElem_mem->YN,length_singleton->Yt,take_length->X0,length_drop->XZ,map_append->WT,drop_eq_nil_of_le->Wh
open Go.Calls renaming quiet_of_same->WD
namespace Go.Proofs.YtnkjliahpeebjaaGreatDoor
variable(k s:Z6)(v:Z2)(c d:ZM)(l:Z1 Rw)(id a:Int)(x:Fu)(base:Nat){S:Z1 Rw}(f gr:Z2)(name:Z6){w' w1:ZY}(w:ZY){i g ov:Z2}
theorem qy(c:ZM)(l:Z1 Rw):(srt id c l).length<=l.length:=by
 have:=pN id c l l.length;rwa [List.take_of_length_le (ZV _)] at this
section
open Go.RowKit
theorem HJ.startA(q:Nat)(H:q=w.heap.size)(h:base<=w.heap.size):HJ base (w.alloc (.cells #[] 29)) (.slice (Z9 ⟨q,0,Z7⟩) 0 0) [] []:=by
 subst H;exact⟨World.ownsRow_made w #[] 0 h (Y6 _) rfl,rfl,(fun _ h=>by cases h),(fun _ h=>by cases h),(fun _ _ _ h=>by simp at h)⟩
def xz(w w':ZY)(R:Z1 Fu × Int)(r:Ending):Prop :=
 ∃ h b,r=.returned (.tuple #[h,.int .i64 R.2])/\HJ w.heap.size w' h (R.1.map cY) b/\Z4 w.heap.size w w'
theorem kd{w:ZY}{o:Obj}(h:Z4 (w.alloc o).heap.size (w.alloc o) w1):Z4 w.heap.size w w1:=((ZR _ _).alloc (ZV _) _).trans (h.mono (by simp))
structure KW (w w1 wr:ZY) (ov:Z2):Prop where
 b:Z4 w.heap.size w wr
 s:w1.heap.size<=wr.heap.size
 k:∀ b,w.heap.size<b->b<w1.heap.size->wr.heap[b]?=w1.heap[b]?
 o:∀ b,ov.ownBlock=Z9 b->b=w.heap.size\/w1.heap.size<=b
 z:w.heap.size<=w1.heap.size
theorem KW.below{w wr:ZY}(h:KW w w1 wr ov)(H:Z4 wr.heap.size wr w'):KW w w1 w' ov :=
 ⟨bt h.b H,ZC h.s H.size,fun b j e=>(H.block b (Nat.lt_of_lt_of_le e h.s)).trans (h.k b j e),h.o,h.z⟩
theorem KW.grown{w wr:ZY}(h:KW w w1 wr ov)(m:wr.grownBy w' ov.ownBlock)(H:g.ownBlock=ov.ownBlock\/g.ownBlock=Z9 wr.heap.size):KW w w1 w' g:=by
 have n:=h.s;have u:=h.z;refine⟨h.b.trans (fy m (fun q t=>?_) (by omega)),ZC n m.size,fun b p r=>(m.block b (by omega) (fun e=>?_)).trans (h.k b p r),fun b j=>?_,h.z⟩
 .rcases h.o q t with h|h <;> omega
 .rcases h.o b e.symm with h|h <;> omega
 .rcases H with H|H
  .exact h.o b (H ▸ j)
  .rw[H] at j;cases j;exact .inr n
theorem KW.rws{w wr:ZY}(h:KW w w1 wr ov)(H:RwS w1 i S)(m:∀ q,i.ownBlock=Z9 q->w.heap.size<q):RwS wr i S :=
 H.keep h.s (fun b e j=>h.k b (m b e) j)
attribute [local go_sem ↓] aZ bq cl
attribute [local go_sem ↓ high] bf
attribute [local go_sem] bn aS aH bE bH aK aT ak aI aw az aM ah aQ aL aP aO aR aY aW bD ap aq
end
section
open Go.RowKit
set_option linter.unusedSimpArgs false
attribute [local go_sem ↓] aZ bf bq fb
attribute [local go_sem] bn aS aH bE bH aK aT ak aI aw az aM ah aQ aL aP aO aR aY aW
end
section
open Go.RowKit
set_option linter.unusedSimpArgs false
theorem tW(A:1<=k.size)(G:k.size<=1000) :
 ZH Z8 222 #[.string k] w fun r w'=>r=.returned (.string (aN k))/\w'=w:=by
 have m:((Z5 k).drop 1).length=k.size - 1:=by rw[XZ,ZZ]
 have n:∀ j,j+1<=k.size->Ek.tlen ((Z5 k).drop 1) (k.size - 1)=j->k.extract 1 (j+1)=aN k:=fun j q B=>by
  have y:Z5 (k.extract 1 (j+1))=((Z5 k).drop 1).take j:=by
   unfold Z5;rw[ByteArray.data_extract,Array.toList_extract];simp [List.extract]
  have z:Z5 (aN k)=Ek.trim ((Z5 k).drop 1):=Ds.bl_mk _;refine Ds.bl_inj (y.trans (Eq.symm (z.trans ?_)))
  unfold Ek.trim;rw[m,B]
 have F:=lh n;clear n;go_enter Tryz.func222,Tryz.ntmps222
 go_wp2_with fail
 go_loopw [3] (fun v wr=>∃ (j:Nat),j+1<=k.size/\v=.int .i64 ((j+1:Nat):Int)/\Hid (Ek.tlen ((Z5 k).drop 1) (k.size - 1)=Ek.tlen ((Z5 k).drop 1) j)/\wr=w) (fun v _=>(Zq v).toNat)
 case atStart=>exact⟨k.size - 1,by omega,by rw[Nat.sub_add_cancel A],lh rfl,rfl⟩
 case round =>
  obtain⟨j,q,rfl,E,rfl⟩:=hrel;by_cases D:0<j
  .obtain⟨i,rfl⟩:∃ i,j=i+1:=⟨j - 1,by omega⟩;have o:i+1<k.size:=by omega
   have p:((Z5 k).drop 1)[i]?=Z9 k[i+1]:=by
    rw[List.getElem?_drop,List.getElem?_eq_getElem (by rw[ZZ];omega)];have:=Ds.bl_get k (i+1) o;rw[this];congr 2
    omega
   have u:=qQ k[i+1];have C:=lh p;have J:(0:Int)<=((i+1:Nat):Int):=by omega
   have I:((i+1:Nat):Int)<(k.size:Int):=by omega
   have K:((i+1+1:Nat):Int) - 1=((i+1:Nat):Int):=by omega
   have L:decide ((1:Int)<((i+1+1:Nat):Int))=ZX:=ZI (by omega);have N:(((i+1:Nat):Int)).toNat=i+1:=by omega
   clear p;by_cases H:k[i+1]=32
   .rw[ZI H] at u;have b:=lh H;clear H;go_wp2_with fail
    all_goals try (exfalso;omega)
    go_roundw
    case rel=>exact⟨i,by omega,by go_num,lh (by rw[E.o];exact Ek.tlen_yes _ _ (by rw[C.o,b.o])),trivial⟩
    case measure=>simp [Zq];omega
   .rw[ZG H] at u;have b:=lh H;clear H;go_wp2_with fail
    all_goals try (exfalso;omega)
    go_ret
    exact⟨congrArg (fun t=>Ending.returned (Value.string t)) (F.o (i+1) q (by rw[E.o];exact Ek.tlen_no _ _ (by rw[C.o];intro e;exact b.o (Option.some.inj e)))),rfl⟩
  .obtain rfl:j=0:=by omega
   go_wp2_with fail
   all_goals try (exfalso;omega)
   go_ret
   exact⟨by have h:=F.o 0 (by omega) (by rw[E.o];rfl);rw[<-h];simp,rfl⟩
theorem rT(q:s.size<=1000):ZH Z8 133 #[.string s] w fun r w'=>r=.returned (.bool (dy s))/\Z4 w.heap.size w w':=by
 have p:decide ((Ds.pieces (Z5 s)).length<=2)=decide ((Lib.countByte s.data.toList 46:Int)<2):=by
  rw[Ds.pieces_len,Zn,ZU,ZU];unfold Lib.countByte Z5;omega
 unfold dy;rw[<-p];have H:=lh (fun W=>dt s W);have P:=lh (fun W=>oj s W q);generalize m:Ds.name (Z5 s)=N at H |-;clear p m;cases N
 .go_enter Tryz.func133,Tryz.ntmps133
  go_wp2_with (go_at_call 130;(refine (H.o _).mono ?_);rintro _ t ⟨rfl,h⟩;have B:=lh h;clear h)
  go_ret
  exact⟨rfl,B.o⟩
 .go_enter Tryz.func133,Tryz.ntmps133
  go_wp2_with first|go_at_call 130;(refine (H.o _).mono ?_);rintro _ t ⟨rfl,h⟩;have B:=lh h;clear h|go_at_call 149;(refine (P.o _).mono ?_);rintro _ A ⟨z,g,C,e,u,E,n,rfl,o,y,h⟩;have L:=lh (congrArg List.length e);have j:=lh (bt B.o h);clear h e E n o
  all_goals
   go_ret
   have b:=L.o;rw[Y4] at b;rw[<-b];exact⟨by simp_all;omega,j.o⟩
def dp(l:Z1 Rw)(a:Int)(name:Z6):Int × Int :=
 if a<0\/4<a\/a=3 then (0,1) else if a=4 then (1,0) else cj l name
theorem qF(n:RwS w v l) :
 ZH Z8 68 #[v,.int .i64 a,.string name] w fun r w'=>r=.returned (.tuple #[.int .i64 (dp l a name).1,.int .i64 (dp l a name).2])/\Z4 w.heap.size w w':=by
 have W:=lh (ms v l name w n);clear n;unfold dp;by_cases H:a<0
 rw[ZP (.inl H)];have t:decide (a<0)=ZX:=ZI H;clear H W;rotate_left;have t:decide (a<0)=ZW:=ZG H;by_cases b:4<a
 rw[ZP (.inr (.inl b))];have T:decide (4<a)=ZX:=ZI b;clear H b W;rotate_left;have T:decide (4<a)=ZW:=ZG b;by_cases e:a=3
 rw[ZP (.inr (.inr e))];have o:(a==3)=ZX:=YV.2 e;clear H b e W;rotate_left;have o:(a==3)=ZW:=ZJ.2 e;rw[ZS (by rintro (h|h|h);exact H h;exact b h;exact e h)];by_cases j:a=4
 rw[ZP j];have p:(a==4)=ZX:=YV.2 j;clear H b e j W;rotate_left;have p:(a==4)=ZW:=ZJ.2 j;rw[ZS j];generalize cj l name=g at W |-;obtain⟨id,C⟩:=g;dsimp only at W |-;clear H b e j
 all_goals
  go_enter Tryz.func68,Tryz.ntmps68
  go_wp2_with (go_at_call 131;(refine W.o.mono ?_);rintro _ q ⟨rfl,m⟩;have B:=lh m;clear m)
  go_ret2
  first|exact⟨rfl,B.o⟩|exact⟨rfl,ZR _ _⟩
def iw(id:Int)(p:Z6)(x:Rw):Bool:=decide (x.1=id)&&((decide ((Z5 x.2.1).headD 0=68) || decide ((Z5 x.2.1).headD 0=71) || decide ((Z5 x.2.1).headD 0=65))&&Ds.match_ (Z5 (p++⟨#[46,42,42]⟩)) (Z5 (aN x.2.1)))
def fI(l:Z1 Rw)(id:Int)(p:Z6):Bool:=l.any (iw id p)
theorem EP{l:Z1 Rw}{k:Nat}{id:Int}{p:Z6}(h:k<l.length):(l.drop k).any (iw id p)=(iw id p l[k] || (l.drop (k+1)).any (iw id p)):=by
 rw[Zb h,List.any_cons]
theorem qC:((c.toNat:Int)==(d.toNat:Int))=decide (c=d):=by
 rw[Zn,YV,decide_eq_true_iff];constructor
 .intro h;exact UInt8.toNat_inj.1 (by omega)
 .rintro rfl;rfl
theorem re(p:Z6)(w:ZY)(P:RwS w v l)(O:∀ x∈l,x.2.1.size<=1000)(a4:p.size<=1000) :
 ZH Z8 135 #[v,.int .i64 id,.string p] w fun r w'=>r=.returned (.bool (fI l id p))/\Z4 w.heap.size w w':=by
 obtain⟨b,A⟩:∃ b,fI l id p=b:=⟨_,rfl⟩;rw[A];have HB:=lh A;have HL:=lh P;obtain⟨a,c,rfl,hz,-⟩:=VW P;have Z:=fun s W=>Bg (p++⟨#[46,42,42]⟩) s W
 have HM:=lh Z;clear P A Z;go_enter Tryz.func135,Tryz.ntmps135
 go_wp2_with fail
 go_loopw [7] (fun i wr=>∃ (k:Nat),k<=l.length/\i=.int .i64 k/\Hid ((l.drop k).any (iw id p)=b)/\Hid (Z4 w.heap.size w wr)) (fun i _=>l.length - (Zq i).toNat)
 case atStart=>exact⟨0,Y6 _,rfl,HB,lh (ZR _ _)⟩
 case round =>
  obtain⟨k,hk,rfl,HJ,BW⟩:=hrel;obtain⟨_,_,e,-,N⟩:=HL.o.below BW.o;injection e with E e2 e3
  subst E e3;clear e2;by_cases y:k<l.length
  rotate_left
  .obtain rfl:k=l.length:=by omega
   have H:=HJ.o;rw[List.drop_length,List.any_nil] at H;subst H;clear N;go_wp2_with fail
   go_ret
   exact⟨rfl,BW.o⟩
  obtain⟨b',o,rfl,-,m⟩:=N (by omega);obtain⟨p0,p1,p2⟩:=m k y;have j1:(0:Int)<=(k:Int):=by omega
  have j2:(k:Int)<(l.length:Int):=by omega
  have H:=HJ.o;rw[EP y] at H;have u:=O _ (YN y);generalize l[k]=x at p0 p1 p2 H u;obtain⟨T,X,xr⟩:=x;dsimp only at p0 p1 p2 H u;unfold iw at H;dsimp only at H;clear N m;by_cases E:T=id
  rotate_left
  .have t1:(T==id)=ZW:=ZJ.2 E;rw[ZG E,XT,WX] at H;have Q:=lh H;clear E H;go_wp2_with fail
   go_roundw
   case rel=>exact⟨k+1,by omega,by go_num,Q,BW⟩
   case measure=>simp [Zq];omega
  have t1:(T==id)=ZX:=YV.2 E;rw[ZI E,Zc] at H;clear E;by_cases n:1<=X.size
  rotate_left
  .have V:Z5 X=[]:=Y5 (by rw[ZZ];omega);have a0:(X.size:Int)=0:=by omega
   have C:(l.drop (k+1)).any (iw id p)=b:=by rw[V] at H;exact H
   have Q:=lh C;clear V H C;go_wp2_with fail
   all_goals try (exfalso;omega)
   go_roundw
   case rel=>exact⟨k+1,by omega,by go_num,Q,BW⟩
   case measure=>simp [Zq];omega
  have L:X[0]'n=(Z5 X).headD 0:=oX X n;have g0:(0:Int)<=0/\(0:Int)<(X.size:Int):=by omega
  have g1:decide ((0:Int)<(X.size:Int))=ZX:=ZI (by omega);have U:=lh (fun W=>tW X W n u);generalize (Z5 X).headD 0=q at H L;have u1:=qC q 68;have u2:=qC q 71;have u3:=qC q 65;have n1:(((68:ZM).toNat:Nat):Int)=68:=rfl;have n2:(((71:ZM).toNat:Nat):Int)=71:=rfl;have n3:(((65:ZM).toNat:Nat):Int)=65:=rfl;rw[n1] at u1;rw[n2] at u2;rw[n3] at u3;clear n1 n2 n3;by_cases z:q=68\/q=71\/q=65
  rotate_left
  .have G:¬ q=68:=fun h=>z (.inl h)
   have I:¬ q=71:=fun h=>z (.inr (.inl h))
   have J:¬ q=65:=fun h=>z (.inr (.inr h))
   rw[ZG G] at u1;rw[ZG I] at u2;rw[ZG J] at u3;rw[ZG G,ZG I,ZG J,Bool.or_false,Bool.or_false,XT,WX] at H;have Q:=lh H;clear H G I J z;go_wp2_with fail
   go_roundw
   case rel=>exact⟨k+1,by omega,by go_num,Q,BW⟩
   case measure=>simp [Zq];omega
  have D:(decide (q=68) || decide (q=71) || decide (q=65))=ZX:=by rcases z with h | h | h <;> subst h <;> rfl
  rw[D,Zc] at H;clear D;have t:=lh (fun W=>HM.o (aN X) W);generalize Ds.match_ (Z5 (p++⟨#[46,42,42]⟩)) (Z5 (aN X))=mt at t H;have B:=lh H;clear H
  have R:q=68\/(¬ q=68/\q=71)\/(¬ q=68/\¬ q=71/\q=65):=by
   rcases z with h|h|h
   .exact .inl h
   .exact .inr (.inl ⟨by rw[h];decide,h⟩)
   .exact .inr (.inr ⟨by rw[h];decide,by rw[h];decide,h⟩)
  clear z;rcases R with h|⟨K,h⟩|⟨K,Y,h⟩
  all_goals
   (try rw[ZG K] at u1)
   (try rw[ZG Y] at u2)
   (try rw[ZI h] at u1)
   (try rw[ZI h] at u2)
   (try rw[ZI h] at u3)
   (try clear K)
   (try clear Y)
   clear h;cases mt
   .go_wp2_with first|(go_at_call 222;(refine (U.o _).mono ?_);rintro _ _ ⟨rfl,rfl⟩)|go_at_call 221;(refine (t.o _).mono ?_);rintro _ w3 ⟨rfl,j⟩;have F:=lh (bt BW.o j);clear j
    go_roundw
    case rel=>exact⟨k+1,by omega,by go_num,lh (by have:=B.o;rwa [WX] at this),F⟩
    case measure=>simp [Zq];omega
   .go_wp2_with first|(go_at_call 222;(refine (U.o _).mono ?_);rintro _ _ ⟨rfl,rfl⟩)|go_at_call 221;(refine (t.o _).mono ?_);rintro _ w3 ⟨rfl,j⟩;have F:=lh (bt BW.o j);clear j
    go_ret
    have A:=B.o;rw[Bool.true_or] at A;subst A;exact⟨rfl,F.o⟩
end
section
open Go.RowKit
set_option linter.unusedSimpArgs false
attribute [local go_sem ↓] aZ bf bq cl eX
attribute [local go_sem] bn aS aH bE bH aK aT ak aI aw az aM ah aQ aL aP aO aR aY aW bD ap aq
theorem rX(_a1:bh (x.1.vals f gr).toList=ZX) :
 ZH Z8 216 #[.int .i64 id,.agg (x.1.vals f gr)] w fun r w'=>r=.returned (.agg (ch5 (bJ id x)))/\Z4 w.heap.size w w':=by
 have K:=lh (fun W=>lH x.1.kind x.1.name W);have R:=aI w (x.1.vals f gr) 29 (0,0) (.cells fH 67);have N:=ae R 0 _ (ap _ _ _);have b:=ae R 1 _ (aq _ _ _);have H:=Held.new (w.alloc (.cells (x.1.vals f gr) 29)) fH 67 5 rfl (by decide);rw[World.size_alloc] at H;unfold fH at *;unfold bJ;go_enter Tryz.func216,Tryz.ntmps216
 go_wp2_with (go_at_call 137;(with_reducible refine (K.o _).mono ?_);rintro _ e ⟨rfl,rfl⟩)
 refine bodyPost_ret (gN (n:=4) rfl Tryz.underlying67 rfl (by kernel_rfl) _ _ (w.heap.size+1) rfl (by rw[au H];rfl)) rfl ?_
 rw[au H];exact⟨rfl,below_setRow (below2' _ _ _) (by omega) _⟩
def jg(l:Z1 Rw)(x:Fu):Z1 Ch × Int:=if aA x=ZX then (if (dp l x.1.kind x.1.name).2≠0 then ([],(dp l x.1.kind x.1.name).2) else iK l (dp l x.1.kind x.1.name).1 x) else ([],1)
theorem zT(u:RwS w v l)(z:x.1.name.size<=60)(K:bh (x.1.vals f gr).toList=ZX)(V:∀ W,Z4 w.heap.size w W->ZH Z8 67 #[.agg (x.1.vals f gr)] W fun r w'=>r=.returned (.bool (aA x))/\Z4 W.heap.size W w')(E:aA x=ZX->∀ W,Z4 w.heap.size w W->ZH Z8 136 #[.agg (x.1.vals f gr)] W fun r w'=>r=.returned (.tuple #[.string (bC x),.int .i64 0])/\Z4 W.heap.size W w') :
 ZH Z8 58 #[v,.agg (x.1.vals f gr)] w fun r w'=>Ch2 w w' (jg l x) r:=by
 have F:=lh (fun W (b:Z4 w.heap.size w W)=>qF v l x.1.kind x.1.name W (u.below b));have D:=lh (fun id W (b:Z4 w.heap.size w W)=>Et v l id x f gr W (u.below b) z K (fun p t=>V p (bt b t)) (fun h p t=>E h p (bt b t)));have J:=ak w (x.1.vals f gr) 29 (0,0);have j:=lh (aj w (.cells (x.1.vals f gr) 29));unfold jg;clear u E;cases e:aA x
 rw[ZS (by decide)];rw[e] at V;have y:=lh V;clear V e D F;rotate_left;rw[ZP rfl];rw[e] at V;have y:=lh V;clear V e;generalize dp l x.1.kind x.1.name=g at F |-;obtain⟨id,C⟩:=g;dsimp only at F |-;by_cases n:C=0
 rotate_left;rw[ZP n];have T:(C != 0)=ZX:=bne_iff_ne.2 n;clear n D;rotate_right
 subst n;rw[ZS (fun h=>h rfl)];have A:=lh (D.o id);clear D;generalize iK l id x=q at A |-
 all_goals
  go_enter Tryz.func58,Tryz.ntmps58
  go_wp2_with first|go_at_call 67;(refine (y.o _ j.o).mono ?_);rintro _ P ⟨rfl,H⟩;have R:=am H J (by rw[ah];decide);have N:=ae R 0 _ (ap _ _ _);have L:=ae R 1 _ (aq _ _ _);have B:=lh (bt j.o H);clear H|go_at_call 68;(refine (F.o _ B.o).mono ?_);rintro _ Q ⟨rfl,H⟩;have O:=am H R (by rw[ah];decide);have o:=lh (bt B.o H);clear H|go_at_call 128;(refine (A.o _ o.o).mono ?_);rintro _ U ⟨ov,rfl,m,H⟩;have I:=lh m;have G:=lh (bt o.o H);clear H m
  go_ret2
  first|exact⟨_,rfl,I.o,G.o⟩|exact⟨_,rfl,bu _,o.o⟩|exact⟨_,rfl,bu _,B.o⟩
end
section
open Go.RowKit
set_option linter.unusedSimpArgs false
def gW(g:Z6):Z1 Rw->Z1 Int->Z1 Int
 | [],o=>o
 | x::X,o=>gW g X (if (XA (Z5 (aN x.2.1))=ZX/\dK (aN x.2.1)=g)/\x.2.1=aC 0 (aN x.2.1) then o++[((Ds.splN (Z5 (aN x.2.1)):Nat):Int)] else o)
def jj(l:Z1 Rw)(id:Int)(g:Z6):Z1 Int:=gW g (srt id 68 l) []
theorem Ak{g:Z6}{k:Nat}(h:k<S.length)(o:Z1 Int):gW g (S.drop k) o=gW g (S.drop (k+1)) (if (XA (Z5 (aN S[k].2.1))=ZX/\dK (aN S[k].2.1)=g)/\S[k].2.1=aC 0 (aN S[k].2.1) then o++[((Ds.splN (Z5 (aN S[k].2.1)):Nat):Int)] else o):=by
 rw[Zb h,gW]
theorem uX{id:Int}{c:ZM}{l:Z1 Rw}{x:Rw}(h:x∈srt id c l):x∈l/\cH id c x=ZX:=by
 have:=(iV id c l l.length x).1 (by rw[X0];exact h);rw[X0] at this;exact this
theorem Aj:(aN k).size<=k.size:=by
 rw[<-ZZ,<-ZZ k];unfold aN;rw[Ds.bl_mk];unfold Ek.trim;rw[List.length_take,XZ];omega
theorem yz(g:Z6)(w:ZY)(hn:l.length<=1000)(hS:RwS w v l)(ab:∀ x∈l,x.2.1.size<=60) :
 ZH Z8 214 #[v,.int .i64 id,.string g] w fun r w'=>∃ ov,r=.returned ov/\w'.ownsRow w.heap.size 3 1 ov (jj l id g).length (iv (jj l id g))/\Z4 w.heap.size w w':=by
 have Z:=ZC (qy id 68 l) hn
 have a1:∀ x∈srt id 68 l,x.2.1.size<=60/\1<=x.2.1.size:=fun x n=>by
  obtain⟨h1,h2⟩:=uX n;refine⟨ab x h1,?_⟩
  rcases Nat.eq_zero_or_pos x.2.1.size with h|h
  .exfalso
   have e:aU x=[]:=Y5 (by unfold aU;rw[ZZ];exact h);unfold cH at h2;rw[e] at h2;simp at h2
  .exact h
 have G:=lh (fun W (b:Z4 w.heap.size w W)=>rsort v l id 68 68 rfl W hn (hS.below b));unfold jj;generalize srt id 68 l=S at Z a1 G |-;generalize hR:gW g S []=R;have HR:=lh hR;obtain⟨a0,c0,rfl,-⟩:=VW hS;have L:=lh (World.ownsRow_made (size:=1) w (e:=3) #[] 0 (ZV _) (Y6 _) rfl);clear hR hS;go_enter Tryz.func214,Tryz.ntmps214
 go_upto_region 3 with (go_at_call 277;(with_reducible refine (G.o _ (by exact aB)).mono ?_);rintro _ w1 ⟨i,rfl,hV,a2,V⟩;have HV:=lh hV;have aa:=lh (show ∀ q,i.ownBlock=Z9 q->w.heap.size<q from fun q hq=>by have:=a2 q hq;simp at this;omega);have a3:=lh (aV L.o (fun x n=>V.block x (by cases n;simp)));have a4:=lh (show KW w w1 w1 (.slice (Z9 ⟨w.heap.size,0,Z7⟩) 0 0) from ⟨kd V,ZV _,fun _ _ _=>rfl,fun b hq=>.inl (by cases hq;rfl),(kd V).size⟩);clear hV a2 V)
 obtain⟨va,vc,rfl,-⟩:=VW HV.o;clear L G;go_wp2_with fail
 go_loopw [7,9] (fun ov kv wr=>∃ (k:Nat) (O:Z1 Int),k<=S.length/\kv=.int .i64 k/\Hid (gW g (S.drop k) O=R)/\O.length<=k/\Hid (wr.ownsRow w.heap.size 3 1 ov O.length (iv O))/\Hid (KW w w1 wr ov)) (fun _ kv _=>S.length - (Zq kv).toNat)
 case atStart=>exact⟨0,[],Y6 _,rfl,HR,ZV _,a3,a4⟩
 case round =>
  obtain⟨k,O,hk,rfl,HP,ho,y,K⟩:=hrel;obtain⟨oa,oc,rfl⟩:=bX y.o;obtain⟨_,_,e,-,hc⟩:=K.o.rws HV.o aa.o;injection e with e1 E A
  subst e1 A;clear E;by_cases I:k<S.length
  rotate_left
  .obtain rfl:k=S.length:=by omega
   have P:=HP.o;rw[Wh (ZV _),gW] at P;subst P;clear hc;go_wp2_with fail
   go_ret
   exact⟨_,rfl,y.o,K.o.b⟩
  obtain⟨b,o,rfl,V,p⟩:=hc (by omega);obtain⟨p0,J,p2⟩:=p k I;have i1:(0:Int)<=(k:Int):=by omega
  have i2:(k:Int)<(S.length:Int):=by omega
  have P:=HP.o;rw[Ak I] at P;have t:=a1 _ (YN I);generalize S[k]=x at p0 J p2 P t;obtain⟨xi,X,xr⟩:=x;dsimp only at p0 J p2 P t;have N:=lh (fun W=>tW X W t.2 (by omega));have T:=lh (fun W=>gI (aN X) W (ZC (Aj X) t.1));have Y:=lh (fun W=>lH 0 (aN X) W);have z:=lh J;have hz:S.length<=1000:=Z;clear p hc t p0 p2;change gW g (S.drop (k+1)) (if (XA (Z5 (aN X))=ZX/\dK (aN X)=g)/\X=aC 0 (aN X) then O++[((Ds.splN (Z5 (aN X)):Nat):Int)] else O)=R at P
  have j:Hid (∀ W,ZH Z8 143 #[.string (aN X)] W fun e w'=>e=.returned (.tuple #[.string (dK (aN X)),.int .i64 (Ds.splN (Z5 (aN X))),.bool (XA (Z5 (aN X)))])/\Z4 W.heap.size W w'):=T;clear T;generalize dK (aN X)=sg at P j;generalize ((Ds.splN (Z5 (aN X)):Nat):Int)=sn at P j;generalize XA (Z5 (aN X))=ok at P j;have m:=fd X (aC 0 (aN X));generalize aC 0 (aN X)=kz at P Y m;have t3:=fd sg g;cases ok
  .rw[ZS (by rintro ⟨⟨h,-⟩,-⟩;cases h)] at P;have Q:=lh P;clear P m
   go_wp2_with first|(go_at_call 222;(refine (N.o _).mono ?_);rintro _ _ ⟨rfl,rfl⟩)|go_at_call 143;(refine (j.o _).mono ?_);rintro _ w3 ⟨rfl,H⟩;have J:=ai H z.o;have B:=lh H;clear H
   go_quiet (fail)
   go_wp2_with fail
   go_roundw
   case rel=>exact⟨k+1,O,by omega,by go_num,Q,by omega,lh (aV (aV y.o (fun x n=>B.o.block x (ax y.o x n).2)) (fun x n=>rfl)),lh ((K.o.below B.o).below (below_drewN (ZR _ _) _))⟩
   case measure=>simp [Zq];omega
  by_cases E:sg=g
  rotate_left
  .rw[ZS (fun h=>E h.1.2)] at P;rw[ZG E] at t3;have Q:=lh P;clear P m E
   go_wp2_with first|(go_at_call 222;(refine (N.o _).mono ?_);rintro _ _ ⟨rfl,rfl⟩)|go_at_call 143;(refine (j.o _).mono ?_);rintro _ w3 ⟨rfl,H⟩;have J:=ai H z.o;have B:=lh H;clear H
   go_quiet (fail)
   go_wp2_with fail
   go_roundw
   case rel=>exact⟨k+1,O,by omega,by go_num,Q,by omega,lh (aV (aV y.o (fun x n=>B.o.block x (ax y.o x n).2)) (fun x n=>rfl)),lh ((K.o.below B.o).below (below_drewN (ZR _ _) _))⟩
   case measure=>simp [Zq];omega
  rw[ZI E] at t3;by_cases A:X=kz
  rotate_left
  .rw[ZS (fun h=>A h.2)] at P;rw[ZG A] at m;have Q:=lh P;clear P E A
   go_wp2_with first|(go_at_call 222;(refine (N.o _).mono ?_);rintro _ _ ⟨rfl,rfl⟩)|go_at_call 143;(refine (j.o _).mono ?_);rintro _ w3 ⟨rfl,H⟩;have J:=ai H z.o;have B:=lh H;clear H
   go_quiet (first|(go_at_call 222;exact WD ((N.o _).mono fun _ _ ⟨a,b⟩=>⟨a,b⟩))|(go_at_call 137;exact WD ((Y.o _).mono fun _ _ ⟨a,b⟩=>⟨a,b.symm⟩)))
   go_wp2_with fail
   go_roundw
   case rel=>exact⟨k+1,O,by omega,by go_num,Q,by omega,lh (aV (aV y.o (fun x n=>B.o.block x (ax y.o x n).2)) (fun x n=>rfl)),lh ((K.o.below B.o).below (below_drewN (ZR _ _) _))⟩
   case measure=>simp [Zq];omega
  rw[ZP ⟨⟨rfl,E⟩,A⟩] at P;rw[ZI A] at m;have Q:=lh P;clear P E A
  go_wp2_with first|(go_at_call 222;(refine (N.o _).mono ?_);rintro _ _ ⟨rfl,rfl⟩)|go_at_call 143;(refine (j.o _).mono ?_);rintro _ w3 ⟨rfl,H⟩;have J:=ai H z.o;have B:=lh H;clear H
  go_quiet (first|(go_at_call 222;exact WD ((N.o _).mono fun _ _ ⟨a,b⟩=>⟨a,b⟩))|(go_at_call 137;exact WD ((Y.o _).mono fun _ _ ⟨a,b⟩=>⟨a,b.symm⟩)))
  have F:=lh (aV (w':=w3.drewN nq) (aV y.o (fun x n=>B.o.block x (ax y.o x n).2)) (fun x n=>rfl));have D:=lh ((K.o.below B.o).below (below_drewN (ZR _ _) nq));generalize w3.drewN nq=W8 at F D |-;have a8:=lh (aV F.o (fun x n=>(aj W8 (.cells #[.int .i64 sn] 3)).block x (ax F.o x n).2));have a6:=lh (D.o.below (aj W8 (.cells #[.int .i64 sn] 3)));have zW:=D.o.b.size;go_wp2_with (at_builtin;refine dQ _ rfl (.tmp 55) (.tmp 57) 26 3 _ _ 1 8 rfl Tryz.underlying26 xo vw vx vy rfl (by decide) w.heap.size (.slice oa O.length oc) (.slice (Z9 ⟨W8.heap.size,0,Z7⟩) 1 1) O.length 1 (iv O) (iv [sn]) rfl a8.o rfl (uy _ _ _ rfl) (by intro u hu;unfold iv at hu;simp at hu;subst hu;rfl) (by unfold maxLen;omega) (by omega) (by simp;omega) ?_;intro a5 c5 w5 C hg U;have a9:=lh C;have a7:=lh (a6.o.grown hg U);clear C hg U)
  go_roundw
  case rel=>exact⟨k+1,O++[sn],by omega,by go_num,Q,by rw[ZO,Yt];omega,lh (by have h:=a9.o;rw[ZO,Yt];unfold iv at h |-;rw[WT];exact h),a7⟩
  case measure=>simp [Zq];omega
end
section
open Go.RowKit
set_option linter.unusedSimpArgs false
def eH(name:Z6):Z1 Rw->Z1 Fu->Z1 Fu × Int
 | [],o=>(o,0)
 | x::X,o=>if (bw x.2.1 x.2.2).2≠0 then ([],(bw x.2.1 x.2.2).2) else if (bw x.2.1 x.2.2).1.1.target=name then eH name X (o++[(bw x.2.1 x.2.2).1]) else eH name X o
def cW(l:Z1 Rw)(id:Int)(name:Z6):Z1 Fu × Int:=eH name (srt id 65 l) []
theorem zD{name:Z6}{k:Nat}(h:k<S.length)(o:Z1 Fu):eH name (S.drop k) o=if (bw S[k].2.1 S[k].2.2).2≠0 then ([],(bw S[k].2.1 S[k].2.2).2) else if (bw S[k].2.1 S[k].2.2).1.1.target=name then eH name (S.drop (k+1)) (o++[(bw S[k].2.1 S[k].2.2).1]) else eH name (S.drop (k+1)) o:=by
 rw[Zb h,eH]
attribute [local go_sem ↓] aZ bq cl
attribute [local go_sem ↓ high] bf
attribute [local go_sem] bn aS aH bE bH aK aT ak aI aw az aM ah aQ aL aP aO aR aY aW bD ap aq
theorem rA(hn:l.length<=1000)(hS:RwS w v l) :
 ZH Z8 215 #[v,.int .i64 id,.string name] w fun r w'=>xz w w' (cW l id name) r:=by
 have b3:=ZC (qy id 65 l) hn;have Q:=lh (fun W (b:Z4 w.heap.size w W)=>rsort v l id 65 65 rfl W hn (hS.below b));unfold cW;generalize srt id 65 l=S at b3 Q |-;generalize hR:eH name S []=R;have HR:=lh hR;have a6:=lh (HJ.startA w.heap.size w w.heap.size rfl (ZV _));obtain⟨a0,c0,rfl,-⟩:=VW hS;clear hR hS;go_enter Tryz.func215,Tryz.ntmps215
 go_upto_region 3 with (go_at_call 277;(with_reducible refine (Q.o _ (by exact aB)).mono ?_);rintro _ w1 ⟨i,rfl,hV,al,hb⟩;have HV:=lh hV;have b1:=lh (show ∀ q,i.ownBlock=Z9 q->w.heap.size<q from fun q hq=>by have:=al q hq;simp at this;omega);have ao:=lh (a6.o.below hb);have av:=lh (show KW w w1 w1 (.slice (Z9 ⟨w.heap.size,0,Z7⟩) 0 0) from ⟨kd hb,ZV _,fun _ _ _=>rfl,fun b hq=>.inl (by cases hq;rfl),(kd hb).size⟩);clear hV al hb)
 obtain⟨va,vc,rfl,-⟩:=VW HV.o;clear a6 Q;go_wp2_with fail
 go_loopw [8,10] (fun ov kv wr=>∃ (k:Nat) (O:Z1 Fu) (m:Z1 (Array Z2)),k<=S.length/\kv=.int .i64 k/\Hid (eH name (S.drop k) O=R)/\O.length<=k/\Hid (HJ w.heap.size wr ov (O.map cY) m)/\Hid (KW w w1 wr ov)) (fun _ kv _=>S.length - (Zq kv).toNat)
 case atStart=>exact⟨0,[],[],Y6 _,rfl,HR,ZV _,ao,av⟩
 case round =>
  obtain⟨k,O,m,hk,rfl,HP,ho,C,D⟩:=hrel;have n:=C.o.own;rw[Y4] at n;obtain⟨oa,oc,rfl⟩:=bX n;obtain⟨_,_,e,-,hc⟩:=D.o.rws HV.o b1.o;injection e with e1 e2 F
  subst e1 F;clear e2 n;by_cases af:k<S.length
  rotate_left
  .obtain rfl:k=S.length:=by omega
   have P:=HP.o;rw[Wh (ZV _),eH] at P;subst P;clear hc;go_wp2_with fail
   go_ret2
   exact⟨_,m,rfl,C.o,D.o.b⟩
  obtain⟨b,o,rfl,hb,u⟩:=hc (by omega);obtain⟨-,I,J⟩:=u k af;have i1:(0:Int)<=(k:Int):=by omega
  have i2:(k:Int)<(S.length:Int):=by omega
  have P:=HP.o;rw[zD af] at P;generalize S[k]=x at I J P;obtain⟨xi,xk,xr⟩:=x;dsimp only at I J P;have N:=lh (fun W=>tX xk xr W);have B:=lw (k:=xk) (r:=xr);generalize bw xk xr=y at P N B;obtain⟨y,E⟩:=y;dsimp only at P N B;clear u hc;go_upto_region 6 with fail
  have d1:=fun z=>(show (wr.alloc z).drew.cell? ⟨b,o+k*3+1,Z7⟩=Z9 (.string xk) from ai (aj wr z).drew I)
  have d2:=fun z=>(show (wr.alloc z).drew.cell? ⟨b,o+k*3+2,Z7⟩=Z9 (.string xr) from ai (aj wr z).drew J)
  have d3:=fun (W:ZY) (cs:Array Z2) j v (h:W.cell? ⟨b,j,Z7⟩=Z9 v)=>(show (W.setRow wr.heap.size cs).cell? ⟨b,j,Z7⟩=Z9 v from (World.cell?_of_block (a:=⟨b,j,Z7⟩) (cP _ _ _ _ (by show b≠_;omega))).trans h)
  go_region_held3 (fun w'=>w'.cell? ⟨b,o+k*3+1,Z7⟩=Z9 (.string xk)/\w'.cell? ⟨b,o+k*3+2,Z7⟩=Z9 (.string xr)) (first|exact⟨I,J⟩|exact⟨ai H I,ai H J⟩|exact⟨ai (aj _ _) (ai H I),ai (aj _ _) (ai H J)⟩|exact⟨d1 _,d2 _⟩|exact⟨ai H (d1 _),ai H (d2 _)⟩|exact⟨d3 _ _ _ _ (ai H (d1 _)),d3 _ _ _ _ (ai H (d2 _))⟩|assumption) (first|(go_at_call 220;(refine (N.o _).mono ?_);rintro _ p ⟨⟨f,gr,rfl,hI,t,U,A⟩,H⟩;have G:=ay y.1 f gr (aD hI) (aE t);have H3:=cG p 29;(try have H4:=Held.below (by rw[bn];exact cG wr 29) H)))
  have ab:Z4 wr.heap.size wr p:=(ZR _ _).drew.trans H;have K:Z4 wr.heap.size wr (p.alloc (.cells (y.1.vals f gr) 29)):=bt ab (aj _ _);have X:row (p.alloc (.cells (y.1.vals f gr) 29)) p.heap.size=y.1.vals f gr:=ak p _ _ (0,0);have I8:IS (p.alloc (.cells (y.1.vals f gr) 29)) f y.2.1:=hI.below (aj _ _);have G8:GS (p.alloc (.cells (y.1.vals f gr) 29)) gr y.2.2:=t.below (aj _ _);have V:∀ q,gr.ownBlock=Z9 q->wr.heap.size<=q:=A;clear H ab hI t U A H3 I J d1 d2 d3;generalize p.alloc (.cells (y.1.vals f gr) 29)=W8 at K X I8 G8 |-;generalize p.heap.size=q at X |-;rotate_left;have ac:Z4 wr.heap.size wr p:=(aj wr _).drew.trans (H.mono (by show wr.heap.size<=(wr.alloc _).heap.size;simp));have K:Z4 wr.heap.size wr (p.setRow wr.heap.size (y.1.vals f gr)):=below_setRow ac (ZV _) _;have X:row (p.setRow wr.heap.size (y.1.vals f gr)) wr.heap.size=y.1.vals f gr:=au H4 _;have I8:IS (p.setRow wr.heap.size (y.1.vals f gr)) f y.2.1:=GL hI _ (fun z hz=>by have Z:(wr.alloc _).heap.size<=z:=U z hz;simp at Z;omega);have G8:GS (p.setRow wr.heap.size (y.1.vals f gr)) gr y.2.2:=GF t _ (fun z hz=>by have Z:(wr.alloc _).heap.size<=z:=A z hz;simp at Z;omega);have V:∀ q,gr.ownBlock=Z9 q->wr.heap.size<=q:=fun z hz=>by have Z:(wr.alloc _).heap.size<=z:=A z hz;simp at Z;omega
  clear ac H hI t U A H3 H4 I J d1 d2 d3;generalize p.setRow wr.heap.size (y.1.vals f gr)=W8 at K X I8 G8 |-;obtain⟨q,hq⟩:∃ q,wr.heap.size=q:=⟨_,rfl⟩;rw[hq] at X |-;clear hq
  all_goals
   have b5:=ae X 29 _ (cB _ _ _);have KB:=lh (D.o.below K);have a8:=lh (C.o.below K);have b4:=lh K;have HI:=lh I8;have L:=lh G8;have HF:=lh V;clear I8 G8 V K;by_cases Y:E=0
   rotate_left
   .rw[ZP Y] at P;subst P;have t1:(E != 0)=ZX:=bne_iff_ne.2 Y;clear Y B;go_wp2_with fail
    go_ret2
    exact⟨.slice Z7 0 0,[],rfl,HJ.start _ _,KB.o.b⟩
   subst Y;rw[ZS (fun h=>h rfl)] at P;have b2:=wg y (B (fun h=>h rfl)).1;have t3:=fd y.1.target name;clear B;by_cases F:y.1.target=name
   rotate_left
   .rw[ZS F] at P;rw[ZG F] at t3;have HQ:=lh P;clear P F;go_wp2_with fail
    go_roundw
    case rel=>exact⟨k+1,O,m,by omega,by go_num,HQ,by omega,a8,KB⟩
    case measure=>simp [Zq];omega
   rw[ZP F] at P;rw[ZI F] at t3;have HQ:=lh P;clear P F;obtain⟨a1,c1,rfl,-⟩:=VW HI.o;obtain⟨a2,c2,rfl,-⟩:=VW L.o;have z8:=KB.o.b.size;have a7:=lh (a8.o.below (aj W8 (.cells (y.1.vals (.slice a1 y.2.1.length c1) (.slice a2 y.2.2.length c2)) 29)));go_wp2_with (at_builtin;refine dQ _ rfl (.tmp 44) (.tmp 46) 33 29 _ _ 33 336 rfl Tryz.underlying33 kI xf xh xj (ah _ _ _) (by decide) w.heap.size (.slice oa O.length oc) (.slice (Z9 ⟨W8.heap.size,0,Z7⟩) 1 1) O.length 1 (ec m) ((y.1.vals (.slice a1 y.2.1.length c1) (.slice a2 y.2.2.length c2))).toList rfl (jC a7.o.own) rfl (vE rfl (ah _ _ _)) (all1 G) (by unfold maxLen;omega) (by omega) (by simp;omega) ?_;intro a5 c5 w5 n hg aa;have a9:=lh n;have a4:=lh hg;have a3:=lh aa;clear n hg aa)
   have ad:GJ w.heap.size (W8.alloc (.cells (y.1.vals (.slice a1 y.2.1.length c1) (.slice a2 y.2.2.length c2)) 29)) (Value.slice oa O.length oc).ownBlock (y.1.vals (.slice a1 y.2.1.length c1) (.slice a2 y.2.2.length c2)) (cY y):=by
    refine⟨a1,c1,a2,c2,rfl,?_,ZC b2 (by decide),rfl,L.o.below (aj _ _),fun Y b' T=>⟨fun e=>?_,?_,?_⟩⟩
    .obtain⟨_,_,e,hz,-⟩:=HI.o;show y.2.1.length<=_
     omega
    .have Z:=(ax C.o.own b' e).2;have h2:=HF.o b' T;omega
    .have h2:=HF.o b' T;have h3:=D.o.b.size;omega
    .have h3:=sx L.o Y b' T;simp at h3 |-;omega
   have ar:=lh (a7.o.snoc (x:=cY y) (tP a9.o) a4.o a3.o (ah _ _ _) G ad);have b0:=lh ((KB.o.below (aj _ _)).grown a4.o a3.o);clear ad;go_roundw
   case rel=>exact⟨k+1,O++[y],_,by omega,by go_num,HQ,by rw[ZO,Yt];omega,lh (by rw[WT];exact ar.o),b0⟩
   case measure=>simp [Zq];omega
end
end Go.Proofs.YtnkjliahpeebjaaGreatDoor
