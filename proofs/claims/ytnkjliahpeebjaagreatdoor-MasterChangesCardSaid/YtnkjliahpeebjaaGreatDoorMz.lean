/- Catalogs. -/
import Derived.Test.YtnkjliahpeebjaaGreatDoorMx
import Derived.Test.YtnkjliahpeebjaaGreatDoorCu
import Derived.Test.YtnkjliahpeebjaaGreatDoorRp
set_option maxRecDepth 8000
set_option maxHeartbeats 16000000
open Option renaming some->Z9,none->Z7
open Go.Proofs.Tryz renaming prog->Z8
open _root_ renaming ByteArray->Z6,List->Z3,if_neg->ZX,decide_eq_true_eq->ZW,if_pos->ZT,beq_eq_false_iff_ne->ZS,UInt8->ZP,decide_eq_true->ZO,decide_eq_false->ZN,bne_iff_ne->Zi,beq_iff_eq->Zb,id->V7
open Go.Proofs.YtnkjliahpeebjaaGreatDoor.Ds renaming bl->Z5,bl_length->Z0,gen->Xp
open Go.RowKit renaming Below->Z4,intOf->Zq
open Bool renaming false->Z2,true->ZZ,eq_iff_iff->Zr,true_and->Zf,false_and->X8,false_or->XC
open Nat renaming le_refl->ZV,le_trans->ZE,zero_le->Zc
open Go.RowKit.Below renaming refl->ZR
open List renaming length_append->ZM,length_map->Zt,eq_nil_of_length_eq_zero->Zd,drop_eq_getElem_cons->Y4,getElem_mem->YT,length_singleton->YE,length_drop->Yp,take_length->XU,map_append->XL,drop_eq_nil_of_le->Wf
open Go renaming Calls->ZJ
open Go.Calls renaming quiet_of_same->WG
namespace Go.Proofs.YtnkjliahpeebjaaGreatDoor
open Go.RowKit
variable(k s:Z6)(v:Value){S:Z3 Rw}(c d:ZP)(l:Z3 Rw)(id a:Int)(x:Fu)(name:Z6)(f gr:Value)(w:World)
section
set_option linter.unusedSimpArgs false
theorem tW(z:1<=k.size)(D:k.size<=1000) :
 ZJ Z8 222 #[.string k] w fun r W=>r=.returned (.string (aN k))/\W=w:=by
 have g:((Z5 k).drop 1).length=k.size - 1:=by rw[Yp,Z0]
 have n:∀ j,j+1<=k.size->Ek.tlen ((Z5 k).drop 1) (k.size - 1)=j->k.extract 1 (j+1)=aN k:=fun j p A=>by
  have u:Z5 (k.extract 1 (j+1))=((Z5 k).drop 1).take j:=by
   unfold Z5;rw[ByteArray.data_extract,Array.toList_extract];simp [List.extract]
  have y:Z5 (aN k)=Ek.trim ((Z5 k).drop 1):=Ds.bl_mk _;refine Ds.bl_inj (u.trans (Eq.symm (y.trans ?_)))
  unfold Ek.trim;rw[g,A]
 have F:=lh n;clear n;go_enter Tryz.func222,Tryz.ntmps222
 go_wp2_with fail
 go_loopw [3] (fun v wr=>∃ (j:Nat),j+1<=k.size/\v=.int .i64 ((j+1:Nat):Int)/\Hid (Ek.tlen ((Z5 k).drop 1) (k.size - 1)=Ek.tlen ((Z5 k).drop 1) j)/\wr=w) (fun v _=>(Zq v).toNat)
 case atStart=>exact⟨k.size - 1,by omega,by rw[Nat.sub_add_cancel z],lh rfl,rfl⟩
 case round =>
  obtain⟨j,p,rfl,E,rfl⟩:=hrel;by_cases B:0<j
  .obtain⟨i,rfl⟩:∃ i,j=i+1:=⟨j - 1,by omega⟩;have m:i+1<k.size:=by omega
   have o:((Z5 k).drop 1)[i]?=Z9 k[i+1]:=by
    rw[List.getElem?_drop,List.getElem?_eq_getElem (by rw[Z0];omega)];have:=Ds.bl_get k (i+1) m;rw[this];congr 2
    omega
   have q:=qQ k[i+1];have C:=lh o;have J:(0:Int)<=((i+1:Nat):Int):=by omega
   have G:((i+1:Nat):Int)<(k.size:Int):=by omega
   have I:((i+1+1:Nat):Int) - 1=((i+1:Nat):Int):=by omega
   have K:decide ((1:Int)<((i+1+1:Nat):Int))=ZZ:=ZO (by omega);have L:(((i+1:Nat):Int)).toNat=i+1:=by omega
   clear o;by_cases H:k[i+1]=32
   .rw[ZO H] at q;have b:=lh H;clear H;go_wp2_with fail
    all_goals try (exfalso;omega)
    go_roundw
    case rel=>exact⟨i,by omega,by go_num,lh (by rw[E.o];exact Ek.tlen_yes _ _ (by rw[C.o,b.o])),trivial⟩
    case measure=>simp [Zq];omega
   .rw[ZN H] at q;have b:=lh H;clear H;go_wp2_with fail
    all_goals try (exfalso;omega)
    go_ret
    exact⟨congrArg (fun t=>Ending.returned (Value.string t)) (F.o (i+1) p (by rw[E.o];exact Ek.tlen_no _ _ (by rw[C.o];intro e;exact b.o (Option.some.inj e)))),rfl⟩
  .obtain rfl:j=0:=by omega
   go_wp2_with fail
   all_goals try (exfalso;omega)
   go_ret
   exact⟨by have h:=F.o 0 (by omega) (by rw[E.o];rfl);rw[<-h];simp,rfl⟩
theorem rT(o:s.size<=1000):ZJ Z8 133 #[.string s] w fun r q=>r=.returned (.bool (dy s))/\Z4 w.heap.size w q:=by
 have p:decide ((Ds.pieces (Z5 s)).length<=2)=decide ((Lib.countByte s.data.toList 46:Int)<2):=by
  rw[Ds.pieces_len,Zr,ZW,ZW];unfold Lib.countByte Z5;omega
 unfold dy;rw[<-p];have H:=lh (fun W=>dt s W);have P:=lh (fun W=>oj s W o);generalize m:Ds.name (Z5 s)=N at H |-;clear p m;cases N
 .go_enter Tryz.func133,Tryz.ntmps133
  go_wp2_with (go_at_call 130;(refine (H.o _).mono ?_);rintro _ t ⟨rfl,h⟩;have B:=lh h;clear h)
  go_ret
  exact⟨rfl,B.o⟩
 .go_enter Tryz.func133,Tryz.ntmps133
  go_wp2_with first|go_at_call 130;(refine (H.o _).mono ?_);rintro _ t ⟨rfl,h⟩;have B:=lh h;clear h|go_at_call 149;(refine (P.o _).mono ?_);rintro _ A ⟨z,g,C,e,u,E,j,rfl,n,y,h⟩;have L:=lh (congrArg List.length e);have i:=lh (bt B.o h);clear h e E j n
  all_goals
   go_ret
   have b:=L.o;rw[Zt] at b;rw[<-b];exact⟨by simp_all;omega,i.o⟩
def dp(l:Z3 Rw)(a:Int)(name:Z6):Int × Int :=
 if a<0\/4<a\/a=3 then (0,1) else if a=4 then (1,0) else cj l name
theorem qF(m:RwS w v l) :
 ZJ Z8 68 #[v,.int .i64 a,.string name] w fun r p=>r=.returned (.tuple #[.int .i64 (dp l a name).1,.int .i64 (dp l a name).2])/\Z4 w.heap.size w p:=by
 have W:=lh (ms v l name w m);clear m;unfold dp;by_cases H:a<0
 rw[ZT (.inl H)];have t:decide (a<0)=ZZ:=ZO H;clear H W;rotate_left;have t:decide (a<0)=Z2:=ZN H;by_cases b:4<a
 rw[ZT (.inr (.inl b))];have T:decide (4<a)=ZZ:=ZO b;clear H b W;rotate_left;have T:decide (4<a)=Z2:=ZN b;by_cases e:a=3
 rw[ZT (.inr (.inr e))];have n:(a==3)=ZZ:=Zb.2 e;clear H b e W;rotate_left;have n:(a==3)=Z2:=ZS.2 e;rw[ZX (by rintro (h|h|h);exact H h;exact b h;exact e h)];by_cases i:a=4
 rw[ZT i];have o:(a==4)=ZZ:=Zb.2 i;clear H b e i W;rotate_left;have o:(a==4)=Z2:=ZS.2 i;rw[ZX i];generalize cj l name=g at W |-;obtain⟨id,C⟩:=g;dsimp only at W |-;clear H b e i
 all_goals
  go_enter Tryz.func68,Tryz.ntmps68
  go_wp2_with (go_at_call 131;(refine W.o.mono ?_);rintro _ q ⟨rfl,j⟩;have B:=lh j;clear j)
  go_ret2
  first|exact⟨rfl,B.o⟩|exact⟨rfl,ZR _ _⟩
def iw(id:Int)(p:Z6)(x:Rw):Bool:=decide (x.1=id)&&((decide ((Z5 x.2.1).headD 0=68) || decide ((Z5 x.2.1).headD 0=71) || decide ((Z5 x.2.1).headD 0=65))&&Ds.match_ (Z5 (p++⟨#[46,42,42]⟩)) (Z5 (aN x.2.1)))
def fI(l:Z3 Rw)(id:Int)(p:Z6):Bool:=l.any (iw id p)
theorem EP{l:Z3 Rw}{k:Nat}{id:Int}{p:Z6}(h:k<l.length):(l.drop k).any (iw id p)=(iw id p l[k] || (l.drop (k+1)).any (iw id p)):=by
 rw[Y4 h,List.any_cons]
theorem qC:((c.toNat:Int)==(d.toNat:Int))=decide (c=d):=by
 rw[Zr,Zb,decide_eq_true_iff];constructor
 .intro h;exact UInt8.toNat_inj.1 (by omega)
 .rintro rfl;rfl
theorem re(p:Z6)(w:World)(O:RwS w v l)(N:∀ x∈l,x.2.1.size<=1000)(a4:p.size<=1000) :
 ZJ Z8 135 #[v,.int .i64 id,.string p] w fun r w'=>r=.returned (.bool (fI l id p))/\Z4 w.heap.size w w':=by
 obtain⟨b,z⟩:∃ b,fI l id p=b:=⟨_,rfl⟩;rw[z];have HB:=lh z;have HL:=lh O;obtain⟨a,c,rfl,hz,-⟩:=V7 O;have Y:=fun s W=>Bg (p++⟨#[46,42,42]⟩) s W
 have HM:=lh Y;clear O z Y;go_enter Tryz.func135,Tryz.ntmps135
 go_wp2_with fail
 go_loopw [7] (fun i wr=>∃ (k:Nat),k<=l.length/\i=.int .i64 k/\Hid ((l.drop k).any (iw id p)=b)/\Hid (Z4 w.heap.size w wr)) (fun i _=>l.length - (Zq i).toNat)
 case atStart=>exact⟨0,Zc _,rfl,HB,lh (ZR _ _)⟩
 case round =>
  obtain⟨k,hk,rfl,HJ,BW⟩:=hrel;obtain⟨_,_,e,-,L⟩:=HL.o.below BW.o;injection e with E e2 e3
  subst E e3;clear e2;by_cases u:k<l.length
  rotate_left
  .obtain rfl:k=l.length:=by omega
   have H:=HJ.o;rw[List.drop_length,List.any_nil] at H;subst H;clear L;go_wp2_with fail
   go_ret
   exact⟨rfl,BW.o⟩
  obtain⟨b',o,rfl,-,j⟩:=L (by omega);obtain⟨p0,p1,p2⟩:=j k u;have j1:(0:Int)<=(k:Int):=by omega
  have j2:(k:Int)<(l.length:Int):=by omega
  have H:=HJ.o;rw[EP u] at H;have t:=N _ (YT u);generalize l[k]=x at p0 p1 p2 H t;obtain⟨R,X,xr⟩:=x;dsimp only at p0 p1 p2 H t;unfold iw at H;dsimp only at H;clear L j;by_cases E:R=id
  rotate_left
  .have t1:(R==id)=Z2:=ZS.2 E;rw[ZN E,X8,XC] at H;have Q:=lh H;clear E H;go_wp2_with fail
   go_roundw
   case rel=>exact⟨k+1,by omega,by go_num,Q,BW⟩
   case measure=>simp [Zq];omega
  have t1:(R==id)=ZZ:=Zb.2 E;rw[ZO E,Zf] at H;clear E;by_cases m:1<=X.size
  rotate_left
  .have U:Z5 X=[]:=Zd (by rw[Z0];omega);have a0:(X.size:Int)=0:=by omega
   have B:(l.drop (k+1)).any (iw id p)=b:=by rw[U] at H;exact H
   have Q:=lh B;clear U H B;go_wp2_with fail
   all_goals try (exfalso;omega)
   go_roundw
   case rel=>exact⟨k+1,by omega,by go_num,Q,BW⟩
   case measure=>simp [Zq];omega
  have K:X[0]'m=(Z5 X).headD 0:=oX X m;have g0:(0:Int)<=0/\(0:Int)<(X.size:Int):=by omega
  have g1:decide ((0:Int)<(X.size:Int))=ZZ:=ZO (by omega);have T:=lh (fun W=>tW X W m t);generalize (Z5 X).headD 0=q at H K;have u1:=qC q 68;have u2:=qC q 71;have u3:=qC q 65;have Z:(((68:ZP).toNat:Nat):Int)=68:=rfl;have n2:(((71:ZP).toNat:Nat):Int)=71:=rfl;have n3:(((65:ZP).toNat:Nat):Int)=65:=rfl;rw[Z] at u1;rw[n2] at u2;rw[n3] at u3;clear Z n2 n3;by_cases y:q=68\/q=71\/q=65
  rotate_left
  .have F:¬ q=68:=fun h=>y (.inl h)
   have G:¬ q=71:=fun h=>y (.inr (.inl h))
   have I:¬ q=65:=fun h=>y (.inr (.inr h))
   rw[ZN F] at u1;rw[ZN G] at u2;rw[ZN I] at u3;rw[ZN F,ZN G,ZN I,Bool.or_false,Bool.or_false,X8,XC] at H;have Q:=lh H;clear H F G I y;go_wp2_with fail
   go_roundw
   case rel=>exact⟨k+1,by omega,by go_num,Q,BW⟩
   case measure=>simp [Zq];omega
  have C:(decide (q=68) || decide (q=71) || decide (q=65))=ZZ:=by rcases y with h | h | h <;> subst h <;> rfl
  rw[C,Zf] at H;clear C;have n:=lh (fun W=>HM.o (aN X) W);generalize Ds.match_ (Z5 (p++⟨#[46,42,42]⟩)) (Z5 (aN X))=mt at n H;have A:=lh H;clear H
  have P:q=68\/(¬ q=68/\q=71)\/(¬ q=68/\¬ q=71/\q=65):=by
   rcases y with h|h|h
   .exact .inl h
   .exact .inr (.inl ⟨by rw[h];decide,h⟩)
   .exact .inr (.inr ⟨by rw[h];decide,by rw[h];decide,h⟩)
  clear y;rcases P with h|⟨J,h⟩|⟨J,V,h⟩
  all_goals
   (try rw[ZN J] at u1)
   (try rw[ZN V] at u2)
   (try rw[ZO h] at u1)
   (try rw[ZO h] at u2)
   (try rw[ZO h] at u3)
   (try clear J)
   (try clear V)
   clear h;cases mt
   .go_wp2_with first|(go_at_call 222;(refine (T.o _).mono ?_);rintro _ _ ⟨rfl,rfl⟩)|go_at_call 221;(refine (n.o _).mono ?_);rintro _ w3 ⟨rfl,g⟩;have D:=lh (bt BW.o g);clear g
    go_roundw
    case rel=>exact⟨k+1,by omega,by go_num,lh (by have:=A.o;rwa [XC] at this),D⟩
    case measure=>simp [Zq];omega
   .go_wp2_with first|(go_at_call 222;(refine (T.o _).mono ?_);rintro _ _ ⟨rfl,rfl⟩)|go_at_call 221;(refine (n.o _).mono ?_);rintro _ w3 ⟨rfl,g⟩;have D:=lh (bt BW.o g);clear g
    go_ret
    have z:=A.o;rw[Bool.true_or] at z;subst z;exact⟨rfl,D.o⟩
end
section
set_option linter.unusedSimpArgs false
attribute [local go_sem ↓] aZ bf bq cl eX
attribute [local go_sem] bn aS aH bE bH aK aT ak aI aw az aM ah aQ aL aP aO aR aY aW bD ap aq
theorem rX(_a1:bh (x.1.vals f gr).toList=ZZ) :
 ZJ Z8 216 #[.int .i64 id,.agg (x.1.vals f gr)] w fun r b=>r=.returned (.agg (ch5 (bJ id x)))/\Z4 w.heap.size w b:=by
 have K:=lh (fun W=>lH x.1.kind x.1.name W);have R:=aI w (x.1.vals f gr) 29 (0,0) (.cells fH 67);have N:=ae R 0 _ (ap _ _ _);have e:=ae R 1 _ (aq _ _ _);have H:=Held.new (w.alloc (.cells (x.1.vals f gr) 29)) fH 67 5 rfl (by decide);rw[World.size_alloc] at H;unfold fH at *;unfold bJ;go_enter Tryz.func216,Tryz.ntmps216
 go_wp2_with (go_at_call 137;(with_reducible refine (K.o _).mono ?_);rintro _ g ⟨rfl,rfl⟩)
 refine bodyPost_ret (gN (n:=4) rfl Tryz.underlying67 rfl (by kernel_rfl) _ _ (w.heap.size+1) rfl (by rw[au H];rfl)) rfl ?_
 rw[au H];exact⟨rfl,below_setRow (below2' _ _ _) (by omega) _⟩
def jg(l:Z3 Rw)(x:Fu):Z3 Ch × Int:=if aA x=ZZ then (if (dp l x.1.kind x.1.name).2≠0 then ([],(dp l x.1.kind x.1.name).2) else iK l (dp l x.1.kind x.1.name).1 x) else ([],1)
def jS(l:Z3 Rw)(x:Fu):Z3 Ch × Int:=if aA x=ZZ then (if (dp l x.1.kind x.1.name).2≠0 then ([],(dp l x.1.kind x.1.name).2) else jP l (dp l x.1.kind x.1.name).1 x) else ([],1)
theorem zT(u:RwS w v l)(z:x.1.name.size<=60)(K:bh (x.1.vals f gr).toList=ZZ)(V:∀ W,Z4 w.heap.size w W->ZJ Z8 67 #[.agg (x.1.vals f gr)] W fun r m=>r=.returned (.bool (aA x))/\Z4 W.heap.size W m)(E:aA x=ZZ->∀ W,Z4 w.heap.size w W->ZJ Z8 136 #[.agg (x.1.vals f gr)] W fun r m=>r=.returned (.tuple #[.string (bC x),.int .i64 0])/\Z4 W.heap.size W m) :
 ZJ Z8 58 #[v,.agg (x.1.vals f gr)] w fun r m=>Ch2 w m (jg l x) r:=by
 have F:=lh (fun W (b:Z4 w.heap.size w W)=>qF v l x.1.kind x.1.name W (u.below b));have D:=lh (fun id W (b:Z4 w.heap.size w W)=>Et v l id x f gr W (u.below b) z K (fun p t=>V p (bt b t)) (fun h p t=>E h p (bt b t)));have J:=ak w (x.1.vals f gr) 29 (0,0);have i:=lh (aj w (.cells (x.1.vals f gr) 29));unfold jg;clear u E;cases e:aA x
 rw[ZX (by decide)];rw[e] at V;have y:=lh V;clear V e D F;rotate_left;rw[ZT rfl];rw[e] at V;have y:=lh V;clear V e;generalize dp l x.1.kind x.1.name=g at F |-;obtain⟨id,C⟩:=g;dsimp only at F |-;by_cases n:C=0
 rotate_left;rw[ZT n];have T:(C != 0)=ZZ:=Zi.2 n;clear n D;rotate_right
 subst n;rw[ZX (fun h=>h rfl)];have A:=lh (D.o id);clear D;generalize iK l id x=q at A |-
 all_goals
  go_enter Tryz.func58,Tryz.ntmps58
  go_wp2_with first|go_at_call 67;(refine (y.o _ i.o).mono ?_);rintro _ Q ⟨rfl,H⟩;have R:=am H J (by rw[ah];decide);have N:=ae R 0 _ (ap _ _ _);have L:=ae R 1 _ (aq _ _ _);have B:=lh (bt i.o H);clear H|go_at_call 68;(refine (F.o _ B.o).mono ?_);rintro _ U ⟨rfl,H⟩;have O:=am H R (by rw[ah];decide);have o:=lh (bt B.o H);clear H|go_at_call 128;(refine (A.o _ o.o).mono ?_);rintro _ X ⟨P,rfl,j,H⟩;have I:=lh j;have G:=lh (bt o.o H);clear H j
  go_ret2
  first|exact⟨_,rfl,I.o,G.o⟩|exact⟨_,rfl,bu _,o.o⟩|exact⟨_,rfl,bu _,B.o⟩
theorem zX(u:RwS w v l)(J:bh (x.1.vals f gr).toList=ZZ)(V:∀ W,Z4 w.heap.size w W->ZJ Z8 67 #[.agg (x.1.vals f gr)] W fun r m=>r=.returned (.bool (aA x))/\Z4 W.heap.size W m)(E:aA x=ZZ->∀ W,Z4 w.heap.size w W->ZJ Z8 136 #[.agg (x.1.vals f gr)] W fun r m=>r=.returned (.tuple #[.string (bC x),.int .i64 0])/\Z4 W.heap.size W m) :
 ZJ Z8 24 #[v,.agg (x.1.vals f gr)] w fun r m=>Ch2 w m (jS l x) r:=by
 have F:=lh (fun W (b:Z4 w.heap.size w W)=>qF v l x.1.kind x.1.name W (u.below b));have D:=lh (fun id W (b:Z4 w.heap.size w W)=>yA v l id x f gr W (u.below b) J (fun p t=>V p (bt b t)) (fun h p t=>E h p (bt b t)));have I:=ak w (x.1.vals f gr) 29 (0,0);have i:=lh (aj w (.cells (x.1.vals f gr) 29));unfold jS;clear u E;cases e:aA x
 rw[ZX (by decide)];rw[e] at V;have y:=lh V;clear V e D F;rotate_left;rw[ZT rfl];rw[e] at V;have y:=lh V;clear V e;generalize dp l x.1.kind x.1.name=g at F |-;obtain⟨id,C⟩:=g;dsimp only at F |-;by_cases n:C=0
 rotate_left;rw[ZT n];have T:(C != 0)=ZZ:=Zi.2 n;clear n D;rotate_right
 subst n;rw[ZX (fun h=>h rfl)];have A:=lh (D.o id);clear D;generalize jP l id x=q at A |-
 all_goals
  go_enter Tryz.func24,Tryz.ntmps24
  go_wp2_with first|go_at_call 67;(refine (y.o _ i.o).mono ?_);rintro _ P ⟨rfl,H⟩;have R:=am H I (by rw[ah];decide);have N:=ae R 0 _ (ap _ _ _);have K:=ae R 1 _ (aq _ _ _);have B:=lh (bt i.o H);clear H|go_at_call 68;(refine (F.o _ B.o).mono ?_);rintro _ Q ⟨rfl,H⟩;have L:=am H R (by rw[ah];decide);have o:=lh (bt B.o H);clear H|go_at_call 69;(refine (A.o _ o.o).mono ?_);rintro _ U ⟨O,rfl,j,H⟩;have G:=lh j;have z:=lh (bt o.o H);clear H j
  go_ret2
  first|exact⟨_,rfl,G.o,z.o⟩|exact⟨_,rfl,bu _,o.o⟩|exact⟨_,rfl,bu _,B.o⟩
end
section
set_option linter.unusedSimpArgs false
def gW(g:Z6):Z3 Rw->Z3 Int->Z3 Int
 | [],o=>o
 | x::X,o=>gW g X (if (Xp (Z5 (aN x.2.1))=ZZ/\dK (aN x.2.1)=g)/\x.2.1=aC 0 (aN x.2.1) then o++[((Ds.splN (Z5 (aN x.2.1)):Nat):Int)] else o)
def jj(l:Z3 Rw)(id:Int)(g:Z6):Z3 Int:=gW g (srt id 68 l) []
theorem Ak{g:Z6}{k:Nat}(h:k<S.length)(o:Z3 Int):gW g (S.drop k) o=gW g (S.drop (k+1)) (if (Xp (Z5 (aN S[k].2.1))=ZZ/\dK (aN S[k].2.1)=g)/\S[k].2.1=aC 0 (aN S[k].2.1) then o++[((Ds.splN (Z5 (aN S[k].2.1)):Nat):Int)] else o):=by
 rw[Y4 h,gW]
theorem uX{id:Int}{c:ZP}{l:Z3 Rw}{x:Rw}(h:x∈srt id c l):x∈l/\cH id c x=ZZ:=by
 have:=(iV id c l l.length x).1 (by rw[XU];exact h);rw[XU] at this;exact this
theorem Aj:(aN k).size<=k.size:=by
 rw[<-Z0,<-Z0 k];unfold aN;rw[Ds.bl_mk];unfold Ek.trim;rw[List.length_take,Yp];omega
theorem yz(g:Z6)(w:World)(hn:l.length<=1000)(hS:RwS w v l)(aa:∀ x∈l,x.2.1.size<=60) :
 ZJ Z8 214 #[v,.int .i64 id,.string g] w fun r w'=>∃ ov,r=.returned ov/\w'.ownsRow w.heap.size 3 1 ov (jj l id g).length (iv (jj l id g))/\Z4 w.heap.size w w':=by
 have V:=ZE (qy id 68 l) hn
 have Z:∀ x∈srt id 68 l,x.2.1.size<=60/\1<=x.2.1.size:=fun x m=>by
  obtain⟨h1,h2⟩:=uX m;refine⟨aa x h1,?_⟩
  rcases Nat.eq_zero_or_pos x.2.1.size with h|h
  .exfalso
   have e:aU x=[]:=Zd (by unfold aU;rw[Z0];exact h);unfold cH at h2;rw[e] at h2;simp at h2
  .exact h
 have F:=lh (fun W (b:Z4 w.heap.size w W)=>rsort v l id 68 68 rfl W hn (hS.below b));unfold jj;generalize srt id 68 l=S at V Z F |-;generalize hR:gW g S []=R;have HR:=lh hR;obtain⟨a0,c0,rfl,-⟩:=V7 hS;have J:=lh (World.ownsRow_made (size:=1) w (e:=3) #[] 0 (ZV _) (Zc _) rfl);clear hR hS;go_enter Tryz.func214,Tryz.ntmps214
 go_upto_region 3 with (go_at_call 277;(with_reducible refine (F.o _ (by exact aB)).mono ?_);rintro _ w1 ⟨sv,rfl,hV,a1,U⟩;have HV:=lh hV;have a9:=lh (show ∀ q,sv.ownBlock=Z9 q->w.heap.size<q from fun q hq=>by have:=a1 q hq;simp at this;omega);have a2:=lh (aV J.o (fun x m=>U.block x (by cases m;simp)));have a3:=lh (show KW w w1 w1 (.slice (Z9 ⟨w.heap.size,0,Z7⟩) 0 0) from ⟨kd U,ZV _,fun _ _ _=>rfl,fun b hq=>.inl (by cases hq;rfl),(kd U).size⟩);clear hV a1 U)
 obtain⟨va,vc,rfl,-⟩:=V7 HV.o;clear J F;go_wp2_with fail
 go_loopw [7,9] (fun ov kv wr=>∃ (k:Nat) (O:Z3 Int),k<=S.length/\kv=.int .i64 k/\Hid (gW g (S.drop k) O=R)/\O.length<=k/\Hid (wr.ownsRow w.heap.size 3 1 ov O.length (iv O))/\Hid (KW w w1 wr ov)) (fun _ kv _=>S.length - (Zq kv).toNat)
 case atStart=>exact⟨0,[],Zc _,rfl,HR,ZV _,a2,a3⟩
 case round =>
  obtain⟨k,O,hk,rfl,HP,ho,t,K⟩:=hrel;obtain⟨oa,oc,rfl⟩:=bX t.o;obtain⟨_,_,e,-,hc⟩:=K.o.rws HV.o a9.o;injection e with e1 E z
  subst e1 z;clear E;by_cases G:k<S.length
  rotate_left
  .obtain rfl:k=S.length:=by omega
   have P:=HP.o;rw[Wf (ZV _),gW] at P;subst P;clear hc;go_wp2_with fail
   go_ret
   exact⟨_,rfl,t.o,K.o.b⟩
  obtain⟨b,o,rfl,U,n⟩:=hc (by omega);obtain⟨p0,I,p2⟩:=n k G;have i1:(0:Int)<=(k:Int):=by omega
  have i2:(k:Int)<(S.length:Int):=by omega
  have P:=HP.o;rw[Ak G] at P;have p:=Z _ (YT G);generalize S[k]=x at p0 I p2 P p;obtain⟨xi,X,xr⟩:=x;dsimp only at p0 I p2 P p;have N:=lh (fun W=>tW X W p.2 (by omega));have L:=lh (fun W=>gI (aN X) W (ZE (Aj X) p.1));have Y:=lh (fun W=>lH 0 (aN X) W);have y:=lh I;have hz:S.length<=1000:=V;clear n hc p p0 p2;change gW g (S.drop (k+1)) (if (Xp (Z5 (aN X))=ZZ/\dK (aN X)=g)/\X=aC 0 (aN X) then O++[((Ds.splN (Z5 (aN X)):Nat):Int)] else O)=R at P
  have i:Hid (∀ W,ZJ Z8 143 #[.string (aN X)] W fun e w'=>e=.returned (.tuple #[.string (dK (aN X)),.int .i64 (Ds.splN (Z5 (aN X))),.bool (Xp (Z5 (aN X)))])/\Z4 W.heap.size W w'):=L;clear L;generalize dK (aN X)=sg at P i;generalize ((Ds.splN (Z5 (aN X)):Nat):Int)=sn at P i;generalize Xp (Z5 (aN X))=ok at P i;have j:=fd X (aC 0 (aN X));generalize aC 0 (aN X)=kz at P Y j;have t3:=fd sg g;cases ok
  .rw[ZX (by rintro ⟨⟨h,-⟩,-⟩;cases h)] at P;have Q:=lh P;clear P j
   go_wp2_with first|(go_at_call 222;(refine (N.o _).mono ?_);rintro _ _ ⟨rfl,rfl⟩)|go_at_call 143;(refine (i.o _).mono ?_);rintro _ w3 ⟨rfl,H⟩;have I:=ai H y.o;have B:=lh H;clear H
   go_quiet (fail)
   go_wp2_with fail
   go_roundw
   case rel=>exact⟨k+1,O,by omega,by go_num,Q,by omega,lh (aV (aV t.o (fun x m=>B.o.block x (ax t.o x m).2)) (fun x m=>rfl)),lh ((K.o.below B.o).below (below_drewN (ZR _ _) _))⟩
   case measure=>simp [Zq];omega
  by_cases E:sg=g
  rotate_left
  .rw[ZX (fun h=>E h.1.2)] at P;rw[ZN E] at t3;have Q:=lh P;clear P j E
   go_wp2_with first|(go_at_call 222;(refine (N.o _).mono ?_);rintro _ _ ⟨rfl,rfl⟩)|go_at_call 143;(refine (i.o _).mono ?_);rintro _ w3 ⟨rfl,H⟩;have I:=ai H y.o;have B:=lh H;clear H
   go_quiet (fail)
   go_wp2_with fail
   go_roundw
   case rel=>exact⟨k+1,O,by omega,by go_num,Q,by omega,lh (aV (aV t.o (fun x m=>B.o.block x (ax t.o x m).2)) (fun x m=>rfl)),lh ((K.o.below B.o).below (below_drewN (ZR _ _) _))⟩
   case measure=>simp [Zq];omega
  rw[ZO E] at t3;by_cases z:X=kz
  rotate_left
  .rw[ZX (fun h=>z h.2)] at P;rw[ZN z] at j;have Q:=lh P;clear P E z
   go_wp2_with first|(go_at_call 222;(refine (N.o _).mono ?_);rintro _ _ ⟨rfl,rfl⟩)|go_at_call 143;(refine (i.o _).mono ?_);rintro _ w3 ⟨rfl,H⟩;have I:=ai H y.o;have B:=lh H;clear H
   go_quiet (first|(go_at_call 222;exact WG ((N.o _).mono fun _ _ ⟨a,b⟩=>⟨a,b⟩))|(go_at_call 137;exact WG ((Y.o _).mono fun _ _ ⟨a,b⟩=>⟨a,b.symm⟩)))
   go_wp2_with fail
   go_roundw
   case rel=>exact⟨k+1,O,by omega,by go_num,Q,by omega,lh (aV (aV t.o (fun x m=>B.o.block x (ax t.o x m).2)) (fun x m=>rfl)),lh ((K.o.below B.o).below (below_drewN (ZR _ _) _))⟩
   case measure=>simp [Zq];omega
  rw[ZT ⟨⟨rfl,E⟩,z⟩] at P;rw[ZO z] at j;have Q:=lh P;clear P E z
  go_wp2_with first|(go_at_call 222;(refine (N.o _).mono ?_);rintro _ _ ⟨rfl,rfl⟩)|go_at_call 143;(refine (i.o _).mono ?_);rintro _ w3 ⟨rfl,H⟩;have I:=ai H y.o;have B:=lh H;clear H
  go_quiet (first|(go_at_call 222;exact WG ((N.o _).mono fun _ _ ⟨a,b⟩=>⟨a,b⟩))|(go_at_call 137;exact WG ((Y.o _).mono fun _ _ ⟨a,b⟩=>⟨a,b.symm⟩)))
  have D:=lh (aV (w':=w3.drewN nq) (aV t.o (fun x m=>B.o.block x (ax t.o x m).2)) (fun x m=>rfl));have C:=lh ((K.o.below B.o).below (below_drewN (ZR _ _) nq));generalize w3.drewN nq=W8 at D C |-;have a7:=lh (aV D.o (fun x m=>(aj W8 (.cells #[.int .i64 sn] 3)).block x (ax D.o x m).2));have a4:=lh (C.o.below (aj W8 (.cells #[.int .i64 sn] 3)));have zW:=C.o.b.size;go_wp2_with (at_builtin;refine dQ _ rfl (.tmp 55) (.tmp 57) 26 3 _ _ 1 8 rfl Tryz.underlying26 xo vw vx vy rfl (by decide) w.heap.size (.slice oa O.length oc) (.slice (Z9 ⟨W8.heap.size,0,Z7⟩) 1 1) O.length 1 (iv O) (iv [sn]) rfl a7.o rfl (uy _ _ _ rfl) (by intro u hu;unfold iv at hu;simp at hu;subst hu;rfl) (by unfold maxLen;omega) (by omega) (by simp;omega) ?_;intro a5 c5 w5 A hg T;have a8:=lh A;have a6:=lh (a4.o.grown hg T);clear A hg T)
  go_roundw
  case rel=>exact⟨k+1,O++[sn],by omega,by go_num,Q,by rw[ZM,YE];omega,lh (by have h:=a8.o;rw[ZM,YE];unfold iv at h |-;rw[XL];exact h),a6⟩
  case measure=>simp [Zq];omega
end
section
set_option linter.unusedSimpArgs false
def eH(name:Z6):Z3 Rw->Z3 Fu->Z3 Fu × Int
 | [],o=>(o,0)
 | x::X,o=>if (bw x.2.1 x.2.2).2≠0 then ([],(bw x.2.1 x.2.2).2) else if (bw x.2.1 x.2.2).1.1.target=name then eH name X (o++[(bw x.2.1 x.2.2).1]) else eH name X o
def cW(l:Z3 Rw)(id:Int)(name:Z6):Z3 Fu × Int:=eH name (srt id 65 l) []
theorem zD{name:Z6}{k:Nat}(h:k<S.length)(o:Z3 Fu):eH name (S.drop k) o=if (bw S[k].2.1 S[k].2.2).2≠0 then ([],(bw S[k].2.1 S[k].2.2).2) else if (bw S[k].2.1 S[k].2.2).1.1.target=name then eH name (S.drop (k+1)) (o++[(bw S[k].2.1 S[k].2.2).1]) else eH name (S.drop (k+1)) o:=by
 rw[Y4 h,eH]
attribute [local go_sem ↓] aZ bq cl
attribute [local go_sem ↓ high] bf
attribute [local go_sem] bn aS aH bE bH aK aT ak aI aw az aM ah aQ aL aP aO aR aY aW bD ap aq
theorem rA(hn:l.length<=1000)(hS:RwS w v l) :
 ZJ Z8 215 #[v,.int .i64 id,.string name] w fun r w'=>xz w w' (cW l id name) r:=by
 have b2:=ZE (qy id 65 l) hn;have L:=lh (fun W (b:Z4 w.heap.size w W)=>rsort v l id 65 65 rfl W hn (hS.below b));unfold cW;generalize srt id 65 l=S at b2 L |-;generalize hR:eH name S []=R;have HR:=lh hR;have a6:=lh (HJ.startA w.heap.size w w.heap.size rfl (ZV _));obtain⟨a0,c0,rfl,-⟩:=V7 hS;clear hR hS;go_enter Tryz.func215,Tryz.ntmps215
 go_upto_region 3 with (go_at_call 277;(with_reducible refine (L.o _ (by exact aB)).mono ?_);rintro _ w1 ⟨sv,rfl,hV,ag,hb⟩;have HV:=lh hV;have b0:=lh (show ∀ q,sv.ownBlock=Z9 q->w.heap.size<q from fun q Y=>by have:=ag q Y;simp at this;omega);have al:=lh (a6.o.below hb);have ar:=lh (show KW w w1 w1 (.slice (Z9 ⟨w.heap.size,0,Z7⟩) 0 0) from ⟨kd hb,ZV _,fun _ _ _=>rfl,fun b Y=>.inl (by cases Y;rfl),(kd hb).size⟩);clear hV ag hb)
 obtain⟨va,vc,rfl,-⟩:=V7 HV.o;clear a6 L;go_wp2_with fail
 go_loopw [8,10] (fun ov kv wr=>∃ (k:Nat) (O:Z3 Fu) (g:Z3 (Array Value)),k<=S.length/\kv=.int .i64 k/\Hid (eH name (S.drop k) O=R)/\O.length<=k/\Hid (HJ w.heap.size wr ov (O.map cY) g)/\Hid (KW w w1 wr ov)) (fun _ kv _=>S.length - (Zq kv).toNat)
 case atStart=>exact⟨0,[],[],Zc _,rfl,HR,ZV _,al,ar⟩
 case round =>
  obtain⟨k,O,g,hk,rfl,HP,ho,A,B⟩:=hrel;have n:=A.o.own;rw[Zt] at n;obtain⟨oa,oc,rfl⟩:=bX n;obtain⟨_,_,e,-,hc⟩:=B.o.rws HV.o b0.o;injection e with e1 e2 E
  subst e1 E;clear e2 n;by_cases af:k<S.length
  rotate_left
  .obtain rfl:k=S.length:=by omega
   have P:=HP.o;rw[Wf (ZV _),eH] at P;subst P;clear hc;go_wp2_with fail
   go_ret2
   exact⟨_,g,rfl,A.o,B.o.b⟩
  obtain⟨b,o,rfl,hb,p⟩:=hc (by omega);obtain⟨-,F,G⟩:=p k af;have i1:(0:Int)<=(k:Int):=by omega
  have i2:(k:Int)<(S.length:Int):=by omega
  have P:=HP.o;rw[zD af] at P;generalize S[k]=x at F G P;obtain⟨xi,xk,xr⟩:=x;dsimp only at F G P;have K:=lh (fun W=>tX xk xr W);have u:=lw (k:=xk) (r:=xr);generalize bw xk xr=y at P K u;obtain⟨y,C⟩:=y;dsimp only at P K u;clear p hc;go_upto_region 6 with fail
  have d1:=fun z=>(show (wr.alloc z).drew.cell? ⟨b,o+k*3+1,Z7⟩=Z9 (.string xk) from ai (aj wr z).drew F)
  have d2:=fun z=>(show (wr.alloc z).drew.cell? ⟨b,o+k*3+2,Z7⟩=Z9 (.string xr) from ai (aj wr z).drew G)
  have d3:=fun (W:World) (cs:Array Value) j v (h:W.cell? ⟨b,j,Z7⟩=Z9 v)=>(show (W.setRow wr.heap.size cs).cell? ⟨b,j,Z7⟩=Z9 v from (World.cell?_of_block (a:=⟨b,j,Z7⟩) (cP _ _ _ _ (by show b≠_;omega))).trans h)
  go_region_held3 (fun w'=>w'.cell? ⟨b,o+k*3+1,Z7⟩=Z9 (.string xk)/\w'.cell? ⟨b,o+k*3+2,Z7⟩=Z9 (.string xr)) (first|exact⟨F,G⟩|exact⟨ai H F,ai H G⟩|exact⟨ai (aj _ _) (ai H F),ai (aj _ _) (ai H G)⟩|exact⟨d1 _,d2 _⟩|exact⟨ai H (d1 _),ai H (d2 _)⟩|exact⟨d3 _ _ _ _ (ai H (d1 _)),d3 _ _ _ _ (ai H (d2 _))⟩|assumption) (first|(go_at_call 220;(refine (K.o _).mono ?_);rintro _ i ⟨⟨f,gr,rfl,hI,m,Q,t⟩,H⟩;have D:=ay y.1 f gr (aD hI) (aE m);have H3:=cG i 29;(try have H4:=Held.below (by rw[bn];exact cG wr 29) H)))
  have ab:Z4 wr.heap.size wr i:=(ZR _ _).drew.trans H;have I:Z4 wr.heap.size wr (i.alloc (.cells (y.1.vals f gr) 29)):=bt ab (aj _ _);have U:row (i.alloc (.cells (y.1.vals f gr) 29)) i.heap.size=y.1.vals f gr:=ak i _ _ (0,0);have I8:IS (i.alloc (.cells (y.1.vals f gr) 29)) f y.2.1:=hI.below (aj _ _);have G8:GS (i.alloc (.cells (y.1.vals f gr) 29)) gr y.2.2:=m.below (aj _ _);have T:∀ q,gr.ownBlock=Z9 q->wr.heap.size<=q:=t;clear H ab hI m Q t H3 F G d1 d2 d3;generalize i.alloc (.cells (y.1.vals f gr) 29)=W8 at I U I8 G8 |-;generalize i.heap.size=q at U |-;rotate_left;have ac:Z4 wr.heap.size wr i:=(aj wr _).drew.trans (H.mono (by show wr.heap.size<=(wr.alloc _).heap.size;simp));have I:Z4 wr.heap.size wr (i.setRow wr.heap.size (y.1.vals f gr)):=below_setRow ac (ZV _) _;have U:row (i.setRow wr.heap.size (y.1.vals f gr)) wr.heap.size=y.1.vals f gr:=au H4 _;have I8:IS (i.setRow wr.heap.size (y.1.vals f gr)) f y.2.1:=GL hI _ (fun z Z=>by have X:(wr.alloc _).heap.size<=z:=Q z Z;simp at X;omega);have G8:GS (i.setRow wr.heap.size (y.1.vals f gr)) gr y.2.2:=GF m _ (fun z Z=>by have X:(wr.alloc _).heap.size<=z:=t z Z;simp at X;omega);have T:∀ q,gr.ownBlock=Z9 q->wr.heap.size<=q:=fun z Z=>by have X:(wr.alloc _).heap.size<=z:=t z Z;simp at X;omega
  clear ac H hI m Q t H3 H4 F G d1 d2 d3;generalize i.setRow wr.heap.size (y.1.vals f gr)=W8 at I U I8 G8 |-;obtain⟨q,Y⟩:∃ q,wr.heap.size=q:=⟨_,rfl⟩;rw[Y] at U |-;clear Y
  all_goals
   have b4:=ae U 29 _ (cB _ _ _);have KB:=lh (B.o.below I);have a8:=lh (A.o.below I);have b3:=lh I;have HI:=lh I8;have J:=lh G8;have HF:=lh T;clear I8 G8 T I;by_cases V:C=0
   rotate_left
   .rw[ZT V] at P;subst P;have t1:(C != 0)=ZZ:=Zi.2 V;clear V u;go_wp2_with fail
    go_ret2
    exact⟨.slice Z7 0 0,[],rfl,HJ.start _ _,KB.o.b⟩
   subst V;rw[ZX (fun h=>h rfl)] at P;have b1:=wg y (u (fun h=>h rfl)).1;have t3:=fd y.1.target name;clear u;by_cases E:y.1.target=name
   rotate_left
   .rw[ZX E] at P;rw[ZN E] at t3;have HQ:=lh P;clear P E;go_wp2_with fail
    go_roundw
    case rel=>exact⟨k+1,O,g,by omega,by go_num,HQ,by omega,a8,KB⟩
    case measure=>simp [Zq];omega
   rw[ZT E] at P;rw[ZO E] at t3;have HQ:=lh P;clear P E;obtain⟨a1,c1,rfl,-⟩:=V7 HI.o;obtain⟨a2,c2,rfl,-⟩:=V7 J.o;have z8:=KB.o.b.size;have a7:=lh (a8.o.below (aj W8 (.cells (y.1.vals (.slice a1 y.2.1.length c1) (.slice a2 y.2.2.length c2)) 29)));go_wp2_with (at_builtin;refine dQ _ rfl (.tmp 44) (.tmp 46) 33 29 _ _ 33 336 rfl Tryz.underlying33 kI xf xh xj (ah _ _ _) (by decide) w.heap.size (.slice oa O.length oc) (.slice (Z9 ⟨W8.heap.size,0,Z7⟩) 1 1) O.length 1 (ec g) ((y.1.vals (.slice a1 y.2.1.length c1) (.slice a2 y.2.2.length c2))).toList rfl (jC a7.o.own) rfl (vE rfl (ah _ _ _)) (all1 D) (by unfold maxLen;omega) (by omega) (by simp;omega) ?_;intro a5 c5 w5 n hg aa;have a9:=lh n;have a4:=lh hg;have a3:=lh aa;clear n hg aa)
   have ad:GJ w.heap.size (W8.alloc (.cells (y.1.vals (.slice a1 y.2.1.length c1) (.slice a2 y.2.2.length c2)) 29)) (Value.slice oa O.length oc).ownBlock (y.1.vals (.slice a1 y.2.1.length c1) (.slice a2 y.2.2.length c2)) (cY y):=by
    refine⟨a1,c1,a2,c2,rfl,?_,ZE b1 (by decide),rfl,J.o.below (aj _ _),fun V b' N=>⟨fun e=>?_,?_,?_⟩⟩
    .obtain⟨_,_,e,Z,-⟩:=HI.o;show y.2.1.length<=_
     omega
    .have X:=(ax A.o.own b' e).2;have h2:=HF.o b' N;omega
    .have h2:=HF.o b' N;have h3:=B.o.b.size;omega
    .have h3:=sx J.o V b' N;simp at h3 |-;omega
   have ao:=lh (a7.o.snoc (x:=cY y) (tP a9.o) a4.o a3.o (ah _ _ _) D ad);have av:=lh ((KB.o.below (aj _ _)).grown a4.o a3.o);clear ad;go_roundw
   case rel=>exact⟨k+1,O++[y],_,by omega,by go_num,HQ,by rw[ZM,YE];omega,lh (by rw[XL];exact ao.o),av⟩
   case measure=>simp [Zq];omega
end
end Go.Proofs.YtnkjliahpeebjaaGreatDoor
