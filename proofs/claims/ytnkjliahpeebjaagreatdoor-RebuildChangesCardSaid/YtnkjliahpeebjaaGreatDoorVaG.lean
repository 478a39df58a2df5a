/- Catalogs. -/
import Derived.Test.YtnkjliahpeebjaaGreatDoorVaA
import Derived.Test.YtnkjliahpeebjaaGreatDoorDsW
import Derived.Test.YtnkjliahpeebjaaGreatDoorBoA
set_option maxRecDepth 4000
set_option maxHeartbeats 800000
open Go.Proofs.Tryz renaming prog->Z8
open Go.Proofs.YtnkjliahpeebjaaGreatDoor.Ds renaming bl->Z5,bl_length->ZZ,name->YP
open _root_ renaming List->Z1,decide_eq_true_eq->ZU,UInt8->ZM,Bool->Zj
open Bool renaming true->ZX,and_eq_true->ZQ,eq_iff_iff->Zn,true_and->Zc
open List renaming length_append->ZO,append_nil->Yx,nil_append->Yn
open Int renaming toNat_of_nonneg->YU
open Go.Proofs renaming enters_of->Wm
open Go.Lib renaming countByte->VQ
section
namespace Go.Proofs.YtnkjliahpeebjaaGreatDoor
open Go.RowKit
variable(e:En)(s:ByteArray)(a gr:Value)(w:World)
attribute [local go_sem] ap aq df dc ef bN cB dv cK
namespace Vp
def nameA(s:Z1 ZM):Zj:=YP s&&!Ds.gen s
def ali(e:En):Zj:=YP (Z5 e.target)&&!(e.target.toList==e.name.toList)
def nameC(s:Z1 ZM):Zj:=YP s&&decide ((Ds.pieces s).length<=2)
def cat(e:En):Zj:=rng 1 15 [e.cat]
end Vp
theorem Cx(g:s.size<=1000)(m:MaxL w) :
 Calls Z8 166 #[.string s] w fun r i=>r=.returned (.bool (Vp.nameA (Z5 s)))/\Below w.heap.size w i:=by
 have H:=fun W (h:MaxL W)=>lq s W g h
 have b:=fun W (h:MaxL W)=>ez s W h
 unfold Vp.nameA;generalize Ds.gen (Z5 s)=y at H |-;generalize YP (Z5 s)=x at b |-;have S:=lh H;have V:=lh b;clear H b;cases x
 all_goals
  go_enter Tryz.func166,Tryz.ntmps166
  go_wp2_with (first|(go_at_call 155;(with_reducible refine (S.o _ m).mono ?_);rintro _ j ⟨rfl,B⟩)|(go_at_call 32;(with_reducible refine (V.o _ (m.below B)).mono ?_);rintro _ k ⟨rfl,f⟩;have B:=bt B f;clear f))
  go_ret
  exact⟨rfl,B⟩
theorem CV(m:MaxL w) :
 Calls Z8 168 #[.agg (e.vals a gr)] w fun r g=>r=.returned (.bool (Vp.ali e))/\Below w.heap.size w g:=by
 have b:=fun W (h:MaxL W)=>ez e.target W h
 unfold Vp.ali;generalize YP (Z5 e.target)=x at b |-;have q:(e.target.toList != e.name.toList)=!(e.target.toList==e.name.toList):=rfl;have V:=lh b;clear b;cases x
 .clear q;go_enter Tryz.func168,Tryz.ntmps168
  go_wp2_with (go_at_call 32;(with_reducible refine (V.o _ (m.below (by exact aB))).mono ?_);rintro _ i ⟨rfl,H⟩;have B:=((Below.refl w.heap.size w).alloc (Nat.le_refl _) _).trans (H.mono (by simp));clear H)
  go_ret
  exact⟨rfl,B⟩
 .rw[Zc];cases f:(e.target.toList==e.name.toList)
  all_goals
   rw[f] at q;go_enter Tryz.func168,Tryz.ntmps168
   go_wp2_with (go_at_call 32;(with_reducible refine (V.o _ (m.below (by exact aB))).mono ?_);rintro _ i ⟨rfl,H⟩;have R:=am H (ak w _ _ _) (by simp [ah]);have C:=ae R 29 _ (cB e a gr);have j:=ae R 1 _ (aq e a gr);have B:=((Below.refl w.heap.size w).alloc (Nat.le_refl _) _).trans (H.mono (by simp));clear H)
   go_ret
   exact⟨rfl,B⟩
theorem Cy(m:MaxL w) :
 Calls Z8 169 #[.string s] w fun r f=>r=.returned (.bool (Vp.nameC (Z5 s)))/\Below w.heap.size w f:=by
 have H:=fun W (h:MaxL W)=>ez s W h
 have b:∀ W,Calls Z8 170 #[.string s,.string ⟨#[46]⟩] W fun e f=>e=.returned (.int .i64 (VQ s.data.toList 46))/\f=W:=fun W=>Tryz.strings_Count_one s 46 W
 have p:decide ((Ds.pieces (Z5 s)).length<=2)=decide (VQ s.data.toList 46<2):=by
  rw[Ds.pieces_len,Zn,ZU,ZU];unfold VQ Z5;omega
 unfold Vp.nameC;rw[p];generalize YP (Z5 s)=x at H |-;generalize VQ s.data.toList 46=k at b |-;have V:=lh H;have C:=lh b;clear H b p;cases x
 .go_enter Tryz.func169,Tryz.ntmps169
  go_wp2_with (go_at_call 32;(with_reducible refine (V.o _ m).mono ?_);rintro _ g ⟨rfl,B⟩)
  go_ret
  exact⟨rfl,B⟩
 .go_enter Tryz.func169,Tryz.ntmps169
  go_wp2_with (first|(go_at_call 32;(with_reducible refine (V.o _ m).mono ?_);rintro _ g ⟨rfl,B⟩)|(go_at_call 170;(with_reducible refine (C.o _).mono ?_);rintro _ i ⟨rfl,rfl⟩))
  go_ret
  exact⟨aF (by rw[Zc,Zn,ZU,ZU];omega),B⟩
theorem G5 :
 Calls Z8 173 #[.agg (e.vals a gr)] w fun r f=>r=.returned (.bool (Vp.cat e))/\Below w.heap.size w f:=by
 have H:=fun W b h=>kR 1 15 e.cat b W h
 unfold Vp.cat;generalize Vp.rng 1 15 [e.cat]=x at H |-;go_enter Tryz.func173,Tryz.ntmps173
 go_wp2_with ((with_reducible refine (H _ _ (by simp [go_sem])).mono ?_);rintro _ f ⟨rfl,rfl⟩)
 go_ret
 exact⟨rfl,by exact aB⟩
end Go.Proofs.YtnkjliahpeebjaaGreatDoor
end
namespace Go.Proofs.YtnkjliahpeebjaaGreatDoor
variable(e:En)(s r:Z1 ZM)(a gr:Value)(d:Z1 Int)(c:Z1 Gr)(w:World)
section
open Go.RowKit
theorem nY:cx 158:=Wm Tryz.func158 (by kernel_rfl) rfl
theorem qn:cx 159:=Wm Tryz.func159 (by kernel_rfl) rfl
theorem vQ:cx 163:=Wm Tryz.func163 (by kernel_rfl) rfl
def dG(e:En):Z1 ZM:=(encs [e.lim.toNat,e.last.toNat]++[tb e.em])++(Wi.enc e.owner.size++Z5 e.owner)
def eS(e:En):En:={ En.zero with kind:=e.kind,name:=e.name,lim:=e.lim,last:=e.last,em:=e.em,owner:=e.owner }
theorem Cz(h:Vp.word s=ZX):s.length<=31:=by
 unfold Vp.word YP at h;simp only[ZQ,ZU] at h
 omega
theorem mG(h:Vp.own s=ZX):s.length<=31:=by
 unfold Vp.own at h;rw[Bool.or_eq_true] at h;rcases h with h|h
 .rw[List.isEmpty_iff] at h;subst h;simp
 .exact Cz s h
theorem rng1(l H n:Int)(h:Vp.rng l H [n]=ZX):l<=n/\n<=H:=by
 simpa [Vp.rng] using h
theorem fT(n:Nat)(h:n<=1099511627776):clip n=n:=by unfold clip;rw[if_neg (by omega)]
theorem BP(h:Vp.grp e=ZX):gL ({ En.zero with kind:=e.kind,name:=e.name }:En) (dG e,0)=(eS e,([],0)):=by
 unfold Vp.grp at h;simp only[ZQ] at h
 obtain⟨⟨H,b⟩,f⟩:=h;have R:=rng1 _ _ _ H;have g:=rng1 _ _ _ b;have i:=mG _ f
 have E:dG e=Wi.enc e.lim.toNat++(Wi.enc e.last.toNat++(tb e.em::(Wi.enc (Z5 e.owner).length++(Z5 e.owner++[])))):=by
  unfold dG encs encs encs;rw[ZZ];simp
 unfold gL eS;rw[E];simp only
 rw[Rd.num_enc _ _ (by omega)];simp only
 rw[Rd.num_enc _ _ (by omega)];simp only
 rw[show tb e.em=(if e.em then 1 else 0) from rfl,Rd.boo_tb];simp only
 rw[Rd.txt_enc 200 _ _ (by omega) (by omega)];simp only
 rw[fT _ (by omega),fT _ (by omega),Ds.mk_bl,YU (by omega),YU (by omega)]
theorem tM(h:Vp.grp e=ZX):Writes w 159 (e.vals a gr) (dG e):=by
 unfold Vp.grp at h;simp only[ZQ] at h
 obtain⟨⟨H,b⟩,f⟩:=h;have j:=rng1 _ _ _ H;have k:=rng1 _ _ _ b;have R:=mG _ f;rw[ZZ] at R;intro W c g _ _ _ i;have:=Cm c g [] e a gr e.lim.toNat e.last.toNat W i (by omega) (by omega) (by omega) (by omega) (by omega) (by simp);rw[Yn] at this;exact this
theorem Bo(h:Vp.grp e=ZX):Reads w 159 (dG e) (zcells e.kind e.name) ([],0) (fun _ _ C=>C=(eS e).vals (.slice none 0 0) (.slice none 0 0)):=by
 have l:(dG e).length<=1000:=by
  unfold Vp.grp at h;simp only[ZQ] at h
  obtain⟨⟨b,f⟩,i⟩:=h;have n:=rng1 _ _ _ b;have o:=rng1 _ _ _ f;have j:=mG _ i;rw[ZZ] at j;have B:=oz e.lim.toNat e.last.toNat (by omega) (by omega);have m:=cZ e.owner.size (by omega);unfold dG;simp only[ZO,List.length_singleton,ZZ]
  omega
 intro W c k g _ _ _ _ R;refine (sT c k g (dG e,0) _ _ _ W R l).mono ?_
 rintro r p ⟨rfl,H,G⟩;rw[BP e h] at H;exact⟨rfl,G,_,H,ah _ _ _,ay _ _ _ rfl rfl,rfl⟩
def fm(e:En)(d:Z1 Int)(c:Z1 Gr):Zj:=Ds.group (Z5 e.name)&&Vp.grp e&&dh (eS e) e [] d [] c
theorem Da(k:e.kind=1)(m:MaxL w)(i:IS w a d)(j:GS w gr c) :
 Calls Z8 63 #[.agg (e.vals a gr)] w fun r l=>r=.returned (.bool (fm e d c))/\Below w.heap.size w l:=by
 have f:Instr.findNow (.int .i64) (.int .i64 e.kind) fe5.toList 0=some (some (1,.agg (cN (71:Nat) 158 159 163))):=by rw[k];rfl
 have H:=fun W (b:Below w.heap.size w W)=>mA e.name W (m.below b)
 have v:=fun W (b:Below w.heap.size w W)=>CX e a gr W (m.below b)
 unfold fm;cases x:Ds.group (Z5 e.name)
 .rw[x] at H;exact lA 71 _ _ _ 1 e a gr w nY f H
 .rw[x] at H;cases y:Vp.grp e
  .rw[y] at v;exact lf 71 _ _ _ 1 e a gr w nY vQ f H v
  .rw[y] at v;refine lz 71 _ _ _ 1 e a gr (dG e) ([],0) _ _ w nY vQ qn f H v (fun W _=>tM e a gr W y) (fun W _=>Bo e W y) (fun _ _ _ _ h _ _=>h) rfl ?_
   rintro W b C g rfl;exact lD (eS e) e _ _ a gr [] d [] c W (IS.nil W) (i.below g) (GS.nil W) (j.below g)
end
section
open Go.RowKit
theorem qo:cx 166:=Wm Tryz.func166 (by kernel_rfl) rfl
theorem qp:cx 167:=Wm Tryz.func167 (by kernel_rfl) rfl
theorem vR:cx 168:=Wm Tryz.func168 (by kernel_rfl) rfl
theorem qr:cx 169:=Wm Tryz.func169 (by kernel_rfl) rfl
theorem qu:cx 171:=Wm Tryz.func171 (by kernel_rfl) rfl
theorem vS:cx 173:=Wm Tryz.func173 (by kernel_rfl) rfl
def eD(e:En):Z1 ZM:=Wi.enc e.target.size++Z5 e.target
def eR(e:En):Z1 ZM:=Wi.enc e.cat.toNat
theorem BC(h:YP s=ZX):s.length<=31:=by
 unfold YP at h;simp only[ZQ,ZU] at h
 omega
theorem ka(h:Vp.ali e=ZX):e.target.size<=31:=by
 unfold Vp.ali at h;rw[ZQ] at h;have:=BC _ h.1;rwa [ZZ] at this
theorem ud(h:e.target.size<=200):iB ({ En.zero with kind:=e.kind,name:=e.name }:En) (eD e++r,0)=(gU e,(r,0)):=by
 have E:eD e++r=Wi.enc (Z5 e.target).length++(Z5 e.target++r):=by
  unfold eD;rw[ZZ,List.append_assoc]
 unfold iB gU;rw[E,Rd.txt_enc 200 _ _ (by rw[ZZ];omega) (by rw[ZZ];omega)];simp only
 rw[Ds.mk_bl]
theorem tL(h:Vp.ali e=ZX):Writes w 167 (e.vals a gr) (eD e):=by
 have z:=ka e h;intro W c g _ _ _ H;have:=Cl c g [] e a gr W H (by omega) (by simp);rw[Yn] at this;exact this
theorem Bn(h:Vp.ali e=ZX):Reads w 167 (eD e) (zcells e.kind e.name) ([],0) (fun _ _ C=>C=(gU e).vals (.slice none 0 0) (.slice none 0 0)):=by
 have z:=ka e h
 have l:(eD e).length<=1000:=by
  have B:=cZ e.target.size (by omega);unfold eD;simp only[ZO,ZZ]
  omega
 intro W c f g _ _ _ _ R;refine (tF c f g (eD e,0) _ _ _ W R l).mono ?_
 rintro r i ⟨rfl,H,G⟩;have b:=ud e [] (by omega);rw[Yx] at b;rw[b] at H;exact⟨rfl,G,_,H,ah _ _ _,ay _ _ _ rfl rfl,rfl⟩
def eY(e:En)(d:Z1 Int)(c:Z1 Gr):Zj:=Vp.nameA (Z5 e.name)&&Vp.ali e&&dh (gU e) e [] d [] c
theorem Db(k:e.kind=2)(m:MaxL w)(z:e.name.size<=1000)(i:IS w a d)(j:GS w gr c) :
 Calls Z8 63 #[.agg (e.vals a gr)] w fun r l=>r=.returned (.bool (eY e d c))/\Below w.heap.size w l:=by
 have f:Instr.findNow (.int .i64) (.int .i64 e.kind) fe5.toList 0=some (some (2,.agg (cN (65:Nat) 166 167 168))):=by rw[k];rfl
 have H:=fun W (b:Below w.heap.size w W)=>Cx e.name W z (m.below b)
 have v:=fun W (b:Below w.heap.size w W)=>CV e a gr W (m.below b)
 unfold eY;cases x:Vp.nameA (Z5 e.name)
 .rw[x] at H;exact lA 65 _ _ _ 2 e a gr w qo f H
 .rw[x] at H;cases y:Vp.ali e
  .rw[y] at v;exact lf 65 _ _ _ 2 e a gr w qo vR f H v
  .rw[y] at v;refine lz 65 _ _ _ 2 e a gr (eD e) ([],0) _ _ w qo vR qp f H v (fun W _=>tL e a gr W y) (fun W _=>Bn e W y) (fun _ _ _ _ h _ _=>h) rfl ?_
   rintro W b C g rfl;exact lD (gU e) e _ _ a gr [] d [] c W (IS.nil W) (i.below g) (GS.nil W) (j.below g)
theorem ue(h:Vp.cat e=ZX):iH ({ En.zero with kind:=e.kind,name:=e.name }:En) (eR e++r,0)=(gV e,(r,0)):=by
 have R:=rng1 _ _ _ h;unfold iH gV eR;rw[Rd.num_enc _ _ (by omega)];simp only
 rw[fT _ (by omega),YU (by omega)]
theorem vV(h:Vp.cat e=ZX):Writes w 171 (e.vals a gr) (eR e):=by
 have R:=rng1 _ _ _ h;intro W c g _ _ _ H;have:=Gy c g [] e a gr e.cat.toNat W H (by omega) (by omega) (by simp);rw[Yn] at this;exact this
theorem F6(h:Vp.cat e=ZX):Reads w 171 (eR e) (zcells e.kind e.name) ([],0) (fun _ _ C=>C=(gV e).vals (.slice none 0 0) (.slice none 0 0)):=by
 have i:=rng1 _ _ _ h
 have l:(eR e).length<=1000:=by
  have B:=cZ e.cat.toNat (by omega);unfold eR;omega
 intro W c f g _ _ _ _ R;refine (vT c f g (eR e,0) _ _ _ W R l).mono ?_
 rintro r j ⟨rfl,H,G⟩;have b:=ue e [] h;rw[Yx] at b;rw[b] at H;exact⟨rfl,G,_,H,ah _ _ _,ay _ _ _ rfl rfl,rfl⟩
def fK(e:En)(d:Z1 Int)(c:Z1 Gr):Zj:=Vp.nameC (Z5 e.name)&&Vp.cat e&&dh (gV e) e [] d [] c
theorem Dc(k:e.kind=3)(m:MaxL w)(i:IS w a d)(j:GS w gr c) :
 Calls Z8 63 #[.agg (e.vals a gr)] w fun r l=>r=.returned (.bool (fK e d c))/\Below w.heap.size w l:=by
 have f:Instr.findNow (.int .i64) (.int .i64 e.kind) fe5.toList 0=some (some (3,.agg (cN (67:Nat) 169 171 173))):=by rw[k];rfl
 have H:=fun W (b:Below w.heap.size w W)=>Cy e.name W (m.below b)
 have v:=fun W (_:Below w.heap.size w W)=>G5 e a gr W
 unfold fK;cases x:Vp.nameC (Z5 e.name)
 .rw[x] at H;exact lA 67 _ _ _ 3 e a gr w qr f H
 .rw[x] at H;cases y:Vp.cat e
  .rw[y] at v;exact lf 67 _ _ _ 3 e a gr w qr vS f H v
  .rw[y] at v;refine lz 67 _ _ _ 3 e a gr (eR e) ([],0) _ _ w qr vS qu f H v (fun W _=>vV e a gr W y) (fun W _=>F6 e W y) (fun _ _ _ _ h _ _=>h) rfl ?_
   rintro W b C g rfl;exact lD (gV e) e _ _ a gr [] d [] c W (IS.nil W) (i.below g) (GS.nil W) (j.below g)
end
end Go.Proofs.YtnkjliahpeebjaaGreatDoor
