/- Catalogs. -/
import Derived.Test.YtnkjliahpeebjaaGreatDoorVaA
import Derived.Test.YtnkjliahpeebjaaGreatDoorDsW
import Derived.Test.YtnkjliahpeebjaaGreatDoorBoA
set_option maxRecDepth 4000
set_option maxHeartbeats 800000
open Go.Proofs.Tryz renaming prog->Z6
open _root_ renaming List->Z5,decide_eq_true_eq->ZU,UInt8->ZP,Bool->Zi
open Go.Proofs.YtnkjliahpeebjaaGreatDoor.Ds renaming bl->Z4,bl_length->ZO,name->Zj
open Bool renaming true->ZZ,and_eq_true->ZT,eq_iff_iff->Zf,true_and->Yj
open List renaming length_append->ZQ,nil_append->YM,append_nil->YL
open Int renaming toNat_of_nonneg->Y6
open Go.Proofs renaming enters_of->Xv
open Go.Lib renaming countByte->WY
section
namespace Go.Proofs.YtnkjliahpeebjaaGreatDoor
open Go.RowKit
variable(e:En)(s:ByteArray)(a d:Value)(w:World)
attribute [local go_sem] ap aq df dc ef bN cB dv cK
namespace Vp
def nameA(s:Z5 ZP):Zi:=Zj s&&!Ds.gen s
def ali(e:En):Zi:=Zj (Z4 e.target)&&!(e.target.toList==e.name.toList)
def nameC(s:Z5 ZP):Zi:=Zj s&&decide ((Ds.pieces s).length<=2)
def cat(e:En):Zi:=rng 1 15 [e.cat]
end Vp
theorem Cx(i:s.size<=1000)(m:MaxL w) :
 Calls Z6 166 #[.string s] w fun r j=>r=.returned (.bool (Vp.nameA (Z4 s)))/\Below w.heap.size w j:=by
 have H:=fun W (h:MaxL W)=>lq s W i h
 have b:=fun W (h:MaxL W)=>ez s W h
 unfold Vp.nameA;generalize Ds.gen (Z4 s)=y at H |-;generalize Zj (Z4 s)=x at b |-;have S:=lh H;have V:=lh b;clear H b;cases x
 all_goals
  go_enter Tryz.func166,Tryz.ntmps166
  go_wp2_with (first|(go_at_call 155;(with_reducible refine (S.o _ m).mono ?_);rintro _ k ⟨rfl,B⟩)|(go_at_call 32;(with_reducible refine (V.o _ (m.below B)).mono ?_);rintro _ l ⟨rfl,g⟩;have B:=bt B g;clear g))
  go_ret
  exact⟨rfl,B⟩
theorem CV(m:MaxL w) :
 Calls Z6 168 #[.agg (e.vals a d)] w fun r i=>r=.returned (.bool (Vp.ali e))/\Below w.heap.size w i:=by
 have b:=fun W (h:MaxL W)=>ez e.target W h
 unfold Vp.ali;generalize Zj (Z4 e.target)=x at b |-;have q:(e.target.toList != e.name.toList)=!(e.target.toList==e.name.toList):=rfl;have V:=lh b;clear b;cases x
 .clear q;go_enter Tryz.func168,Tryz.ntmps168
  go_wp2_with (go_at_call 32;(with_reducible refine (V.o _ (m.below (by exact aB))).mono ?_);rintro _ j ⟨rfl,H⟩;have B:=((Below.refl w.heap.size w).alloc (Nat.le_refl _) _).trans (H.mono (by simp));clear H)
  go_ret
  exact⟨rfl,B⟩
 .rw[Yj];cases g:(e.target.toList==e.name.toList)
  all_goals
   rw[g] at q;go_enter Tryz.func168,Tryz.ntmps168
   go_wp2_with (go_at_call 32;(with_reducible refine (V.o _ (m.below (by exact aB))).mono ?_);rintro _ j ⟨rfl,H⟩;have R:=am H (ak w _ _ _) (by simp [ah]);have C:=ae R 29 _ (cB e a d);have k:=ae R 1 _ (aq e a d);have B:=((Below.refl w.heap.size w).alloc (Nat.le_refl _) _).trans (H.mono (by simp));clear H)
   go_ret
   exact⟨rfl,B⟩
theorem Cy(m:MaxL w) :
 Calls Z6 169 #[.string s] w fun r g=>r=.returned (.bool (Vp.nameC (Z4 s)))/\Below w.heap.size w g:=by
 have H:=fun W (h:MaxL W)=>ez s W h
 have b:∀ W,Calls Z6 170 #[.string s,.string ⟨#[46]⟩] W fun e g=>e=.returned (.int .i64 (WY s.data.toList 46))/\g=W:=fun W=>Tryz.strings_Count_one s 46 W
 have p:decide ((Ds.pieces (Z4 s)).length<=2)=decide (WY s.data.toList 46<2):=by
  rw[Ds.pieces_len,Zf,ZU,ZU];unfold WY Z4;omega
 unfold Vp.nameC;rw[p];generalize Zj (Z4 s)=x at H |-;generalize WY s.data.toList 46=k at b |-;have V:=lh H;have C:=lh b;clear H b p;cases x
 .go_enter Tryz.func169,Tryz.ntmps169
  go_wp2_with (go_at_call 32;(with_reducible refine (V.o _ m).mono ?_);rintro _ i ⟨rfl,B⟩)
  go_ret
  exact⟨rfl,B⟩
 .go_enter Tryz.func169,Tryz.ntmps169
  go_wp2_with (first|(go_at_call 32;(with_reducible refine (V.o _ m).mono ?_);rintro _ i ⟨rfl,B⟩)|(go_at_call 170;(with_reducible refine (C.o _).mono ?_);rintro _ j ⟨rfl,rfl⟩))
  go_ret
  exact⟨aF (by rw[Yj,Zf,ZU,ZU];omega),B⟩
theorem G5 :
 Calls Z6 173 #[.agg (e.vals a d)] w fun r g=>r=.returned (.bool (Vp.cat e))/\Below w.heap.size w g:=by
 have H:=fun W b h=>kR 1 15 e.cat b W h
 unfold Vp.cat;generalize Vp.rng 1 15 [e.cat]=x at H |-;go_enter Tryz.func173,Tryz.ntmps173
 go_wp2_with ((with_reducible refine (H _ _ (by simp [go_sem])).mono ?_);rintro _ g ⟨rfl,rfl⟩)
 go_ret
 exact⟨rfl,by exact aB⟩
end Go.Proofs.YtnkjliahpeebjaaGreatDoor
end
namespace Go.Proofs.YtnkjliahpeebjaaGreatDoor
variable(e:En)(s r:Z5 ZP)(a d:Value)(f:Z5 Int)(c:Z5 Gr)(w:World)
section
open Go.RowKit
theorem nY:cx 158:=Xv Tryz.func158 (by kernel_rfl) rfl
theorem qn:cx 159:=Xv Tryz.func159 (by kernel_rfl) rfl
theorem vQ:cx 163:=Xv Tryz.func163 (by kernel_rfl) rfl
def dG(e:En):Z5 ZP:=(encs [e.lim.toNat,e.last.toNat]++[tb e.em])++(Wi.enc e.owner.size++Z4 e.owner)
def eS(e:En):En:={ En.zero with kind:=e.kind,name:=e.name,lim:=e.lim,last:=e.last,em:=e.em,owner:=e.owner }
theorem Cz(h:Vp.word s=ZZ):s.length<=31:=by
 unfold Vp.word Zj at h;simp only[ZT,ZU] at h
 omega
theorem mG(h:Vp.own s=ZZ):s.length<=31:=by
 unfold Vp.own at h;rw[Bool.or_eq_true] at h;rcases h with h|h
 .rw[List.isEmpty_iff] at h;subst h;simp
 .exact Cz s h
theorem rng1(l H n:Int)(h:Vp.rng l H [n]=ZZ):l<=n/\n<=H:=by
 simpa [Vp.rng] using h
theorem fT(n:Nat)(h:n<=1099511627776):clip n=n:=by unfold clip;rw[if_neg (by omega)]
theorem BP(h:Vp.grp e=ZZ):gL ({ En.zero with kind:=e.kind,name:=e.name }:En) (dG e,0)=(eS e,([],0)):=by
 unfold Vp.grp at h;simp only[ZT] at h
 obtain⟨⟨H,b⟩,g⟩:=h;have R:=rng1 _ _ _ H;have i:=rng1 _ _ _ b;have j:=mG _ g
 have E:dG e=Wi.enc e.lim.toNat++(Wi.enc e.last.toNat++(tb e.em::(Wi.enc (Z4 e.owner).length++(Z4 e.owner++[])))):=by
  unfold dG encs encs encs;rw[ZO];simp
 unfold gL eS;rw[E];simp only
 rw[Rd.num_enc _ _ (by omega)];simp only
 rw[Rd.num_enc _ _ (by omega)];simp only
 rw[show tb e.em=(if e.em then 1 else 0) from rfl,Rd.boo_tb];simp only
 rw[Rd.txt_enc 200 _ _ (by omega) (by omega)];simp only
 rw[fT _ (by omega),fT _ (by omega),Ds.mk_bl,Y6 (by omega),Y6 (by omega)]
theorem tM(h:Vp.grp e=ZZ):Writes w 159 (e.vals a d) (dG e):=by
 unfold Vp.grp at h;simp only[ZT] at h
 obtain⟨⟨H,b⟩,i⟩:=h;have k:=rng1 _ _ _ H;have l:=rng1 _ _ _ b;have R:=mG _ i;rw[ZO] at R;intro W c g _ _ _ j;have:=Cm c g [] e a d e.lim.toNat e.last.toNat W j (by omega) (by omega) (by omega) (by omega) (by omega) (by simp);rw[YM] at this;exact this
theorem Bo(h:Vp.grp e=ZZ):Reads w 159 (dG e) (zcells e.kind e.name) ([],0) (fun _ _ C=>C=(eS e).vals (.slice none 0 0) (.slice none 0 0)):=by
 have l:(dG e).length<=1000:=by
  unfold Vp.grp at h;simp only[ZT] at h
  obtain⟨⟨b,i⟩,j⟩:=h;have o:=rng1 _ _ _ b;have p:=rng1 _ _ _ i;have k:=mG _ j;rw[ZO] at k;have B:=oz e.lim.toNat e.last.toNat (by omega) (by omega);have n:=cZ e.owner.size (by omega);unfold dG;simp only[ZQ,List.length_singleton,ZO]
  omega
 intro W c m g _ _ _ _ R;refine (sT c m g (dG e,0) _ _ _ W R l).mono ?_
 rintro r q ⟨rfl,H,G⟩;rw[BP e h] at H;exact⟨rfl,G,_,H,ah _ _ _,ay _ _ _ rfl rfl,rfl⟩
def fm(e:En)(f:Z5 Int)(c:Z5 Gr):Zi:=Ds.group (Z4 e.name)&&Vp.grp e&&dh (eS e) e [] f [] c
theorem Da(l:e.kind=1)(m:MaxL w)(j:IS w a f)(k:GS w d c) :
 Calls Z6 63 #[.agg (e.vals a d)] w fun r n=>r=.returned (.bool (fm e f c))/\Below w.heap.size w n:=by
 have g:Instr.findNow (.int .i64) (.int .i64 e.kind) fe5.toList 0=some (some (1,.agg (cN (71:Nat) 158 159 163))):=by rw[l];rfl
 have H:=fun W (b:Below w.heap.size w W)=>mA e.name W (m.below b)
 have v:=fun W (b:Below w.heap.size w W)=>CX e a d W (m.below b)
 unfold fm;cases x:Ds.group (Z4 e.name)
 .rw[x] at H;exact lA 71 _ _ _ 1 e a d w nY g H
 .rw[x] at H;cases y:Vp.grp e
  .rw[y] at v;exact lf 71 _ _ _ 1 e a d w nY vQ g H v
  .rw[y] at v;refine lz 71 _ _ _ 1 e a d (dG e) ([],0) _ _ w nY vQ qn g H v (fun W _=>tM e a d W y) (fun W _=>Bo e W y) (fun _ _ _ _ h _ _=>h) rfl ?_
   rintro W b C i rfl;exact lD (eS e) e _ _ a d [] f [] c W (IS.nil W) (j.below i) (GS.nil W) (k.below i)
end
section
open Go.RowKit
theorem qo:cx 166:=Xv Tryz.func166 (by kernel_rfl) rfl
theorem qp:cx 167:=Xv Tryz.func167 (by kernel_rfl) rfl
theorem vR:cx 168:=Xv Tryz.func168 (by kernel_rfl) rfl
theorem qr:cx 169:=Xv Tryz.func169 (by kernel_rfl) rfl
theorem qu:cx 171:=Xv Tryz.func171 (by kernel_rfl) rfl
theorem vS:cx 173:=Xv Tryz.func173 (by kernel_rfl) rfl
def eD(e:En):Z5 ZP:=Wi.enc e.target.size++Z4 e.target
def eR(e:En):Z5 ZP:=Wi.enc e.cat.toNat
theorem BC(h:Zj s=ZZ):s.length<=31:=by
 unfold Zj at h;simp only[ZT,ZU] at h
 omega
theorem ka(h:Vp.ali e=ZZ):e.target.size<=31:=by
 unfold Vp.ali at h;rw[ZT] at h;have:=BC _ h.1;rwa [ZO] at this
theorem ud(h:e.target.size<=200):iB ({ En.zero with kind:=e.kind,name:=e.name }:En) (eD e++r,0)=(gU e,(r,0)):=by
 have E:eD e++r=Wi.enc (Z4 e.target).length++(Z4 e.target++r):=by
  unfold eD;rw[ZO,List.append_assoc]
 unfold iB gU;rw[E,Rd.txt_enc 200 _ _ (by rw[ZO];omega) (by rw[ZO];omega)];simp only
 rw[Ds.mk_bl]
theorem tL(h:Vp.ali e=ZZ):Writes w 167 (e.vals a d) (eD e):=by
 have z:=ka e h;intro W c g _ _ _ H;have:=Cl c g [] e a d W H (by omega) (by simp);rw[YM] at this;exact this
theorem Bn(h:Vp.ali e=ZZ):Reads w 167 (eD e) (zcells e.kind e.name) ([],0) (fun _ _ C=>C=(gU e).vals (.slice none 0 0) (.slice none 0 0)):=by
 have z:=ka e h
 have l:(eD e).length<=1000:=by
  have B:=cZ e.target.size (by omega);unfold eD;simp only[ZQ,ZO]
  omega
 intro W c i g _ _ _ _ R;refine (tF c i g (eD e,0) _ _ _ W R l).mono ?_
 rintro r j ⟨rfl,H,G⟩;have b:=ud e [] (by omega);rw[YL] at b;rw[b] at H;exact⟨rfl,G,_,H,ah _ _ _,ay _ _ _ rfl rfl,rfl⟩
def eY(e:En)(f:Z5 Int)(c:Z5 Gr):Zi:=Vp.nameA (Z4 e.name)&&Vp.ali e&&dh (gU e) e [] f [] c
theorem Db(l:e.kind=2)(m:MaxL w)(z:e.name.size<=1000)(j:IS w a f)(k:GS w d c) :
 Calls Z6 63 #[.agg (e.vals a d)] w fun r n=>r=.returned (.bool (eY e f c))/\Below w.heap.size w n:=by
 have g:Instr.findNow (.int .i64) (.int .i64 e.kind) fe5.toList 0=some (some (2,.agg (cN (65:Nat) 166 167 168))):=by rw[l];rfl
 have H:=fun W (b:Below w.heap.size w W)=>Cx e.name W z (m.below b)
 have v:=fun W (b:Below w.heap.size w W)=>CV e a d W (m.below b)
 unfold eY;cases x:Vp.nameA (Z4 e.name)
 .rw[x] at H;exact lA 65 _ _ _ 2 e a d w qo g H
 .rw[x] at H;cases y:Vp.ali e
  .rw[y] at v;exact lf 65 _ _ _ 2 e a d w qo vR g H v
  .rw[y] at v;refine lz 65 _ _ _ 2 e a d (eD e) ([],0) _ _ w qo vR qp g H v (fun W _=>tL e a d W y) (fun W _=>Bn e W y) (fun _ _ _ _ h _ _=>h) rfl ?_
   rintro W b C i rfl;exact lD (gU e) e _ _ a d [] f [] c W (IS.nil W) (j.below i) (GS.nil W) (k.below i)
theorem ue(h:Vp.cat e=ZZ):iH ({ En.zero with kind:=e.kind,name:=e.name }:En) (eR e++r,0)=(gV e,(r,0)):=by
 have R:=rng1 _ _ _ h;unfold iH gV eR;rw[Rd.num_enc _ _ (by omega)];simp only
 rw[fT _ (by omega),Y6 (by omega)]
theorem vV(h:Vp.cat e=ZZ):Writes w 171 (e.vals a d) (eR e):=by
 have R:=rng1 _ _ _ h;intro W c g _ _ _ H;have:=Gy c g [] e a d e.cat.toNat W H (by omega) (by omega) (by simp);rw[YM] at this;exact this
theorem F6(h:Vp.cat e=ZZ):Reads w 171 (eR e) (zcells e.kind e.name) ([],0) (fun _ _ C=>C=(gV e).vals (.slice none 0 0) (.slice none 0 0)):=by
 have j:=rng1 _ _ _ h
 have l:(eR e).length<=1000:=by
  have B:=cZ e.cat.toNat (by omega);unfold eR;omega
 intro W c i g _ _ _ _ R;refine (vT c i g (eR e,0) _ _ _ W R l).mono ?_
 rintro r k ⟨rfl,H,G⟩;have b:=ue e [] h;rw[YL] at b;rw[b] at H;exact⟨rfl,G,_,H,ah _ _ _,ay _ _ _ rfl rfl,rfl⟩
def fK(e:En)(f:Z5 Int)(c:Z5 Gr):Zi:=Vp.nameC (Z4 e.name)&&Vp.cat e&&dh (gV e) e [] f [] c
theorem Dc(l:e.kind=3)(m:MaxL w)(j:IS w a f)(k:GS w d c) :
 Calls Z6 63 #[.agg (e.vals a d)] w fun r n=>r=.returned (.bool (fK e f c))/\Below w.heap.size w n:=by
 have g:Instr.findNow (.int .i64) (.int .i64 e.kind) fe5.toList 0=some (some (3,.agg (cN (67:Nat) 169 171 173))):=by rw[l];rfl
 have H:=fun W (b:Below w.heap.size w W)=>Cy e.name W (m.below b)
 have v:=fun W (_:Below w.heap.size w W)=>G5 e a d W
 unfold fK;cases x:Vp.nameC (Z4 e.name)
 .rw[x] at H;exact lA 67 _ _ _ 3 e a d w qr g H
 .rw[x] at H;cases y:Vp.cat e
  .rw[y] at v;exact lf 67 _ _ _ 3 e a d w qr vS g H v
  .rw[y] at v;refine lz 67 _ _ _ 3 e a d (eR e) ([],0) _ _ w qr vS qu g H v (fun W _=>vV e a d W y) (fun W _=>F6 e W y) (fun _ _ _ _ h _ _=>h) rfl ?_
   rintro W b C i rfl;exact lD (gV e) e _ _ a d [] f [] c W (IS.nil W) (j.below i) (GS.nil W) (k.below i)
end
end Go.Proofs.YtnkjliahpeebjaaGreatDoor
