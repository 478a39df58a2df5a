/- Catalogs. -/
import Derived.Test.YtefcmdmfgdcpmaaGreatDoorNo
set_option maxRecDepth 8000
set_option maxHeartbeats 8000000
namespace Go.Proofs.YtefcmdmfgdcpmaaGreatDoor
open Go.RowKit
section
def zhh(e:Int):Int:=if e=0 then 5 else if e=6 then 0 else e
theorem zdR(e:Int)(w:World):Calls Tryz.prog 184 #[.int .i64 e] w fun r w'=>r=.returned (.int .i64 (zhh e))∧w'=w:=by
 unfold zhh;by_cases h0:e=0
 subst h0;rotate_left;have t0:(e==0)=false:=beq_eq_false_iff_ne.2 h0;rw[if_neg h0];by_cases h6:e=6
 subst h6;rotate_left;have t6:(e==6)=false:=beq_eq_false_iff_ne.2 h6;rw[if_neg h6]
 all_goals
  go_enter Tryz.func184,Tryz.ntmps184
  go_wp2_with fail
  go_ret
  exact⟨rfl,rfl⟩
def zcn(l:List Rw)(fl cd ca id:Int)(x:Fu):Int × Int :=
 if x.1.kind≠2 then (0,ca) else match zbF l fl cd ca id x.1.target with
  | ((y,c),cb)=>if c≠0 then (c,cb) else if Ds.gen (Ds.bl y.1.name)=true∨y.1.kind=2 then (7,cb) else (0,cb)
attribute [local go_sem ↓] zaV zaW zaz za1
attribute [local go_sem] zav zap zal zaI zaJ zae zaq zai zaw zao zas zan zaa zaj zaf zaA zax zak zag zar zaG zaC zaE
theorem znV(p:Nat)(sv:Value)(l:List Rw)(fl cd ca id:Int)(x:Fu)(al gr:Value)(w0 w:World)(hm:MaxL w0)(hT:Tab w0)(hS:SHs w0 w p sv l fl cd ca)(hc0:0<=ca)(hc1:ca<=90000)(hcd:cd≠0∧cd≠6∨fl<=0)(hI:IS w al x.2.1)(hGr:GS w gr x.2.2) :
  Calls Tryz.prog 187 #[.iface 31 (.pointer (some ⟨p,0,none⟩)),.int .i64 id,.agg (x.1.vals al gr)] w fun r w'=>r=.returned (.int .i64 (zcn l fl cd ca id x).1)∧SHs w0 w' p sv l fl cd (zcn l fl cd ca id x).2∧w.grownBy w' (some p):=by
 have a1:=zau x.1 al gr (zaP hI) (zaO hGr);have HS:=lh hS;have hpl:=hS.pl;have R0:=zai w (x.1.vals al gr) 40 (0,0);have N0:=zah R0 0 _ (zaC _ _ _);clear hI hGr;generalize hg:zcn l fl cd ca id x=g;unfold zcn at hg;by_cases hk:x.1.kind=2
 rotate_left
 · rw[if_pos hk] at hg;subst hg;have t0:(x.1.kind != 2)=true:=bne_iff_ne.2 hk;have t1:(x.1.kind==2)=false:=beq_eq_false_iff_ne.2 hk;clear hk;go_enter Tryz.func187,Tryz.ntmps187
   go_wp2_with fail
   go_ret
   exact⟨rfl,HS.out.below (zab _ _),zad _ (zab _ _)⟩
 rw[if_neg (fun h=>h hk)] at hg;have N9:=zah R0 29 _ (zbb _ _ _);have B1:=zab w (.cells (x.1.vals al gr) 40);have hfi:=fun W (h:SHs w0 W p sv l fl cd ca)=>zeX p sv l fl cd ca id x.1.target w0 W hm hT h hc0 (by omega) hcd
 have hsh:=ziI l fl cd ca id x.1.target;generalize zbF l fl cd ca id x.1.target=gg at hfi hsh hg;obtain⟨⟨y,code⟩,cb⟩:=gg;dsimp only at hsh hg;have HF:=lh hfi;have HB1:=lh B1;clear hfi B1;by_cases h0:code=0
 rotate_left
 · rw[if_pos h0] at hg;subst hg;have t1:(code != 0)=true:=by rw[bne_iff_ne];exact h0
   clear h0;go_enter Tryz.func187,Tryz.ntmps187
   go_wp2_with (go_at_call 39;(refine (HF.out _ (HS.out.below HB1.out)).mono ?_);rintro _ w3 ⟨⟨al2,gr2,rfl,hI,hGs,hf1,hf2⟩,hs3,hg3⟩;have hone:=zau y.1 al2 gr2 (zaP hI) (zaO hGs);have S3:=lh hs3;have G3:=lh hg3;clear hI hGs hf1 hf2 hs3 hg3)
   go_ret
   exact⟨rfl,S3.out.below (zab _ _),zay (zat (zad _ HB1.out) G3.out) ((zab _ _).mono (by have:=(zat (zad _ HB1.out) G3.out).size;omega))⟩
 rw[if_neg (fun h=>h h0)] at hg;subst h0;have HP:=lh (fun W (b:Below w0.heap.size w0 W)=>zdW y.1.name W (Nat.le_trans hsh (by decide)) (hm.below b));by_cases hgen:Ds.gen (Ds.bl y.1.name)=true
 · rw[if_pos (.inl hgen)] at hg;subst hg;rw[hgen] at HP;clear hgen;go_enter Tryz.func187,Tryz.ntmps187
   go_wp2_with (first
    | (go_at_call 39;(refine (HF.out _ (HS.out.below HB1.out)).mono ?_);rintro _ w3 ⟨⟨al2,gr2,rfl,hI,hGs,hf1,hf2⟩,hs3,hg3⟩;have hone:=zau y.1 al2 gr2 (zaP hI) (zaO hGs);have S3:=lh hs3;have G3:=lh hg3;have R3:=zai w3 (y.1.vals al2 gr2) 40 (0,0);have M0:=zah R3 0 _ (zaC _ _ _);have M1:=zah R3 1 _ (zaE _ _ _);clear hI hGs hf1 hf2 hs3 hg3)
    | (go_at_call 84;(refine (HP.out _ (S3.out.below (zab _ _)).b).mono ?_);rintro _ w4 ⟨rfl,hb⟩;have B4:=lh (bt (zab _ _) hb);clear hb))
   go_ret
   exact⟨rfl,S3.out.below B4.out,zay (zat (zad _ HB1.out) G3.out) (B4.out.mono (by have:=(zat (zad _ HB1.out) G3.out).size;omega))⟩
 have hgf:Ds.gen (Ds.bl y.1.name)=false:=Bool.eq_false_iff.2 hgen;rw[hgf] at HP;by_cases h2:y.1.kind=2
 · rw[if_pos (.inr h2)] at hg;subst hg;have t2:(y.1.kind==2)=true:=beq_iff_eq.2 h2;clear hgf hgen h2;go_enter Tryz.func187,Tryz.ntmps187
   go_wp2_with (first
    | (go_at_call 39;(refine (HF.out _ (HS.out.below HB1.out)).mono ?_);rintro _ w3 ⟨⟨al2,gr2,rfl,hI,hGs,hf1,hf2⟩,hs3,hg3⟩;have hone:=zau y.1 al2 gr2 (zaP hI) (zaO hGs);have S3:=lh hs3;have G3:=lh hg3;have R3:=zai w3 (y.1.vals al2 gr2) 40 (0,0);have M0:=zah R3 0 _ (zaC _ _ _);have M1:=zah R3 1 _ (zaE _ _ _);clear hI hGs hf1 hf2 hs3 hg3)
    | (go_at_call 84;(refine (HP.out _ (S3.out.below (zab _ _)).b).mono ?_);rintro _ w4 ⟨rfl,hb⟩;have B4:=lh (bt (zab _ _) hb);have R4:=zaB hb R3 (by rw[zaa];decide);have M4:=zah R4 0 _ (zaC _ _ _);clear hb))
   go_ret
   exact⟨rfl,S3.out.below B4.out,zay (zat (zad _ HB1.out) G3.out) (B4.out.mono (by have:=(zat (zad _ HB1.out) G3.out).size;omega))⟩
 · rw[if_neg (by rintro (h|h);exact hgen h;exact h2 h)] at hg;subst hg;have t2:(y.1.kind==2)=false:=beq_eq_false_iff_ne.2 h2;clear hgf hgen h2;go_enter Tryz.func187,Tryz.ntmps187
   go_wp2_with (first
    | (go_at_call 39;(refine (HF.out _ (HS.out.below HB1.out)).mono ?_);rintro _ w3 ⟨⟨al2,gr2,rfl,hI,hGs,hf1,hf2⟩,hs3,hg3⟩;have hone:=zau y.1 al2 gr2 (zaP hI) (zaO hGs);have S3:=lh hs3;have G3:=lh hg3;have R3:=zai w3 (y.1.vals al2 gr2) 40 (0,0);have M0:=zah R3 0 _ (zaC _ _ _);have M1:=zah R3 1 _ (zaE _ _ _);clear hI hGs hf1 hf2 hs3 hg3)
    | (go_at_call 84;(refine (HP.out _ (S3.out.below (zab _ _)).b).mono ?_);rintro _ w4 ⟨rfl,hb⟩;have B4:=lh (bt (zab _ _) hb);have R4:=zaB hb R3 (by rw[zaa];decide);have M4:=zah R4 0 _ (zaC _ _ _);clear hb))
   go_ret
   exact⟨rfl,S3.out.below B4.out,zay (zat (zad _ HB1.out) G3.out) (B4.out.mono (by have:=(zat (zad _ HB1.out) G3.out).size;omega))⟩
end
section
theorem zi8(ev:Operand->Value)(w:World)(dst x y t' pos af gd)(h1:zbA (ev x)=true)(h2:Held w (za0 (ev x)) 5)(h3:zbC (ev y)=true)(h4:(zaK (ev y)).size=5)(h5:zaM (zaK (ev y)).toList=true) :
  (execOp ev ⟨dst,.store 123 x y,t',pos,af,gd⟩).run Tryz.prog w=.ok .skip (w.setRow (za0 (ev x)) (zaK (ev y))) :=
 zbN ev w _ 4 (by kernel_rfl) dst x y t' pos af gd h1 h2 h3 h4 h5
def chZ:Array Value:=#[.int .i64 0,.int .i64 0,.string ⟨#[]⟩,.string ⟨#[]⟩,.string ⟨#[]⟩]
def zbf(id:Int)(x:Fu):Ch:=(1,id,zaT x.1.kind x.1.name,⟨#[]⟩,⟨#[]⟩)
def zcF(x:Fu):ByteArray:=⟨(if okX x=true then ze9 x else []).toArray⟩
def zby(id:Int)(x:Fu):Ch:=(0,id,zaT x.1.kind x.1.name,zcF x,⟨#[]⟩)
attribute [local go_sem ↓] zaV zaW zaz za1 zi8
attribute [local go_sem] zav zap zal zaI zaJ zae zaq zai zaw zao zas zan zaa zaj zaf zaA zax zak zag zar zaG zaC zaE
theorem zjn(id:Int)(x:Fu)(al gr:Value)(w:World)(_a1:zaM (x.1.vals al gr).toList=true) :
  Calls Tryz.prog 191 #[.int .i64 id,.agg (x.1.vals al gr)] w fun r w'=>r=.returned (.agg (ch5 (zbf id x)))∧Below w.heap.size w w':=by
 have HK:=lh (fun W=>zd9 x.1.kind x.1.name W);have R0:=zaw w (x.1.vals al gr) 40 (0,0) (.cells chZ 123);have N0:=zah R0 0 _ (zaC _ _ _);have N1:=zah R0 1 _ (zaE _ _ _);have HH:=Held.new (w.alloc (.cells (x.1.vals al gr) 40)) chZ 123 5 rfl (by decide);rw[World.size_alloc] at HH;unfold chZ at *;unfold zbf;go_enter Tryz.func191,Tryz.ntmps191
 go_wp2_with (go_at_call 70;(with_reducible refine (HK.out _).mono ?_);rintro _ w4 ⟨rfl,hb4⟩;have H4:=HH.below hb4;have B4:=lh (bt (below2' _ _ _) hb4);clear hb4)
 refine bodyPost_ret (zkj (n:=4) rfl Tryz.underlying123 rfl (by kernel_rfl) _ _ (w.heap.size+1) rfl (by rw[zaQ H4];rfl)) rfl ?_
 rw[zaQ H4];exact⟨rfl,below_setRow B4.out (by omega) _⟩
theorem zpT(x:Fu)(al gr:Value)(w:World)(hm:MaxL w)(hT:Tab w)(hsz:x.1.name.size<=1000)(h1:IS w al x.2.1)(h2:GS w gr x.2.2) :
  Calls Tryz.prog 32 #[.agg (x.1.vals al gr)] w fun r w'=>r=.returned (.tuple #[.string (zcF x),.int .i64 (if okX x=true then 0 else 1)])∧Below w.heap.size w w':=by
 refine (zhy x.1 al gr x.2.1 x.2.2 w hm hT hsz h1 h2).mono ?_
 rintro _ w' ⟨t,rfl,ht,hb⟩;obtain rfl:t=zcF x:=Ds.bl_inj (by rw[ht];unfold zcF;rw[Ds.bl_mk]);exact⟨rfl,hb⟩
theorem zln(id:Int)(x:Fu)(al gr:Value)(w:World)(hm:MaxL w)(hT:Tab w)(hsz:x.1.name.size<=1000)(hI:IS w al x.2.1)(hG:GS w gr x.2.2) :
  Calls Tryz.prog 188 #[.int .i64 id,.agg (x.1.vals al gr)] w fun r w'=>r=.returned (.agg (ch5 (zby id x)))∧Below w.heap.size w w':=by
 have a1:=zau x.1 al gr (zaP hI) (zaO hG);have HK:=lh (fun W=>zd9 x.1.kind x.1.name W);have HE:=lh (fun W (b:Below w.heap.size w W)=>zpT x al gr W (hm.below b) (hT.below b) hsz (hI.below b) (hG.below b));have R0:=zaw w (x.1.vals al gr) 40 (0,0) (.cells chZ 123);have HH:=Held.new (w.alloc (.cells (x.1.vals al gr) 40)) chZ 123 5 rfl (by decide);rw[World.size_alloc] at HH;clear hI hG;unfold chZ at *
 unfold zby;generalize zcF x=rz at HE ⊢;generalize (if okX x=true then (0:Int) else 1)=rc at HE;go_enter Tryz.func188,Tryz.ntmps188
 go_wp2_with (first
  | (go_at_call 32;(refine (HE.out _ (below2' _ _ _)).mono ?_);rintro _ w3 ⟨rfl,hb⟩;have H3:=HH.below hb;have R3:=zaB hb R0 (by rw[zaa];decide);have N0:=zah R3 0 _ (zaC _ _ _);have N1:=zah R3 1 _ (zaE _ _ _);have B3:=lh (bt (below2' _ _ _) hb);clear hb)
  | (go_at_call 70;(with_reducible refine (HK.out _).mono ?_);rintro _ w4 ⟨rfl,hb4⟩;have H4:=H3.below hb4;have B4:=lh (bt B3.out hb4);clear hb4))
 refine bodyPost_ret (zkj (n:=4) rfl Tryz.underlying123 rfl (by kernel_rfl) _ _ (w.heap.size+1) rfl (by rw[zaQ H4];rfl)) rfl ?_
 rw[zaQ H4];exact⟨rfl,below_setRow B4.out (by omega) _⟩
end
section
def add1F(l:List Rw)(fl cd ca id:Int)(x:Fu):Int × Int :=
 if 2<x.1.kind then (zhh (zbn l fl cd ca id x.1.kind x.1.name).1.2,(zbn l fl cd ca id x.1.kind x.1.name).2) else (zhh (zbF l fl cd ca id x.1.name).1.2,(zbF l fl cd ca id x.1.name).2)
def add2F(l:List Rw)(fl cd ca id:Int)(x:Fu):Int × Int :=
 if Ds.gen (Ds.bl x.1.name)=true∧x.1.kind=0 then ((zbn l fl cd ca id 1 (zeV x.1.name)).1.2,(zbn l fl cd ca id 1 (zeV x.1.name)).2) else (0,ca)
attribute [local go_sem ↓] zaV zaW zaz za1 zi8
attribute [local go_sem] zav zap zal zaI zaJ zae zaq zai zaw zao zas zan zaa zaj zaf zaA zax zak zag zar zaG zaC zaE
theorem zq5(p be br bi:Nat)(sv:Value)(l:List Rw)(fl cd ca id:Int)(x:Fu)(al gr:Value)(w0 w:World)(hm:MaxL w0)(hT:Tab w0)(hS:SHs w0 w p sv l fl cd ca)(hc0:0<=ca)(hc1:ca<=90000)(hcd:cd≠0∧cd≠6∨fl<=0)(hR:row w be=x.1.vals al gr)(cr:w.cell? ⟨br,0,none⟩=some (.iface 31 (.pointer (some ⟨p,0,none⟩))))(ci:w.cell? ⟨bi,0,none⟩=some (.int .i64 id)) :
  Calls Tryz.prog 183 #[.pointer (some ⟨be,0,none⟩),.pointer (some ⟨br,0,none⟩),.pointer (some ⟨bi,0,none⟩)] w fun r w'=>r=.returned (.int .i64 (add1F l fl cd ca id x).1)∧SHs w0 w' p sv l fl cd (add1F l fl cd ca id x).2∧w.grownBy w' (some p):=by
 have HS:=lh hS;have hpl:=hS.pl;have hcd2:cd≠0∨fl<=0:=hcd.imp (fun h=>h.1) (fun h=>h);have N0:=zah hR 0 _ (zaC _ _ _);have N1:=zah hR 1 _ (zaE _ _ _);unfold add1F;by_cases hk:2<x.1.kind
 · have q2:decide (2<x.1.kind)=true:=decide_eq_true hk;rw[if_pos hk];have hget:=fun W (h:SHs w0 W p sv l fl cd ca)=>zdd p sv l fl cd ca id x.1.kind x.1.name w0 W hm hT h hc0 (by omega) hcd2
   generalize zbn l fl cd ca id x.1.kind x.1.name=gg at hget ⊢;obtain⟨⟨y,code⟩,cb⟩:=gg;have HGE:=lh hget;clear hget;go_enter Tryz.func183,Tryz.ntmps183
   go_wp2_with (first
    | (go_at_call 35;(refine (HGE.out _ HS.out).mono ?_);rintro _ w3 ⟨⟨al2,gr2,rfl,hI,hGs,hf1,hf2⟩,hs3,hg3⟩;have hone:=zau y.1 al2 gr2 (zaP hI) (zaO hGs);have S3:=lh hs3;have G3:=lh hg3;clear hI hGs hf1 hf2 hs3 hg3)
    | (go_at_call 184;(refine (zdR _ _).mono ?_);rintro _ _ ⟨rfl,rfl⟩))
   go_ret
   exact⟨rfl,S3.out.below (zab _ _),zay G3.out ((zab _ _).mono (by have:=G3.out.size;omega))⟩
 · have q2:decide (2<x.1.kind)=false:=decide_eq_false hk;rw[if_neg hk];have hfi:=fun W (h:SHs w0 W p sv l fl cd ca)=>zeX p sv l fl cd ca id x.1.name w0 W hm hT h hc0 (by omega) hcd
   generalize zbF l fl cd ca id x.1.name=gg at hfi ⊢;obtain⟨⟨y,code⟩,cb⟩:=gg;have HF:=lh hfi;clear hfi;go_enter Tryz.func183,Tryz.ntmps183
   go_wp2_with (first
    | (go_at_call 39;(refine (HF.out _ HS.out).mono ?_);rintro _ w3 ⟨⟨al2,gr2,rfl,hI,hGs,hf1,hf2⟩,hs3,hg3⟩;have hone:=zau y.1 al2 gr2 (zaP hI) (zaO hGs);have S3:=lh hs3;have G3:=lh hg3;clear hI hGs hf1 hf2 hs3 hg3)
    | (go_at_call 184;(refine (zdR _ _).mono ?_);rintro _ _ ⟨rfl,rfl⟩))
   go_ret
   exact⟨rfl,S3.out.below (zab _ _),zay G3.out ((zab _ _).mono (by have:=G3.out.size;omega))⟩
theorem zq6(p be br bi:Nat)(sv:Value)(l:List Rw)(fl cd ca id:Int)(x:Fu)(al gr:Value)(w0 w:World)(hm:MaxL w0)(hT:Tab w0)(hS:SHs w0 w p sv l fl cd ca)(hc0:0<=ca)(hc1:ca<=90000)(hcd:cd≠0∨fl<=0)(hsz:x.1.name.size<=1000)(hR:row w be=x.1.vals al gr)(cr:w.cell? ⟨br,0,none⟩=some (.iface 31 (.pointer (some ⟨p,0,none⟩))))(ci:w.cell? ⟨bi,0,none⟩=some (.int .i64 id))(l2:br<w.heap.size)(l3:bi<w.heap.size) :
  Calls Tryz.prog 185 #[.pointer (some ⟨be,0,none⟩),.pointer (some ⟨br,0,none⟩),.pointer (some ⟨bi,0,none⟩)] w fun r w'=>r=.returned (.int .i64 (add2F l fl cd ca id x).1)∧SHs w0 w' p sv l fl cd (add2F l fl cd ca id x).2∧w.grownBy w' (some p):=by
 have HS:=lh hS;have hpl:=hS.pl;have N1:=zah hR 1 _ (zaE _ _ _);have HP:=lh (fun W (b:Below w0.heap.size w0 W)=>zdW x.1.name W hsz (hm.below b));unfold add2F zeV;cases hgen:Ds.gen (Ds.bl x.1.name)
 rw[if_neg (by simp)];rw[hgen] at HP;rotate_left;rw[hgen] at HP;generalize (⟨(Ds.splG (Ds.bl x.1.name)).toArray⟩:ByteArray)=sg at HP ⊢;by_cases hk:x.1.kind=0
 rotate_left;rw[if_neg (fun h=>hk h.2)];have t1:(x.1.kind != 0)=true:=bne_iff_ne.2 hk;rotate_right
 rw[if_pos ⟨rfl,hk⟩];have t1:(x.1.kind != 0)=false:=by rw[hk];rfl
 have hget:=fun W (h:SHs w0 W p sv l fl cd ca)=>zdd p sv l fl cd ca id 1 sg w0 W hm hT h hc0 (by omega) hcd
 generalize zbn l fl cd ca id 1 sg=gg at hget ⊢;obtain⟨⟨y,code⟩,cb⟩:=gg;have HGE:=lh hget;clear hget hk
 all_goals
  go_enter Tryz.func185,Tryz.ntmps185
  go_wp2_with (first
   | (go_at_call 84;(refine (HP.out _ HS.out.b).mono ?_);rintro _ w4 ⟨rfl,hb⟩;have B4:=lh hb;have R4:=zaB hb hR (by rw[zaa];decide);have M4:=zah R4 0 _ (zaC _ _ _);have cr4:=(hb.cell (p:=⟨br,0,none⟩) l2).trans cr;have ci4:=(hb.cell (p:=⟨bi,0,none⟩) l3).trans ci;clear hb)
   | (go_at_call 35;(refine (HGE.out _ (HS.out.below B4.out)).mono ?_);rintro _ w3 ⟨⟨al2,gr2,rfl,hI,hGs,hf1,hf2⟩,hs3,hg3⟩;have hone:=zau y.1 al2 gr2 (zaP hI) (zaO hGs);have S3:=lh hs3;have G3:=lh hg3;clear hI hGs hf1 hf2 hs3 hg3))
  go_ret
  first|exact⟨rfl,S3.out.below (zab _ _),zay (zat (zad _ B4.out) G3.out) ((zab _ _).mono (by have:=(zat (zad _ B4.out) G3.out).size;omega))⟩|exact⟨rfl,HS.out.below B4.out,zad _ B4.out⟩
theorem zq7(p be br bi:Nat)(sv:Value)(l:List Rw)(fl cd ca id:Int)(x:Fu)(al gr:Value)(w0 w:World)(hm:MaxL w0)(hT:Tab w0)(hS:SHs w0 w p sv l fl cd ca)(hc0:0<=ca)(hc1:ca<=90000)(hcd:cd≠0∧cd≠6∨fl<=0)(hI:IS w al x.2.1)(hGr:GS w gr x.2.2)(hR:row w be=x.1.vals al gr)(cr:w.cell? ⟨br,0,none⟩=some (.iface 31 (.pointer (some ⟨p,0,none⟩))))(ci:w.cell? ⟨bi,0,none⟩=some (.int .i64 id)) :
  Calls Tryz.prog 186 #[.pointer (some ⟨br,0,none⟩),.pointer (some ⟨bi,0,none⟩),.pointer (some ⟨be,0,none⟩)] w fun r w'=>r=.returned (.int .i64 (zcn l fl cd ca id x).1)∧SHs w0 w' p sv l fl cd (zcn l fl cd ca id x).2∧w.grownBy w' (some p):=by
 have HL:=lh (znV p sv l fl cd ca id x al gr w0 w hm hT hS hc0 hc1 hcd hI hGr);clear hS hI hGr;generalize zcn l fl cd ca id x=g at HL ⊢;go_enter Tryz.func186,Tryz.ntmps186
 go_wp2_with (go_at_call 187;(with_reducible refine HL.out.mono ?_);rintro _ w3 ⟨rfl,hs3,hg3⟩;have S3:=lh hs3;have G3:=lh hg3;clear hs3 hg3)
 go_ret
 exact⟨rfl,S3.out,G3.out⟩
end
section
theorem zbe(w:World):ChS w (.slice none 0 0) []:=⟨none,0,rfl,by simp,fun h=>by simp at h⟩
theorem ziB(w:World)(c:Ch):ChS (w.alloc (.cells (ch5 c) 123)) (.slice (some ⟨w.heap.size,0,none⟩) 1 1) [c]:=by
 refine⟨_,_,rfl,by simp,fun _=>⟨w.heap.size,0,rfl,by simp,fun k hk i u hu=>?_⟩⟩
 obtain rfl:k=0:=by simpa using hk
 have h:=zah (zai w (ch5 c) 123 (0,0)) i u hu;simpa using h
theorem zcN{w w':World}{p:Nat}{al:Value}{l:List Int}(h:IS w al l)(hg:w.grownBy w' (some p))(ho:0<l.length->∀ q,al.ownBlock=some q->q≠p):IS w' al l:=by
 obtain⟨a,c,rfl,hz,hc⟩:=h;refine⟨a,c,rfl,hz,fun h0=>?_⟩
 obtain⟨b,o,rfl,hb,hcell⟩:=hc h0;have hne:=ho h0 b rfl;have q:=fun i=>World.cell?_of_block (w:=w) (w':=w') (a:=⟨b,i,none⟩) (hg.block b hb (fun e=>hne (Option.some.inj e)))
 exact⟨b,o,rfl,Nat.lt_of_lt_of_le hb hg.size,fun k hk=>(q _).trans (hcell k hk)⟩
theorem zd0{w w':World}{p:Nat}{al:Value}{l:List Gr}(h:GS w al l)(hg:w.grownBy w' (some p))(ho:0<l.length->∀ q,al.ownBlock=some q->q≠p):GS w' al l:=by
 obtain⟨a,c,rfl,hz,hc⟩:=h;refine⟨a,c,rfl,hz,fun h0=>?_⟩
 obtain⟨b,o,rfl,hb,hcell⟩:=hc h0;have hne:=ho h0 b rfl;have q:=fun i=>World.cell?_of_block (w:=w) (w':=w') (a:=⟨b,i,none⟩) (hg.block b hb (fun e=>hne (Option.some.inj e)))
 exact⟨b,o,rfl,Nat.lt_of_lt_of_le hb hg.size,fun k hk=>⟨(q _).trans (hcell k hk).1,(q _).trans (hcell k hk).2.1,(q _).trans (hcell k hk).2.2⟩⟩
def ChR(w0 w w':World)(p:Nat)(sv:Value)(l:List Rw)(fl cd:Int)(g:(List Ch × Int) × Int)(r:Ending):Prop :=
 ∃ ov,r=.returned (.tuple #[ov,.int .i64 g.1.2])∧ChS w' ov g.1.1∧SHs w0 w' p sv l fl cd g.2∧w.grownBy w' (some p)
attribute [local go_sem ↓] zaV zaW zaz za1 zi8
attribute [local go_sem] zav zap zal zaI zaJ zae zaq zai zaw zao zas zan zaa zaj zaf zaA zax zak zag zar zaG zaC zaE
end
section
def znJ(l:List Rw)(fl cd id:Int)(x:Fu)(k:Nat)(c:Int):Int × Int:=if k=0 then add1F l fl cd c id x else if k=1 then add2F l fl cd c id x else zcn l fl cd c id x
def zk3(l:List Rw)(fl cd id:Int)(x:Fu):Nat->Nat->Int->(List Ch × Int) × Int
 | 0,_,c=>(([zby id x],0),c)
 | n+1,k,c=>if (znJ l fl cd id x k c).1≠0 then (([],(znJ l fl cd id x k c).1),(znJ l fl cd id x k c).2) else zk3 l fl cd id x n (k+1) (znJ l fl cd id x k c).2
def znO(l:List Rw)(fl cd ca id:Int)(x:Fu):(List Ch × Int) × Int:=if okX x=true then zk3 l fl cd id x 3 0 ca else (([],1),ca)
theorem zmr(l:List Rw)(fl cd c id:Int)(x:Fu):c<=(zcn l fl cd c id x).2∧(zcn l fl cd c id x).2<=c+3:=by
 unfold zcn;split
 · exact⟨Int.le_refl _,by dsimp only;omega⟩
 · have h:=zcY l fl cd c id x.1.target;generalize zbF l fl cd c id x.1.target=g at h ⊢;obtain⟨⟨y,e⟩,cb⟩:=g;dsimp only at h ⊢;split
   · exact h
   · split <;> exact h
theorem zi9(l:List Rw)(fl cd id:Int)(x:Fu)(k:Nat)(c:Int):c<=(znJ l fl cd id x k c).2∧(znJ l fl cd id x k c).2<=c+3:=by
 unfold znJ;split
 · unfold add1F;split
   · have h:=zbJ l fl cd c id x.1.kind x.1.name;dsimp only;omega
   · have h:=zcY l fl cd c id x.1.name;dsimp only;omega
 · split
   · unfold add2F;split
     · have h:=zbJ l fl cd c id 1 (zeV x.1.name);dsimp only;omega
     · exact⟨Int.le_refl _,by dsimp only;omega⟩
   · exact zmr l fl cd c id x
structure AdI (w0 w wr:World) (p bs:Nat) (sv:Value) (l:List Rw) (fl cd c id:Int) (x:Fu) (al gr:Value):Prop where
 sh:SHs w0 wr p sv l fl cd c
 g:w.grownBy wr (some p)
 e:row wr (w.heap.size+1+1)=x.1.vals al gr
 r:wr.cell? ⟨w.heap.size,0,none⟩=some (.iface 31 (.pointer (some ⟨p,0,none⟩)))
 i:wr.cell? ⟨w.heap.size+1,0,none⟩=some (.int .i64 id)
 f0:wr.cell? ⟨bs,0,none⟩=some (.func (.func 183) #[] #[.pointer (some ⟨w.heap.size+1+1,0,none⟩),.pointer (some ⟨w.heap.size,0,none⟩),.pointer (some ⟨w.heap.size+1,0,none⟩)])
 f1:wr.cell? ⟨bs,1,none⟩=some (.func (.func 185) #[] #[.pointer (some ⟨w.heap.size+1+1,0,none⟩),.pointer (some ⟨w.heap.size,0,none⟩),.pointer (some ⟨w.heap.size+1,0,none⟩)])
 f2:wr.cell? ⟨bs,2,none⟩=some (.func (.func 186) #[] #[.pointer (some ⟨w.heap.size,0,none⟩),.pointer (some ⟨w.heap.size+1,0,none⟩),.pointer (some ⟨w.heap.size+1+1,0,none⟩)])
 lt:bs<wr.heap.size
 l2:w.heap.size+1+1<wr.heap.size
 pl:p<w.heap.size
 bl:w.heap.size<=bs
 I:IS wr al x.2.1
 G:GS wr gr x.2.2
 o1:0<x.2.1.length->∀ q,al.ownBlock=some q->q≠p
 o2:0<x.2.2.length->∀ q,gr.ownBlock=some q->q≠p
theorem AdI.step{w0 w wr w3:World}{p bs:Nat}{sv:Value}{l:List Rw}{fl cd c c' id:Int}{x:Fu}{al gr:Value}(h:AdI w0 w wr p bs sv l fl cd c id x al gr)(hs:SHs w0 w3 p sv l fl cd c')(hg:wr.grownBy w3 (some p)):AdI w0 w w3 p bs sv l fl cd c' id x al gr:=by
 have hpl:=h.pl;have hbl:=h.bl;have hlt:=h.lt;have hl2:=h.l2;have q:∀ b o,b<wr.heap.size->b≠p->w3.cell? ⟨b,o,none⟩=wr.cell? ⟨b,o,none⟩:=fun b o hb hn=>World.cell?_of_block (a:=⟨b,o,none⟩) (hg.block b hb (fun e:(some b:Option Nat)=some p=>hn (Option.some.inj e)))
 exact⟨hs,zat h.g hg,za4 h.e (by rw[zaa];decide) hg (by omega),(q _ _ (by omega) (by omega)).trans h.r,(q _ _ (by omega) (by omega)).trans h.i,(q _ _ hlt (by omega)).trans h.f0,(q _ _ hlt (by omega)).trans h.f1,(q _ _ hlt (by omega)).trans h.f2,
  Nat.lt_of_lt_of_le hlt hg.size,Nat.lt_of_lt_of_le hl2 hg.size,hpl,hbl,zcN h.I hg h.o1,zd0 h.G hg h.o2,h.o1,h.o2⟩
attribute [local go_sem ↓] zaV zaW zaz za1 zi8
attribute [local go_sem] zav zap zal zaI zaJ zae zaq zai zaw zao zas zan zaa zaj zaf zaA zax zak zag zar zaG zaC zaE
theorem ztD(p:Nat)(sv:Value)(l:List Rw)(fl cd ca id:Int)(x:Fu)(al gr:Value)(w0 w:World)(hm:MaxL w0)(hT:Tab w0)(hS:SHs w0 w p sv l fl cd ca)(hc0:0<=ca)(hc1:ca<=80000)(hcd:cd≠0∧cd≠6∨fl<=0)(hsz:x.1.name.size<=1000)(hI:IS w al x.2.1)(hGr:GS w gr x.2.2)(o1:0<x.2.1.length->∀ q,al.ownBlock=some q->q≠p)(o2:0<x.2.2.length->∀ q,gr.ownBlock=some q->q≠p) :
  Calls Tryz.prog 120 #[.iface 31 (.pointer (some ⟨p,0,none⟩)),.int .i64 id,.agg (x.1.vals al gr)] w fun r w'=>ChR w0 w w' p sv l fl cd (znO l fl cd ca id x) r:=by
 have a1:=zau x.1 al gr (zaP hI) (zaO hGr);have HS:=lh hS;have hpl:=hS.pl;have hcd2:cd≠0∨fl<=0:=hcd.imp (fun h=>h.1) (fun h=>h);have HV:=lh (fun W (b0:Below w0.heap.size w0 W) (b:Below w.heap.size w W)=>znA x.1 al gr x.2.1 x.2.2 W (hm.below b0) (hT.below b0) hsz (hI.below b) (hGr.below b));have HI:=lh hI;have HGR:=lh hGr;clear hI hGr;unfold znO;have B1:Below w.heap.size w (((w.alloc (.cells #[.iface 31 (.pointer (some ⟨p,0,none⟩))] 61)).alloc (.cells #[.int .i64 id] 3)).alloc (.cells (x.1.vals al gr) 40)):=by exact zbo
 have HB1:=lh B1;clear B1;have R0:=zai ((w.alloc (.cells #[.iface 31 (.pointer (some ⟨p,0,none⟩))] 61)).alloc (.cells #[.int .i64 id] 3)) (x.1.vals al gr) 40 (0,0);simp only[World.size_alloc] at R0
 cases hok:okX x
 rw[if_neg (by simp)];have HV2:=lh (fun W b0 b=>(show okX (x.1,x.2.1,x.2.2)=false from hok) ▸ HV.out W b0 b);clear HV;rotate_left;rw[if_pos rfl];have HV2:=lh (fun W b0 b=>(show okX (x.1,x.2.1,x.2.2)=true from hok) ▸ HV.out W b0 b);clear HV;generalize hg:zk3 l fl cd id x 3 0 ca=g;have HGG:=lh hg;clear hg hok;have HA1:=lh (fun (c:Int) wr (h0:0<=c) (h1:c<=90000) (h:SHs w0 wr p sv l fl cd c)=>zq5 p (w.heap.size+1+1) w.heap.size (w.heap.size+1) sv l fl cd c id x al gr w0 wr hm hT h h0 h1 hcd);have HA2:=lh (fun (c:Int) wr (h0:0<=c) (h1:c<=90000) (h:SHs w0 wr p sv l fl cd c)=>zq6 p (w.heap.size+1+1) w.heap.size (w.heap.size+1) sv l fl cd c id x al gr w0 wr hm hT h h0 h1 hcd2 hsz);have HA3:=lh (fun (c:Int) wr (h0:0<=c) (h1:c<=90000) (h:SHs w0 wr p sv l fl cd c)=>zq7 p (w.heap.size+1+1) w.heap.size (w.heap.size+1) sv l fl cd c id x al gr w0 wr hm hT h h0 h1 hcd);have C0:(((w.alloc (.cells #[.iface 31 (.pointer (some ⟨p,0,none⟩))] 61)).alloc (.cells #[.int .i64 id] 3)).alloc (.cells (x.1.vals al gr) 40)).cell? ⟨w.heap.size,0,none⟩=some (.iface 31 (.pointer (some ⟨p,0,none⟩))):=by simp [go_sem]
 have C1:(((w.alloc (.cells #[.iface 31 (.pointer (some ⟨p,0,none⟩))] 61)).alloc (.cells #[.int .i64 id] 3)).alloc (.cells (x.1.vals al gr) 40)).cell? ⟨w.heap.size+1,0,none⟩=some (.int .i64 id):=by simp [go_sem]
 rotate_left
 iterate 1
  focus
   go_enter Tryz.func120,Tryz.ntmps120
   go_wp2_with (go_at_call 98;(refine (HV2.out _ (HS.out.below HB1.out).b HB1.out).mono ?_);rintro _ w2 ⟨rfl,hb⟩;have B2:=lh (Below.trans HB1.out (hb.mono HB1.out.size));clear hb)
   go_ret2
   exact⟨_,rfl,zbe _,HS.out.below B2.out,zad _ B2.out⟩
 go_enter Tryz.func120,Tryz.ntmps120
 go_wp2_with (go_at_call 98;(refine (HV2.out _ (HS.out.below HB1.out).b HB1.out).mono ?_);rintro _ w2 ⟨rfl,hb⟩;have B2:=lh (Below.trans HB1.out (hb.mono HB1.out.size));have R2:=zaB hb R0 (by rw[zaa];decide);have D0:=(hb.cell (p:=⟨w.heap.size,0,none⟩) (by simp;omega)).trans C0;have D1:=(hb.cell (p:=⟨w.heap.size+1,0,none⟩) (by simp)).trans C1;have z2:=hb.size;clear hb)
 have HI2:AdI w0 w (w2.alloc (.cells #[.func (.func 183) #[] #[.pointer (some ⟨w.heap.size+1+1,0,none⟩),.pointer (some ⟨w.heap.size,0,none⟩),.pointer (some ⟨w.heap.size+1,0,none⟩)],.func (.func 185) #[] #[.pointer (some ⟨w.heap.size+1+1,0,none⟩),.pointer (some ⟨w.heap.size,0,none⟩),.pointer (some ⟨w.heap.size+1,0,none⟩)],.func (.func 186) #[] #[.pointer (some ⟨w.heap.size,0,none⟩),.pointer (some ⟨w.heap.size+1,0,none⟩),.pointer (some ⟨w.heap.size+1+1,0,none⟩)]] 91)) p w2.heap.size sv l fl cd ca id x al gr:=by
  simp only[World.size_alloc] at z2
  have bl:=zab w2 (.cells #[.func (.func 183) #[] #[.pointer (some ⟨w.heap.size+1+1,0,none⟩),.pointer (some ⟨w.heap.size,0,none⟩),.pointer (some ⟨w.heap.size+1,0,none⟩)],.func (.func 185) #[] #[.pointer (some ⟨w.heap.size+1+1,0,none⟩),.pointer (some ⟨w.heap.size,0,none⟩),.pointer (some ⟨w.heap.size+1,0,none⟩)],.func (.func 186) #[] #[.pointer (some ⟨w.heap.size,0,none⟩),.pointer (some ⟨w.heap.size+1,0,none⟩),.pointer (some ⟨w.heap.size+1+1,0,none⟩)]] 91);refine⟨(HS.out.below B2.out).below bl,zad _ (B2.out.trans (bl.mono B2.out.size)),zaB bl R2 (by rw[zaa];decide),(bl.cell (p:=⟨w.heap.size,0,none⟩) (by show w.heap.size<w2.heap.size;omega)).trans D0,(bl.cell (p:=⟨w.heap.size+1,0,none⟩) (by show w.heap.size+1<w2.heap.size;omega)).trans D1,?_,?_,?_,by simp,by simp;omega,hpl,by omega,(HI.out.below B2.out).below bl,(HGR.out.below B2.out).below bl,o1,o2⟩
  · rw[cell_of_row _ _ 0 _ 91 (0,0) (heap_alloc_new w2 _)];rfl
  · rw[cell_of_row _ _ 1 _ 91 (0,0) (heap_alloc_new w2 _)];rfl
  · rw[cell_of_row _ _ 2 _ 91 (0,0) (heap_alloc_new w2 _)];rfl
 go_loopw [21] (fun i wr=>∃ (k:Nat) (c:Int),k<=3∧i=.int .i64 k∧0<=c∧c<=ca+3*k∧Hid (zk3 l fl cd id x (3 - k) k c=g)∧AdI w0 w wr p w2.heap.size sv l fl cd c id x al gr) (fun i _=>3 - (intOf i).toNat)
 case atStart=>exact⟨0,ca,by decide,rfl,hc0,by simp,HGG,HI2⟩
 case round =>
  obtain⟨k,c,hk,rfl,h0,h1,HH,hA⟩:=hrel;have HA:=lh hA;have hcc:=zi9 l fl cd id x k c;by_cases hlt:k<3
  · have hq:=HH.out;rw[show 3 - k=(3 - (k+1))+1 by omega] at hq;unfold zk3 at hq
    have hst:∃ f cs,wr.cell? ⟨w2.heap.size,k,none⟩=some (.func (.func f) #[] cs)∧(k=0∧f=183∧cs=#[.pointer (some ⟨w.heap.size+1+1,0,none⟩),.pointer (some ⟨w.heap.size,0,none⟩),.pointer (some ⟨w.heap.size+1,0,none⟩)]∨k=1∧f=185∧cs=#[.pointer (some ⟨w.heap.size+1+1,0,none⟩),.pointer (some ⟨w.heap.size,0,none⟩),.pointer (some ⟨w.heap.size+1,0,none⟩)]∨k=2∧f=186∧cs=#[.pointer (some ⟨w.heap.size,0,none⟩),.pointer (some ⟨w.heap.size+1,0,none⟩),.pointer (some ⟨w.heap.size+1+1,0,none⟩)]):=by
     rcases (by omega:k=0∨k=1∨k=2) with rfl|rfl|rfl
     · exact⟨_,_,hA.f0,.inl ⟨rfl,rfl,rfl⟩⟩
     · exact⟨_,_,hA.f1,.inr (.inl ⟨rfl,rfl,rfl⟩)⟩
     · exact⟨_,_,hA.f2,.inr (.inr ⟨rfl,rfl,rfl⟩)⟩
    obtain⟨f,cs,hcell,hfk⟩:=hst
    have hcall:Calls Tryz.prog f cs wr fun r w'=>r=.returned (.int .i64 (znJ l fl cd id x k c).1)∧SHs w0 w' p sv l fl cd (znJ l fl cd id x k c).2∧wr.grownBy w' (some p):=by
     rcases hfk with ⟨rfl,rfl,rfl⟩|⟨rfl,rfl,rfl⟩|⟨rfl,rfl,rfl⟩
     · exact HA1.out c wr h0 (by omega) hA.sh hA.e hA.r hA.i
     · exact HA2.out c wr h0 (by omega) hA.sh hA.e hA.r hA.i (by have:=hA.l2;omega) (by have:=hA.l2;omega)
     · exact HA3.out c wr h0 (by omega) hA.sh hA.I hA.G hA.e hA.r hA.i
    generalize znJ l fl cd id x k c=sr at hcall hq hcc;obtain⟨code,cb⟩:=sr;dsimp only at hcall hq hcc;clear hA;rcases hfk with ⟨rfl,rfl,rfl⟩|⟨rfl,rfl,rfl⟩|⟨rfl,rfl,rfl⟩
    · have HC:=lh hcall;clear hcall;by_cases hz:code=0
      · rw[if_neg (fun h=>h hz)] at hq;subst hz;have HST:=lh hq;clear hq HH;go_wp2_with (go_at_call 183;(with_reducible refine HC.out.mono ?_);rintro _ w3 ⟨rfl,hs3,hg3⟩;have S3:=lh hs3;have G3:=lh hg3;clear hs3 hg3)
        go_roundw
        case rel=>exact⟨1,cb,by omega,by go_num,by omega,by omega,HST,HA.out.step S3.out G3.out⟩
        case measure=>simp [intOf]
      · rw[if_pos hz] at hq;subst hq;have t1:(code != 0)=true:=by rw[bne_iff_ne];exact hz
        clear hz HH;go_wp2_with (go_at_call 183;(with_reducible refine HC.out.mono ?_);rintro _ w3 ⟨rfl,hs3,hg3⟩;have S3:=lh hs3;have G3:=lh hg3;clear hs3 hg3)
        go_ret2
        exact⟨_,rfl,zbe _,S3.out,zat HA.out.g G3.out⟩
    · have HC:=lh hcall;clear hcall;by_cases hz:code=0
      · rw[if_neg (fun h=>h hz)] at hq;subst hz;have HST:=lh hq;clear hq HH;go_wp2_with (go_at_call 185;(with_reducible refine HC.out.mono ?_);rintro _ w3 ⟨rfl,hs3,hg3⟩;have S3:=lh hs3;have G3:=lh hg3;clear hs3 hg3)
        go_roundw
        case rel=>exact⟨2,cb,by omega,by go_num,by omega,by omega,HST,HA.out.step S3.out G3.out⟩
        case measure=>simp [intOf]
      · rw[if_pos hz] at hq;subst hq;have t1:(code != 0)=true:=by rw[bne_iff_ne];exact hz
        clear hz HH;go_wp2_with (go_at_call 185;(with_reducible refine HC.out.mono ?_);rintro _ w3 ⟨rfl,hs3,hg3⟩;have S3:=lh hs3;have G3:=lh hg3;clear hs3 hg3)
        go_ret2
        exact⟨_,rfl,zbe _,S3.out,zat HA.out.g G3.out⟩
    · have HC:=lh hcall;clear hcall;by_cases hz:code=0
      · rw[if_neg (fun h=>h hz)] at hq;subst hz;have HST:=lh hq;clear hq HH;go_wp2_with (go_at_call 186;(with_reducible refine HC.out.mono ?_);rintro _ w3 ⟨rfl,hs3,hg3⟩;have S3:=lh hs3;have G3:=lh hg3;clear hs3 hg3)
        go_roundw
        case rel=>exact⟨3,cb,by omega,by go_num,by omega,by omega,HST,HA.out.step S3.out G3.out⟩
        case measure=>simp [intOf]
      · rw[if_pos hz] at hq;subst hq;have t1:(code != 0)=true:=by rw[bne_iff_ne];exact hz
        clear hz HH;go_wp2_with (go_at_call 186;(with_reducible refine HC.out.mono ?_);rintro _ w3 ⟨rfl,hs3,hg3⟩;have S3:=lh hs3;have G3:=lh hg3;clear hs3 hg3)
        go_ret2
        exact⟨_,rfl,zbe _,S3.out,zat HA.out.g G3.out⟩
  · obtain rfl:k=3:=by omega
    have hstep:(([zby id x],0),c)=g:=HH.out;subst hstep;have R3:=hA.e;have C3:=hA.i;have hpu:∀ W (b:Below w0.heap.size w0 W) (i1:IS W al x.2.1) (i2:GS W gr x.2.2),Calls Tryz.prog 188 #[.int .i64 id,.agg (x.1.vals al gr)] W fun r w'=>r=.returned (.agg #[.int .i64 0,.int .i64 id,.string (zaT x.1.kind x.1.name),.string (zcF x),.string ⟨#[]⟩])∧Below W.heap.size W w':=fun W b i1 i2=>zln id x al gr W (hm.below b) (hT.below b) hsz i1 i2
    have hco:=fun W=>ziB W (zby id x)
    unfold zby ch5 at hco;dsimp only at hco;have HPU:=lh hpu;have HCO:=lh hco;clear hpu hco hA HH;go_wp2_with (go_at_call 188;(refine (HPU.out _ HA.out.sh.b HA.out.I HA.out.G).mono ?_);rintro _ w5 ⟨rfl,hb5⟩;have B5:=lh (bt hb5 (zab w5 (.cells #[.int .i64 0,.int .i64 id,.string (zaT x.1.kind x.1.name),.string (zcF x),.string ⟨#[]⟩] 123)));clear hb5)
    go_ret2
    exact⟨_,rfl,HCO.out _,HA.out.sh.below B5.out,zay HA.out.g (B5.out.mono (by have:=HA.out.g.size;omega))⟩
end
theorem zeq(p:Nat)(id:Int)(L:UInt8)(cb:Nat)(w:World) :
  Calls Tryz.prog 108 #[.iface 31 (.pointer (some ⟨p,0,none⟩)),.int .i64 id,.int .u8 (L.toNat:Nat),.pointer (some ⟨cb,0,none⟩)] w fun e w'=>e=.returned (.func (.func 167) #[] #[.pointer (some ⟨w.heap.size+1+1,0,none⟩),.pointer (some ⟨w.heap.size,0,none⟩),.pointer (some ⟨w.heap.size+1,0,none⟩),.pointer (some ⟨w.heap.size+1+1+1,0,none⟩)]) ∧
   w'=(((w.alloc (.cells #[.iface 31 (.pointer (some ⟨p,0,none⟩))] 61)).alloc (.cells #[.int .i64 id] 3)).alloc (.cells #[.int .u8 (L.toNat:Nat)] 5)).alloc (.cells #[.pointer (some ⟨cb,0,none⟩)] 161):=by
 go_enter Tryz.func108,Tryz.ntmps108
 go_wp2_with fail
 go_ret
 exact⟨rfl,rfl⟩
theorem zjo(s:ByteArray)(w:World)(hs:s.size<=1000)(hm:MaxL w) :
  Calls Tryz.prog 192 #[.string s] w fun e w'=>e=.returned (.bool (Ds.gen (Ds.bl s)))∧Below w.heap.size w w':=by
 have hp:=zdW s w hs hm;generalize Ds.gen (Ds.bl s)=b at hp ⊢;go_enter Tryz.func192,Tryz.ntmps192
 go_wp2_with (go_at_call 84;(with_reducible refine hp.mono ?_);rintro _ w1 ⟨rfl,B⟩)
 go_ret
 exact⟨rfl,B⟩
section
def zeM(l:List Rw)(id:Int)(x:Fu):Int :=
 if x.1.kind≠2 then 0 else match zcJ l id x.1.target with
  | (y,c)=>if c≠0 then c else if Ds.gen (Ds.bl y.1.name)=true∨y.1.kind=2 then 7 else 0
theorem zms(l:List Rw)(fl cd ca id:Int)(x:Fu)(hf:fl<=0)(h0:0<=ca):(zcn l fl cd ca id x).1=zeM l id x:=by
 unfold zcn zeM;split
 · rfl
 · have e:=zdY l fl cd ca id x.1.target hf h0;rw[<-e];generalize zbF l fl cd ca id x.1.target=g;obtain⟨⟨y,c⟩,cb⟩:=g;dsimp only;split
   · rfl
   · split <;> rfl
attribute [local go_sem ↓] zaV zaW zaz za1
attribute [local go_sem] zav zap zal zaI zaJ zae zaq zai zaw zao zas zan zaa zaj zaf zaA zax zak zag zar zaG zaC zaE
end
section
attribute [local go_sem ↓] zaV zaW zaz za1 zi8
attribute [local go_sem] zav zap zal zaI zaJ zae zaq zai zaw zao zas zan zaa zaj zaf zaA zax zak zag zar zaG zaC zaE
end
section
attribute [local go_sem ↓] zaV zaW zaz za1 zi8
attribute [local go_sem] zav zap zal zaI zaJ zae zaq zai zaw zao zas zan zaa zaj zaf zaA zax zak zag zar zaG zaC zaE
end
section
def zqL(l:List Rw)(id:Int)(x:Fu):Int:=if 2<x.1.kind then (zbd l id x.1.kind x.1.name).2 else (zcJ l id x.1.name).2
def zpC(l:List Rw)(id:Int)(x:Fu):List Ch × Int :=
 if okX x=true then
  if zhh (zqL l id x)≠0 then ([],zhh (zqL l id x))
  else if (Ds.gen (Ds.bl x.1.name)=true∧x.1.kind=0)∧(zbd l id 1 (zeV x.1.name)).2≠0 then ([],(zbd l id 1 (zeV x.1.name)).2)
  else if zeM l id x≠0 then ([],zeM l id x)
  else ([zby id x],0)
 else ([],1)
theorem znN(l:List Rw)(fl cd ca id:Int)(x:Fu)(hf:fl<=0)(h0:0<=ca):(add1F l fl cd ca id x).1=zhh (zqL l id x):=by
 unfold add1F zqL;split
 · rw[zdg l fl cd ca id _ _ hf h0]
 · rw[zdY l fl cd ca id _ hf h0]
theorem zqM(l:List Rw)(fl cd ca id:Int)(x:Fu)(hf:fl<=0)(h0:0<=ca):(znO l fl cd ca id x).1=zpC l id x:=by
 unfold znO zpC;split
 rotate_left
 · rfl
 have c1:=zi9 l fl cd id x 0 ca;have e1:=znN l fl cd ca id x hf h0;change ca<=(add1F l fl cd ca id x).2∧_ at c1
 show (zk3 l fl cd id x (2+1) 0 ca).1=_
 unfold zk3;change (if (add1F l fl cd ca id x).1≠0 then (([],(add1F l fl cd ca id x).1),(add1F l fl cd ca id x).2) else zk3 l fl cd id x 2 (0+1) (add1F l fl cd ca id x).2).1=_
 rw[e1];split
 · rfl
 generalize (add1F l fl cd ca id x).2=cb at c1;have h0b:0<=cb:=by omega
 have c2:=zi9 l fl cd id x 1 cb
 have e2:(add2F l fl cd cb id x).1=if Ds.gen (Ds.bl x.1.name)=true∧x.1.kind=0 then (zbd l id 1 (zeV x.1.name)).2 else 0:=by
  unfold add2F;split
  · rw[zdg l fl cd cb id _ _ hf h0b]
  · rfl
 change cb<=(add2F l fl cd cb id x).2∧_ at c2
 unfold zk3;change (if (add2F l fl cd cb id x).1≠0 then (([],(add2F l fl cd cb id x).1),(add2F l fl cd cb id x).2) else zk3 l fl cd id x 1 (0+1+1) (add2F l fl cd cb id x).2).1=_
 rw[e2];generalize (add2F l fl cd cb id x).2=cc at c2;have h0c:0<=cc:=by omega
 have e3:=zms l fl cd cc id x hf h0c
 have e4:(zk3 l fl cd id x 1 (0+1+1) cc).1=if zeM l id x≠0 then ([],zeM l id x) else ([zby id x],0):=by
  unfold zk3;change (if (zcn l fl cd cc id x).1≠0 then (([],(zcn l fl cd cc id x).1),(zcn l fl cd cc id x).2) else _).1=_
  rw[e3];split <;> rfl
 by_cases hg:Ds.gen (Ds.bl x.1.name)=true∧x.1.kind=0
 · rw[if_pos hg];by_cases h:(zbd l id 1 (zeV x.1.name)).2≠0
   · rw[if_pos h,if_pos ⟨hg,h⟩]
   · rw[if_neg h,if_neg (fun k=>h k.2)];exact e4
 · rw[if_neg hg,if_neg (fun h=>h rfl),if_neg (fun k=>hg k.1)];exact e4
attribute [local go_sem ↓] zaV zaW zaz za1 zi8
attribute [local go_sem] zav zap zal zaI zaJ zae zaq zai zaw zao zas zan zaa zaj zaf zaA zax zak zag zar zaG zaC zaE
end
end Go.Proofs.YtefcmdmfgdcpmaaGreatDoor
