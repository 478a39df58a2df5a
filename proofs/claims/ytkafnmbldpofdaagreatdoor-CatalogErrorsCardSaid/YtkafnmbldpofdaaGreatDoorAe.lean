/- Contracts of package catalog: records (the maker of the iterator), isGeneration. -/
import Derived.Test.YtkafnmbldpofdaaGreatDoorNx
import Derived.Test.YtkafnmbldpofdaaGreatDoorNo
import Derived.Test.YtkafnmbldpofdaaGreatDoorRsB
namespace Go.Proofs.YtkafnmbldpofdaaGreatDoor
open Go.RowKit
set_option maxRecDepth 8000
set_option maxHeartbeats 8000000
section
def zep(e:Int):Int:=if e=0 then 5 else if e=6 then 0 else e
theorem zc9(e:Int)(w:World):Calls Tryz.prog 51 #[.int .i64 e] w fun r w'=>r=.returned (.int .i64 (zep e))∧w'=w:=by
 unfold zep
 by_cases h0:e=0
 · subst h0
   go_enter Tryz.func51,Tryz.ntmps51
   go_wp2_with fail
   go_ret
   exact⟨rfl,rfl⟩
 have t0:(e==0)=false:=beq_eq_false_iff_ne.2 h0
 rw[if_neg h0]
 by_cases h6:e=6
 · subst h6
   go_enter Tryz.func51,Tryz.ntmps51
   go_wp2_with fail
   go_ret
   exact⟨rfl,rfl⟩
 have t6:(e==6)=false:=beq_eq_false_iff_ne.2 h6
 rw[if_neg h6]
 go_enter Tryz.func51,Tryz.ntmps51
 go_wp2_with fail
 go_ret
 exact⟨rfl,rfl⟩
def zbw(l:List Rw)(fl cd ca id:Int)(x:Fu):Int × Int :=
 if x.1.kind≠2 then (0,ca) else match zbL l fl cd ca id x.1.target with
  | ((y,c),cb)=>if c≠0 then (c,cb) else if Ds.gen (Ds.bl y.1.name)=true∨y.1.kind=2 then (7,cb) else (0,cb)
attribute [local go_sem ↓] zaX za0 zaD zbg
attribute [local go_sem] zaA zas zan zaM zaO zah zat zai zau zaf zak zaq zab zap zaj zaE zaC zao zam zax zaL zay zaz
theorem ziy(p:Nat)(sv:Value)(l:List Rw)(fl cd ca id:Int)(x:Fu)(al gr:Value)(w0 w:World)(hm:MaxL w0)(hT:Tab w0)(hS:SHs w0 w p sv l fl cd ca)(hc0:0<=ca)(hc1:ca<=90000)(hcd:cd≠0∧cd≠6∨fl<=0)(hI:IS w al x.2.1)(hGr:GS w gr x.2.2) :
  Calls Tryz.prog 55 #[.iface 37 (.pointer (some ⟨p,0,none⟩)),.int .i64 id,.agg (x.1.vals al gr)] w fun r w'=>r=.returned (.int .i64 (zbw l fl cd ca id x).1)∧SHs w0 w' p sv l fl cd (zbw l fl cd ca id x).2∧w.grownBy w' (some p):=by
 have a1:=zav x.1 al gr (zaT hI) (zaU hGr)
 have HS:=lh hS
 have hpl:=hS.pl
 have R0:=zai w (x.1.vals al gr) 32 (0,0)
 have N0:=zaa R0 0 _ (zay _ _ _)
 clear hI hGr
 generalize hg:zbw l fl cd ca id x=g
 unfold zbw at hg
 by_cases hk:x.1.kind=2
 rotate_left
 · rw[if_pos hk] at hg
   subst hg
   have t0:(x.1.kind != 2)=true:=bne_iff_ne.2 hk
   have t1:(x.1.kind==2)=false:=beq_eq_false_iff_ne.2 hk
   clear hk
   go_enter Tryz.func55,Tryz.ntmps55
   go_wp2_with fail
   go_ret
   exact⟨rfl,HS.out.below (zag _ _),zaw _ (zag _ _)⟩
 rw[if_neg (fun h=>h hk)] at hg
 have N9:=zaa R0 29 _ (za9 _ _ _)
 have B1:=zag w (.cells (x.1.vals al gr) 32)
 have hfi:=fun W (h:SHs w0 W p sv l fl cd ca)=>zeQ p sv l fl cd ca id x.1.target w0 W hm hT h hc0 (by omega) hcd
 have hsh:=ze6 l fl cd ca id x.1.target
 generalize zbL l fl cd ca id x.1.target=gg at hfi hsh hg
 obtain⟨⟨y,code⟩,cb⟩:=gg
 dsimp only at hsh hg
 have HF:=lh hfi
 have HB1:=lh B1
 clear hfi B1
 by_cases h0:code=0
 rotate_left
 · rw[if_pos h0] at hg
   subst hg
   have t1:(code != 0)=true:=by rw[bne_iff_ne];exact h0
   clear h0
   go_enter Tryz.func55,Tryz.ntmps55
   go_wp2_with (go_at_call 16;(refine (HF.out _ (HS.out.below HB1.out)).mono ?_);rintro _ w3 ⟨⟨al2,gr2,rfl,hI,hGs,hf1,hf2⟩,hs3,hg3⟩;have hone:=zav y.1 al2 gr2 (zaT hI) (zaU hGs);have S3:=lh hs3;have G3:=lh hg3;clear hI hGs hf1 hf2 hs3 hg3)
   go_ret
   exact⟨rfl,S3.out.below (zag _ _),zaG (zaI (zaw _ HB1.out) G3.out) ((zag _ _).mono (by have:=(zaI (zaw _ HB1.out) G3.out).size;omega))⟩
 rw[if_neg (fun h=>h h0)] at hg
 subst h0
 have HP:=lh (fun W (b:Below w0.heap.size w0 W)=>zd0 y.1.name W (Nat.le_trans hsh (by decide)) (hm.below b))
 by_cases hgen:Ds.gen (Ds.bl y.1.name)=true
 · rw[if_pos (.inl hgen)] at hg
   subst hg
   rw[hgen] at HP
   clear hgen
   go_enter Tryz.func55,Tryz.ntmps55
   go_wp2_with (first
    | (go_at_call 16;(refine (HF.out _ (HS.out.below HB1.out)).mono ?_);rintro _ w3 ⟨⟨al2,gr2,rfl,hI,hGs,hf1,hf2⟩,hs3,hg3⟩;have hone:=zav y.1 al2 gr2 (zaT hI) (zaU hGs);have S3:=lh hs3;have G3:=lh hg3;have R3:=zai w3 (y.1.vals al2 gr2) 32 (0,0);have M0:=zaa R3 0 _ (zay _ _ _);have M1:=zaa R3 1 _ (zaz _ _ _);clear hI hGs hf1 hf2 hs3 hg3)
    | (go_at_call 53;(refine (HP.out _ (S3.out.below (zag _ _)).b).mono ?_);rintro _ w4 ⟨rfl,hb⟩;have B4:=lh (bt (zag _ _) hb);clear hb))
   go_ret
   exact⟨rfl,S3.out.below B4.out,zaG (zaI (zaw _ HB1.out) G3.out) (B4.out.mono (by have:=(zaI (zaw _ HB1.out) G3.out).size;omega))⟩
 have hgf:Ds.gen (Ds.bl y.1.name)=false:=Bool.eq_false_iff.2 hgen
 rw[hgf] at HP
 by_cases h2:y.1.kind=2
 · rw[if_pos (.inr h2)] at hg
   subst hg
   have t2:(y.1.kind==2)=true:=beq_iff_eq.2 h2
   clear hgf hgen h2
   go_enter Tryz.func55,Tryz.ntmps55
   go_wp2_with (first
    | (go_at_call 16;(refine (HF.out _ (HS.out.below HB1.out)).mono ?_);rintro _ w3 ⟨⟨al2,gr2,rfl,hI,hGs,hf1,hf2⟩,hs3,hg3⟩;have hone:=zav y.1 al2 gr2 (zaT hI) (zaU hGs);have S3:=lh hs3;have G3:=lh hg3;have R3:=zai w3 (y.1.vals al2 gr2) 32 (0,0);have M0:=zaa R3 0 _ (zay _ _ _);have M1:=zaa R3 1 _ (zaz _ _ _);clear hI hGs hf1 hf2 hs3 hg3)
    | (go_at_call 53;(refine (HP.out _ (S3.out.below (zag _ _)).b).mono ?_);rintro _ w4 ⟨rfl,hb⟩;have B4:=lh (bt (zag _ _) hb);have R4:=zae hb R3 (by rw[zab];decide);have M4:=zaa R4 0 _ (zay _ _ _);clear hb))
   go_ret
   exact⟨rfl,S3.out.below B4.out,zaG (zaI (zaw _ HB1.out) G3.out) (B4.out.mono (by have:=(zaI (zaw _ HB1.out) G3.out).size;omega))⟩
 · rw[if_neg (by rintro (h|h);exact hgen h;exact h2 h)] at hg
   subst hg
   have t2:(y.1.kind==2)=false:=beq_eq_false_iff_ne.2 h2
   clear hgf hgen h2
   go_enter Tryz.func55,Tryz.ntmps55
   go_wp2_with (first
    | (go_at_call 16;(refine (HF.out _ (HS.out.below HB1.out)).mono ?_);rintro _ w3 ⟨⟨al2,gr2,rfl,hI,hGs,hf1,hf2⟩,hs3,hg3⟩;have hone:=zav y.1 al2 gr2 (zaT hI) (zaU hGs);have S3:=lh hs3;have G3:=lh hg3;have R3:=zai w3 (y.1.vals al2 gr2) 32 (0,0);have M0:=zaa R3 0 _ (zay _ _ _);have M1:=zaa R3 1 _ (zaz _ _ _);clear hI hGs hf1 hf2 hs3 hg3)
    | (go_at_call 53;(refine (HP.out _ (S3.out.below (zag _ _)).b).mono ?_);rintro _ w4 ⟨rfl,hb⟩;have B4:=lh (bt (zag _ _) hb);have R4:=zae hb R3 (by rw[zab];decide);have M4:=zaa R4 0 _ (zay _ _ _);clear hb))
   go_ret
   exact⟨rfl,S3.out.below B4.out,zaG (zaI (zaw _ HB1.out) G3.out) (B4.out.mono (by have:=(zaI (zaw _ HB1.out) G3.out).size;omega))⟩
end
section
theorem zka(ev:Operand->Value)(w:World)(dst x y t' pos af gd)(h1:zbK (ev x)=true)(h2:Held w (za5 (ev x)) 5)(h3:zbJ (ev y)=true)(h4:(zaJ (ev y)).size=5)(h5:zaV (zaJ (ev y)).toList=true) :
  (execOp ev ⟨dst,.store 74 x y,t',pos,af,gd⟩).run Tryz.prog w=.ok .skip (w.setRow (za5 (ev x)) (zaJ (ev y))) :=
 zbP ev w _ 4 (by kernel_rfl) dst x y t' pos af gd h1 h2 h3 h4 h5
def chZ:Array Value:=#[.int .i64 0,.int .i64 0,.string ⟨#[]⟩,.string ⟨#[]⟩,.string ⟨#[]⟩]
def zcP(id:Int)(x:Fu):Ch:=(1,id,zbl x.1.kind x.1.name,⟨#[]⟩,⟨#[]⟩)
def zbT(x:Fu):ByteArray:=⟨(if okX x=true then zdV x else []).toArray⟩
def zbv(id:Int)(x:Fu):Ch:=(0,id,zbl x.1.kind x.1.name,zbT x,⟨#[]⟩)
attribute [local go_sem ↓] zaX za0 zaD zbg zka
attribute [local go_sem] zaA zas zan zaM zaO zah zat zai zau zaf zak zaq zab zap zaj zaE zaC zao zam zax zaL zay zaz
theorem ziq(id:Int)(x:Fu)(al gr:Value)(w:World)(_a1:zaV (x.1.vals al gr).toList=true) :
  Calls Tryz.prog 65 #[.int .i64 id,.agg (x.1.vals al gr)] w fun r w'=>r=.returned (.agg (ch5 (zcP id x)))∧Below w.heap.size w w':=by
 have HK:=lh (fun W=>zgY x.1.kind x.1.name W)
 have R0:=zau w (x.1.vals al gr) 32 (0,0) (.cells chZ 74)
 have N0:=zaa R0 0 _ (zay _ _ _)
 have N1:=zaa R0 1 _ (zaz _ _ _)
 have HH:=Held.new (w.alloc (.cells (x.1.vals al gr) 32)) chZ 74 5 rfl (by decide)
 rw[World.size_alloc] at HH
 unfold chZ at *
 unfold zcP
 go_enter Tryz.func65,Tryz.ntmps65
 go_wp2_with (go_at_call 58;(with_reducible refine (HK.out _).mono ?_);rintro _ w4 ⟨rfl,hb4⟩;have H4:=HH.below hb4;have B4:=lh (bt (below2' _ _ _) hb4);clear hb4)
 refine bodyPost_ret (zb7 (n:=4) rfl Tryz.underlying74 rfl (by kernel_rfl) _ _ (w.heap.size+1) rfl (by rw[zad H4];rfl)) rfl ?_
 rw[zad H4]
 exact⟨rfl,below_setRow B4.out (by omega) _⟩
theorem zsJ(x:Fu)(al gr:Value)(w:World)(hm:MaxL w)(hT:Tab w)(hsz:x.1.name.size<=1000)(h1:IS w al x.2.1)(h2:GS w gr x.2.2) :
  Calls Tryz.prog 100 #[.agg (x.1.vals al gr)] w fun r w'=>r=.returned (.tuple #[.string (zbT x),.int .i64 (if okX x=true then 0 else 1)])∧Below w.heap.size w w':=by
 refine (zhD x.1 al gr x.2.1 x.2.2 w hm hT hsz h1 h2).mono ?_
 rintro _ w' ⟨t,rfl,ht,hb⟩
 obtain rfl:t=zbT x:=Ds.bl_inj (by rw[ht];unfold zbT;rw[Ds.bl_mk])
 exact⟨rfl,hb⟩
theorem ziY(id:Int)(x:Fu)(al gr:Value)(w:World)(hm:MaxL w)(hT:Tab w)(hsz:x.1.name.size<=1000)(hI:IS w al x.2.1)(hG:GS w gr x.2.2) :
  Calls Tryz.prog 56 #[.int .i64 id,.agg (x.1.vals al gr)] w fun r w'=>r=.returned (.agg (ch5 (zbv id x)))∧Below w.heap.size w w':=by
 have a1:=zav x.1 al gr (zaT hI) (zaU hG)
 have HK:=lh (fun W=>zgY x.1.kind x.1.name W)
 have HE:=lh (fun W (b:Below w.heap.size w W)=>zsJ x al gr W (hm.below b) (hT.below b) hsz (hI.below b) (hG.below b))
 have R0:=zau w (x.1.vals al gr) 32 (0,0) (.cells chZ 74)
 have HH:=Held.new (w.alloc (.cells (x.1.vals al gr) 32)) chZ 74 5 rfl (by decide)
 rw[World.size_alloc] at HH
 clear hI hG
 unfold chZ at *
 unfold zbv
 generalize zbT x=rz at HE ⊢
 generalize (if okX x=true then (0:Int) else 1)=rc at HE
 go_enter Tryz.func56,Tryz.ntmps56
 go_wp2_with (first
  | (go_at_call 100;(refine (HE.out _ (below2' _ _ _)).mono ?_);rintro _ w3 ⟨rfl,hb⟩;have H3:=HH.below hb;have R3:=zae hb R0 (by rw[zab];decide);have N0:=zaa R3 0 _ (zay _ _ _);have N1:=zaa R3 1 _ (zaz _ _ _);have B3:=lh (bt (below2' _ _ _) hb);clear hb)
  | (go_at_call 58;(with_reducible refine (HK.out _).mono ?_);rintro _ w4 ⟨rfl,hb4⟩;have H4:=H3.below hb4;have B4:=lh (bt B3.out hb4);clear hb4))
 refine bodyPost_ret (zb7 (n:=4) rfl Tryz.underlying74 rfl (by kernel_rfl) _ _ (w.heap.size+1) rfl (by rw[zad H4];rfl)) rfl ?_
 rw[zad H4]
 exact⟨rfl,below_setRow B4.out (by omega) _⟩
end
section
def add1F(l:List Rw)(fl cd ca id:Int)(x:Fu):Int × Int :=
 if 2<x.1.kind then (zep (zbs l fl cd ca id x.1.kind x.1.name).1.2,(zbs l fl cd ca id x.1.kind x.1.name).2) else (zep (zbL l fl cd ca id x.1.name).1.2,(zbL l fl cd ca id x.1.name).2)
def add2F(l:List Rw)(fl cd ca id:Int)(x:Fu):Int × Int :=
 if Ds.gen (Ds.bl x.1.name)=true∧x.1.kind=0 then ((zbs l fl cd ca id 1 (zgQ x.1.name)).1.2,(zbs l fl cd ca id 1 (zgQ x.1.name)).2) else (0,ca)
attribute [local go_sem ↓] zaX za0 zaD zbg zka
attribute [local go_sem] zaA zas zan zaM zaO zah zat zai zau zaf zak zaq zab zap zaj zaE zaC zao zam zax zaL zay zaz
theorem zpq(p be br bi:Nat)(sv:Value)(l:List Rw)(fl cd ca id:Int)(x:Fu)(al gr:Value)(w0 w:World)(hm:MaxL w0)(hT:Tab w0)(hS:SHs w0 w p sv l fl cd ca)(hc0:0<=ca)(hc1:ca<=90000)(hcd:cd≠0∧cd≠6∨fl<=0)(hR:row w be=x.1.vals al gr)(cr:w.cell? ⟨br,0,none⟩=some (.iface 37 (.pointer (some ⟨p,0,none⟩))))(ci:w.cell? ⟨bi,0,none⟩=some (.int .i64 id)) :
  Calls Tryz.prog 50 #[.pointer (some ⟨be,0,none⟩),.pointer (some ⟨br,0,none⟩),.pointer (some ⟨bi,0,none⟩)] w fun r w'=>r=.returned (.int .i64 (add1F l fl cd ca id x).1)∧SHs w0 w' p sv l fl cd (add1F l fl cd ca id x).2∧w.grownBy w' (some p):=by
 have HS:=lh hS
 have hpl:=hS.pl
 have hcd2:cd≠0∨fl<=0:=hcd.imp (fun h=>h.1) (fun h=>h)
 have N0:=zaa hR 0 _ (zay _ _ _)
 have N1:=zaa hR 1 _ (zaz _ _ _)
 unfold add1F
 by_cases hk:2<x.1.kind
 · have q2:decide (2<x.1.kind)=true:=decide_eq_true hk
   rw[if_pos hk]
   have hget:=fun W (h:SHs w0 W p sv l fl cd ca)=>zdT p sv l fl cd ca id x.1.kind x.1.name w0 W hm hT h hc0 (by omega) hcd2
   generalize zbs l fl cd ca id x.1.kind x.1.name=gg at hget ⊢
   obtain⟨⟨y,code⟩,cb⟩:=gg
   have HGE:=lh hget
   clear hget
   go_enter Tryz.func50,Tryz.ntmps50
   go_wp2_with (first
    | (go_at_call 14;(refine (HGE.out _ HS.out).mono ?_);rintro _ w3 ⟨⟨al2,gr2,rfl,hI,hGs,hf1,hf2⟩,hs3,hg3⟩;have hone:=zav y.1 al2 gr2 (zaT hI) (zaU hGs);have S3:=lh hs3;have G3:=lh hg3;clear hI hGs hf1 hf2 hs3 hg3)
    | (go_at_call 51;(refine (zc9 _ _).mono ?_);rintro _ _ ⟨rfl,rfl⟩))
   go_ret
   exact⟨rfl,S3.out.below (zag _ _),zaG G3.out ((zag _ _).mono (by have:=G3.out.size;omega))⟩
 · have q2:decide (2<x.1.kind)=false:=decide_eq_false hk
   rw[if_neg hk]
   have hfi:=fun W (h:SHs w0 W p sv l fl cd ca)=>zeQ p sv l fl cd ca id x.1.name w0 W hm hT h hc0 (by omega) hcd
   generalize zbL l fl cd ca id x.1.name=gg at hfi ⊢
   obtain⟨⟨y,code⟩,cb⟩:=gg
   have HF:=lh hfi
   clear hfi
   go_enter Tryz.func50,Tryz.ntmps50
   go_wp2_with (first
    | (go_at_call 16;(refine (HF.out _ HS.out).mono ?_);rintro _ w3 ⟨⟨al2,gr2,rfl,hI,hGs,hf1,hf2⟩,hs3,hg3⟩;have hone:=zav y.1 al2 gr2 (zaT hI) (zaU hGs);have S3:=lh hs3;have G3:=lh hg3;clear hI hGs hf1 hf2 hs3 hg3)
    | (go_at_call 51;(refine (zc9 _ _).mono ?_);rintro _ _ ⟨rfl,rfl⟩))
   go_ret
   exact⟨rfl,S3.out.below (zag _ _),zaG G3.out ((zag _ _).mono (by have:=G3.out.size;omega))⟩
theorem zp0(p be br bi:Nat)(sv:Value)(l:List Rw)(fl cd ca id:Int)(x:Fu)(al gr:Value)(w0 w:World)(hm:MaxL w0)(hT:Tab w0)(hS:SHs w0 w p sv l fl cd ca)(hc0:0<=ca)(hc1:ca<=90000)(hcd:cd≠0∨fl<=0)(hsz:x.1.name.size<=1000)(hR:row w be=x.1.vals al gr)(cr:w.cell? ⟨br,0,none⟩=some (.iface 37 (.pointer (some ⟨p,0,none⟩))))(ci:w.cell? ⟨bi,0,none⟩=some (.int .i64 id))(l2:br<w.heap.size)(l3:bi<w.heap.size) :
  Calls Tryz.prog 52 #[.pointer (some ⟨be,0,none⟩),.pointer (some ⟨br,0,none⟩),.pointer (some ⟨bi,0,none⟩)] w fun r w'=>r=.returned (.int .i64 (add2F l fl cd ca id x).1)∧SHs w0 w' p sv l fl cd (add2F l fl cd ca id x).2∧w.grownBy w' (some p):=by
 have HS:=lh hS
 have hpl:=hS.pl
 have N1:=zaa hR 1 _ (zaz _ _ _)
 have HP:=lh (fun W (b:Below w0.heap.size w0 W)=>zd0 x.1.name W hsz (hm.below b))
 unfold add2F zgQ
 cases hgen:Ds.gen (Ds.bl x.1.name)
 · rw[if_neg (by simp)]
   rw[hgen] at HP
   go_enter Tryz.func52,Tryz.ntmps52
   go_wp2_with (go_at_call 53;(refine (HP.out _ HS.out.b).mono ?_);rintro _ w4 ⟨rfl,hb⟩;have B4:=lh hb;clear hb)
   go_ret
   exact⟨rfl,HS.out.below B4.out,zaw _ B4.out⟩
 rw[hgen] at HP
 generalize (⟨(Ds.splG (Ds.bl x.1.name)).toArray⟩:ByteArray)=sg at HP ⊢
 by_cases hk:x.1.kind=0
 rotate_left
 · rw[if_neg (fun h=>hk h.2)]
   have t1:(x.1.kind != 0)=true:=bne_iff_ne.2 hk
   go_enter Tryz.func52,Tryz.ntmps52
   go_wp2_with (go_at_call 53;(refine (HP.out _ HS.out.b).mono ?_);rintro _ w4 ⟨rfl,hb⟩;have B4:=lh hb;have R4:=zae hb hR (by rw[zab];decide);have M4:=zaa R4 0 _ (zay _ _ _);clear hb)
   go_ret
   exact⟨rfl,HS.out.below B4.out,zaw _ B4.out⟩
 rw[if_pos ⟨rfl,hk⟩]
 have t1:(x.1.kind != 0)=false:=by rw[hk];rfl
 have hget:=fun W (h:SHs w0 W p sv l fl cd ca)=>zdT p sv l fl cd ca id 1 sg w0 W hm hT h hc0 (by omega) hcd
 generalize zbs l fl cd ca id 1 sg=gg at hget ⊢
 obtain⟨⟨y,code⟩,cb⟩:=gg
 have HGE:=lh hget
 clear hget hk
 go_enter Tryz.func52,Tryz.ntmps52
 go_wp2_with (first
  | (go_at_call 53;(refine (HP.out _ HS.out.b).mono ?_);rintro _ w4 ⟨rfl,hb⟩;have B4:=lh hb;have R4:=zae hb hR (by rw[zab];decide);have M4:=zaa R4 0 _ (zay _ _ _);have cr4:=(hb.cell (p:=⟨br,0,none⟩) l2).trans cr;have ci4:=(hb.cell (p:=⟨bi,0,none⟩) l3).trans ci;clear hb)
  | (go_at_call 14;(refine (HGE.out _ (HS.out.below B4.out)).mono ?_);rintro _ w3 ⟨⟨al2,gr2,rfl,hI,hGs,hf1,hf2⟩,hs3,hg3⟩;have hone:=zav y.1 al2 gr2 (zaT hI) (zaU hGs);have S3:=lh hs3;have G3:=lh hg3;clear hI hGs hf1 hf2 hs3 hg3))
 go_ret
 exact⟨rfl,S3.out.below (zag _ _),zaG (zaI (zaw _ B4.out) G3.out) ((zag _ _).mono (by have:=(zaI (zaw _ B4.out) G3.out).size;omega))⟩
theorem zqO(p be br bi:Nat)(sv:Value)(l:List Rw)(fl cd ca id:Int)(x:Fu)(al gr:Value)(w0 w:World)(hm:MaxL w0)(hT:Tab w0)(hS:SHs w0 w p sv l fl cd ca)(hc0:0<=ca)(hc1:ca<=90000)(hcd:cd≠0∧cd≠6∨fl<=0)(hI:IS w al x.2.1)(hGr:GS w gr x.2.2)(hR:row w be=x.1.vals al gr)(cr:w.cell? ⟨br,0,none⟩=some (.iface 37 (.pointer (some ⟨p,0,none⟩))))(ci:w.cell? ⟨bi,0,none⟩=some (.int .i64 id)) :
  Calls Tryz.prog 54 #[.pointer (some ⟨br,0,none⟩),.pointer (some ⟨bi,0,none⟩),.pointer (some ⟨be,0,none⟩)] w fun r w'=>r=.returned (.int .i64 (zbw l fl cd ca id x).1)∧SHs w0 w' p sv l fl cd (zbw l fl cd ca id x).2∧w.grownBy w' (some p):=by
 have HL:=lh (ziy p sv l fl cd ca id x al gr w0 w hm hT hS hc0 hc1 hcd hI hGr)
 clear hS hI hGr
 generalize zbw l fl cd ca id x=g at HL ⊢
 go_enter Tryz.func54,Tryz.ntmps54
 go_wp2_with (go_at_call 55;(with_reducible refine HL.out.mono ?_);rintro _ w3 ⟨rfl,hs3,hg3⟩;have S3:=lh hs3;have G3:=lh hg3;clear hs3 hg3)
 go_ret
 exact⟨rfl,S3.out,G3.out⟩
end
section
theorem zbi(w:World):ChS w (.slice none 0 0) []:=⟨none,0,rfl,by simp,fun h=>by simp at h⟩
theorem zhZ(w:World)(c:Ch):ChS (w.alloc (.cells (ch5 c) 74)) (.slice (some ⟨w.heap.size,0,none⟩) 1 1) [c]:=by
 refine⟨_,_,rfl,by simp,fun _=>⟨w.heap.size,0,rfl,by simp,fun k hk i u hu=>?_⟩⟩
 obtain rfl:k=0:=by simpa using hk
 have h:=zaa (zai w (ch5 c) 74 (0,0)) i u hu
 simpa using h
theorem zdZ{w w':World}{p:Nat}{al:Value}{l:List Int}(h:IS w al l)(hg:w.grownBy w' (some p))(ho:0<l.length->∀ q,al.ownBlock=some q->q≠p):IS w' al l:=by
 obtain⟨a,c,rfl,hz,hc⟩:=h
 refine⟨a,c,rfl,hz,fun h0=>?_⟩
 obtain⟨b,o,rfl,hb,hcell⟩:=hc h0
 have hne:=ho h0 b rfl
 have q:=fun i=>World.cell?_of_block (w:=w) (w':=w') (a:=⟨b,i,none⟩) (hg.block b hb (fun e=>hne (Option.some.inj e)))
 exact⟨b,o,rfl,Nat.lt_of_lt_of_le hb hg.size,fun k hk=>(q _).trans (hcell k hk)⟩
theorem zd4{w w':World}{p:Nat}{al:Value}{l:List Gr}(h:GS w al l)(hg:w.grownBy w' (some p))(ho:0<l.length->∀ q,al.ownBlock=some q->q≠p):GS w' al l:=by
 obtain⟨a,c,rfl,hz,hc⟩:=h
 refine⟨a,c,rfl,hz,fun h0=>?_⟩
 obtain⟨b,o,rfl,hb,hcell⟩:=hc h0
 have hne:=ho h0 b rfl
 have q:=fun i=>World.cell?_of_block (w:=w) (w':=w') (a:=⟨b,i,none⟩) (hg.block b hb (fun e=>hne (Option.some.inj e)))
 exact⟨b,o,rfl,Nat.lt_of_lt_of_le hb hg.size,fun k hk=>⟨(q _).trans (hcell k hk).1,(q _).trans (hcell k hk).2.1,(q _).trans (hcell k hk).2.2⟩⟩
def zpY(l:List Rw)(fl cd ca id:Int)(x:Fu):(List Ch × Int) × Int :=
 if okX x=true then
  if (zbs l fl cd ca id x.1.kind x.1.name).1.2≠0 then (([],(zbs l fl cd ca id x.1.kind x.1.name).1.2),(zbs l fl cd ca id x.1.kind x.1.name).2)
  else if (zbw l fl cd (zbs l fl cd ca id x.1.kind x.1.name).2 id x).1≠0 then (([],(zbw l fl cd (zbs l fl cd ca id x.1.kind x.1.name).2 id x).1),(zbw l fl cd (zbs l fl cd ca id x.1.kind x.1.name).2 id x).2)
  else (([zbv id x],0),(zbw l fl cd (zbs l fl cd ca id x.1.kind x.1.name).2 id x).2)
 else (([],1),ca)
def ChR(w0 w w':World)(p:Nat)(sv:Value)(l:List Rw)(fl cd:Int)(g:(List Ch × Int) × Int)(r:Ending):Prop :=
 ∃ ov,r=.returned (.tuple #[ov,.int .i64 g.1.2])∧ChS w' ov g.1.1∧SHs w0 w' p sv l fl cd g.2∧w.grownBy w' (some p)
attribute [local go_sem ↓] zaX za0 zaD zbg zka
attribute [local go_sem] zaA zas zan zaM zaO zah zat zai zau zaf zak zaq zab zap zaj zaE zaC zao zam zax zaL zay zaz
theorem zjo(p:Nat)(sv:Value)(l:List Rw)(fl cd ca id:Int)(x:Fu)(al gr:Value)(w0 w:World)(hm:MaxL w0)(hT:Tab w0)(hS:SHs w0 w p sv l fl cd ca)(hc0:0<=ca)(hc1:ca<=80000)(hcd:cd≠0∧cd≠6∨fl<=0)(hsz:x.1.name.size<=1000)(hI:IS w al x.2.1)(hGr:GS w gr x.2.2)(o1:0<x.2.1.length->∀ q,al.ownBlock=some q->q≠p)(o2:0<x.2.2.length->∀ q,gr.ownBlock=some q->q≠p) :
  Calls Tryz.prog 30 #[.iface 37 (.pointer (some ⟨p,0,none⟩)),.int .i64 id,.agg (x.1.vals al gr)] w fun r w'=>ChR w0 w w' p sv l fl cd (zpY l fl cd ca id x) r:=by
 have a1:=zav x.1 al gr (zaT hI) (zaU hGr)
 have HS:=lh hS
 have hpl:=hS.pl
 have hcd2:cd≠0∨fl<=0:=hcd.imp (fun h=>h.1) (fun h=>h)
 have R0:=zai w (x.1.vals al gr) 32 (0,0)
 have HB1:=lh (zag w (.cells (x.1.vals al gr) 32))
 have HV:=lh (fun W (b0:Below w0.heap.size w0 W) (b:Below w.heap.size w W)=>zk6 x.1 al gr x.2.1 x.2.2 W (hm.below b0) (hT.below b0) hsz (hI.below b) (hGr.below b))
 have HI:=lh hI
 have HGR:=lh hGr
 clear hI hGr
 unfold zpY
 cases hok:okX x
 · rw[if_neg (by simp)]
   have HV2:=lh (fun W b0 b=>(show okX (x.1,x.2.1,x.2.2)=false from hok) ▸ HV.out W b0 b)
   clear HV
   go_enter Tryz.func30,Tryz.ntmps30
   go_wp2_with (go_at_call 49;(refine (HV2.out _ (HS.out.below HB1.out).b HB1.out).mono ?_);rintro _ w2 ⟨rfl,hb⟩;have B2:=lh (bt HB1.out hb);clear hb)
   go_ret2
   exact⟨_,rfl,zbi _,HS.out.below B2.out,zaw _ B2.out⟩
 rw[if_pos rfl]
 have HV2:=lh (fun W b0 b=>(show okX (x.1,x.2.1,x.2.2)=true from hok) ▸ HV.out W b0 b)
 clear HV
 have hget:=fun W (h:SHs w0 W p sv l fl cd ca)=>zdT p sv l fl cd ca id x.1.kind x.1.name w0 W hm hT h hc0 (by omega) hcd2
 have hca:=zbU l fl cd ca id x.1.kind x.1.name
 generalize zbs l fl cd ca id x.1.kind x.1.name=gg at hget hca ⊢
 obtain⟨⟨y,code⟩,cb⟩:=gg
 dsimp only at hca ⊢
 have HGE:=lh hget
 clear hget
 by_cases h0:code=0
 rotate_left
 · rw[if_pos h0]
   have t1:(code != 0)=true:=by rw[bne_iff_ne];exact h0
   clear h0
   go_enter Tryz.func30,Tryz.ntmps30
   go_wp2_with (first
    | (go_at_call 49;(refine (HV2.out _ (HS.out.below HB1.out).b HB1.out).mono ?_);rintro _ w2 ⟨rfl,hb⟩;have B2:=lh (bt HB1.out hb);have R2:=zae hb R0 (by rw[zab];decide);have N0:=zaa R2 0 _ (zay _ _ _);have N1:=zaa R2 1 _ (zaz _ _ _);clear hb)
    | (go_at_call 14;(refine (HGE.out _ (HS.out.below B2.out)).mono ?_);rintro _ w3 ⟨⟨al2,gr2,rfl,hI,hGs,hf1,hf2⟩,hs3,hg3⟩;have hone:=zav y.1 al2 gr2 (zaT hI) (zaU hGs);have S3:=lh hs3;have G3:=lh (zaI (zaw _ B2.out) hg3);clear hI hGs hf1 hf2 hs3 hg3))
   go_ret2
   exact⟨_,rfl,zbi _,S3.out.below (zag _ _),zaG G3.out ((zag _ _).mono (by have:=G3.out.size;omega))⟩
 rw[if_neg (fun h=>h h0)]
 subst h0
 have n0:w.heap.size≠p:=by omega
 have hld:=fun W (h:SHs w0 W p sv l fl cd cb) (i1:IS W al x.2.1) (i2:GS W gr x.2.2)=>ziy p sv l fl cd cb id x al gr w0 W hm hT h (by omega) (by omega) hcd i1 i2
 generalize zbw l fl cd cb id x=gl at hld ⊢
 obtain⟨lc,cc⟩:=gl
 dsimp only
 have HLD:=lh hld
 clear hld
 by_cases h1:lc=0
 rotate_left
 · rw[if_pos h1]
   have t1:(lc != 0)=true:=by rw[bne_iff_ne];exact h1
   clear h1
   go_enter Tryz.func30,Tryz.ntmps30
   go_wp2_with (first
    | (go_at_call 49;(refine (HV2.out _ (HS.out.below HB1.out).b HB1.out).mono ?_);rintro _ w2 ⟨rfl,hb⟩;have B2:=lh (bt HB1.out hb);have R2:=zae hb R0 (by rw[zab];decide);have N0:=zaa R2 0 _ (zay _ _ _);have N1:=zaa R2 1 _ (zaz _ _ _);clear hb)
    | (go_at_call 14;(refine (HGE.out _ (HS.out.below B2.out)).mono ?_);rintro _ w3 ⟨⟨al2,gr2,rfl,hI,hGs,hf1,hf2⟩,hs3,hg3⟩;have hone:=zav y.1 al2 gr2 (zaT hI) (zaU hGs);have S3:=lh hs3;have I3:=lh ((zdZ (HI.out.below B2.out) hg3 o1).below (zag w3 (.cells (y.1.vals al2 gr2) 32)));have J3:=lh ((zd4 (HGR.out.below B2.out) hg3 o2).below (zag w3 (.cells (y.1.vals al2 gr2) 32)));have R3:=zae (zag w3 (.cells (y.1.vals al2 gr2) 32)) (zaZ R2 (by rw[zab];decide) hg3 n0) (by rw[zab];decide);have G3:=lh (zaI (zaw _ B2.out) hg3);clear hI hGs hf1 hf2 hs3 hg3)
    | (go_at_call 55;(refine (HLD.out _ (S3.out.below (zag _ _)) I3.out J3.out).mono ?_);rintro _ w4 ⟨rfl,hs4,hg4⟩;have S4:=lh hs4;have G4:=lh (zaI (zaG G3.out ((zag _ _).mono (by have:=G3.out.size;omega))) hg4);clear hs4 hg4))
   go_ret2
   exact⟨_,rfl,zbi _,S4.out,G4.out⟩
 rw[if_neg (fun h=>h h1)]
 subst h1
 have hpu:∀ W (b:Below w0.heap.size w0 W) (i1:IS W al x.2.1) (i2:GS W gr x.2.2),Calls Tryz.prog 56 #[.int .i64 id,.agg (x.1.vals al gr)] W fun r w'=>r=.returned (.agg #[.int .i64 0,.int .i64 id,.string (zbl x.1.kind x.1.name),.string (zbT x),.string ⟨#[]⟩])∧Below W.heap.size W w':=fun W b i1 i2=>ziY id x al gr W (hm.below b) (hT.below b) hsz i1 i2
 have hco:=fun W=>zhZ W (zbv id x)
 unfold zbv ch5 at hco
 dsimp only at hco
 have HPU:=lh hpu
 have HCO:=lh hco
 clear hpu hco
 unfold zbv
 generalize zbl x.1.kind x.1.name=kz at HPU HCO ⊢
 generalize zbT x=rz at HPU HCO ⊢
 go_enter Tryz.func30,Tryz.ntmps30
 go_wp2_with (first
  | (go_at_call 49;(refine (HV2.out _ (HS.out.below HB1.out).b HB1.out).mono ?_);rintro _ w2 ⟨rfl,hb⟩;have B2:=lh (bt HB1.out hb);have R2:=zae hb R0 (by rw[zab];decide);have N0:=zaa R2 0 _ (zay _ _ _);have N1:=zaa R2 1 _ (zaz _ _ _);clear hb)
  | (go_at_call 14;(refine (HGE.out _ (HS.out.below B2.out)).mono ?_);rintro _ w3 ⟨⟨al2,gr2,rfl,hI,hGs,hf1,hf2⟩,hs3,hg3⟩;have hone:=zav y.1 al2 gr2 (zaT hI) (zaU hGs);have S3:=lh hs3;have I3:=lh ((zdZ (HI.out.below B2.out) hg3 o1).below (zag w3 (.cells (y.1.vals al2 gr2) 32)));have J3:=lh ((zd4 (HGR.out.below B2.out) hg3 o2).below (zag w3 (.cells (y.1.vals al2 gr2) 32)));have R3:=zae (zag w3 (.cells (y.1.vals al2 gr2) 32)) (zaZ R2 (by rw[zab];decide) hg3 n0) (by rw[zab];decide);have G3:=lh (zaI (zaw _ B2.out) hg3);clear hI hGs hf1 hf2 hs3 hg3)
  | (go_at_call 55;(refine (HLD.out _ (S3.out.below (zag _ _)) I3.out J3.out).mono ?_);rintro _ w4 ⟨rfl,hs4,hg4⟩;have S4:=lh hs4;have I4:=lh (zdZ I3.out hg4 o1);have J4:=lh (zd4 J3.out hg4 o2);have R4:=zaZ R3 (by rw[zab];decide) hg4 n0;have G4:=lh (zaI (zaG G3.out ((zag _ _).mono (by have:=G3.out.size;omega))) hg4);clear hs4 hg4)
  | (go_at_call 56;(refine (HPU.out _ S4.out.b I4.out J4.out).mono ?_);rintro _ w5 ⟨rfl,hb5⟩;have B5:=lh (bt hb5 (zag w5 (.cells #[.int .i64 0,.int .i64 id,.string kz,.string rz,.string ⟨#[]⟩] 74)));clear hb5))
 go_ret2
 exact⟨_,rfl,HCO.out _,S4.out.below B5.out,zaG G4.out (B5.out.mono (by have:=G4.out.size;omega))⟩
end
section
def ziw(l:List Rw)(fl cd id:Int)(x:Fu)(k:Nat)(c:Int):Int × Int:=if k=0 then add1F l fl cd c id x else if k=1 then add2F l fl cd c id x else zbw l fl cd c id x
def zhN(l:List Rw)(fl cd id:Int)(x:Fu):Nat->Nat->Int->(List Ch × Int) × Int
 | 0,_,c=>(([zbv id x],0),c)
 | n+1,k,c=>if (ziw l fl cd id x k c).1≠0 then (([],(ziw l fl cd id x k c).1),(ziw l fl cd id x k c).2) else zhN l fl cd id x n (k+1) (ziw l fl cd id x k c).2
def zne(l:List Rw)(fl cd ca id:Int)(x:Fu):(List Ch × Int) × Int:=if okX x=true then zhN l fl cd id x 3 0 ca else (([],1),ca)
theorem zkR(l:List Rw)(fl cd c id:Int)(x:Fu):c<=(zbw l fl cd c id x).2∧(zbw l fl cd c id x).2<=c+3:=by
 unfold zbw
 split
 · exact⟨Int.le_refl _,by dsimp only;omega⟩
 · have h:=zeh l fl cd c id x.1.target
   generalize zbL l fl cd c id x.1.target=g at h ⊢
   obtain⟨⟨y,e⟩,cb⟩:=g
   dsimp only at h ⊢
   split
   · exact h
   · split <;> exact h
theorem zgL(l:List Rw)(fl cd id:Int)(x:Fu)(k:Nat)(c:Int):c<=(ziw l fl cd id x k c).2∧(ziw l fl cd id x k c).2<=c+3:=by
 unfold ziw
 split
 · unfold add1F
   split
   · have h:=zbU l fl cd c id x.1.kind x.1.name
     dsimp only
     omega
   · have h:=zeh l fl cd c id x.1.name
     dsimp only
     omega
 · split
   · unfold add2F
     split
     · have h:=zbU l fl cd c id 1 (zgQ x.1.name)
       dsimp only
       omega
     · exact⟨Int.le_refl _,by dsimp only;omega⟩
   · exact zkR l fl cd c id x
structure AdI (w0 w wr:World) (p bs:Nat) (sv:Value) (l:List Rw) (fl cd c id:Int) (x:Fu) (al gr:Value):Prop where
 sh:SHs w0 wr p sv l fl cd c
 g:w.grownBy wr (some p)
 e:row wr (w.heap.size+1+1)=x.1.vals al gr
 r:wr.cell? ⟨w.heap.size,0,none⟩=some (.iface 37 (.pointer (some ⟨p,0,none⟩)))
 i:wr.cell? ⟨w.heap.size+1,0,none⟩=some (.int .i64 id)
 f0:wr.cell? ⟨bs,0,none⟩=some (.func (.func 50) #[] #[.pointer (some ⟨w.heap.size+1+1,0,none⟩),.pointer (some ⟨w.heap.size,0,none⟩),.pointer (some ⟨w.heap.size+1,0,none⟩)])
 f1:wr.cell? ⟨bs,1,none⟩=some (.func (.func 52) #[] #[.pointer (some ⟨w.heap.size+1+1,0,none⟩),.pointer (some ⟨w.heap.size,0,none⟩),.pointer (some ⟨w.heap.size+1,0,none⟩)])
 f2:wr.cell? ⟨bs,2,none⟩=some (.func (.func 54) #[] #[.pointer (some ⟨w.heap.size,0,none⟩),.pointer (some ⟨w.heap.size+1,0,none⟩),.pointer (some ⟨w.heap.size+1+1,0,none⟩)])
 lt:bs<wr.heap.size
 l2:w.heap.size+1+1<wr.heap.size
 pl:p<w.heap.size
 bl:w.heap.size<=bs
 I:IS wr al x.2.1
 G:GS wr gr x.2.2
 o1:0<x.2.1.length->∀ q,al.ownBlock=some q->q≠p
 o2:0<x.2.2.length->∀ q,gr.ownBlock=some q->q≠p
theorem AdI.step{w0 w wr w3:World}{p bs:Nat}{sv:Value}{l:List Rw}{fl cd c c' id:Int}{x:Fu}{al gr:Value}(h:AdI w0 w wr p bs sv l fl cd c id x al gr)(hs:SHs w0 w3 p sv l fl cd c')(hg:wr.grownBy w3 (some p)):AdI w0 w w3 p bs sv l fl cd c' id x al gr:=by
 have hpl:=h.pl
 have hbl:=h.bl
 have hlt:=h.lt
 have hl2:=h.l2
 have q:∀ b o,b<wr.heap.size->b≠p->w3.cell? ⟨b,o,none⟩=wr.cell? ⟨b,o,none⟩:=fun b o hb hn=>World.cell?_of_block (a:=⟨b,o,none⟩) (hg.block b hb (fun e:(some b:Option Nat)=some p=>hn (Option.some.inj e)))
 exact⟨hs,zaI h.g hg,zaZ h.e (by rw[zab];decide) hg (by omega),(q _ _ (by omega) (by omega)).trans h.r,(q _ _ (by omega) (by omega)).trans h.i,(q _ _ hlt (by omega)).trans h.f0,(q _ _ hlt (by omega)).trans h.f1,(q _ _ hlt (by omega)).trans h.f2,
  Nat.lt_of_lt_of_le hlt hg.size,Nat.lt_of_lt_of_le hl2 hg.size,hpl,hbl,zdZ h.I hg h.o1,zd4 h.G hg h.o2,h.o1,h.o2⟩
attribute [local go_sem ↓] zaX za0 zaD zbg zka
attribute [local go_sem] zaA zas zan zaM zaO zah zat zai zau zaf zak zaq zab zap zaj zaE zaC zao zam zax zaL zay zaz
theorem zl2(p:Nat)(sv:Value)(l:List Rw)(fl cd ca id:Int)(x:Fu)(al gr:Value)(w0 w:World)(hm:MaxL w0)(hT:Tab w0)(hS:SHs w0 w p sv l fl cd ca)(hc0:0<=ca)(hc1:ca<=80000)(hcd:cd≠0∧cd≠6∨fl<=0)(hsz:x.1.name.size<=1000)(hI:IS w al x.2.1)(hGr:GS w gr x.2.2)(o1:0<x.2.1.length->∀ q,al.ownBlock=some q->q≠p)(o2:0<x.2.2.length->∀ q,gr.ownBlock=some q->q≠p) :
  Calls Tryz.prog 11 #[.iface 37 (.pointer (some ⟨p,0,none⟩)),.int .i64 id,.agg (x.1.vals al gr)] w fun r w'=>ChR w0 w w' p sv l fl cd (zne l fl cd ca id x) r:=by
 have a1:=zav x.1 al gr (zaT hI) (zaU hGr)
 have HS:=lh hS
 have hpl:=hS.pl
 have hcd2:cd≠0∨fl<=0:=hcd.imp (fun h=>h.1) (fun h=>h)
 have HV:=lh (fun W (b0:Below w0.heap.size w0 W) (b:Below w.heap.size w W)=>zk6 x.1 al gr x.2.1 x.2.2 W (hm.below b0) (hT.below b0) hsz (hI.below b) (hGr.below b))
 have HI:=lh hI
 have HGR:=lh hGr
 clear hI hGr
 unfold zne
 have B1:Below w.heap.size w (((w.alloc (.cells #[.iface 37 (.pointer (some ⟨p,0,none⟩))] 60)).alloc (.cells #[.int .i64 id] 3)).alloc (.cells (x.1.vals al gr) 32)):=by exact za4
 have HB1:=lh B1
 clear B1
 have R0:=zai ((w.alloc (.cells #[.iface 37 (.pointer (some ⟨p,0,none⟩))] 60)).alloc (.cells #[.int .i64 id] 3)) (x.1.vals al gr) 32 (0,0)
 simp only[World.size_alloc] at R0
 cases hok:okX x
 · rw[if_neg (by simp)]
   have HV2:=lh (fun W b0 b=>(show okX (x.1,x.2.1,x.2.2)=false from hok) ▸ HV.out W b0 b)
   clear HV
   go_enter Tryz.func11,Tryz.ntmps11
   go_wp2_with (go_at_call 49;(refine (HV2.out _ (HS.out.below HB1.out).b HB1.out).mono ?_);rintro _ w2 ⟨rfl,hb⟩;have B2:=lh (Below.trans HB1.out (hb.mono HB1.out.size));clear hb)
   go_ret2
   exact⟨_,rfl,zbi _,HS.out.below B2.out,zaw _ B2.out⟩
 rw[if_pos rfl]
 have HV2:=lh (fun W b0 b=>(show okX (x.1,x.2.1,x.2.2)=true from hok) ▸ HV.out W b0 b)
 clear HV
 generalize hg:zhN l fl cd id x 3 0 ca=g
 have HGG:=lh hg
 clear hg hok
 have HA1:=lh (fun (c:Int) wr (h0:0<=c) (h1:c<=90000) (h:SHs w0 wr p sv l fl cd c)=>zpq p (w.heap.size+1+1) w.heap.size (w.heap.size+1) sv l fl cd c id x al gr w0 wr hm hT h h0 h1 hcd)
 have HA2:=lh (fun (c:Int) wr (h0:0<=c) (h1:c<=90000) (h:SHs w0 wr p sv l fl cd c)=>zp0 p (w.heap.size+1+1) w.heap.size (w.heap.size+1) sv l fl cd c id x al gr w0 wr hm hT h h0 h1 hcd2 hsz)
 have HA3:=lh (fun (c:Int) wr (h0:0<=c) (h1:c<=90000) (h:SHs w0 wr p sv l fl cd c)=>zqO p (w.heap.size+1+1) w.heap.size (w.heap.size+1) sv l fl cd c id x al gr w0 wr hm hT h h0 h1 hcd)
 have C0:(((w.alloc (.cells #[.iface 37 (.pointer (some ⟨p,0,none⟩))] 60)).alloc (.cells #[.int .i64 id] 3)).alloc (.cells (x.1.vals al gr) 32)).cell? ⟨w.heap.size,0,none⟩=some (.iface 37 (.pointer (some ⟨p,0,none⟩))):=by simp [go_sem]
 have C1:(((w.alloc (.cells #[.iface 37 (.pointer (some ⟨p,0,none⟩))] 60)).alloc (.cells #[.int .i64 id] 3)).alloc (.cells (x.1.vals al gr) 32)).cell? ⟨w.heap.size+1,0,none⟩=some (.int .i64 id):=by simp [go_sem]
 go_enter Tryz.func11,Tryz.ntmps11
 go_wp2_with (go_at_call 49;(refine (HV2.out _ (HS.out.below HB1.out).b HB1.out).mono ?_);rintro _ w2 ⟨rfl,hb⟩;have B2:=lh (Below.trans HB1.out (hb.mono HB1.out.size));have R2:=zae hb R0 (by rw[zab];decide);have D0:=(hb.cell (p:=⟨w.heap.size,0,none⟩) (by simp;omega)).trans C0;have D1:=(hb.cell (p:=⟨w.heap.size+1,0,none⟩) (by simp)).trans C1;have z2:=hb.size;clear hb)
 have HI2:AdI w0 w (w2.alloc (.cells #[.func (.func 50) #[] #[.pointer (some ⟨w.heap.size+1+1,0,none⟩),.pointer (some ⟨w.heap.size,0,none⟩),.pointer (some ⟨w.heap.size+1,0,none⟩)],.func (.func 52) #[] #[.pointer (some ⟨w.heap.size+1+1,0,none⟩),.pointer (some ⟨w.heap.size,0,none⟩),.pointer (some ⟨w.heap.size+1,0,none⟩)],.func (.func 54) #[] #[.pointer (some ⟨w.heap.size,0,none⟩),.pointer (some ⟨w.heap.size+1,0,none⟩),.pointer (some ⟨w.heap.size+1+1,0,none⟩)]] 89)) p w2.heap.size sv l fl cd ca id x al gr:=by
  simp only[World.size_alloc] at z2
  have bl:=zag w2 (.cells #[.func (.func 50) #[] #[.pointer (some ⟨w.heap.size+1+1,0,none⟩),.pointer (some ⟨w.heap.size,0,none⟩),.pointer (some ⟨w.heap.size+1,0,none⟩)],.func (.func 52) #[] #[.pointer (some ⟨w.heap.size+1+1,0,none⟩),.pointer (some ⟨w.heap.size,0,none⟩),.pointer (some ⟨w.heap.size+1,0,none⟩)],.func (.func 54) #[] #[.pointer (some ⟨w.heap.size,0,none⟩),.pointer (some ⟨w.heap.size+1,0,none⟩),.pointer (some ⟨w.heap.size+1+1,0,none⟩)]] 89)
  refine⟨(HS.out.below B2.out).below bl,zaw _ (B2.out.trans (bl.mono B2.out.size)),zae bl R2 (by rw[zab];decide),(bl.cell (p:=⟨w.heap.size,0,none⟩) (by show w.heap.size<w2.heap.size;omega)).trans D0,(bl.cell (p:=⟨w.heap.size+1,0,none⟩) (by show w.heap.size+1<w2.heap.size;omega)).trans D1,?_,?_,?_,by simp,by simp;omega,hpl,by omega,(HI.out.below B2.out).below bl,(HGR.out.below B2.out).below bl,o1,o2⟩
  · rw[cell_of_row _ _ 0 _ 89 (0,0) (heap_alloc_new w2 _)];rfl
  · rw[cell_of_row _ _ 1 _ 89 (0,0) (heap_alloc_new w2 _)];rfl
  · rw[cell_of_row _ _ 2 _ 89 (0,0) (heap_alloc_new w2 _)];rfl
 go_loopw [21] (fun i wr=>∃ (k:Nat) (c:Int),k<=3∧i=.int .i64 k∧0<=c∧c<=ca+3*k∧Hid (zhN l fl cd id x (3 - k) k c=g)∧AdI w0 w wr p w2.heap.size sv l fl cd c id x al gr) (fun i _=>3 - (intOf i).toNat)
 case atStart=>exact⟨0,ca,by decide,rfl,hc0,by simp,HGG,HI2⟩
 case round =>
  obtain⟨k,c,hk,rfl,h0,h1,HH,hA⟩:=hrel
  have HA:=lh hA
  have hcc:=zgL l fl cd id x k c
  by_cases hlt:k<3
  · have hq:=HH.out
    rw[show 3 - k=(3 - (k+1))+1 by omega] at hq
    unfold zhN at hq
    have hst:∃ f cs,wr.cell? ⟨w2.heap.size,k,none⟩=some (.func (.func f) #[] cs)∧(k=0∧f=50∧cs=#[.pointer (some ⟨w.heap.size+1+1,0,none⟩),.pointer (some ⟨w.heap.size,0,none⟩),.pointer (some ⟨w.heap.size+1,0,none⟩)]∨k=1∧f=52∧cs=#[.pointer (some ⟨w.heap.size+1+1,0,none⟩),.pointer (some ⟨w.heap.size,0,none⟩),.pointer (some ⟨w.heap.size+1,0,none⟩)]∨k=2∧f=54∧cs=#[.pointer (some ⟨w.heap.size,0,none⟩),.pointer (some ⟨w.heap.size+1,0,none⟩),.pointer (some ⟨w.heap.size+1+1,0,none⟩)]):=by
     rcases (by omega:k=0∨k=1∨k=2) with rfl|rfl|rfl
     · exact⟨_,_,hA.f0,.inl ⟨rfl,rfl,rfl⟩⟩
     · exact⟨_,_,hA.f1,.inr (.inl ⟨rfl,rfl,rfl⟩)⟩
     · exact⟨_,_,hA.f2,.inr (.inr ⟨rfl,rfl,rfl⟩)⟩
    obtain⟨f,cs,hcell,hfk⟩:=hst
    have hcall:Calls Tryz.prog f cs wr fun r w'=>r=.returned (.int .i64 (ziw l fl cd id x k c).1)∧SHs w0 w' p sv l fl cd (ziw l fl cd id x k c).2∧wr.grownBy w' (some p):=by
     rcases hfk with ⟨rfl,rfl,rfl⟩|⟨rfl,rfl,rfl⟩|⟨rfl,rfl,rfl⟩
     · exact HA1.out c wr h0 (by omega) hA.sh hA.e hA.r hA.i
     · exact HA2.out c wr h0 (by omega) hA.sh hA.e hA.r hA.i (by have:=hA.l2;omega) (by have:=hA.l2;omega)
     · exact HA3.out c wr h0 (by omega) hA.sh hA.I hA.G hA.e hA.r hA.i
    generalize ziw l fl cd id x k c=sr at hcall hq hcc
    obtain⟨code,cb⟩:=sr
    dsimp only at hcall hq hcc
    clear hA
    rcases hfk with ⟨rfl,rfl,rfl⟩|⟨rfl,rfl,rfl⟩|⟨rfl,rfl,rfl⟩
    · have HC:=lh hcall
      clear hcall
      by_cases hz:code=0
      · rw[if_neg (fun h=>h hz)] at hq
        subst hz
        have HST:=lh hq
        clear hq HH
        go_wp2_with (go_at_call 50;(with_reducible refine HC.out.mono ?_);rintro _ w3 ⟨rfl,hs3,hg3⟩;have S3:=lh hs3;have G3:=lh hg3;clear hs3 hg3)
        go_roundw
        case rel=>exact⟨1,cb,by omega,by go_num,by omega,by omega,HST,HA.out.step S3.out G3.out⟩
        case measure=>simp [intOf]
      · rw[if_pos hz] at hq
        subst hq
        have t1:(code != 0)=true:=by rw[bne_iff_ne];exact hz
        clear hz HH
        go_wp2_with (go_at_call 50;(with_reducible refine HC.out.mono ?_);rintro _ w3 ⟨rfl,hs3,hg3⟩;have S3:=lh hs3;have G3:=lh hg3;clear hs3 hg3)
        go_ret2
        exact⟨_,rfl,zbi _,S3.out,zaI HA.out.g G3.out⟩
    · have HC:=lh hcall
      clear hcall
      by_cases hz:code=0
      · rw[if_neg (fun h=>h hz)] at hq
        subst hz
        have HST:=lh hq
        clear hq HH
        go_wp2_with (go_at_call 52;(with_reducible refine HC.out.mono ?_);rintro _ w3 ⟨rfl,hs3,hg3⟩;have S3:=lh hs3;have G3:=lh hg3;clear hs3 hg3)
        go_roundw
        case rel=>exact⟨2,cb,by omega,by go_num,by omega,by omega,HST,HA.out.step S3.out G3.out⟩
        case measure=>simp [intOf]
      · rw[if_pos hz] at hq
        subst hq
        have t1:(code != 0)=true:=by rw[bne_iff_ne];exact hz
        clear hz HH
        go_wp2_with (go_at_call 52;(with_reducible refine HC.out.mono ?_);rintro _ w3 ⟨rfl,hs3,hg3⟩;have S3:=lh hs3;have G3:=lh hg3;clear hs3 hg3)
        go_ret2
        exact⟨_,rfl,zbi _,S3.out,zaI HA.out.g G3.out⟩
    · have HC:=lh hcall
      clear hcall
      by_cases hz:code=0
      · rw[if_neg (fun h=>h hz)] at hq
        subst hz
        have HST:=lh hq
        clear hq HH
        go_wp2_with (go_at_call 54;(with_reducible refine HC.out.mono ?_);rintro _ w3 ⟨rfl,hs3,hg3⟩;have S3:=lh hs3;have G3:=lh hg3;clear hs3 hg3)
        go_roundw
        case rel=>exact⟨3,cb,by omega,by go_num,by omega,by omega,HST,HA.out.step S3.out G3.out⟩
        case measure=>simp [intOf]
      · rw[if_pos hz] at hq
        subst hq
        have t1:(code != 0)=true:=by rw[bne_iff_ne];exact hz
        clear hz HH
        go_wp2_with (go_at_call 54;(with_reducible refine HC.out.mono ?_);rintro _ w3 ⟨rfl,hs3,hg3⟩;have S3:=lh hs3;have G3:=lh hg3;clear hs3 hg3)
        go_ret2
        exact⟨_,rfl,zbi _,S3.out,zaI HA.out.g G3.out⟩
  · obtain rfl:k=3:=by omega
    have hstep:(([zbv id x],0),c)=g:=HH.out
    subst hstep
    have R3:=hA.e
    have C3:=hA.i
    have hpu:∀ W (b:Below w0.heap.size w0 W) (i1:IS W al x.2.1) (i2:GS W gr x.2.2),Calls Tryz.prog 56 #[.int .i64 id,.agg (x.1.vals al gr)] W fun r w'=>r=.returned (.agg #[.int .i64 0,.int .i64 id,.string (zbl x.1.kind x.1.name),.string (zbT x),.string ⟨#[]⟩])∧Below W.heap.size W w':=fun W b i1 i2=>ziY id x al gr W (hm.below b) (hT.below b) hsz i1 i2
    have hco:=fun W=>zhZ W (zbv id x)
    unfold zbv ch5 at hco
    dsimp only at hco
    have HPU:=lh hpu
    have HCO:=lh hco
    clear hpu hco hA HH
    go_wp2_with (go_at_call 56;(refine (HPU.out _ HA.out.sh.b HA.out.I HA.out.G).mono ?_);rintro _ w5 ⟨rfl,hb5⟩;have B5:=lh (bt hb5 (zag w5 (.cells #[.int .i64 0,.int .i64 id,.string (zbl x.1.kind x.1.name),.string (zbT x),.string ⟨#[]⟩] 74)));clear hb5)
    go_ret2
    exact⟨_,rfl,HCO.out _,HA.out.sh.below B5.out,zaG HA.out.g (B5.out.mono (by have:=HA.out.g.size;omega))⟩
end
section
theorem zer(p:Nat)(id:Int)(L:UInt8)(cb:Nat)(w:World) :
  Calls Tryz.prog 86 #[.iface 37 (.pointer (some ⟨p,0,none⟩)),.int .i64 id,.int .u8 (L.toNat:Nat),.pointer (some ⟨cb,0,none⟩)] w fun e w'=>e=.returned (.func (.func 164) #[] #[.pointer (some ⟨w.heap.size+1+1,0,none⟩),.pointer (some ⟨w.heap.size,0,none⟩),.pointer (some ⟨w.heap.size+1,0,none⟩),.pointer (some ⟨w.heap.size+1+1+1,0,none⟩)]) ∧
   w'=(((w.alloc (.cells #[.iface 37 (.pointer (some ⟨p,0,none⟩))] 60)).alloc (.cells #[.int .i64 id] 3)).alloc (.cells #[.int .u8 (L.toNat:Nat)] 5)).alloc (.cells #[.pointer (some ⟨cb,0,none⟩)] 126):=by
 go_enter Tryz.func86,Tryz.ntmps86
 go_wp2_with fail
 go_ret
 exact⟨rfl,rfl⟩
theorem ziO(s:ByteArray)(w:World)(hs:s.size<=1000)(hm:MaxL w) :
  Calls Tryz.prog 84 #[.string s] w fun e w'=>e=.returned (.bool (Ds.gen (Ds.bl s)))∧Below w.heap.size w w':=by
 have hp:=zd0 s w hs hm
 generalize Ds.gen (Ds.bl s)=b at hp ⊢
 go_enter Tryz.func84,Tryz.ntmps84
 go_wp2_with (go_at_call 53;(with_reducible refine hp.mono ?_);rintro _ w1 ⟨rfl,B⟩)
 go_ret
 exact⟨rfl,B⟩
end
end Go.Proofs.YtkafnmbldpofdaaGreatDoor
