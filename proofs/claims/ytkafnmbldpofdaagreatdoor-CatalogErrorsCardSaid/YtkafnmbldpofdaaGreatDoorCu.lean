/- Contracts of the reference of chapter 35: Add. -/
import Derived.Test.YtkafnmbldpofdaaGreatDoorAe
namespace Go.Proofs.YtkafnmbldpofdaaGreatDoor
open Go.RowKit
set_option maxRecDepth 8000
set_option maxHeartbeats 8000000
section
theorem zk2(e:Int)(w:World):Calls Tryz.prog 118 #[.int .i64 e] w fun r w'=>r=.returned (.int .i64 (zep e))∧w'=w:=by
 unfold zep
 by_cases h0:e=0
 · subst h0
   go_enter Tryz.func118,Tryz.ntmps118
   go_wp2_with fail
   go_ret
   exact⟨rfl,rfl⟩
 have t0:(e==0)=false:=beq_eq_false_iff_ne.2 h0
 rw[if_neg h0]
 by_cases h6:e=6
 · subst h6
   go_enter Tryz.func118,Tryz.ntmps118
   go_wp2_with fail
   go_ret
   exact⟨rfl,rfl⟩
 have t6:(e==6)=false:=beq_eq_false_iff_ne.2 h6
 rw[if_neg h6]
 go_enter Tryz.func118,Tryz.ntmps118
 go_wp2_with fail
 go_ret
 exact⟨rfl,rfl⟩
def zcj(l:List Rw)(id:Int)(x:Fu):Int :=
 if x.1.kind≠2 then 0 else match zb5 l id x.1.target with
  | (y,c)=>if c≠0 then c else if Ds.gen (Ds.bl y.1.name)=true∨y.1.kind=2 then 7 else 0
theorem zh2(l:List Rw)(id:Int)(name:ByteArray):zfU (zb5 l id name).1:=by
 rw[<-zea l 0 0 0 id name (by omega) (by omega)]
 exact ze6 l 0 0 0 id name
theorem zkG(l:List Rw)(fl cd ca id:Int)(x:Fu)(hf:fl<=0)(h0:0<=ca):(zbw l fl cd ca id x).1=zcj l id x:=by
 unfold zbw zcj
 split
 · rfl
 · have e:=zea l fl cd ca id x.1.target hf h0
   rw[<-e]
   generalize zbL l fl cd ca id x.1.target=g
   obtain⟨⟨y,c⟩,cb⟩:=g
   dsimp only
   split
   · rfl
   · split <;> rfl
attribute [local go_sem ↓] zaX za0 zaD zbg
attribute [local go_sem] zaA zas zan zaM zaO zah zat zai zau zaf zak zaq zab zap zaj zaE zaC zao zam zax zaL zay zaz
theorem zlt(v:Value)(l:List Rw)(id:Int)(x:Fu)(al gr:Value)(w:World)(hl:RwS w v l)(_a1:zaV (x.1.vals al gr).toList=true) :
  Calls Tryz.prog 120 #[v,.int .i64 id,.agg (x.1.vals al gr)] w fun r w'=>r=.returned (.int .i64 (zcj l id x))∧Below w.heap.size w w':=by
 have HL:=lh hl
 have R0:=zai w (x.1.vals al gr) 32 (0,0)
 have N0:=zaa R0 0 _ (zay _ _ _)
 have N9:=zaa R0 29 _ (za9 _ _ _)
 have HB1:=lh (zag w (.cells (x.1.vals al gr) 32))
 obtain⟨av,cv',rfl,-⟩:=hl
 unfold zcj
 by_cases hk:x.1.kind=2
 rotate_left
 · rw[if_pos hk]
   have t0:(x.1.kind != 2)=true:=bne_iff_ne.2 hk
   have t1:(x.1.kind==2)=false:=beq_eq_false_iff_ne.2 hk
   clear hk
   go_enter Tryz.func120,Tryz.ntmps120
   go_wp2_with fail
   go_ret
   exact⟨rfl,HB1.out⟩
 rw[if_neg (fun h=>h hk)]
 have hfi:=fun W (h:RwS W (.slice av l.length cv') l)=>ziH (.slice av l.length cv') l id x.1.target W h
 have hsh:=zh2 l id x.1.target
 generalize zb5 l id x.1.target=gg at hfi hsh ⊢
 obtain⟨y,code⟩:=gg
 dsimp only at hsh ⊢
 have HF:=lh hfi
 have HP:=lh (fun W=>zcb y.1.name W hsh)
 clear hfi
 by_cases h0:code=0
 rotate_left
 · rw[if_pos h0]
   have t1:(code != 0)=true:=by rw[bne_iff_ne];exact h0
   clear h0
   go_enter Tryz.func120,Tryz.ntmps120
   go_wp2_with (go_at_call 117;(refine (HF.out _ (HL.out.below HB1.out)).mono ?_);rintro _ w3 ⟨⟨al2,gr2,rfl,hI,hGs,hf1,hf2⟩,hb3⟩;have hone:=zav y.1 al2 gr2 (zaT hI) (zaU hGs);have B3:=lh (bt HB1.out hb3);have R3:=zai w3 (y.1.vals al2 gr2) 32 (0,0);have M0:=zaa R3 0 _ (zay _ _ _);have M1:=zaa R3 1 _ (zaz _ _ _);clear hI hGs hf1 hf2 hb3)
   go_ret
   exact⟨rfl,bt B3.out (zag _ _)⟩
 rw[if_neg (fun h=>h h0)]
 subst h0
 by_cases hgen:Ds.gen (Ds.bl y.1.name)=true
 · rw[if_pos (.inl hgen)]
   rw[hgen] at HP
   clear hgen
   go_enter Tryz.func120,Tryz.ntmps120
   go_wp2_with (first
    | (go_at_call 117;(refine (HF.out _ (HL.out.below HB1.out)).mono ?_);rintro _ w3 ⟨⟨al2,gr2,rfl,hI,hGs,hf1,hf2⟩,hb3⟩;have hone:=zav y.1 al2 gr2 (zaT hI) (zaU hGs);have B3:=lh (bt HB1.out hb3);have R3:=zai w3 (y.1.vals al2 gr2) 32 (0,0);have M0:=zaa R3 0 _ (zay _ _ _);have M1:=zaa R3 1 _ (zaz _ _ _);clear hI hGs hf1 hf2 hb3)
    | (go_at_call 119;(refine (HP.out _).mono ?_);rintro _ w4 ⟨rfl,hb⟩;have B4:=lh (bt (bt B3.out (zag _ _)) hb);have R4:=zae hb R3 (by rw[zab];decide);have M4:=zaa R4 0 _ (zay _ _ _);clear hb))
   go_ret
   exact⟨rfl,B4.out⟩
 have hgf:Ds.gen (Ds.bl y.1.name)=false:=Bool.eq_false_iff.2 hgen
 rw[hgf] at HP
 by_cases h2:y.1.kind=2
 · rw[if_pos (.inr h2)]
   have t2:(y.1.kind==2)=true:=beq_iff_eq.2 h2
   clear hgf hgen h2
   go_enter Tryz.func120,Tryz.ntmps120
   go_wp2_with (first
    | (go_at_call 117;(refine (HF.out _ (HL.out.below HB1.out)).mono ?_);rintro _ w3 ⟨⟨al2,gr2,rfl,hI,hGs,hf1,hf2⟩,hb3⟩;have hone:=zav y.1 al2 gr2 (zaT hI) (zaU hGs);have B3:=lh (bt HB1.out hb3);have R3:=zai w3 (y.1.vals al2 gr2) 32 (0,0);have M0:=zaa R3 0 _ (zay _ _ _);have M1:=zaa R3 1 _ (zaz _ _ _);clear hI hGs hf1 hf2 hb3)
    | (go_at_call 119;(refine (HP.out _).mono ?_);rintro _ w4 ⟨rfl,hb⟩;have B4:=lh (bt (bt B3.out (zag _ _)) hb);have R4:=zae hb R3 (by rw[zab];decide);have M4:=zaa R4 0 _ (zay _ _ _);clear hb))
   go_ret
   exact⟨rfl,B4.out⟩
 · rw[if_neg (by rintro (h|h);exact hgen h;exact h2 h)]
   have t2:(y.1.kind==2)=false:=beq_eq_false_iff_ne.2 h2
   clear hgf hgen h2
   go_enter Tryz.func120,Tryz.ntmps120
   go_wp2_with (first
    | (go_at_call 117;(refine (HF.out _ (HL.out.below HB1.out)).mono ?_);rintro _ w3 ⟨⟨al2,gr2,rfl,hI,hGs,hf1,hf2⟩,hb3⟩;have hone:=zav y.1 al2 gr2 (zaT hI) (zaU hGs);have B3:=lh (bt HB1.out hb3);have R3:=zai w3 (y.1.vals al2 gr2) 32 (0,0);have M0:=zaa R3 0 _ (zay _ _ _);have M1:=zaa R3 1 _ (zaz _ _ _);clear hI hGs hf1 hf2 hb3)
    | (go_at_call 119;(refine (HP.out _).mono ?_);rintro _ w4 ⟨rfl,hb⟩;have B4:=lh (bt (bt B3.out (zag _ _)) hb);have R4:=zae hb R3 (by rw[zab];decide);have M4:=zaa R4 0 _ (zay _ _ _);clear hb))
   go_ret
   exact⟨rfl,B4.out⟩
end
section
theorem zmb(x:Fu)(h:okX x=true):(zbT x).extract 0 32=zbl x.1.kind x.1.name∧32<=(zbT x).size:=by
 have hb:Ds.bl (zbT x)=zhf x++zc5 x:=by unfold zbT;rw[if_pos h,Ds.bl_mk];rfl
 have hk:=zcX x h
 have hz:32<=(zbT x).size:=by rw[<-Ds.bl_length,hb,List.length_append,hk];omega
 refine⟨Ds.bl_inj ?_,hz⟩
 rw[zcD]
 have e:Ds.bl ((zbT x).extract 0 32)=(Ds.bl (zbT x)).take 32:=by
  unfold Ds.bl
  rw[ByteArray.data_extract,Array.toList_extract]
  simp [List.extract]
 rw[e,hb,List.take_append_of_le_length (by omega),List.take_of_length_le (by omega)]
 rfl
attribute [local go_sem ↓] zaX za0 zaD zbg zka
attribute [local go_sem] zaA zas zan zaM zaO zah zat zai zau zaf zak zaq zab zap zaj zaE zaC zao zam zax zaL zay zaz
theorem zqZ(id:Int)(x:Fu)(al gr:Value)(w:World)(hok:okX x=true)(_a1:zaV (x.1.vals al gr).toList=true)(hE:∀ W,Below w.heap.size w W->Calls Tryz.prog 149 #[.agg (x.1.vals al gr)] W fun r w'=>r=.returned (.tuple #[.string (zbT x),.int .i64 0])∧Below W.heap.size W w') :
  Calls Tryz.prog 121 #[.int .i64 id,.agg (x.1.vals al gr)] w fun r w'=>r=.returned (.agg (ch5 (zbv id x)))∧Below w.heap.size w w':=by
 have HE:=lh hE
 have R0:=zau w (x.1.vals al gr) 32 (0,0) (.cells chZ 74)
 have HH:=Held.new (w.alloc (.cells (x.1.vals al gr) 32)) chZ 74 5 rfl (by decide)
 rw[World.size_alloc] at HH
 obtain⟨e1,e2⟩:=zmb x hok
 clear hE hok
 unfold chZ at *
 unfold zbv
 generalize zbT x=rz at HE e1 e2 ⊢
 generalize zbl x.1.kind x.1.name=kz at e1 ⊢
 go_enter Tryz.func121,Tryz.ntmps121
 go_wp2_with (go_at_call 149;(refine (HE.out _ (below2' _ _ _)).mono ?_);rintro _ w3 ⟨rfl,hb⟩;have H3:=HH.below hb;have B3:=lh (bt (below2' _ _ _) hb);clear hb)
 refine bodyPost_ret (zb7 (n:=4) rfl Tryz.underlying74 rfl (by kernel_rfl) _ _ (w.heap.size+1) rfl (by rw[zad H3];rfl)) rfl ?_
 rw[zad H3]
 exact⟨rfl,below_setRow B3.out (by omega) _⟩
end
section
attribute [local go_sem ↓] zaX za0 zaD zbg zka
attribute [local go_sem] zaA zas zan zaM zaO zah zat zai zau zaf zak zaq zab zap zaj zaE zaC zao zam zax zaL zay zaz
def Ch2(w w':World)(g:List Ch × Int)(r:Ending):Prop:=∃ ov,r=.returned (.tuple #[ov,.int .i64 g.2])∧ChS w' ov g.1∧Below w.heap.size w w'
end
section
def zjQ(l:List Rw)(id:Int)(x:Fu):Int:=if 2<x.1.kind then (zcV l id x.1.kind x.1.name).2 else (zb5 l id x.1.name).2
def zfy(l:List Rw)(id:Int)(x:Fu):List Ch × Int :=
 if okX x=true then
  if zep (zjQ l id x)≠0 then ([],zep (zjQ l id x))
  else if (Ds.gen (Ds.bl x.1.name)=true∧x.1.kind=0)∧(zcV l id 1 (zgQ x.1.name)).2≠0 then ([],(zcV l id 1 (zgQ x.1.name)).2)
  else if zcj l id x≠0 then ([],zcj l id x)
  else ([zbv id x],0)
 else ([],1)
theorem znl(l:List Rw)(fl cd ca id:Int)(x:Fu)(hf:fl<=0)(h0:0<=ca):(add1F l fl cd ca id x).1=zep (zjQ l id x):=by
 unfold add1F zjQ
 split
 · rw[zgA l fl cd ca id _ _ hf h0]
 · rw[zea l fl cd ca id _ hf h0]
theorem zls(l:List Rw)(fl cd ca id:Int)(x:Fu)(hf:fl<=0)(h0:0<=ca):(zne l fl cd ca id x).1=zfy l id x:=by
 unfold zne zfy
 split
 rotate_left
 · rfl
 have c1:=zgL l fl cd id x 0 ca
 have e1:=znl l fl cd ca id x hf h0
 change ca<=(add1F l fl cd ca id x).2∧_ at c1
 show (zhN l fl cd id x (2+1) 0 ca).1=_
 unfold zhN
 change (if (add1F l fl cd ca id x).1≠0 then (([],(add1F l fl cd ca id x).1),(add1F l fl cd ca id x).2) else zhN l fl cd id x 2 (0+1) (add1F l fl cd ca id x).2).1=_
 rw[e1]
 split
 · rfl
 generalize (add1F l fl cd ca id x).2=cb at c1
 have h0b:0<=cb:=by omega
 have c2:=zgL l fl cd id x 1 cb
 have e2:(add2F l fl cd cb id x).1=if Ds.gen (Ds.bl x.1.name)=true∧x.1.kind=0 then (zcV l id 1 (zgQ x.1.name)).2 else 0:=by
  unfold add2F
  split
  · rw[zgA l fl cd cb id _ _ hf h0b]
  · rfl
 change cb<=(add2F l fl cd cb id x).2∧_ at c2
 unfold zhN
 change (if (add2F l fl cd cb id x).1≠0 then (([],(add2F l fl cd cb id x).1),(add2F l fl cd cb id x).2) else zhN l fl cd id x 1 (0+1+1) (add2F l fl cd cb id x).2).1=_
 rw[e2]
 generalize (add2F l fl cd cb id x).2=cc at c2
 have h0c:0<=cc:=by omega
 have e3:=zkG l fl cd cc id x hf h0c
 have e4:(zhN l fl cd id x 1 (0+1+1) cc).1=if zcj l id x≠0 then ([],zcj l id x) else ([zbv id x],0):=by
  unfold zhN
  change (if (zbw l fl cd cc id x).1≠0 then (([],(zbw l fl cd cc id x).1),(zbw l fl cd cc id x).2) else _).1=_
  rw[e3]
  split <;> rfl
 by_cases hg:Ds.gen (Ds.bl x.1.name)=true∧x.1.kind=0
 · rw[if_pos hg]
   by_cases h:(zcV l id 1 (zgQ x.1.name)).2≠0
   · rw[if_pos h,if_pos ⟨hg,h⟩]
   · rw[if_neg h,if_neg (fun k=>h k.2)]
     exact e4
 · rw[if_neg hg,if_neg (fun h=>h rfl),if_neg (fun k=>hg k.1)]
   exact e4
attribute [local go_sem ↓] zaX za0 zaD zbg zka
attribute [local go_sem] zaA zas zan zaM zaO zah zat zai zau zaf zak zaq zab zap zaj zaE zaC zao zam zax zaL zay zaz
theorem zpz(v:Value)(l:List Rw)(id:Int)(x:Fu)(al gr:Value)(w:World)(hl:RwS w v l)(hsz:x.1.name.size<=60)(a1:zaV (x.1.vals al gr).toList=true)(hV:∀ W,Below w.heap.size w W->Calls Tryz.prog 81 #[.agg (x.1.vals al gr)] W fun r w'=>r=.returned (.bool (okX x))∧Below W.heap.size W w')(hE:okX x=true->∀ W,Below w.heap.size w W->Calls Tryz.prog 149 #[.agg (x.1.vals al gr)] W fun r w'=>r=.returned (.tuple #[.string (zbT x),.int .i64 0])∧Below W.heap.size W w') :
  Calls Tryz.prog 48 #[v,.int .i64 id,.agg (x.1.vals al gr)] w fun r w'=>Ch2 w w' (zfy l id x) r:=by
 have HL:=lh hl
 have R0:=zai w (x.1.vals al gr) 32 (0,0)
 have HB1:=lh (zag w (.cells (x.1.vals al gr) 32))
 obtain⟨av,cv',rfl,-⟩:=hl
 unfold zfy
 cases hok:okX x
 · rw[if_neg (by simp)]
   rw[hok] at hV
   have HV:=lh hV
   clear hV hE
   go_enter Tryz.func48,Tryz.ntmps48
   go_wp2_with (first|(go_at_call 81;(refine (HV.out _ HB1.out).mono ?_);rintro _ w2 ⟨rfl,hb⟩;have B:=lh (bt HB1.out hb);have R:=zae hb R0 (by rw[zab];decide);have N0:=zaa R 0 _ (zay _ _ _);have N1:=zaa R 1 _ (zaz _ _ _);clear hb))
   go_ret2
   exact⟨_,rfl,zbi _,B.out⟩
 rw[if_pos rfl]
 rw[hok] at hV
 have HV:=lh hV
 have hg1:=fun W (h:RwS W (.slice av l.length cv') l)=>zik (.slice av l.length cv') l id x.1.kind x.1.name W h
 have hfi:=fun W (h:RwS W (.slice av l.length cv') l)=>ziH (.slice av l.length cv') l id x.1.name W h
 have hg3:=fun W (h:RwS W (.slice av l.length cv') l)=>zik (.slice av l.length cv') l id 1 (zgQ x.1.name) W h
 have hld:=fun W (h:RwS W (.slice av l.length cv') l)=>zlt (.slice av l.length cv') l id x al gr W h a1
 have hpu:∀ W (b:Below w.heap.size w W),Calls Tryz.prog 121 #[.int .i64 id,.agg (x.1.vals al gr)] W fun r w'=>r=.returned (.agg #[.int .i64 0,.int .i64 id,.string (zbl x.1.kind x.1.name),.string (zbT x),.string ⟨#[]⟩])∧Below W.heap.size W w':=fun W b=>zqZ id x al gr W hok a1 (fun W2 b2=>hE hok W2 (b.trans (b2.mono b.size)))
 have hco:=fun W=>zhZ W (zbv id x)
 unfold zbv ch5 at hco
 dsimp only at hco
 have HPU:=lh hpu
 have HCO:=lh hco
 have hsp:=fun W=>zcb x.1.name W hsz
 clear hpu hco hV hE hok hsz
 unfold zbv
 unfold zjQ
 have esp:zgQ x.1.name=⟨(Ds.splG (Ds.bl x.1.name)).toArray⟩:=rfl
 rw[esp] at hg3 ⊢
 clear esp
 generalize (⟨(Ds.splG (Ds.bl x.1.name)).toArray⟩:ByteArray)=sg at hg3 hsp ⊢
 generalize zbl x.1.kind x.1.name=kz at HPU HCO ⊢
 generalize zbT x=rz at HPU HCO ⊢
 generalize zcV l id x.1.kind x.1.name=gg at hg1 ⊢
 obtain⟨y,c1⟩:=gg
 generalize zb5 l id x.1.name=gf at hfi ⊢
 obtain⟨yf,c2⟩:=gf
 generalize zcV l id 1 sg=gh at hg3 ⊢
 obtain⟨yh,c3⟩:=gh
 generalize zcj l id x=lc at hld ⊢
 generalize Ds.gen (Ds.bl x.1.name)=gen at hsp ⊢
 generalize Ds.splN (Ds.bl x.1.name)=sn at hsp
 dsimp only
 have HG1:=lh hg1
 have HFI:=lh hfi
 have HG3:=lh hg3
 have HLD:=lh hld
 have HT:=lh (fun c W=>zk2 c W)
 clear hg1 hfi hg3 hld
 by_cases hk:2<x.1.kind
 · rw[if_pos hk]
   have tk:decide (x.1.kind<=2)=false:=decide_eq_false (by omega)
   have tk0:(x.1.kind==0)=false:=beq_eq_false_iff_ne.2 (by omega)
   have hk0:¬ x.1.kind=0:=by omega
   clear hk
   by_cases ha:zep c1=0
   rotate_left
   rw[if_pos ha]
   have ta:(zep c1 != 0)=true:=bne_iff_ne.2 ha
   have HP:=lh hsp
   clear ha hsp hk0
   rotate_left
   rw[if_neg (fun h=>h ha),if_neg (fun h=>hk0 h.1.2)]
   have ta:(zep c1 != 0)=false:=by rw[ha];rfl
   clear ha hk0
   by_cases h1:lc=0
   rotate_left
   rw[if_pos h1]
   have t1:(lc != 0)=true:=bne_iff_ne.2 h1
   clear h1
   cases gen
   have HP:=lh hsp
   clear hsp
   rotate_left
   have HP:=lh hsp
   clear hsp
   rotate_left 2
   rw[if_neg (fun h=>h h1)]
   subst h1
   cases gen
   have HP:=lh hsp
   clear hsp
   rotate_left
   have HP:=lh hsp
   clear hsp
   all_goals (go_enter Tryz.func48,Tryz.ntmps48;go_wp2_with (first|(go_at_call 81;(refine (HV.out _ HB1.out).mono ?_);rintro _ w2 ⟨rfl,hb⟩;have B:=lh (bt HB1.out hb);have R:=zae hb R0 (by rw[zab];decide);have N0:=zaa R 0 _ (zay _ _ _);have N1:=zaa R 1 _ (zaz _ _ _);clear hb)|(go_at_call 116;(refine (HG1.out _ (HL.out.below B.out)).mono ?_);rintro _ w3 ⟨⟨al2,gr2,rfl,hI,hGs,hf1,hf2⟩,hb3⟩;clear HG1;have hone:=zav y.1 al2 gr2 (zaT hI) (zaU hGs);have R:=zae (bt hb3 (zag w3 (.cells (y.1.vals al2 gr2) 32))) R (by rw[zab];decide);have N0:=zaa R 0 _ (zay _ _ _);have N1:=zaa R 1 _ (zaz _ _ _);have B:=lh (bt (bt B.out hb3) (zag w3 (.cells (y.1.vals al2 gr2) 32)));clear hI hGs hf1 hf2 hb3)|(go_at_call 117;(refine (HFI.out _ (HL.out.below B.out)).mono ?_);rintro _ w3 ⟨⟨al2,gr2,rfl,hI,hGs,hf1,hf2⟩,hb3⟩;clear HFI;have hone:=zav yf.1 al2 gr2 (zaT hI) (zaU hGs);have R:=zae hb3 R (by rw[zab];decide);have N0:=zaa R 0 _ (zay _ _ _);have N1:=zaa R 1 _ (zaz _ _ _);have B:=lh (bt B.out hb3);clear hI hGs hf1 hf2 hb3)|(go_at_call 118;(with_reducible refine (HT.out _ _).mono ?_);rintro _ _ ⟨rfl,rfl⟩)|(go_at_call 119;(with_reducible refine (HP.out _).mono ?_);rintro _ w4 ⟨rfl,hb⟩;have R:=zae hb R (by rw[zab];decide);have N0:=zaa R 0 _ (zay _ _ _);have N1:=zaa R 1 _ (zaz _ _ _);have B:=lh (bt B.out hb);clear hb)|(go_at_call 116;(refine (HG3.out _ (HL.out.below B.out)).mono ?_);rintro _ w3 ⟨⟨al2,gr2,rfl,hI,hGs,hf1,hf2⟩,hb3⟩;clear HG3;have hone:=zav yh.1 al2 gr2 (zaT hI) (zaU hGs);have R:=zae (bt hb3 (zag w3 (.cells (yh.1.vals al2 gr2) 32))) R (by rw[zab];decide);have N0:=zaa R 0 _ (zay _ _ _);have N1:=zaa R 1 _ (zaz _ _ _);have B:=lh (bt (bt B.out hb3) (zag w3 (.cells (yh.1.vals al2 gr2) 32)));clear hI hGs hf1 hf2 hb3)|(go_at_call 120;(refine (HLD.out _ (HL.out.below B.out)).mono ?_);rintro _ w5 ⟨rfl,hb⟩;have R:=zae hb R (by rw[zab];decide);have B:=lh (bt B.out hb);clear hb)|(go_at_call 121;(refine (HPU.out _ B.out).mono ?_);rintro _ w6 ⟨rfl,hb⟩;have B:=lh (bt (bt B.out hb) (zag w6 (.cells #[.int .i64 0,.int .i64 id,.string kz,.string rz,.string ⟨#[]⟩] 74)));clear hb)))
   all_goals go_ret2
   all_goals first
    | exact⟨_,rfl,zbi _,B.out⟩
    | exact⟨_,rfl,HCO.out _,B.out⟩
 rw[if_neg hk]
 have tk:decide (x.1.kind<=2)=true:=decide_eq_true (by omega)
 clear hk
 by_cases ha:zep c2=0
 rotate_left
 rw[if_pos ha]
 have ta:(zep c2 != 0)=true:=bne_iff_ne.2 ha
 have HP:=lh hsp
 clear ha hsp
 rotate_left
 rw[if_neg (fun h=>h ha)]
 have ta:(zep c2 != 0)=false:=by rw[ha];rfl
 clear ha
 by_cases hg3:(gen=true∧x.1.kind=0)∧c3≠0
 rw[if_pos hg3]
 obtain⟨⟨rfl,hk0⟩,h3⟩:=hg3
 have tk0:(x.1.kind==0)=true:=beq_iff_eq.2 hk0
 have t3:(c3 != 0)=true:=bne_iff_ne.2 h3
 have HP:=lh hsp
 clear h3 hk0 hsp
 rotate_left
 rw[if_neg hg3]
 have hcase:gen=false∨(gen=true∧(x.1.kind==0)=false)∨(gen=true∧(x.1.kind==0)=true∧(c3 != 0)=false):=by
  cases gen
  · exact .inl rfl
  · by_cases hk0:x.1.kind=0
    · exact .inr (.inr ⟨rfl,beq_iff_eq.2 hk0,by rw[bne_eq_false_iff_eq];exact Decidable.byContradiction fun h=>hg3 ⟨⟨rfl,hk0⟩,h⟩⟩)
    · exact .inr (.inl ⟨rfl,beq_eq_false_iff_ne.2 hk0⟩)
 clear hg3
 by_cases h1:lc=0
 rotate_left
 rw[if_pos h1]
 have t1:(lc != 0)=true:=bne_iff_ne.2 h1
 clear h1
 rcases hcase with rfl|⟨rfl,tk0⟩|⟨rfl,tk0,t3⟩
 rotate_left 5
 rw[if_neg (fun h=>h h1)]
 subst h1
 rcases hcase with rfl|⟨rfl,tk0⟩|⟨rfl,tk0,t3⟩
 all_goals (try (have HP:=lh hsp;clear hsp))
 all_goals (go_enter Tryz.func48,Tryz.ntmps48;go_wp2_with (first|(go_at_call 81;(refine (HV.out _ HB1.out).mono ?_);rintro _ w2 ⟨rfl,hb⟩;have B:=lh (bt HB1.out hb);have R:=zae hb R0 (by rw[zab];decide);have N0:=zaa R 0 _ (zay _ _ _);have N1:=zaa R 1 _ (zaz _ _ _);clear hb)|(go_at_call 116;(refine (HG1.out _ (HL.out.below B.out)).mono ?_);rintro _ w3 ⟨⟨al2,gr2,rfl,hI,hGs,hf1,hf2⟩,hb3⟩;clear HG1;have hone:=zav y.1 al2 gr2 (zaT hI) (zaU hGs);have R:=zae (bt hb3 (zag w3 (.cells (y.1.vals al2 gr2) 32))) R (by rw[zab];decide);have N0:=zaa R 0 _ (zay _ _ _);have N1:=zaa R 1 _ (zaz _ _ _);have B:=lh (bt (bt B.out hb3) (zag w3 (.cells (y.1.vals al2 gr2) 32)));clear hI hGs hf1 hf2 hb3)|(go_at_call 117;(refine (HFI.out _ (HL.out.below B.out)).mono ?_);rintro _ w3 ⟨⟨al2,gr2,rfl,hI,hGs,hf1,hf2⟩,hb3⟩;clear HFI;have hone:=zav yf.1 al2 gr2 (zaT hI) (zaU hGs);have R:=zae hb3 R (by rw[zab];decide);have N0:=zaa R 0 _ (zay _ _ _);have N1:=zaa R 1 _ (zaz _ _ _);have B:=lh (bt B.out hb3);clear hI hGs hf1 hf2 hb3)|(go_at_call 118;(with_reducible refine (HT.out _ _).mono ?_);rintro _ _ ⟨rfl,rfl⟩)|(go_at_call 119;(with_reducible refine (HP.out _).mono ?_);rintro _ w4 ⟨rfl,hb⟩;have R:=zae hb R (by rw[zab];decide);have N0:=zaa R 0 _ (zay _ _ _);have N1:=zaa R 1 _ (zaz _ _ _);have B:=lh (bt B.out hb);clear hb)|(go_at_call 116;(refine (HG3.out _ (HL.out.below B.out)).mono ?_);rintro _ w3 ⟨⟨al2,gr2,rfl,hI,hGs,hf1,hf2⟩,hb3⟩;clear HG3;have hone:=zav yh.1 al2 gr2 (zaT hI) (zaU hGs);have R:=zae (bt hb3 (zag w3 (.cells (yh.1.vals al2 gr2) 32))) R (by rw[zab];decide);have N0:=zaa R 0 _ (zay _ _ _);have N1:=zaa R 1 _ (zaz _ _ _);have B:=lh (bt (bt B.out hb3) (zag w3 (.cells (yh.1.vals al2 gr2) 32)));clear hI hGs hf1 hf2 hb3)|(go_at_call 120;(refine (HLD.out _ (HL.out.below B.out)).mono ?_);rintro _ w5 ⟨rfl,hb⟩;have R:=zae hb R (by rw[zab];decide);have B:=lh (bt B.out hb);clear hb)|(go_at_call 121;(refine (HPU.out _ B.out).mono ?_);rintro _ w6 ⟨rfl,hb⟩;have B:=lh (bt (bt B.out hb) (zag w6 (.cells #[.int .i64 0,.int .i64 id,.string kz,.string rz,.string ⟨#[]⟩] 74)));clear hb)))
 all_goals go_ret2
 all_goals first
  | exact⟨_,rfl,zbi _,B.out⟩
  | exact⟨_,rfl,HCO.out _,B.out⟩
end
end Go.Proofs.YtkafnmbldpofdaaGreatDoor
