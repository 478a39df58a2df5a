/- Catalogs. -/
import Derived.Test.YtefcmdmfgdcpmaaGreatDoorLm
set_option maxRecDepth 8000
set_option maxHeartbeats 16000000
namespace Go.Proofs.YtefcmdmfgdcpmaaGreatDoor
def byL(D:List Rw)(id c:Int):List Fu:=((srt c 68 D).map fun x=>(zaS x.2.1 x.2.2).1).filter fun y=>decide (y.1.d0=id)
def byX(D:List Rw)(id:Int):List Fu:=(zfS (zga D)).flatMap fun c=>byL D id c
theorem zlj{D:List Rw}(h:Inv D){id c:Int}{y:Fu}:y∈byL D id c↔InD D c y∧y.1.kind=0∧y.1.d0=id:=by
 unfold byL;rw[List.mem_filter,List.mem_map];constructor
 · rintro ⟨⟨x,hx,rfl⟩,hd⟩;obtain⟨z,hz,hk,rfl⟩:=(znI h (k:=0) (by decide)).1 hx;have e2:zaS (zcA c z).2.1 (zcA c z).2.2=(z,0):=za3 z hz.1;rw[e2] at hd ⊢;exact⟨hz,hk,of_decide_eq_true hd⟩
 · rintro ⟨hy,hk,hd⟩;refine⟨⟨zcA c y,(znI h (k:=0) (by decide)).2 ⟨y,hy,hk,rfl⟩,?_⟩,decide_eq_true hd⟩
   have e2:zaS (zcA c y).2.1 (zcA c y).2.2=(y,0):=za3 y hy.1;rw[e2]
theorem zix{D:List Rw}(h:Inv D){id:Int}{y:Fu}:y∈byX D id↔∃ c,InD D c y∧y.1.kind=0∧y.1.d0=id:=by
 unfold byX;rw[List.mem_flatMap];constructor
 · rintro ⟨c,-,hc⟩;exact⟨c,(zlj h).1 hc⟩
 · rintro ⟨c,hy,hk,hd⟩;exact⟨c,(ze3 _ _).2 (h.ids hy),(zlj h).2 ⟨hy,hk,hd⟩⟩
def zem(D:List Rw):List Fu:=(D.map fun x=>(zaS x.2.1 x.2.2).1).filter fun y=>decide (y.1.kind=0)
theorem zgw{D:List Rw}(h:Inv D){y:Fu}:y∈zem D↔∃ c,InD D c y∧y.1.kind=0:=by
 unfold zem;rw[List.mem_filter,List.mem_map];constructor
 · rintro ⟨⟨x,hx,rfl⟩,hd⟩;obtain⟨z,hz,e⟩:=h.mem hx;have e2:zaS x.2.1 x.2.2=(z,0):=by rw[e];exact za3 z hz.1
   rw[e2] at hd ⊢;exact⟨x.1,hz,of_decide_eq_true hd⟩
 · rintro ⟨c,hy,hk⟩;refine⟨⟨zcA c y,hy.2,?_⟩,decide_eq_true hk⟩
   have e2:zaS (zcA c y).2.1 (zcA c y).2.2=(y,0):=za3 y hy.1;rw[e2]
def zgs(l:List Fu)(id:Int):Nat:=(l.filter fun y=>decide (y.1.d0=id)).length
theorem ztA{D:List Rw}(h:Inv D){x:Fu}(hx:x∈zem D):∃ y l,byX D x.1.d0=y::l∧y.1.d0=x.1.d0∧(zgs (zem D) x.1.d0=1->y=x):=by
 obtain⟨c,hc,hk⟩:=(zgw h).1 hx;have hm:x∈byX D x.1.d0:=(zix h).2 ⟨c,hc,hk,rfl⟩;rcases hb:byX D x.1.d0 with _|⟨y,l⟩
 · rw[hb] at hm;cases hm
 have hy:y∈byX D x.1.d0:=by rw[hb];exact List.mem_cons_self
 obtain⟨c2,hc2,hk2,hd2⟩:=(zix h).1 hy;refine⟨y,l,rfl,hd2,fun h1=>?_⟩
 unfold zgs at h1;obtain⟨z,hz⟩:=List.length_eq_one_iff.1 h1;have m1:x∈(zem D).filter fun y=>decide (y.1.d0=x.1.d0):=List.mem_filter.2 ⟨hx,decide_eq_true rfl⟩
 have m2:y∈(zem D).filter fun y=>decide (y.1.d0=x.1.d0):=List.mem_filter.2 ⟨(zgw h).2 ⟨c2,hc2,hk2⟩,decide_eq_true hd2⟩
 rw[hz] at m1 m2;rw[List.mem_singleton.1 m1,List.mem_singleton.1 m2]
theorem ztG{y:Fu}(h:okX y=true)(hk:y.1.kind=0):1<=y.1.d0:=by
 unfold okX at h;rw[if_pos hk] at h;unfold okD Vp.dat at h;simp only[Bool.and_eq_true] at h
 have h1:=h.1.2.2.2.1;unfold Vp.rng at h1;simp at h1
 omega
theorem zpK{y:Fu}(h:okX y=true)(hk:y.1.kind=0):1<=y.1.d0∧y.1.d0<=1099511627776:=by
 unfold okX at h;rw[if_pos hk] at h;unfold okD Vp.dat at h;simp only[Bool.and_eq_true] at h
 exact znd _ _ _ h.1.2.2.2.1 _ List.mem_cons_self
theorem zq4{D:List Rw}(h:Inv D):byX D 0=[]:=by
 rcases hb:byX D 0 with _|⟨y,l⟩
 · rfl
 have hy:y∈byX D 0:=by rw[hb];exact List.mem_cons_self
 obtain⟨c,hc,hk,hd⟩:=(zix h).1 hy;have:=ztG hc.1 hk;omega
section
open Go.RowKit
set_option linter.unusedSimpArgs false
def TeB(n bo:Nat)(t:TE):Prop:=(t.1.1.2.1≠[]->∀ y,t.al.ownBlock=some y->n<=y∧y≠bo)∧(t.1.1.2.2≠[]->∀ y,t.gr.ownBlock=some y->n<=y∧y≠bo)
structure ByJ (w0 wB:World) (p bf bi bo:Nat) (sv:Value) (l:List Rw) (fl cd id:Int) (c:Int) (ts:List TE) (W:World) (v:Value):Prop where
 sh:SHs w0 W p sv l fl cd c
 g:wB.grownBy W (some p)
 cf:W.cell? ⟨bf,0,none⟩=some (.func (.func 42) #[] #[.pointer (some ⟨bi,0,none⟩),.pointer (some ⟨bo,0,none⟩)])
 ci:W.cell? ⟨bi,0,none⟩=some (.int .i64 id)
 co:W.cell? ⟨bo,0,none⟩=some v
 fo:W.frozen? ⟨bo,0,none⟩=false
 ow:TJE TE.en 33 40 wB.heap.size W v ts
 tb:∀ t∈ts,TeB wB.heap.size bo t
 n1:some bo≠v.ownBlock
 n2:some bf≠v.ownBlock
 n3:some bi≠v.ownBlock
 lt:p<wB.heap.size
 zo:wB.heap.size<=bo
 zf:wB.heap.size<=bf
 zi:p≠bi
 ne:bo≠bf
 ni:bo≠bi
 z0:w0.heap.size<=wB.heap.size
 so:∀ b,sv.ownBlock=some b->b<wB.heap.size
theorem ByJ.keep{w0 wB W W':World}{p bf bi bo:Nat}{sv:Value}{l:List Rw}{fl cd id c:Int}{ts:List TE}{v:Value}(h:ByJ w0 wB p bf bi bo sv l fl cd id c ts W v)(hb:Below W.heap.size W W'):ByJ w0 wB p bf bi bo sv l fl cd id c ts W' v :=
 ⟨h.sh.below hb,zay h.g (hb.mono h.g.size),(hb.cell (p:=⟨bf,0,none⟩) (zaR h.cf)).trans h.cf,(hb.cell (p:=⟨bi,0,none⟩) (zaR h.ci)).trans h.ci,(hb.cell (p:=⟨bo,0,none⟩) (zaR h.co)).trans h.co,(hb.frozen (p:=⟨bo,0,none⟩) (zaR h.co)).trans h.fo,h.ow.below hb,h.tb,h.n1,h.n2,h.n3,h.lt,h.zo,h.zf,h.zi,h.ne,h.ni,h.z0,h.so⟩
theorem ByJ.tick{w0 wB W W':World}{p bf bi bo:Nat}{sv:Value}{l:List Rw}{fl cd id c c':Int}{ts:List TE}{v:Value}(h:ByJ w0 wB p bf bi bo sv l fl cd id c ts W v)(hg:W.grownBy W' (some p))(hs:SHs w0 W' p sv l fl cd c'):ByJ w0 wB p bf bi bo sv l fl cd id c' ts W' v:=by
 have e:∀ k,k≠p->k<W.heap.size->W'.heap[k]?=W.heap[k]?:=fun k h1 h2=>hg.block k h2 (fun e=>h1 (Option.some.inj e))
 have lt:=h.lt;have zo:=h.zo;have zf:=h.zf;have zi:=h.zi;refine⟨hs,zat h.g hg,(World.cell?_of_block (a:=⟨bf,0,none⟩) (e bf (by omega) (zaR h.cf))).trans h.cf,(World.cell?_of_block (a:=⟨bi,0,none⟩) (e bi (by omega) (zaR h.ci))).trans h.ci,(World.cell?_of_block (a:=⟨bo,0,none⟩) (e bo (by omega) (zaR h.co))).trans h.co,(World.frozen?_of_block (a:=⟨bo,0,none⟩) (e bo (by omega) (zaR h.co))).trans h.fo,h.ow.keep hg.size (fun y hy hq=>e y ?_ hy),h.tb,h.n1,h.n2,h.n3,h.lt,h.zo,h.zf,h.zi,h.ne,h.ni,h.z0,h.so⟩
 rcases hq with hq|⟨t,ht,⟨h0,hq⟩|⟨h0,hq⟩⟩
 · omega
 · have:=((h.tb t ht).1 h0 y hq).1;omega
 · have:=((h.tb t ht).2 h0 y hq).1;omega
theorem ByJ.app{w0 wB W W1 W2:World}{p bf bi bo n:Nat}{sv:Value}{l:List Rw}{fl cd id c:Int}{ts:List TE}{v:Value}{a:Option Addr}{cc:Nat}{t:TE}(h:ByJ w0 wB p bf bi bo sv l fl cd id c ts W v)(hb:Below W.heap.size W W1)(ho:W2.ownsRow wB.heap.size 40 33 (.slice a n cc) (ts.length+1) (tcs TE.en ts++t.en.toList))(hg:W1.grownBy W2 v.ownBlock)(hat:(Value.slice a n cc).ownBlock=v.ownBlock∨(Value.slice a n cc).ownBlock=some W1.heap.size)(ht:RdT W1 t)(hf:FarT v.ownBlock t)(hT:TeB wB.heap.size bo t) :
  ByJ w0 wB p bf bi bo sv l fl cd id c (ts++[t]) (W2.setCell ⟨bo,0,none⟩ (.slice a n cc)) (.slice a n cc):=by
 have h1:=h.keep hb;have lo:=zaR h1.co;have lf:=zaR h1.cf;have li:=zaR h1.ci;have o1:∀ q,v.ownBlock=some q->wB.heap.size<=q∧q<W1.heap.size:=fun q hq=>zam h1.ow.own q hq
 have B2:Below wB.heap.size W1 W2:=za2 hg (fun q hq=>(o1 q hq).1) h1.g.size;have hs9:=zaH W2 ⟨bo,0,none⟩ (.slice a n cc);have B9:Below wB.heap.size W2 (W2.setCell ⟨bo,0,none⟩ (.slice a n cc)):=zaU hs9 h.zo (Nat.le_trans h1.g.size B2.size);have co2:W2.cell? ⟨bo,0,none⟩=some v:=(World.cell?_of_block (a:=⟨bo,0,none⟩) (hg.block bo lo h.n1)).trans h1.co;have cf2:=(World.cell?_of_block (a:=⟨bf,0,none⟩) (hg.block bf lf h.n2)).trans h1.cf;have ci2:=(World.cell?_of_block (a:=⟨bi,0,none⟩) (hg.block bi li h.n3)).trans h1.ci;have fo2:W2.frozen? ⟨bo,0,none⟩=false:=(World.frozen?_of_block (a:=⟨bo,0,none⟩) (hg.block bo lo h.n1)).trans h1.fo
 have nn:∀ k,k<W1.heap.size->some k≠v.ownBlock->some k≠(Value.slice a n cc).ownBlock:=fun k hk hne=>by
  rcases hat with e|e
  · rw[e];exact hne
  · rw[e];intro q;have:=Option.some.inj q;omega
 have n1':=nn bo lo h.n1;have n2':=nn bf lf h.n2;have n3':=nn bi li h.n3
 have tb':∀ u∈ts++[t],TeB wB.heap.size bo u:=fun u hu=>by
  rcases List.mem_append.1 hu with hu|hu
  · exact h.tb u hu
  · rw[List.mem_singleton.1 hu];exact hT
 have ow2:=h1.ow.snoc ho hg hat ht hf;refine⟨h1.sh.belowB (B2.trans B9) h.lt (fun _ b hb=>h.so b hb),zay h1.g (B2.trans B9),?_,?_,World.cell?_setCell_same' _ _ _ (by rw[co2];rfl),by rw[World.frozen?_setCell];exact fo2,⟨zaD ow2.own (fun x hx=>hs9.block x (zam ow2.own x hx).2 (fun e=>n1' (by rw[hx];exact e.symm))),fun u hu=>⟨(ow2.rd u hu).1.keep (ob:=some bo) ⟨fun h0 y hy e=>((tb' u hu).1 h0 y hy).2 (Option.some.inj e).symm,fun h0 y hy e=>((tb' u hu).2 h0 y hy).2 (Option.some.inj e).symm⟩ hs9.size (fun y hy hne=>hs9.block y hy (fun e=>hne e.symm)),(ow2.rd u hu).2⟩⟩,tb',n1',n2',n3',h.lt,h.zo,h.zf,h.zi,h.ne,h.ni,h.z0,h.so⟩
 · rw[World.cell?_setCell_other _ _ _ _ (by intro e;exact h.ne (congrArg Addr.block e))];exact cf2
 · rw[World.cell?_setCell_other _ _ _ _ (by intro e;exact h.ni (congrArg Addr.block e))];exact ci2
attribute [local go_sem ↓] zaV zaW zaz za1
attribute [local go_sem] zav zap zal zaI zaJ zae zaq zai zaw zao zas zan zaa zaj zaf zaA zax zak zag zar zaG zaC zaE
theorem ztB(x:En)(al gr:Value)(p bf bi bo:Nat)(sv:Value)(l:List Rw)(fl cd id c:Int)(ts:List TE)(v:Value)(w0 wB W:World)(_hone:zaM (x.vals al gr).toList=true)(h0:x.d0≠id)(H:ByJ w0 wB p bf bi bo sv l fl cd id c ts W v) :
  Calls Tryz.prog 42 #[.agg (x.vals al gr),.pointer (some ⟨bi,0,none⟩),.pointer (some ⟨bo,0,none⟩)] W fun r w'=>r=.returned (.tuple #[])∧ByJ w0 wB p bf bi bo sv l fl cd id c ts w' v:=by
 have b1:=zab W (.cells (x.vals al gr) 40);have ci1:=(H.keep b1).ci;have n2:=zah (zai W (x.vals al gr) 40 (0,0)) 2 _ (zek _ _ _);have h5:(x.d0==id)=false:=beq_eq_false_iff_ne.2 h0;have HH:=lh H;have HB:=lh b1;clear H b1 h0;go_enter Tryz.func42,Tryz.ntmps42
 go_wp2_with fail
 go_end0
 exact⟨rfl,HH.out.keep HB.out⟩
theorem ztz(t:TE)(p bf bi bo:Nat)(sv:Value)(l:List Rw)(fl cd id c:Int)(ts:List TE)(v:Value)(w0 wB W:World)(h0:t.1.1.1.d0=id)(H:ByJ w0 wB p bf bi bo sv l fl cd id c ts W v)(hs:ts.length<=1000)(ht:RdT W t)(hf:FarT v.ownBlock t)(hT:TeB wB.heap.size bo t) :
  Calls Tryz.prog 42 #[.agg (t.1.1.1.vals t.al t.gr),.pointer (some ⟨bi,0,none⟩),.pointer (some ⟨bo,0,none⟩)] W fun r w'=>r=.returned (.tuple #[])∧∃ v',ByJ w0 wB p bf bi bo sv l fl cd id c (ts++[t]) w' v':=by
 obtain⟨va,vc,rfl⟩:=za6 H.ow.own;have hone:=t.one;have b1:=zab W (.cells t.en 40);have b2:=zab (W.alloc (.cells t.en 40)) (.cells t.en 40);have H2:=(H.keep b1).keep b2;have co1:=(H.keep b1).co;have ci1:=(H.keep b1).ci;have n2:=zah (zai W (t.1.1.1.vals t.al t.gr) 40 (0,0)) 2 _ (zek _ _ _);have r2:=zai W (t.1.1.1.vals t.al t.gr) 40 (0,0);have h5:(t.1.1.1.d0==id)=true:=beq_iff_eq.2 h0;have ow2:=H2.ow.own;have zz:=H.g.size;have HH:=lh H;have HB:=lh (bt b1 b2);have HT:=lh hT;have HR:=lh ((ht.below b1).below b2);have HF:=lh hf;clear H H2 b1 b2 h0 ht hf hT;unfold TE.en at hone ow2 HB HR ci1 co1;go_enter Tryz.func42,Tryz.ntmps42
 go_wp2_with (at_builtin;refine zca _ rfl (.tmp 9) (.tmp 11) 50 40 _ _ 33 336 rfl Tryz.underlying50 ztS zlE zlF zlG (zaa _ _ _) (by decide) wB.heap.size (.slice va ts.length vc) (.slice (some ⟨W.heap.size+1,0,none⟩) 1 1) ts.length 1 (tcs TE.en ts) (t.1.1.1.vals t.al t.gr).toList rfl ow2 rfl (cs_one (by simp) (zaa _ _ _)) (all1 hone) (by unfold maxLen;omega) (by omega) (by simp;omega) ?_;intro a8 c8 w8 hown hg8 hat;have HO:=lh hown;have HG8:=lh hg8;have HAT:=lh hat;have co8:=(World.cell?_of_block (a:=⟨bo,0,none⟩) (hg8.block bo (zaR ((HH.out.keep HB.out).co)) HH.out.n1)).trans ((HH.out.keep HB.out).co);have fo8:=(World.frozen?_of_block (a:=⟨bo,0,none⟩) (hg8.block bo (zaR ((HH.out.keep HB.out).co)) HH.out.n1)).trans ((HH.out.keep HB.out).fo);clear hown hg8 hat)
 go_end0
 exact⟨rfl,_,HH.out.app HB.out HO.out HG8.out HAT.out HR.out HF.out HT.out⟩
def byT(id:Int)(s:List Fu)(y:Fu):List Fu:=if y.1.d0=id then s++[y] else s
theorem zq0(t:TE)(p bf bi bo:Nat)(sv:Value)(l:List Rw)(fl cd id c:Int)(ts:List TE)(v:Value)(w0 wB W:World)(H:ByJ w0 wB p bf bi bo sv l fl cd id c ts W v)(hs:ts.length<=1000)(ht:RdT W t)(hf:FarT v.ownBlock t)(hT:TeB wB.heap.size bo t) :
  Calls Tryz.prog 42 #[.agg (t.1.1.1.vals t.al t.gr),.pointer (some ⟨bi,0,none⟩),.pointer (some ⟨bo,0,none⟩)] W fun r w'=>r=.returned (.tuple #[])∧∃ v' ts',ByJ w0 wB p bf bi bo sv l fl cd id c ts' w' v'∧ts'.map (fun t=>t.1.1)=byT id (ts.map fun t=>t.1.1) t.1.1:=by
 by_cases h0:t.1.1.1.d0=id
 · refine (ztz t p bf bi bo sv l fl cd id c ts v w0 wB W h0 H hs ht hf hT).mono ?_
   rintro r w' ⟨rfl,v',h⟩;exact⟨rfl,v',_,h,by unfold byT;rw[if_pos h0,List.map_append];rfl⟩
 · refine (ztB t.1.1.1 t.al t.gr p bf bi bo sv l fl cd id c ts v w0 wB W t.one h0 H).mono ?_
   rintro r w' ⟨rfl,h⟩;exact⟨rfl,v,ts,h,by unfold byT;rw[if_neg h0]⟩
theorem zq3(k r:ByteArray)(y:Fu)(p bf bi bo:Nat)(sv:Value)(l:List Rw)(fl cd id c:Int)(ts:List TE)(v:Value)(w0 wB W:World)(hm:MaxL W)(hT:Tab W)(hd:zc6 (Ds.bl r)=some y)(hk:zfr y=Ds.bl k)(H:ByJ w0 wB p bf bi bo sv l fl cd id c ts W v)(hs:ts.length<=1000) :
  Calls Tryz.prog 69 #[.string k,.string r,.pointer (some ⟨bf,0,none⟩)] W fun e w'=>e=.returned (.int .i64 0)∧∃ v' ts',ByJ w0 wB p bf bi bo sv l fl cd id c ts' w' v'∧ts'.map (fun t=>t.1.1)=byT id (ts.map fun t=>t.1.1) y:=by
 have hky:=ziQ y k;rw[decide_eq_true hk] at hky;have HD:=lh (zdn r y W hm hT hd);have HK:=lh (fun W=>zd9 y.1.kind y.1.name W);have HH:=lh H;have lo:=zaR H.co;have zz:=H.g.size;have lv:∀ q,v.ownBlock=some q->q<W.heap.size:=fun q hq=>(zam H.ow.own q hq).2
 clear hk hd H hm hT;generalize zaT y.1.kind y.1.name=kz at hky HK;go_enter Tryz.func69,Tryz.ntmps69
 go_wp2_with (first
  | (go_at_call 12;(refine HD.out.mono ?_);rintro _ w3 ⟨a1,c1,a2,c2,rfl,hI,hGs,hb3,hf1,hf2⟩;have hone:=zau y.1 (.slice a1 y.2.1.length c1) (.slice a2 y.2.2.length c2) rfl rfl;have R0:=zai w3 (y.1.vals (.slice a1 y.2.1.length c1) (.slice a2 y.2.2.length c2)) 40 (0,0);have B3:=lh (bt hb3 (zab w3 (.cells (y.1.vals (.slice a1 y.2.1.length c1) (.slice a2 y.2.2.length c2)) 40)));have N0:=zah R0 0 _ (zaC _ _ _);have N1:=zah R0 1 _ (zaE _ _ _);have RT:=lh (show RdT (w3.alloc (.cells (y.1.vals (.slice a1 y.2.1.length c1) (.slice a2 y.2.2.length c2)) 40)) ((y,0),(a1,c1),(a2,c2)) from ⟨hI.below (zab w3 _),hGs.below (zab w3 _)⟩);have F1:=lh (show FarT v.ownBlock ((y,0),(a1,c1),(a2,c2)) from ⟨fun _ q hq e=>by have:=hf1 q hq;have:=lv q e;omega,fun _ q hq e=>by have:=hf2 q hq;have:=lv q e;omega⟩);have T1:=lh (show TeB wB.heap.size bo ((y,0),(a1,c1),(a2,c2)) from ⟨fun _ q hq=>by have:=hf1 q hq;omega,fun _ q hq=>by have:=hf2 q hq;omega⟩);clear hI hGs hb3 hf1 hf2)
  | (go_at_call 70;(with_reducible refine (HK.out _).mono ?_);rintro _ w4 ⟨rfl,hb4⟩;have R4:=zaB hb4 R0 (by rw[zaa];decide);have HH4:=lh (HH.out.keep (bt B3.out hb4));have cf4:=HH4.out.cf;have RT4:=lh (RT.out.below hb4);clear hb4)
  | (go_at_call 42;(refine (zq0 ((y,0),(a1,c1),(a2,c2)) p bf bi bo sv l fl cd id c ts v w0 wB w4 HH4.out hs RT4.out F1.out T1.out).mono ?_);rintro _ w5 ⟨rfl,hj⟩;have HJ5:=lh hj;clear hj))
 go_ret
 exact⟨rfl,HJ5.out⟩
def byS(id:Int)(s:List Fu)(k r:ByteArray):List Fu:=byT id s (zaS k r).1
def ByK(w0 wB:World)(p bf bi bo:Nat)(sv:Value)(l:List Rw)(fl cd id ca:Int)(m n:Nat)(c:Int)(s:List Fu)(W:World):Prop:=(∃ v ts,ByJ w0 wB p bf bi bo sv l fl cd id c ts W v∧ts.map (fun t=>t.1.1)=s)∧(s.length:Int)+ca<=c+n+m
theorem zvn(w0 wB:World)(p bf bi bo:Nat)(sv:Value)(l:List Rw)(fl cd id ca:Int)(m:Nat):EaJ w0 p sv l fl cd (ByK w0 wB p bf bi bo sv l fl cd id ca m 1) (ByK w0 wB p bf bi bo sv l fl cd id ca m 0) :=
 ⟨fun _ _ _ ⟨⟨_,_,h,_⟩,_⟩=>h.sh,fun _ _ _ _ ⟨⟨v,ts,h,e⟩,q⟩ hg hs=>⟨⟨v,ts,h.tick hg hs,e⟩,by omega⟩,fun _ _ _ ⟨h,q⟩=>⟨h,by omega⟩,fun _ _ _ _ ⟨⟨v,ts,h,e⟩,q⟩ hb=>⟨⟨v,ts,h.keep hb,e⟩,q⟩⟩
theorem zlk(id:Int)(s:List Fu)(y:Fu):(byT id s y).length<=s.length+1:=by
 unfold byT;split
 · rw[List.length_append,List.length_singleton];exact Nat.le_refl _
 · omega
theorem zkt(p bi bo:Nat)(sv:Value)(l:List Rw)(fl cd ca cid id:Int)(ts:List TE)(v:Value)(w0 wB w:World)(hm:MaxL w0)(hT:Tab w0)(hl:l.length+ts.length<=900)(hkz:∀ x∈l,x.2.1.size<=1000)(hc0:0<=ca)(hc1:ca<=90000)(hcd:cd≠0∧cd≠6∨fl<=0)(hr:RdL l cid 68)(H:ByJ w0 wB p w.heap.size bi bo sv l fl cd id ca ts (w.alloc (.cells #[.func (.func 42) #[] #[.pointer (some ⟨bi,0,none⟩),.pointer (some ⟨bo,0,none⟩)]] 73)) v) :
  Calls Tryz.prog 25 #[.iface 31 (.pointer (some ⟨p,0,none⟩)),.int .i64 cid,.int .u8 68,.func (.func 42) #[] #[.pointer (some ⟨bi,0,none⟩),.pointer (some ⟨bo,0,none⟩)]] w fun r w' =>
   ∃ s' c code,zbt l cid fl cd 68 (fun s k r=>(.ok (byS id s k r):Except Int (List Fu))) (l.length+1) ca [(68:UInt8) - 1,255] (ts.map fun t=>t.1.1)=(.ok (s',code),c)∧r=.returned (.int .i64 code)∧∃ v' ts',ByJ w0 wB p w.heap.size bi bo sv l fl cd id c ts' w' v'∧ts'.map (fun t=>t.1.1)=s':=by
 have HA:=lh (zpS (byS id) (ByK w0 wB p w.heap.size bi bo sv l fl cd id ca ts.length 1) (ByK w0 wB p w.heap.size bi bo sv l fl cd id ca ts.length 0) (ts.map fun t=>t.1.1) p w.heap.size sv l fl cd ca cid 68 w0 _ (by decide) (zvn w0 wB p w.heap.size bi bo sv l fl cd id ca ts.length) ⟨⟨v,ts,H,rfl⟩,by rw[List.length_map];omega⟩ (by omega) hkz hc0 hc1 hcd (fun c s k r W hK hcb hmem hL=>by
  obtain⟨⟨v1,t1,h1,e1⟩,hq⟩:=hK;obtain⟨y,hd,hk⟩:=hr k r hmem hL;have e2:t1.length=s.length:=by rw[<-e1,List.length_map]
  refine (zq3 k r y p w.heap.size bi bo sv l fl cd id c t1 v1 w0 wB W (hm.below h1.sh.b) (hT.below h1.sh.b) hd hk h1 (by omega)).mono ?_
  rintro e w' ⟨he,v2,t2,h2,e3⟩;refine⟨he,?_⟩
  unfold byS;rw[zkg hd hk];have:=zlk id s (y,(0:Int)).1;exact⟨⟨v2,t2,h2,by rw[e3,e1]⟩,by omega⟩))
 clear H hr hm hT;go_enter Tryz.func25,Tryz.ntmps25
 go_wp2_with (go_at_call 68;(refine HA.out.mono ?_);rintro _ w2 ⟨s',c,code,hrec,rfl,hj⟩;have HR:=lh hrec;have HJ:=lh hj;clear hrec hj)
 go_ret
 obtain⟨hj,-⟩:=HJ.out;exact⟨s',c,code,HR.out,rfl,hj⟩
structure ByI (w0 wB:World) (p bi bo:Nat) (sv:Value) (l:List Rw) (fl cd id:Int) (c:Int) (ts:List TE) (W:World) (v:Value):Prop where
 sh:SHs w0 W p sv l fl cd c
 g:wB.grownBy W (some p)
 ci:W.cell? ⟨bi,0,none⟩=some (.int .i64 id)
 co:W.cell? ⟨bo,0,none⟩=some v
 fo:W.frozen? ⟨bo,0,none⟩=false
 ow:TJE TE.en 33 40 wB.heap.size W v ts
 tb:∀ t∈ts,TeB wB.heap.size bo t
 n1:some bo≠v.ownBlock
 n3:some bi≠v.ownBlock
 lt:p<wB.heap.size
 zo:wB.heap.size<=bo
 zi:p≠bi
 ni:bo≠bi
 z0:w0.heap.size<=wB.heap.size
 so:∀ b,sv.ownBlock=some b->b<wB.heap.size
theorem ByJ.toI{w0 wB W:World}{p bf bi bo:Nat}{sv:Value}{l:List Rw}{fl cd id c:Int}{ts:List TE}{v:Value}(h:ByJ w0 wB p bf bi bo sv l fl cd id c ts W v):ByI w0 wB p bi bo sv l fl cd id c ts W v :=
 ⟨h.sh,h.g,h.ci,h.co,h.fo,h.ow,h.tb,h.n1,h.n3,h.lt,h.zo,h.zi,h.ni,h.z0,h.so⟩
theorem ByI.box{w0 wB W:World}{p bi bo:Nat}{sv:Value}{l:List Rw}{fl cd id c:Int}{ts:List TE}{v:Value}(h:ByI w0 wB p bi bo sv l fl cd id c ts W v) :
  ByJ w0 wB p W.heap.size bi bo sv l fl cd id c ts (W.alloc (.cells #[.func (.func 42) #[] #[.pointer (some ⟨bi,0,none⟩),.pointer (some ⟨bo,0,none⟩)]] 73)) v:=by
 have hb:=zab W (.cells #[.func (.func 42) #[] #[.pointer (some ⟨bi,0,none⟩),.pointer (some ⟨bo,0,none⟩)]] 73);have lo:bo<W.heap.size:=zaR h.co;exact⟨h.sh.below hb,zay h.g (hb.mono h.g.size),by simp [go_sem],(hb.cell (p:=⟨bi,0,none⟩) (zaR h.ci)).trans h.ci,(hb.cell (p:=⟨bo,0,none⟩) (zaR h.co)).trans h.co,(hb.frozen (p:=⟨bo,0,none⟩) (zaR h.co)).trans h.fo,h.ow.below hb,h.tb,h.n1,fun e=>by have:=(zam h.ow.own _ e.symm).2;omega,h.n3,h.lt,h.zo,h.g.size,h.zi,by omega,h.ni,h.z0,h.so⟩
theorem ByI.first{w0 wB W:World}{p bi bo:Nat}{sv:Value}{l:List Rw}{fl cd id c:Int}{t:TE}{ts:List TE}{v:Value}(h:ByI w0 wB p bi bo sv l fl cd id c (t::ts) W v):∃ g cc,v=.slice (some ⟨g,0,none⟩) (ts.length+1) cc∧g<W.heap.size∧mid W g 0=t.1.1.1.vals t.al t.gr∧IS W t.al t.1.1.2.1∧GS W t.gr t.1.1.2.2:=by
 obtain⟨a,cc,e,hc⟩:=zqf TE.en_size h.ow.own;obtain⟨g,rfl,-,hlt,hcell⟩:=hc (by simp);obtain⟨⟨q1,q2⟩,-⟩:=h.ow.rd t List.mem_cons_self;refine⟨g,cc,e,hlt,zjY (zaa _ _ _) (fun i u hu=>?_),q1,q2⟩
 have:=hcell 0 (by simp) i u hu;rwa [Nat.zero_mul] at this
theorem zne(id:Int):∀ (S:List Rw) (s:List Fu),zfZ (fun s k r=>(.ok (byS id s k r):Except Int (List Fu))) S s=.ok (s++(S.map fun x=>(zaS x.2.1 x.2.2).1).filter fun y=>decide (y.1.d0=id))
 | [],s=>by rw[zfZ];simp
 | x::S,s=>by
   rw[zfZ];dsimp only;rw[zne id S,byS,byT,List.map_cons,List.filter_cons];by_cases h:(zaS x.2.1 x.2.2).1.1.d0=id
   · rw[if_pos h,if_pos (decide_eq_true h),List.append_assoc];rfl
   · rw[if_neg h,if_neg (by rw[decide_eq_true_eq];exact h)]
theorem ztC{D:List Rw}(h:Inv D)(id c ca:Int)(hc:0<=ca)(s:List Fu):(zbt D c 0 0 68 (fun s k r=>(.ok (byS id s k r):Except Int (List Fu))) (D.length+1) ca [(68:UInt8) - 1,255] s).1=.ok (s++byL D id c,0):=by
 rw[zdu (step:=fun s k r=>(.ok (byS id s k r):Except Int (List Fu))) D c 0 0 ca 68 (by decide) (Int.le_refl _) h.dst hc s,zne];rfl
end
section
open Go.RowKit
/-! all catalogs -/
def upQ{σ β:Type}(z:β)(f:σ->β):Except Int (σ × Int) × Int->(β × Int) × Int
 | (.ok (s,code),c)=>(if code≠0 then (z,code) else (f s,0),c)
 | (.error e,c)=>((z,e),c)
theorem zu7{σ β:Type}{z:β}{f:σ->β}{fl cd:Int}{g g0:Except Int (σ × Int) × Int}(hcd:cd≠0)(q:(g.2<fl∧g.1=g0.1)∨(g.2=fl∧∃ s',g.1=.ok (s',cd))):Fx z fl cd (upQ z f g) (upQ z f g0).1:=by
 obtain⟨a,c⟩:=g;obtain⟨a0,c00⟩:=g0;rcases q with ⟨h1,h2⟩|⟨h1,s',h2⟩
 · dsimp only at h1 h2;subst h2
   cases a with
   | error e=>exact .inl ⟨h1,rfl⟩
   | ok p=>exact .inl ⟨h1,rfl⟩
 · dsimp only at h1 h2;subst h2;unfold upQ;dsimp only;rw[if_pos hcd];exact .inr ⟨h1,rfl⟩
theorem zqH{σ β:Type}(z:β)(f:σ->β)(g:Except Int (σ × Int) × Int):(upQ z f g).2=g.2:=by
 obtain⟨a,c⟩:=g;cases a <;> rfl
abbrev okS{σ:Type}(step:σ->ByteArray->ByteArray->σ):σ->ByteArray->ByteArray->Except Int σ:=fun s k r=>.ok (step s k r)
def zcm(l:List Rw)(fl cd ca:Int):(List Int × Int) × Int:=upQ [] zfS (zbt l 1 fl cd 67 (okS ctS) (l.length+1) ca [(67:UInt8) - 1,255] [1])
theorem zfc(l:List Rw)(fl cd ca:Int):ca<=(zcm l fl cd ca).2∧(zcm l fl cd ca).2<=ca+l.length+1:=by
 unfold zcm;rw[zqH];have:=zc2 (step:=okS ctS) (l:=l) (id:=1) (fl:=fl) (cd:=cd) (L:=67) (l.length+1) ca [(67:UInt8) - 1,255] [1];omega
theorem zq9{l:List Rw}{fl cd ca c0:Int}(hcd:cd≠0)(h:ca<fl)(hc:0<=c0):Fx [] fl cd (zcm l fl cd ca) (zcm l 0 0 c0).1:=zu7 hcd (zg4 _ _ _ _ _ h hc)
def byE(l:List Rw)(fl cd id cat ca:Int)(s:List Fu):(List Fu × Int) × Int:=upQ [] (fun s=>s) (zbt l cat fl cd 68 (okS (byS id)) (l.length+1) ca [(68:UInt8) - 1,255] s)
theorem zpF(l:List Rw)(fl cd id cat ca:Int)(s:List Fu):ca<=(byE l fl cd id cat ca s).2∧(byE l fl cd id cat ca s).2<=ca+l.length+1:=by
 unfold byE;rw[zqH];have:=zc2 (step:=okS (byS id)) (l:=l) (id:=cat) (fl:=fl) (cd:=cd) (L:=68) (l.length+1) ca [(68:UInt8) - 1,255] s;omega
def byW(l:List Rw)(fl cd id:Int):List Int->Int->List Fu->(List Fu × Int) × Int
 | [],ca,s=>((s,0),ca)
 | c::cs,ca,s=>if (byE l fl cd id c ca s).1.2≠0 then (([],(byE l fl cd id c ca s).1.2),(byE l fl cd id c ca s).2) else byW l fl cd id cs (byE l fl cd id c ca s).2 (byE l fl cd id c ca s).1.1
def fstC:List Fu->Fu × Int
 | []=>(zF0,6)
 | y::_=>(y,0)
def byF(l:List Rw)(fl cd ca id:Int):(Fu × Int) × Int :=
 if (zcm l fl cd ca).1.2≠0 then ((zF0,(zcm l fl cd ca).1.2),(zcm l fl cd ca).2)
 else if (byW l fl cd id (zcm l fl cd ca).1.1 (zcm l fl cd ca).2 []).1.2≠0 then ((zF0,(byW l fl cd id (zcm l fl cd ca).1.1 (zcm l fl cd ca).2 []).1.2),(byW l fl cd id (zcm l fl cd ca).1.1 (zcm l fl cd ca).2 []).2)
 else (fstC (byW l fl cd id (zcm l fl cd ca).1.1 (zcm l fl cd ca).2 []).1.1,(byW l fl cd id (zcm l fl cd ca).1.1 (zcm l fl cd ca).2 []).2)
def zhT(l:List Rw)(fl cd:Int)(pt:ByteArray):List Int->Int->List Fu->(List Fu × Int) × Int
 | [],ca,s=>((s,0),ca)
 | c::cs,ca,s=>if (zfT l fl cd ca c 9223372036854775807 pt).1.2≠0 then (([],(zfT l fl cd ca c 9223372036854775807 pt).1.2),(zfT l fl cd ca c 9223372036854775807 pt).2) else zhT l fl cd pt cs (zfT l fl cd ca c 9223372036854775807 pt).2 (s++(zfT l fl cd ca c 9223372036854775807 pt).1.1)
theorem zmu(l:List Rw)(fl cd id:Int)(pt:ByteArray):∀ (Ls:List UInt8) (ca:Int) (s:List Fu),ca<=(zey l fl cd id pt Ls ca s).2∧(zey l fl cd id pt Ls ca s).2<=ca+Ls.length*(l.length+1)
 | [],ca,s=>by unfold zey;simp
 | L::Ls,ca,s=>by
   have q:=zgP l fl cd ca id pt L s;unfold zey
   have e:((L::Ls).length:Int)*(l.length+1)=Ls.length*(l.length+1)+(l.length+1):=by
    rw[List.length_cons,Int.natCast_add,Int.add_mul,Int.natCast_one,Int.one_mul]
   have p:(0:Int)<=Ls.length*(l.length+1):=Int.mul_nonneg (by omega) (by omega);split
   · dsimp only;rw[e];omega
   · have q2:=zmu l fl cd id pt Ls (zez l fl cd id pt L ca s).2 (zez l fl cd id pt L ca s).1.1;rw[e];omega
theorem ziS(l:List Rw)(fl cd ca id most:Int)(pt:ByteArray):ca<=(zfT l fl cd ca id most pt).2∧(zfT l fl cd ca id most pt).2<=ca+3*(l.length+1):=by
 have q:=zmu l fl cd id pt [68,71,65] ca [];have e:(([68,71,65]:List UInt8).length:Int)=3:=rfl;rw[e] at q;unfold zfT;split
 · dsimp only;omega
 split
 · exact q
 split
 · exact q
 · exact q
theorem zmP{l:List Rw}{fl cd:Int}{pt:ByteArray}(hcd:cd≠0):∀ (cs:List Int) (ca c0:Int) (s:List Fu),ca<fl->0<=c0->Fx [] fl cd (zhT l fl cd pt cs ca s) (zhT l 0 0 pt cs c0 s).1
 | [],ca,c0,s,h,_=>.inl ⟨h,rfl⟩
 | c::cs,ca,c0,s,h,hc=>by
   have q:=ziS l 0 0 c0 c 9223372036854775807 pt;unfold zhT;rcases zr3 (l:=l) (id:=c) (most:=9223372036854775807) (pt:=pt) hcd h hc with ⟨h1,h2⟩|⟨h1,h2⟩
   rotate_left
   · rw[h2,if_pos hcd];exact .inr ⟨h1,rfl⟩
   rw[h2];by_cases h3:(zfT l 0 0 c0 c 9223372036854775807 pt).1.2≠0
   · rw[if_pos h3,if_pos h3];exact .inl ⟨h1,rfl⟩
   rw[if_neg h3,if_neg h3];exact zmP hcd cs _ _ _ h1 (by omega)
def zmM(l:List Rw)(fl cd ca most:Int)(pt:ByteArray):(List Fu × Int) × Int :=
 if Ds.pat (Ds.bl pt)=false∨most<0 then (([],1),ca)
 else if (zcm l fl cd ca).1.2≠0 then (([],(zcm l fl cd ca).1.2),(zcm l fl cd ca).2)
 else if (zhT l fl cd pt (zcm l fl cd ca).1.1 (zcm l fl cd ca).2 []).1.2≠0 then (([],(zhT l fl cd pt (zcm l fl cd ca).1.1 (zcm l fl cd ca).2 []).1.2),(zhT l fl cd pt (zcm l fl cd ca).1.1 (zcm l fl cd ca).2 []).2)
 else if most<((zhT l fl cd pt (zcm l fl cd ca).1.1 (zcm l fl cd ca).2 []).1.1.length:Int) then (([],8),(zhT l fl cd pt (zcm l fl cd ca).1.1 (zcm l fl cd ca).2 []).2)
 else zhT l fl cd pt (zcm l fl cd ca).1.1 (zcm l fl cd ca).2 []
theorem zsi{l:List Rw}{fl cd ca c0 most:Int}{pt:ByteArray}(hcd:cd≠0)(h:ca<fl)(hc:0<=c0):Fx [] fl cd (zmM l fl cd ca most pt) (zmM l 0 0 c0 most pt).1:=by
 unfold zmM;by_cases hk:Ds.pat (Ds.bl pt)=false∨most<0
 · rw[if_pos hk,if_pos hk];exact .inl ⟨h,rfl⟩
 rw[if_neg hk,if_neg hk];have q:=zfc l 0 0 c0;rcases zq9 (l:=l) hcd h hc with ⟨h1,h2⟩|⟨h1,h2⟩
 rotate_left
 · rw[h2,if_pos hcd];exact .inr ⟨h1,rfl⟩
 rw[h2];by_cases h3:(zcm l 0 0 c0).1.2≠0
 · rw[if_pos h3,if_pos h3];exact .inl ⟨h1,rfl⟩
 rw[if_neg h3,if_neg h3];rcases zmP (l:=l) (pt:=pt) hcd (zcm l 0 0 c0).1.1 _ _ [] h1 (Int.le_trans hc q.1) with ⟨h4,h5⟩|⟨h4,h5⟩
 rotate_left
 · rw[h5,if_pos hcd];exact .inr ⟨h4,rfl⟩
 rw[h5];split
 · exact .inl ⟨h4,rfl⟩
 split
 · exact .inl ⟨h4,rfl⟩
 · exact .inl ⟨h4,h5⟩
end
theorem zlw{D:List Rw}{k:Nat}(hk:k<D.length){y:Fu}(hy:(zaS D[k].2.1 D[k].2.2).1=y):zem (D.take (k+1))=zem (D.take k)++(if y.1.kind=0 then [y] else []):=by
 unfold zem;rw[List.take_succ_eq_append_getElem hk,List.map_append,List.filter_append,List.map_cons,List.map_nil,hy];congr 1
 by_cases h:y.1.kind=0
 · rw[if_pos h];simp [h]
 · rw[if_neg h];simp [h]
theorem zn0(D:List Rw):(zem D).length<=D.length:=by
 unfold zem;refine Nat.le_trans (List.length_filter_le _ _) ?_
 rw[List.length_map];exact Nat.le_refl _
theorem zlr(l:List Fu)(y:Fu):(fun z=>((zgs (l++[y]) z:Nat):Int))=fun z=>if z=y.1.d0 then ((zgs l y.1.d0:Nat):Int)+1 else ((zgs l z:Nat):Int):=by
 funext z
 unfold zgs;rw[List.filter_append,List.length_append];by_cases h:z=y.1.d0
 · subst h;rw[if_pos rfl];simp
 · rw[if_neg h];have h2:¬ y.1.d0=z:=fun e=>h e.symm
   simp [h2]
theorem zrf(l:List Fu)(z:Int):zgs l z<=l.length:=List.length_filter_le _ _
theorem zjq{D:List Rw}(h:Inv D):(zcm D 0 0 0).1=(zfS (zga D),0):=by
 have e:=zpI h;unfold zcm;generalize zbt D 1 0 0 67 (okS ctS) (D.length+1) 0 [(67:UInt8) - 1,255] [1]=g at e ⊢;obtain⟨a,c⟩:=g;dsimp only at e;subst e;rfl
theorem zqZ{D:List Rw}(h:Inv D)(id c ca:Int)(hc:0<=ca)(s:List Fu):(byE D 0 0 id c ca s).1=(s++byL D id c,0):=by
 have e:=ztC h id c ca hc s;unfold byE;generalize zbt D c 0 0 68 (okS (byS id)) (D.length+1) ca [(68:UInt8) - 1,255] s=g at e ⊢;obtain⟨a,c⟩:=g;dsimp only at e;subst e;rfl
theorem zll{D:List Rw}(h:Inv D)(id:Int):∀ (cs:List Int) (ca:Int) (s:List Fu),0<=ca->(byW D 0 0 id cs ca s).1=(s++cs.flatMap (byL D id),0)
 | [],ca,s,_=>by unfold byW;simp
 | c::cs,ca,s,hc=>by
   have q:=zpF D 0 0 id c ca s;unfold byW;rw[zqZ h id c ca hc s,if_neg (fun k=>k rfl),zll h id cs _ _ (by omega),List.flatMap_cons,List.append_assoc]
theorem zli{D:List Rw}(h:Inv D)(id:Int):(byF D 0 0 0 id).1=fstC (byX D id):=by
 have q:=zfc D 0 0 0;unfold byF;rw[zjq h,if_neg (fun k=>k rfl)];dsimp only;rw[zll h id _ _ _ q.1,if_neg (fun k=>k rfl)];rfl
theorem zty{D:List Rw}(h:Inv D){x:Fu}(hx:x∈zem D):∃ y,(byF D 0 0 0 x.1.d0).1=(y,0)∧y.1.d0=x.1.d0∧(zgs (zem D) x.1.d0=1->y=x):=by
 obtain⟨y,l,e,h1,h2⟩:=ztA h hx;exact⟨y,by rw[zli h,e];rfl,h1,h2⟩
theorem zq2{D:List Rw}(h:Inv D):(byF D 0 0 0 0).1=(zF0,6):=by rw[zli h,zq4 h];rfl
section
open Go.RowKit
set_option linter.unusedSimpArgs false
theorem zjp(l:List Rw)(fl cd ca:Int):(zcm l fl cd ca).1.1.length<=l.length+2:=by
 unfold zcm;have h:=zec (step:=okS ctS) (l:=l) (id:=1) (fl:=fl) (cd:=cd) (L:=67) List.length (fun s k r s' e=>by cases e;unfold ctS;rw[List.length_append];exact Nat.le_refl _) (l.length+1) ca [(67:UInt8) - 1,255] [1];generalize zbt l 1 fl cd 67 (okS ctS) (l.length+1) ca [(67:UInt8) - 1,255] [1]=g at h ⊢;obtain⟨a,c⟩:=g
 cases a with
 | error e=>simp [upQ]
 | ok q =>
   obtain⟨s',e⟩:=q;have:=h s' e c rfl;unfold upQ;dsimp only;split
   · simp
   · have:=zjM s';rw[List.length_singleton] at *;dsimp only;omega
theorem zmE(p:Nat)(sv:Value)(l:List Rw)(fl cd ca:Int)(w0 w:World)(hm:MaxL w0)(hT:Tab w0)(hS:SHs w0 w p sv l fl cd ca)(hso:∀ b,sv.ownBlock=some b->b<w.heap.size)(hl:l.length<=900)(hkz:∀ x∈l,x.2.1.size<=1000)(hc0:0<=ca)(hc1:ca<=90000)(hcd:cd≠0∧cd≠6∨fl<=0)(hr:RdL l 1 67) :
  Calls Tryz.prog 10 #[.iface 31 (.pointer (some ⟨p,0,none⟩))] w fun r w'=>(∃ a n cc,r=.returned (.tuple #[.slice a n cc,.int .i64 (zcm l fl cd ca).1.2])∧((zcm l fl cd ca).1.2=0->n=(zcm l fl cd ca).1.1.length∧IS w' (.slice a n cc) (zcm l fl cd ca).1.1)∧∀ b,(Value.slice a n cc).ownBlock=some b->w.heap.size<=b)∧SHs w0 w' p sv l fl cd (zcm l fl cd ca).2∧w.grownBy w' (some p):=by
 refine (zft p sv l fl cd ca w0 w hm hT hS hso hl hkz hc0 hc1 hcd hr).mono ?_
 rintro r w' ⟨s',c,code,hrec,⟨a,cc,n,rfl,hi,hb⟩,hs,hg⟩
 have e:zcm l fl cd ca=(if code≠0 then ([],code) else (zfS s',0),c):=by
  unfold zcm;rw[show zbt l 1 fl cd 67 (okS ctS) (l.length+1) ca [(67:UInt8) - 1,255] [1]=(.ok (s',code),c) from hrec];rfl
 rw[e];by_cases h0:code=0
 · subst h0;obtain⟨rfl,hI⟩:=hi rfl;exact⟨⟨a,_,cc,rfl,fun _=>⟨rfl,hI⟩,hb⟩,hs,hg⟩
 · rw[if_pos h0];exact⟨⟨a,n,cc,rfl,fun q=>absurd q h0,hb⟩,hs,hg⟩
theorem zq1(p bi bo:Nat)(sv:Value)(l:List Rw)(fl cd ca cid id:Int)(ts:List TE)(v:Value)(w0 wB w:World)(hm:MaxL w0)(hT:Tab w0)(hl:l.length+ts.length<=900)(hkz:∀ x∈l,x.2.1.size<=1000)(hc0:0<=ca)(hc1:ca<=90000)(hcd:cd≠0∧cd≠6∨fl<=0)(hr:RdL l cid 68)(H:ByI w0 wB p bi bo sv l fl cd id ca ts w v) :
  Calls Tryz.prog 25 #[.iface 31 (.pointer (some ⟨p,0,none⟩)),.int .i64 cid,.int .u8 68,.func (.func 42) #[] #[.pointer (some ⟨bi,0,none⟩),.pointer (some ⟨bo,0,none⟩)]] w fun r w' =>
   r=.returned (.int .i64 (byE l fl cd id cid ca (ts.map fun t=>t.1.1)).1.2)∧∃ v' ts',ByI w0 wB p bi bo sv l fl cd id (byE l fl cd id cid ca (ts.map fun t=>t.1.1)).2 ts' w' v'∧((byE l fl cd id cid ca (ts.map fun t=>t.1.1)).1.2=0->ts'.map (fun t=>t.1.1)=(byE l fl cd id cid ca (ts.map fun t=>t.1.1)).1.1∧ts'.length<=ts.length+(l.length+1)):=by
 refine (zkt p bi bo sv l fl cd ca cid id ts v w0 wB w hm hT hl hkz hc0 hc1 hcd hr H.box).mono ?_
 rintro r w' ⟨s',c,code,hrec,rfl,v',ts',hj,hts⟩;have hlen:=zec (step:=okS (byS id)) (l:=l) (id:=cid) (fl:=fl) (cd:=cd) (L:=68) List.length (fun s k r s' e=>by cases e;exact zlk _ _ _) _ _ _ _ _ _ _ hrec
 have e:byE l fl cd id cid ca (ts.map fun t=>t.1.1)=(if code≠0 then ([],code) else (s',0),c):=by
  unfold byE;rw[show zbt l cid fl cd 68 (okS (byS id)) (l.length+1) ca [(68:UInt8) - 1,255] (ts.map fun t=>t.1.1)=(.ok (s',code),c) from hrec];rfl
 rw[e]
 have hlt:ts'.length<=ts.length+(l.length+1):=by
  have:=congrArg List.length hts;rw[List.length_map] at this hlen;omega
 by_cases h0:code=0
 · subst h0;exact⟨rfl,v',ts',hj.toI,fun _=>⟨hts,hlt⟩⟩
 · rw[if_pos h0];exact⟨rfl,v',ts',hj.toI,fun q=>absurd q h0⟩
def ByR(w0 w w':World)(p:Nat)(sv:Value)(l:List Rw)(fl cd:Int)(g:(Fu × Int) × Int)(r:Ending):Prop :=
 ∃ al gr,r=.returned (.tuple #[.agg (g.1.1.1.vals al gr),.int .i64 g.1.2])∧IS w' al g.1.1.2.1∧GS w' gr g.1.1.2.2∧SHs w0 w' p sv l fl cd g.2∧w.grownBy w' (some p)∧(0<g.1.1.2.1.length->∀ b,al.ownBlock=some b->w.heap.size<=b)∧(0<g.1.1.2.2.length->∀ b,gr.ownBlock=some b->w.heap.size<=b)
theorem ByR.put{w0 w W:World}{p q:Nat}{sv:Value}{l:List Rw}{fl cd c code:Int}{x:Fu}{al gr:Value}(hp:p<w.heap.size)(hso:∀ b,sv.ownBlock=some b->b<w.heap.size)(hq:w.heap.size<=q)(hH:Held W q 33)(hS:SHs w0 W p sv l fl cd c)(hg:w.grownBy W (some p))(hI:IS W al x.2.1)(hG:GS W gr x.2.2)(na:0<x.2.1.length->∀ b,al.ownBlock=some b->q<b)(ng:0<x.2.2.length->∀ b,gr.ownBlock=some b->q<b) :
  ByR w0 w (W.setRow q (x.1.vals al gr)) p sv l fl cd ((x,code),c) (.returned (.tuple #[.agg (row (W.setRow q (x.1.vals al gr)) q),.int .i64 code])):=by
 have hb:Below w.heap.size W (W.setRow q (x.1.vals al gr)):=below_setRow (Below.refl _ _) hq _;exact⟨al,gr,congrArg (fun z=>Ending.returned (.tuple #[.agg z,.int .i64 code])) (zaQ hH _),zcN hI (zoz _ _ _) (fun h b hb=>by have:=na h b hb;omega),zd0 hG (zoz _ _ _) (fun h b hb=>by have:=ng h b hb;omega),hS.belowB hb hp (fun _ b hb=>hso b hb),zay hg hb,fun h b hb=>by have:=na h b hb;omega,fun h b hb=>by have:=ng h b hb;omega⟩
theorem ByR.put0{w0 w W:World}{p q:Nat}{sv:Value}{l:List Rw}{fl cd c code:Int}(hp:p<w.heap.size)(hso:∀ b,sv.ownBlock=some b->b<w.heap.size)(hq:w.heap.size<=q)(hH:Held W q 33)(hS:SHs w0 W p sv l fl cd c)(hg:w.grownBy W (some p)) :
  ByR w0 w (W.setRow q (zlit 0 ⟨#[]⟩)) p sv l fl cd ((zF0,code),c) (.returned (.tuple #[.agg (row (W.setRow q (zlit 0 ⟨#[]⟩)) q),.int .i64 code])):=by
 rw[zbE];exact ByR.put (x:=zF0) hp hso hq hH hS hg (IS.nil _) (GS.nil _) (fun _ _ h=>by cases h) (fun _ _ h=>by cases h)
attribute [local go_sem ↓] zaV zcu zaW zaz za1
attribute [local go_sem] zav zap zal zaI zaJ zae zaq zai zaw zao zas zan zaa zaj zaf zaA zax zak zag zar zaG zaC zaE
theorem zmD(p:Nat)(sv:Value)(l:List Rw)(fl cd ca id:Int)(w0 w:World)(hm:MaxL w0)(hT:Tab w0)(hS:SHs w0 w p sv l fl cd ca)(hso:∀ b,sv.ownBlock=some b->b<w.heap.size)(hl:l.length<=19)(hkz:∀ x∈l,x.2.1.size<=1000)(hc0:0<=ca)(hc1:ca<=50000)(hcd:cd≠0∧cd≠6∨fl<=0)(hr:∀ c L,RdL l c L) :
  Calls Tryz.prog 16 #[.iface 31 (.pointer (some ⟨p,0,none⟩)),.int .i64 id] w fun r w'=>ByR w0 w w' p sv l fl cd (byF l fl cd ca id) r:=by
 have hpl:=hS.pl;have hz0:=hS.b.size;have bb:=zab w (.cells #[.int .i64 id] 3);have hH:=zmc (w.alloc (.cells #[.int .i64 id] 3)) 40;rw[World.size_alloc] at hH;have HS:=lh hS;have HC:=lh (fun W (b:Below w.heap.size w W)=>zmE p sv l fl cd ca w0 W hm hT (hS.below b) (fun q hq=>Nat.lt_of_lt_of_le (hso q hq) b.size) (by omega) hkz hc0 (by omega) hcd (hr 1 67));have hcl:=zjp l fl cd ca;have hcb:=zfc l fl cd ca;generalize hg:byF l fl cd ca id=g;unfold byF at hg;generalize zcm l fl cd ca=cf at hg HC hcl hcb;obtain⟨⟨ids,code⟩,c1⟩:=cf;dsimp only at hg hcl hcb
 have hci:((w.alloc (.cells #[.int .i64 id] 3)).alloc (.cells (zlit 0 ⟨#[]⟩) 40)).cell? ⟨w.heap.size,0,none⟩=some (.int .i64 id):=by
  rw[(zab (w.alloc (.cells #[.int .i64 id] 3)) (.cells (zlit 0 ⟨#[]⟩) 40)).cell (by simp)];simp [go_sem]
 unfold zlit at hci;have HCI:=lh hci;have hmm:p≠w.heap.size∧p≠w.heap.size+1:=by omega
 clear hS hci;by_cases h0:code=0
 rotate_left
 · rw[if_pos h0] at hg;subst hg;have t1:(code != 0)=true:=bne_iff_ne.2 h0;clear h0;go_enter Tryz.func16,Tryz.ntmps16
   go_wp2_with (go_at_call 10;(refine (HC.out _ (by exact zbo)).mono ?_);rintro _ w2 ⟨⟨a2,n2,cc2,rfl,-,-⟩,hs,hg⟩;have H2:=hH.grown hg (fun e=>by have:=Option.some.inj e;omega);have S2:=lh hs;have G2:=lh (zat (zad _ (by exact zbo)) hg:w.grownBy w2 (some p));clear hs hg)
   refine bodyPost_ret (zaL (n:=32) rfl Tryz.underlying40 rfl (by kernel_rfl) _ _ (w.heap.size+1) rfl (zbu H2 rfl)) rfl ?_
   exact ByR.put0 hpl hso (by omega) H2 S2.out G2.out
 subst h0;rw[if_neg (fun q=>q rfl)] at hg;have HR:=lh hr;have HM:=lh hm;have HT:=lh hT;have HK:=lh hkz;clear hm hT hkz hr;go_enter Tryz.func16,Tryz.ntmps16
 go_upto_region 4 with (go_at_call 10;(refine (HC.out _ (by exact zbo)).mono ?_);rintro _ w2 ⟨⟨a2,n2,cc2,rfl,hi,hfr⟩,hs,hg⟩;have HFR:=lh hfr;have H2:=hH.grown hg (fun e=>by have:=Option.some.inj e;omega);have S2:=lh hs;have G2:=lh (zat (zad _ (by exact zbo)) hg:w.grownBy w2 (some p));have ci2:=lh ((World.cell?_of_block (a:=⟨w.heap.size,0,none⟩) (hg.block w.heap.size (by simp only[World.size_alloc];omega) (fun e=>by have:=Option.some.inj e;omega))).trans HCI.out);have z2:=hg.size;obtain⟨rfl,hI⟩:=hi rfl;have I2:=lh hI;clear hs hg hi hI hfr)
 clear HC HCI hH bb;simp only[World.size_alloc] at z2
 have b3:=zab w2 (.cells #[.slice none 0 0] 50);have HJ:Hid (ByI w0 w2 p w.heap.size w2.heap.size sv l fl cd id c1 [] (w2.alloc (.cells #[.slice none 0 0] 50)) (.slice none 0 0)):=lh ⟨S2.out.below b3,zad _ b3,(b3.cell (p:=⟨w.heap.size,0,none⟩) (by show w.heap.size<w2.heap.size;omega)).trans ci2.out,by simp [go_sem],by simp,TJE.start _,(fun _ h=>by cases h),(fun e=>by cases e),(fun e=>by cases e),by omega,Nat.le_refl _,hmm.1,by omega,by omega,fun b hb=>by have:=hso b hb;omega⟩;generalize hR:byW l fl cd id ids c1 []=R at hg;have HRR:=lh hR;have H3:=H2;obtain⟨bo,hbo⟩:∃ bo,w2.heap.size=bo:=⟨_,rfl⟩;go_wp2_with fail
 rw[hbo] at HJ;generalize w2.alloc (.cells #[.slice none 0 0] 50)=w3 at HJ ⊢;clear hR b3;have HH2:=lh H2;clear H2 H3;go_loopw [23] (fun i wr=>∃ (k:Nat) (c:Int) (ts:List TE) (v:Value),k<=ids.length∧i=.int .i64 k∧Hid (byW l fl cd id (ids.drop k) c (ts.map fun t=>t.1.1)=R)∧c1<=c∧c<=c1+k*20∧ts.length<=k*20∧Hid (ByI w0 w2 p w.heap.size bo sv l fl cd id c ts wr v)) (fun i _=>ids.length - (intOf i).toNat)
 case atStart=>exact⟨0,c1,[],_,Nat.zero_le _,rfl,HRR,Int.le_refl _,by omega,by simp,HJ⟩
 case round =>
  obtain⟨k,c,ts,v,hk,rfl,HW,hc2,hc3,hts,HJr⟩:=hrel;have Hr:=HH2.out.grown HJr.out.g (fun e=>by have:=Option.some.inj e;omega);by_cases hlt:k<ids.length
  · obtain⟨ia',ic',ei,-,hcc⟩:=zcN I2.out HJr.out.g (fun _ q hq e=>by have:=HFR.out q hq;simp only[World.size_alloc] at this;omega);injection ei with ei1 ei2 ei3
    subst ei1 ei3;obtain⟨b,o,rfl,hb,hcell⟩:=hcc (by omega);have p0:=hcell k hlt;have j1:(0:Int)<=(k:Int):=by omega
    have j2:(k:Int)<(ids.length:Int):=by omega
    have hw:=HW.out;rw[List.drop_eq_getElem_cons hlt] at hw;unfold byW at hw;generalize ids[k]=cid at p0 hw;have hEN:=zq1 p w.heap.size bo sv l fl cd c cid id ts v w0 w2 wr HM.out HT.out (by omega) HK.out (by omega) (by omega) hcd (HR.out cid 68) HJr.out;have hbd:=zpF l fl cd id cid c (ts.map fun t=>t.1.1);generalize byE l fl cd id cid c (ts.map fun t=>t.1.1)=e at hEN hw hbd;obtain⟨⟨es,ec⟩,e2⟩:=e;dsimp only at hw hEN hbd;have HEN:=lh hEN;clear hcell hcc hEN HW;by_cases hc0':ec=0
    · subst hc0';rw[if_neg (fun q=>q rfl)] at hw;have HW:=lh hw;clear hw;go_wp2_with (go_at_call 25;(refine HEN.out.mono ?_);rintro _ w5 ⟨rfl,v5,ts5,hj5,hq5⟩;have HJ5:=lh hj5;have HQ5:=lh (hq5 rfl);clear hj5 hq5)
      go_roundw
      case rel=>exact⟨k+1,e2,ts5,v5,by omega,by go_num,by rw[HQ5.out.1];exact HW,by omega,by omega,by have:=HQ5.out.2;omega,HJ5⟩
      case measure=>simp [intOf];omega
    · rw[if_pos hc0'] at hw;rw[<-hw,if_pos hc0'] at hg;subst hg;have t1:(ec != 0)=true:=bne_iff_ne.2 hc0';clear hw hc0';go_wp2_with (go_at_call 25;(refine HEN.out.mono ?_);rintro _ w5 ⟨rfl,v5,ts5,hj5,-⟩;have HJ5:=lh hj5;have Hr:=HH2.out.grown hj5.g (fun e=>by have:=Option.some.inj e;omega);clear hj5)
      refine bodyPost_ret (zaL (n:=32) rfl Tryz.underlying40 rfl (by kernel_rfl) _ _ (w.heap.size+1) rfl (zbu Hr rfl)) rfl ?_
      exact ByR.put0 hpl hso (by omega) Hr HJ5.out.sh (zat G2.out HJ5.out.g)
  obtain rfl:k=ids.length:=by omega
  have hw:=HW.out;rw[List.drop_length] at hw;unfold byW at hw;rw[<-hw,if_neg (fun q=>q rfl)] at hg;subst hg;have co:=HJr.out.co;obtain⟨va,vc,rfl⟩:=za6 HJr.out.ow.own;clear hw HW HRR
  cases ts with
  | nil =>
    go_wp2_with fail
    refine bodyPost_ret (zaL (n:=32) rfl Tryz.underlying40 rfl (by kernel_rfl) _ _ (w.heap.size+1) rfl (zbu Hr rfl)) rfl ?_
    exact ByR.put0 hpl hso (by omega) Hr HJr.out.sh (zat G2.out HJr.out.g)
  | cons t ts =>
    obtain⟨g,cc,e,hg2,hmid,hI,hG⟩:=HJr.out.first;injection e with e1 e2 e3
    subst e1 e3;have hT1:=HJr.out.tb t List.mem_cons_self;have z33:(mid wr g 0).size=33:=by rw[hmid];exact zaa _ _ _
    have hone:=t.one;unfold TE.en at hone;have q0:(((t::ts).length:Nat):Int)=(ts.length:Int)+1:=by simp
    have HII:=lh hI;have HGG:=lh hG;have HT1:=lh hT1;clear hI hG hT1;rw[List.length_cons] at co;go_wp2_with fail
    refine bodyPost_ret (zaL (n:=32) rfl Tryz.underlying40 rfl (by kernel_rfl) _ _ (w.heap.size+1) rfl (zbu Hr (zaa _ _ _))) rfl ?_
    exact ByR.put hpl hso (by omega) Hr HJr.out.sh (zat G2.out HJr.out.g) HII.out HGG.out (fun h0 q hq=>by have:=(HT1.out.1 (by intro h;rw[h] at h0;cases h0) q hq).1;omega) (fun h0 q hq=>by have:=(HT1.out.2 (by intro h;rw[h] at h0;cases h0) q hq).1;omega)
end
def mL(D:List Rw)(c:Int)(pt:ByteArray)(L:UInt8):List Fu:=((srt c L D).map fun x=>(zaS x.2.1 x.2.2).1).filter fun y=>Ds.match_ (Ds.bl pt) (Ds.bl y.1.name)
theorem zi5(pt:ByteArray):∀ (S:List Rw) (s:List Fu),(∀ x∈S,∃ y,okX y=true∧x=zcA x.1 y)->zfZ (ze5 pt) S s=.ok (s++(S.map fun x=>(zaS x.2.1 x.2.2).1).filter fun y=>Ds.match_ (Ds.bl pt) (Ds.bl y.1.name))
 | [],s,_=>by rw[zfZ];simp
 | x::S,s,h=>by
   obtain⟨y,hy,e⟩:=h x List.mem_cons_self;have e1:zaZ x.2.1=y.1.name:=by rw[e];exact (zl7 hy).2
   have e2:zaS x.2.1 x.2.2=(y,0):=by rw[e];exact za3 y hy
   have hS:=fun z hz=>h z (List.mem_cons_of_mem _ hz)
   have hst:ze5 pt s x.2.1 x.2.2=if Ds.match_ (Ds.bl pt) (Ds.bl y.1.name)=false then .ok s else .ok (s++[y]):=by
    unfold ze5;rw[e1,e2,if_neg (show ¬ ((y,(0:Int)).2≠0) from fun q=>q rfl)]
   rw[zfZ,hst,List.map_cons,e2,List.filter_cons];cases hm:Ds.match_ (Ds.bl pt) (Ds.bl y.1.name)
   · rw[if_pos rfl];dsimp only;rw[zi5 pt S s hS,if_neg (by decide)]
   · rw[if_neg (by decide)];dsimp only;rw[zi5 pt S _ hS,if_pos rfl,List.append_assoc];rfl
theorem zr4{D:List Rw}(h:Inv D)(id:Int)(pt:ByteArray)(L:UInt8)(hL:L - 1<L)(c:Int)(hc:0<=c)(s:List Fu):(zez D 0 0 id pt L c s).1=(s++mL D id pt L,0):=by
 have hr:=zdu (step:=ze5 pt) D id 0 0 c L hL (Int.le_refl _) h.dst hc s;rw[zi5 pt (srt id L D) s (fun x hx=>h.row x (znl hx).1)] at hr;unfold zez mL;generalize zbt D id 0 0 L (ze5 pt) (D.length+1) c [L - 1,255] s=g at hr ⊢;obtain⟨g1,g2⟩:=g;dsimp only at hr;subst hr;rfl
theorem zmv{D:List Rw}(h:Inv D)(id:Int)(pt:ByteArray):∀ (Ls:List UInt8),(∀ L∈Ls,L - 1<L)->∀ (c:Int) (s:List Fu),0<=c->(zey D 0 0 id pt Ls c s).1=(s++Ls.flatMap (mL D id pt),0)
 | [],_,c,s,_=>by unfold zey;simp
 | L::Ls,hL,c,s,hc=>by
   have q:=zgP D 0 0 c id pt L s;unfold zey;rw[zr4 h id pt L (hL L List.mem_cons_self) c hc s,if_neg (fun k=>k rfl),zmv h id pt Ls (fun M hM=>hL M (List.mem_cons_of_mem _ hM)) _ _ (by omega),List.flatMap_cons,List.append_assoc]
theorem zpl(c:Int)(L:UInt8)(D:List Rw):(srt c L D).length<=D.length:=znn c L D
theorem zmC(D:List Rw)(c:Int)(pt:ByteArray)(L:UInt8):(mL D c pt L).length<=D.length:=by
 unfold mL;refine Nat.le_trans (List.length_filter_le _ _) ?_
 rw[List.length_map];exact zpl c L D
def mC(D:List Rw)(pt:ByteArray)(c:Int):List Fu:=[68,71,65].flatMap (mL D c pt)
theorem zuk(D:List Rw)(c:Int)(pt:ByteArray):(mC D pt c).length<=3*D.length:=by
 have h1:=zmC D c pt 68;have h2:=zmC D c pt 71;have h3:=zmC D c pt 65;unfold mC;simp only[List.flatMap_cons,List.flatMap_nil,List.length_append,List.length_nil]
 omega
theorem zr2{D:List Rw}(h:Inv D)(hl:D.length<=1000)(id:Int)(pt:ByteArray)(hp:Ds.pat (Ds.bl pt)=true)(c:Int)(hc:0<=c):(zfT D 0 0 c id 9223372036854775807 pt).1=(mC D pt id,0):=by
 have e:=zmv h id pt [68,71,65] (by decide) c [] hc;rw[List.nil_append] at e;have hz:=zuk D id pt;unfold zfT;rw[if_neg (by rw[hp];rintro (q|q);cases q;exact absurd q (by decide)),e,if_neg (fun k=>k rfl)];dsimp only;rw[if_neg (by show ¬ (9223372036854775807:Int)<((mC D pt id).length:Int);omega)];exact e
theorem zmO{D:List Rw}(h:Inv D)(hl:D.length<=1000)(pt:ByteArray)(hp:Ds.pat (Ds.bl pt)=true):∀ (cs:List Int) (ca:Int) (s:List Fu),0<=ca->(zhT D 0 0 pt cs ca s).1=(s++cs.flatMap (mC D pt),0)
 | [],ca,s,_=>by unfold zhT;simp
 | c::cs,ca,s,hc=>by
   have q:=ziS D 0 0 ca c 9223372036854775807 pt;unfold zhT;rw[zr2 h hl c pt hp ca hc,if_neg (fun k=>k rfl),zmO h hl pt hp cs _ _ (by omega),List.flatMap_cons,List.append_assoc]
def mX(D:List Rw)(pt:ByteArray):List Fu:=(zfS (zga D)).flatMap (mC D pt)
theorem zmN{D:List Rw}(h:Inv D)(hl:D.length<=1000)(pt:ByteArray)(hp:Ds.pat (Ds.bl pt)=true)(most:Int):(zmM D 0 0 0 most pt).1=if most<0 then ([],1) else if most<((mX D pt).length:Int) then ([],8) else (mX D pt,0):=by
 have q:=zfc D 0 0 0;have e:=zmO h hl pt hp (zcm D 0 0 0).1.1 (zcm D 0 0 0).2 [] q.1;have e2:=zjq h;unfold zmM mX;by_cases h0:most<0
 · rw[if_pos (.inr h0),if_pos h0]
 rw[if_neg (by rw[hp];rintro (q|q);cases q;exact h0 q),if_neg h0];rw[e2] at e ⊢;rw[if_neg (fun k=>k rfl)];dsimp only at e ⊢;rw[e,if_neg (fun k=>k rfl)];rw[List.nil_append];split
 · rfl
 · rw[e,List.nil_append]
theorem zhM{D:List Rw}(h:Inv D){c k:Int}{pt:ByteArray}(hk:0<=k∧k<=4){y:Fu}:y∈mL D c pt (Ek.letter k)↔InD D c y∧y.1.kind=k∧Ds.match_ (Ds.bl pt) (Ds.bl y.1.name)=true:=by
 unfold mL;rw[List.mem_filter,List.mem_map];constructor
 · rintro ⟨⟨x,hx,rfl⟩,hd⟩;obtain⟨z,hz,hk,rfl⟩:=(znI h hk).1 hx;have e2:zaS (zcA c z).2.1 (zcA c z).2.2=(z,0):=za3 z hz.1;rw[e2] at hd ⊢;exact⟨hz,hk,hd⟩
 · rintro ⟨hy,hkk,hd⟩;refine⟨⟨zcA c y,(znI h hk).2 ⟨y,hy,hkk,rfl⟩,?_⟩,hd⟩
   have e2:zaS (zcA c y).2.1 (zcA c y).2.2=(y,0):=za3 y hy.1;rw[e2]
theorem zjV{D:List Rw}(h:Inv D){c:Int}{pt:ByteArray}{y:Fu}:y∈mC D pt c↔InD D c y∧y.1.kind<=2∧Ds.match_ (Ds.bl pt) (Ds.bl y.1.name)=true:=by
 have h0:=zhM h (c:=c) (k:=0) (pt:=pt) (by decide) (y:=y);have h1:=zhM h (c:=c) (k:=1) (pt:=pt) (by decide) (y:=y);have h2:=zhM h (c:=c) (k:=2) (pt:=pt) (by decide) (y:=y);have e0:Ek.letter 0=68:=by decide
 have e1:Ek.letter 1=71:=by decide
 have e2:Ek.letter 2=65:=by decide
 rw[e0] at h0;rw[e1] at h1;rw[e2] at h2;unfold mC;simp only[List.flatMap_cons,List.flatMap_nil,List.append_nil,List.mem_append,h0,h1,h2]
 constructor
 · rintro (⟨a,b,c⟩|⟨a,b,c⟩|⟨a,b,c⟩)
   · exact⟨a,by omega,c⟩
   · exact⟨a,by omega,c⟩
   · exact⟨a,by omega,c⟩
 · rintro ⟨a,b,c⟩;have:=zbp a.1;rcases (by omega:y.1.kind=0∨y.1.kind=1∨y.1.kind=2) with q|q|q
   · exact .inl ⟨a,q,c⟩
   · exact .inr (.inl ⟨a,q,c⟩)
   · exact .inr (.inr ⟨a,q,c⟩)
theorem zul{D:List Rw}(h:Inv D){pt:ByteArray}{y:Fu}:y∈mX D pt↔∃ c,InD D c y∧y.1.kind<=2∧Ds.match_ (Ds.bl pt) (Ds.bl y.1.name)=true:=by
 unfold mX;rw[List.mem_flatMap];constructor
 · rintro ⟨c,-,hc⟩;exact⟨c,(zjV h).1 hc⟩
 · rintro ⟨c,hc⟩;exact⟨c,(ze3 _ _).2 (h.ids hc.1),(zjV h).2 hc⟩
theorem Inv.uniq{D:List Rw}(h:Inv D){c d:Int}{y z:Fu}(hy:InD D c y)(hz:InD D d z)(ky:y.1.kind<=2)(kz:z.1.kind<=2)(e:y.1.name=z.1.name):c=d∧y=z:=by
 have h1:=(h.loc c y hy).1 ky;have h2:=(h.loc d z hz).1 kz;rw[e,h2] at h1;have hcd:d=c:=congrArg Prod.fst h1;subst hcd;exact⟨rfl,h.one _ y z hy hz ky kz e⟩
theorem zgt{l:List Int}(h:l.Pairwise (·<=·)):(Lib.compact l).Nodup:=by
 unfold Lib.compact Lib.compactUpTo List.Nodup;rw[List.pairwise_map];have hr:((List.range l.length).filter (Lib.keeps l.toArray)).Pairwise (fun i j=>i<j):=List.Pairwise.filter _ List.pairwise_lt_range;refine hr.imp_of_mem ?_
 intro i j hi hj hij e;obtain⟨j1,j2⟩:=List.mem_filter.1 hj;have j3:=List.mem_range.1 j1;have i3:=List.mem_range.1 (List.mem_filter.1 hi).1;obtain⟨k,rfl⟩:∃ k,j=k+1:=⟨j - 1,by omega⟩;unfold Lib.keeps at j2;rw[getElem!_pos l.toArray i (by simpa using i3),getElem!_pos l.toArray (k+1) (by simpa using j3)] at e;have j2':l.toArray[k+1]!≠l.toArray[k]!:=by simpa using j2
 rw[getElem!_pos l.toArray (k+1) (by simpa using j3),getElem!_pos l.toArray k (by simp;omega)] at j2';simp only[List.getElem_toArray] at e j2'
 have h2:l[i]<=l[k]'(by omega):=by
  rcases Nat.lt_or_ge i k with q|q
  · exact List.pairwise_iff_getElem.1 h i k i3 (by omega) q
  · have:i=k:=by omega
    subst this;exact Int.le_refl _
 have h3:l[k]'(by omega)<=l[k+1]:=List.pairwise_iff_getElem.1 h k (k+1) (by omega) j3 (by omega);omega
theorem zkC(s:List Int):(zfS s).Nodup:=by
 unfold zfS;refine zgt ?_
 have:=List.pairwise_mergeSort (le:=fun x y=>decide (x<=y)) (fun a b c h1 h2=>by simp at h1 h2 ⊢;omega) (fun a b=>by simp;omega) s;exact this.imp (fun h=>by simpa using h)
theorem zr7{D:List Rw}(h:Inv D){c k:Int}{pt:ByteArray}(hk:0<=k∧k<=2):(mL D c pt (Ek.letter k)).Pairwise (fun y z=>y.1.name≠z.1.name):=by
 unfold mL;refine List.Pairwise.filter _ ?_
 rw[List.pairwise_map]
 have hss:zla (srt c (Ek.letter k) D):=by
  have:=zfH c (Ek.letter k) D h.dst D.length;rwa [List.take_of_length_le (Nat.le_refl _)] at this
 refine List.Pairwise.imp_of_mem ?_ hss
 intro a b ha hb hlt e;obtain⟨y,hy,ky,rfl⟩:=(znI h (by omega)).1 ha;obtain⟨z,hz,kz,rfl⟩:=(znI h (by omega)).1 hb;have e1:zaS (zcA c y).2.1 (zcA c y).2.2=(y,0):=za3 y hy.1;have e2:zaS (zcA c z).2.1 (zcA c z).2.2=(z,0):=za3 z hz.1;rw[e1,e2] at e;obtain⟨-,rfl⟩:=h.uniq hy hz (by omega) (by omega) e;rw[zdh] at hlt;cases hlt
theorem zvK{D:List Rw}(h:Inv D){c:Int}{pt:ByteArray}:(mC D pt c).Pairwise (fun y z=>y.1.name≠z.1.name):=by
 have e0:Ek.letter 0=68:=by decide
 have e1:Ek.letter 1=71:=by decide
 have e2:Ek.letter 2=65:=by decide
 have key:∀ j k:Int,(0<=j∧j<=2)->(0<=k∧k<=2)->j≠k->∀ y∈mL D c pt (Ek.letter j),∀ z∈mL D c pt (Ek.letter k),y.1.name≠z.1.name:=fun j k hj hk hne y hy z hz e=>by
  obtain⟨a,b,-⟩:=(zhM h (by omega)).1 hy;obtain⟨a2,b2,-⟩:=(zhM h (by omega)).1 hz;obtain⟨-,rfl⟩:=h.uniq a a2 (by omega) (by omega) e;omega
 have p0:=zr7 h (c:=c) (pt:=pt) (k:=0) (by decide);have p1:=zr7 h (c:=c) (pt:=pt) (k:=1) (by decide);have p2:=zr7 h (c:=c) (pt:=pt) (k:=2) (by decide);have k01:=key 0 1 (by decide) (by decide) (by decide);have k02:=key 0 2 (by decide) (by decide) (by decide);have k12:=key 1 2 (by decide) (by decide) (by decide);rw[e0] at p0 k01 k02;rw[e1] at p1 k01 k12;rw[e2] at p2 k02 k12;unfold mC;simp only[List.flatMap_cons,List.flatMap_nil,List.append_nil]
 rw[List.pairwise_append,List.pairwise_append];refine⟨p0,⟨p1,p2,k12⟩,fun y hy z hz=>?_⟩
 rcases List.mem_append.1 hz with hz|hz
 · exact k01 y hy z hz
 · exact k02 y hy z hz
theorem zum{D:List Rw}(h:Inv D){pt:ByteArray}:(mX D pt).Pairwise (fun y z=>y.1.name≠z.1.name):=by
 unfold mX;rw[List.pairwise_flatMap];refine⟨fun c _=>zvK h,?_⟩
 have hn:=zkC (zga D);refine List.Pairwise.imp ?_ hn
 intro c d hcd y hy z hz e;obtain⟨a,b,-⟩:=(zjV h).1 hy;obtain⟨a2,b2,-⟩:=(zjV h).1 hz;exact hcd (h.uniq a a2 b b2 e).1
def zen(D:List Rw)(pt:ByteArray):List Fu:=(D.map fun x=>(zaS x.2.1 x.2.2).1).filter fun y=>decide (y.1.kind<=2)&&Ds.match_ (Ds.bl pt) (Ds.bl y.1.name)
theorem zoa{D:List Rw}(h:Inv D){pt:ByteArray}{y:Fu}:y∈zen D pt↔∃ c,InD D c y∧y.1.kind<=2∧Ds.match_ (Ds.bl pt) (Ds.bl y.1.name)=true:=by
 unfold zen;rw[List.mem_filter,List.mem_map];constructor
 · rintro ⟨⟨x,hx,rfl⟩,hd⟩;obtain⟨z,hz,e⟩:=h.mem hx;have e2:zaS x.2.1 x.2.2=(z,0):=by rw[e];exact za3 z hz.1
   rw[e2] at hd ⊢;rw[Bool.and_eq_true,decide_eq_true_eq] at hd;exact⟨x.1,hz,hd.1,hd.2⟩
 · rintro ⟨c,hy,hk,hm⟩;refine⟨⟨zcA c y,hy.2,?_⟩,by rw[Bool.and_eq_true,decide_eq_true_eq];exact⟨hk,hm⟩⟩
   have e2:zaS (zcA c y).2.1 (zcA c y).2.2=(y,0):=za3 y hy.1;rw[e2]
theorem zlI{D:List Rw}(h:Inv D){pt:ByteArray}:(zen D pt).Pairwise (fun y z=>y.1.name≠z.1.name):=by
 unfold zen;rw[List.pairwise_filter,List.pairwise_map];refine List.Pairwise.imp_of_mem ?_ h.dst
 intro a b ha hb hs h1 h2 e;obtain⟨y,hy,ea⟩:=h.mem ha;obtain⟨z,hz,eb⟩:=h.mem hb;have e1:zaS a.2.1 a.2.2=(y,0):=by rw[ea];exact za3 y hy.1
 have e2:zaS b.2.1 b.2.2=(z,0):=by rw[eb];exact za3 z hz.1
 rw[e1] at h1 e;rw[e2] at h2 e;rw[Bool.and_eq_true,decide_eq_true_eq] at h1 h2;obtain⟨q1,rfl⟩:=h.uniq hy hz h1.1 h2.1 e;have:a=b:=by rw[ea,eb,q1]
 subst this;unfold zeR at hs;simp at hs
theorem zoW{l:List Fu}(h:l.Pairwise (fun y z=>y.1.name≠z.1.name)):(l.map fun y=>y.1.name).Nodup:=by
 unfold List.Nodup;rw[List.pairwise_map];exact h
theorem ziT{D:List Rw}(h:Inv D)(pt:ByteArray):(mX D pt).Perm (zen D pt):=by
 have n1:(mX D pt).Nodup:=(zum h).imp (fun hne e=>hne (by rw[e]));have n2:(zen D pt).Nodup:=(zlI h).imp (fun hne e=>hne (by rw[e]));exact (List.perm_ext_iff_of_nodup n1 n2).2 fun y=>by rw[zul h,zoa h]
theorem zlJ{D:List Rw}{pt:ByteArray}{k:Nat}(hk:k<D.length){y:Fu}(hy:(zaS D[k].2.1 D[k].2.2).1=y):zen (D.take (k+1)) pt=zen (D.take k) pt++(if y.1.kind<=2∧Ds.match_ (Ds.bl pt) (Ds.bl y.1.name)=true then [y] else []):=by
 unfold zen;rw[List.take_succ_eq_append_getElem hk,List.map_append,List.filter_append,List.map_cons,List.map_nil,hy];congr 1
 by_cases h:y.1.kind<=2∧Ds.match_ (Ds.bl pt) (Ds.bl y.1.name)=true
 · rw[if_pos h];simp [h.1,h.2]
 · rw[if_neg h];cases hm:(decide (y.1.kind<=2)&&Ds.match_ (Ds.bl pt) (Ds.bl y.1.name))
   · simp [hm]
   · rw[Bool.and_eq_true,decide_eq_true_eq] at hm;exact absurd hm h
theorem zjA(D:List Rw)(pt:ByteArray):(zen D pt).length<=D.length:=by
 unfold zen;refine Nat.le_trans (List.length_filter_le _ _) ?_
 rw[List.length_map];exact Nat.le_refl _
theorem zsh{D:List Rw}(h:Inv D)(hl:D.length<=19){fl cd most:Int}(pt:ByteArray)(hp:Ds.pat (Ds.bl pt)=true)(hf:fl=0∧cd=0∨cd≠0∧0<fl):(zmM D fl cd 0 most pt).1.1.length<=19:=by
 have h0:(zmM D 0 0 0 most pt).1.1.length<=19:=by
  rw[zmN h (by omega) pt hp];have hx:=(ziT h pt).length_eq;have he:=zjA D pt;split
  · simp
  split
  · simp
  · dsimp only;omega
 rcases hf with ⟨rfl,rfl⟩|⟨h1,h3⟩
 · exact h0
 · rcases zsi (l:=D) (fl:=fl) (cd:=cd) (ca:=0) (c0:=0) (most:=most) (pt:=pt) h1 h3 (Int.le_refl _) with ⟨-,e⟩|⟨-,e⟩
   · rw[e];exact h0
   · rw[e];simp
section
open Go.RowKit
set_option linter.unusedSimpArgs false
theorem zuI(S:List SE):∀ r∈S.map SE.val,r.size=33:=fun r hr=>by
 obtain⟨x,-,rfl⟩:=List.mem_map.1 hr;exact zaa _ _ _
theorem zuH(S:List SE):∀ u∈ec (S.map SE.val),u.oneCell'=true:=ztR _ (zuI S) (fun r hr=>by
 obtain⟨x,-,rfl⟩:=List.mem_map.1 hr;exact zau _ _ _ rfl rfl)
theorem zqo(S:List SE):(ec (S.map SE.val)).length=S.length*33:=by rw[zhx _ (zuI S),List.length_map]
theorem SeR.cs{w:World}{base:Nat}{hv:Value}{s:List Fu}(h:SeR w base hv s):∃ S:List SE,S.length=s.length∧(S.map (fun x=>x.1.e)).Perm (s.map (fun y=>y.1))∧CS w 33 hv s.length (ec (S.map SE.val)):=by
 obtain⟨S,a,c,rfl,h1,h2,h3⟩:=h;refine⟨S,h1,h2,a,c,rfl,by rw[zqo,h1],fun h0=>?_⟩
 obtain⟨g,rfl,-,hlt,q3⟩:=h3 h0;refine⟨_,rfl,fun j u hu=>?_⟩
 have hj:j<S.length*33:=by
  have:=(List.getElem?_eq_some_iff.1 hu).1;rwa [zqo] at this
 rw[ziK S j hj] at hu;have hk:j / 33<S.length:=by omega
 have hm:j % 33<33:=Nat.mod_lt _ (by decide);rw[getElem!_pos S _ hk] at hu;have hz:(SE.enc S[j / 33]).length=33:=SE.size _;rw[getElem!_pos _ _ (by rw[hz];exact hm)] at hu
 have:=q3 (j / 33) hk (j % 33) u (by
  unfold SE.enc at hu;rw[Array.getElem_toList] at hu;rw[<-hu];exact Array.getElem?_eq_getElem _)
 rw[Addr.add_lit,Nat.zero_add];rwa [show j / 33*33+j % 33=j by omega] at this
attribute [local go_sem ↓] zaV zaW zaz za1
attribute [local go_sem] zav zap zal zaI zaJ zae zaq zai zaw zao zas zan zaa zaj zaf zaA zax zak zag zar zaG zaC zaE
theorem zuo(x y:SE)(W:World):Calls Tryz.prog 59 #[.agg (SE.val x),.agg (SE.val y)] W fun e w'=>e=.returned (.int .i64 (SE.cf x y))∧∃ q os',w'=Go.Sort.grow (W.drewN q) os':=by
 have hcon:=fun W'=>Tryz.strings_Compare x.1.e.name y.1.e.name W'
 unfold SE.cf SE.val;generalize Lib.compareBytes x.1.e.name.data.toList y.1.e.name.data.toList=r at hcon ⊢;have h1:=zau x.1.e (.slice x.2.1.1 x.1.n1 x.2.1.2) (.slice x.2.2.1 x.1.n2 x.2.2.2) rfl rfl;have h2:=zau y.1.e (.slice y.2.1.1 y.1.n1 y.2.1.2) (.slice y.2.2.1 y.1.n2 y.2.2.2) rfl rfl;go_enter Tryz.func59,Tryz.ntmps59
 go_wp2_with (go_at_call 60;refine (hcon _).mono ?_;rintro e w' ⟨rfl,rfl⟩)
 go_ret
 exact⟨rfl,0,_,by rw[Go.Sort.alloc_eq_grow,Go.Sort.alloc_eq_grow,Go.Sort.grow_grow];rfl⟩
theorem zup(blk cap n:Nat)(d:Array SE)(w:World)(hn:d.size=n)(hH:Go.Sort.HoldsK SE.enc 33 w blk 0 d)(hblk:blk<w.heap.size)(h19:n<=19) :
  Calls Tryz.prog 168 #[.slice (some ⟨blk,0,none⟩) n cap,.int .i64 0,.int .i64 n,.func (.func 59) #[] #[]] w fun e w' =>
   e=.returned (.tuple #[])∧∃ m os,w'=sortWorldK SE.enc 33 w blk 0 m (Sort.insertionSort (ltOf SE.cf) d 0 n) os:=by
 subst hn;exact AnyQ.insertionSortCmpFunc znm 33 Tryz.isAgg40 Tryz.sizeOf40 SE.enc SE.size SE.one SE.cf 59 #[] blk 0 cap 0 d.size d w (enters_of Tryz.func59 (by kernel_rfl) rfl) (fun _ _ _ _ x y=>zuo x y _) hH hblk (Nat.zero_le _) (Nat.le_refl _) (by omega)
def SeO(w:World)(hv:Value)(s:List Fu):Prop :=
 ∃ (S:List SE) (a:Option Addr) (c:Nat),hv=.slice a s.length c∧S.length=s.length∧(S.map (fun x=>x.1.e)).Perm (s.map (fun y=>y.1))∧S.Pairwise (fun x y=>decide (SE.cf y x<0)=false)∧(0<s.length->∃ g,a=some ⟨g,0,none⟩∧g<w.heap.size∧∀ k (hk:k<S.length) j u,(SE.val S[k])[j]?=some u->w.cell? ⟨g,k*33+j,none⟩=some u)
theorem SeO.nil(w:World)(a:Option Addr)(c:Nat):SeO w (.slice a 0 c) []:=⟨[],a,c,rfl,rfl,.refl _,.nil,fun h=>by cases h⟩
theorem SeO.below{w w':World}{hv:Value}{s:List Fu}(h:SeO w hv s)(hb:Below w.heap.size w w'):SeO w' hv s:=by
 obtain⟨S,a,c,rfl,h1,h2,h3,h4⟩:=h;refine⟨S,a,c,rfl,h1,h2,h3,fun h0=>?_⟩
 obtain⟨g,rfl,q2,q3⟩:=h4 h0;exact⟨g,rfl,Nat.lt_of_lt_of_le q2 hb.size,fun k hk2 j u hu=>(hb.cell (p:=⟨g,k*33+j,none⟩) q2).trans (q3 k hk2 j u hu)⟩
theorem zsg(ov:Value)(S:List SE)(n base:Nat)(W:World)(hn:S.length=n)(h:W.ownsRow base 40 33 ov n (ec (S.map SE.val)))(h19:n<=19) :
  Calls Tryz.prog 58 #[ov,.func (.func 59) #[] #[]] W fun r w'=>r=.returned (.tuple #[])∧W.grownBy w' ov.ownBlock∧∀ s:List Fu,(S.map (fun x=>x.1.e)).Perm (s.map (fun y=>y.1))->SeO w' ov s:=by
 subst hn;obtain⟨a,c,rfl⟩:=za6 h;refine zns _ _ a S.length c rfl h19 W (fun w'=>W.grownBy w' (Value.slice a S.length c).ownBlock∧∀ s:List Fu,(S.map (fun x=>x.1.e)).Perm (s.map (fun y=>y.1))->SeO w' (.slice a S.length c) s) ?_
 have hln:∀ s:List Fu,(S.map (fun x=>x.1.e)).Perm (s.map (fun y=>y.1))->S.length=s.length:=fun s hs=>by have:=hs.length_eq;simpa using this
 rcases Nat.eq_zero_or_pos S.length with h0|h0
 · rw[h0];refine (znr _ _ W).mono ?_
   rintro r w' ⟨rfl,rfl⟩;refine⟨rfl,World.grownBy.refl _ _,fun s hs=>?_⟩
   have hl:=hln s hs;obtain rfl:=List.eq_nil_of_length_eq_zero h0;obtain rfl:s=[]:=List.eq_nil_of_length_eq_zero (by rw[<-hl];rfl);exact SeO.nil _ _ _
 · obtain⟨g,rfl,-,-⟩:=zbO h h0;have hlt:=(zam h g rfl).2;have hH:=zhH h h0;refine (zup g c S.length S.toArray W (by simp) hH hlt h19).mono ?_
   rintro r w' ⟨rfl,m,os,rfl⟩;obtain⟨hp,ho⟩:=Go.Sort.insertionSort_holds (lt:=ltOf SE.cf) znj.swo S.toArray 0 S.length (Nat.zero_le _) (by simp);generalize Go.Sort.insertionSort (ltOf SE.cf) S.toArray 0 S.length=d' at hp ho;have hp2:=zj6 (d:=S.toArray) (d':=d') (by simpa using hp);have hz:d'.size=S.length:=by have:=hp.1;simpa using this
   have hgr:=zeK (n:=33) (w:=W) (g:=g) (m:=m) (os:=os) (fun t:SE=>(SE.val t).toList) d';refine⟨rfl,hgr,fun s hs=>?_⟩
   have hl:=hln s hs;refine⟨d'.toList,_,c,by rw[hl],by simp [hz,hl],(hp2.map _).trans hs,zkY hz ho,fun _=>⟨g,rfl,Nat.lt_of_lt_of_le hlt hgr.size,fun k hk j u hu=>?_⟩⟩
   exact zih (f:=SE.val) (m:=m) (os:=os) (fun t=>zaa _ _ _) hH hlt hz k (by simpa using hk) j u (by simpa using hu)
theorem zoC(l:List Rw)(fl cd ca id most:Int)(pt:ByteArray):(zfT l fl cd ca id most pt).1.1.length<=l.length:=by
 have key:∀ (Ls:List UInt8) (c:Int) (s:List Fu),(zey l fl cd id pt Ls c s).1.1.length<=s.length+(Ls.map fun L=>hdL L l).sum:=by
  intro Ls
  induction Ls with
  | nil=>intro c s;unfold zey;simp
  | cons L Ls ih =>
    intro c s;have h1:=zjT l fl cd id pt L c s;unfold zey;rw[List.map_cons,List.sum_cons];split
    · simp
    · have h2:=ih (zez l fl cd id pt L c s).2 (zez l fl cd id pt L c s).1.1;omega
 have h3:=key [68,71,65] ca [];have h4:=zvD l;simp only[List.map_cons,List.map_nil,List.sum_cons,List.sum_nil,List.length_nil] at h3
 unfold zfT;split
 · simp
 split
 · simp
 split
 · simp
 · omega
def MlR(w0 w w':World)(p:Nat)(sv:Value)(l:List Rw)(fl cd:Int)(g:(List Fu × Int) × Int)(r:Ending):Prop :=
 ∃ hv,r=.returned (.tuple #[hv,.int .i64 g.1.2])∧SeO w' hv g.1.1∧SHs w0 w' p sv l fl cd g.2∧w.grownBy w' (some p)
def MlJ(w0 w2:World)(p:Nat)(sv:Value)(l:List Rw)(fl cd c:Int)(s:List Fu)(W:World)(v:Value):Prop :=
 (∃ S:List SE,S.length=s.length∧(S.map (fun x=>x.1.e)).Perm (s.map (fun y=>y.1))∧W.ownsRow w2.heap.size 40 33 v s.length (ec (S.map SE.val)))∧SHs w0 W p sv l fl cd c∧w2.grownBy W (some p)
theorem zoF(p:Nat)(sv:Value)(l:List Rw)(fl cd ca most:Int)(pt:ByteArray)(w0 w:World)(hm:MaxL w0)(hT:Tab w0)(hS:SHs w0 w p sv l fl cd ca)(hso:∀ b,sv.ownBlock=some b->b<w.heap.size)(hl:l.length<=19)(hkz:∀ x∈l,x.2.1.size<=1000)(hc0:0<=ca)(hc1:ca<=50000)(hcd:cd≠0∧cd≠6∨fl<=0)(hr:RdL l 1 67)(h19:(zmM l fl cd ca most pt).1.1.length<=19) :
  Calls Tryz.prog 19 #[.iface 31 (.pointer (some ⟨p,0,none⟩)),.string pt,.int .i64 most] w fun r w'=>MlR w0 w w' p sv l fl cd (zmM l fl cd ca most pt) r:=by
 have hpl:=hS.pl;have hz0:=hS.b.size;have HVP:=lh (fun W (b:Below w0.heap.size w0 W)=>zeJ pt W (hm.below b));have HS:=lh hS;have HC:=lh (fun W (b:Below w.heap.size w W)=>zmE p sv l fl cd ca w0 W hm hT (hS.below b) (fun q hq=>Nat.lt_of_lt_of_le (hso q hq) b.size) (by omega) hkz hc0 (by omega) hcd hr);have hcl:=zjp l fl cd ca;have hcb:=zfc l fl cd ca;generalize hg:zmM l fl cd ca most pt=g at h19;unfold zmM at hg;generalize zcm l fl cd ca=cf at hg HC hcl hcb;obtain⟨⟨ids,code⟩,c1⟩:=cf;dsimp only at hg hcl hcb;have HB0:=lh hS.b;clear hS;by_cases hpat:Ds.pat (Ds.bl pt)=false
 · rw[if_pos (.inl hpat)] at hg;subst hg;rw[hpat] at HVP;clear hpat;go_enter Tryz.func19,Tryz.ntmps19
   go_wp2_with (go_at_call 17;(refine (HVP.out _ HB0.out).mono ?_);rintro _ w2 ⟨rfl,hb⟩;have B2:=lh hb;clear hb)
   go_ret2
   exact⟨_,rfl,SeO.nil _ _ _,HS.out.below B2.out,zad _ B2.out⟩
 have hpat:Ds.pat (Ds.bl pt)=true:=by simpa using hpat
 rw[hpat] at HVP;by_cases hmo:most<0
 · rw[if_pos (.inr hmo)] at hg;subst hg;have t1:decide (most<0)=true:=decide_eq_true hmo;clear hpat;go_enter Tryz.func19,Tryz.ntmps19
   go_wp2_with (go_at_call 17;(refine (HVP.out _ HB0.out).mono ?_);rintro _ w2 ⟨rfl,hb⟩;have B2:=lh hb;clear hb)
   go_ret2
   exact⟨_,rfl,SeO.nil _ _ _,HS.out.below B2.out,zad _ B2.out⟩
 rw[if_neg (by rw[hpat];rintro (h|h);cases h;exact hmo h)] at hg;have t1:decide (most<0)=false:=decide_eq_false hmo;clear hpat;by_cases h0:code=0
 rotate_left
 · rw[if_pos h0] at hg;subst hg;have t2:(code != 0)=true:=bne_iff_ne.2 h0;clear h0;go_enter Tryz.func19,Tryz.ntmps19
   go_wp2_with (first
    | (go_at_call 17;(refine (HVP.out _ HB0.out).mono ?_);rintro _ w2 ⟨rfl,hb⟩;have B2:=lh hb;clear hb)
    | (go_at_call 10;(refine (HC.out _ B2.out).mono ?_);rintro _ w3 ⟨⟨a2,n2,cc2,rfl,-,-⟩,hs,hg⟩;have S3:=lh hs;have G3:=lh (zat (zad _ B2.out) hg:w.grownBy w3 (some p));clear hs hg))
   go_ret2
   exact⟨_,rfl,SeO.nil _ _ _,S3.out,G3.out⟩
 subst h0;rw[if_neg (fun q=>q rfl)] at hg;generalize hR:zhT l fl cd pt ids c1 []=R at hg;have HRR:=lh hR;have HM:=lh hm;have HTT:=lh hT;have HK:=lh hkz;clear hm hT hkz hr hR;go_enter Tryz.func19,Tryz.ntmps19
 go_wp2_with (first
  | (go_at_call 17;(refine (HVP.out _ HB0.out).mono ?_);rintro _ w1 ⟨rfl,hb⟩;have B1:=lh hb;clear hb)
  | (go_at_call 10;(refine (HC.out _ B1.out).mono ?_);rintro _ w2 ⟨⟨a2,n2,cc2,rfl,hi,hfr⟩,hs,hg⟩;have HFR:=lh hfr;have z1:=B1.out.size;have S2:=lh hs;have G2:=lh (zat (zad _ B1.out) hg:w.grownBy w2 (some p));have z2:=hg.size;obtain⟨rfl,hI⟩:=hi (by first|exact rfl|trivial);have I2:=lh hI;clear hs hg hi hI hfr))
 clear HC HVP HB0 HS;have HJ:Hid (MlJ w0 w2 p sv l fl cd c1 [] w2 (.slice none 0 0)):=lh ⟨⟨[],rfl,.refl _,World.ownsRow_nil _ _ _ _⟩,S2.out,World.grownBy.refl _ _⟩;go_loopw [10,32] (fun v i wr=>∃ (k:Nat) (c:Int) (s:List Fu),k<=ids.length∧i=.int .i64 k∧Hid (zhT l fl cd pt (ids.drop k) c s=R)∧c1<=c∧c<=c1+k*60∧s.length<=k*19∧Hid (MlJ w0 w2 p sv l fl cd c s wr v)) (fun _ i _=>ids.length - (intOf i).toNat)
 case atStart=>exact⟨0,c1,[],Nat.zero_le _,rfl,HRR,Int.le_refl _,by omega,by simp,HJ⟩
 case round =>
  obtain⟨k,c,s,hk,rfl,HW,hc2,hc3,hts,HJr⟩:=hrel;obtain⟨⟨S,hSl,hSp,hown⟩,hsr,hgr⟩:=HJr.out;obtain⟨va,vc,rfl⟩:=za6 hown;have zr:=hgr.size;have HOW:=lh hown;have HSP:=lh hSp;by_cases hlt:k<ids.length
  · obtain⟨ia',ic',ei,-,hcc⟩:=zcN I2.out hgr (fun _ q hq e=>by have:=HFR.out q hq;omega);injection ei with ei1 ei2 ei3
    subst ei1 ei3;obtain⟨b,o,rfl,hb,hcell⟩:=hcc (by omega);have p0:=hcell k hlt;have j1:(0:Int)<=(k:Int):=by omega
    have j2:(k:Int)<(ids.length:Int):=by omega
    have hw:=HW.out;rw[List.drop_eq_getElem_cons hlt] at hw;unfold zhT at hw;generalize ids[k]=cid at p0 hw;have hEN:=znW p sv l fl cd c cid 9223372036854775807 pt w0 wr HM.out HTT.out hsr (fun q hq=>by have:=hso q hq;omega) hl HK.out (by omega) (by omega) hcd;have hbd:=ziS l fl cd c cid 9223372036854775807 pt;have hll:=zoC l fl cd c cid 9223372036854775807 pt;generalize zfT l fl cd c cid 9223372036854775807 pt=e at hEN hw hbd hll;obtain⟨⟨es,ec0⟩,e2⟩:=e;dsimp only at hw hEN hbd hll;have HEN:=lh hEN;have HGR:=lh hgr;clear hcell hcc hEN HW hsr hgr hown hSp;by_cases hc0':ec0=0
    · subst hc0';rw[if_neg (fun q=>q rfl)] at hw;have HW:=lh hw;clear hw
      go_wp2_with (first
       | (go_at_call 57;(refine HEN.out.mono ?_);rintro _ w5 ⟨hv,rfl,hse,hs5,hg5⟩;obtain⟨S5,hl5,hp5,hcs5⟩:=hse.cs;obtain⟨-,a5,c5,rfl,-⟩:=hse;have HCS5:=lh hcs5;have HP5:=lh hp5;have HS5:=lh hs5;have z5:=hg5.size;have OW5:=lh (zaD HOW.out (fun x hx=>hg5.block x (zam HOW.out x hx).2 (fun e=>by have:=(zam HOW.out x hx).1;have:=Option.some.inj e;omega)));have HG5:=lh (zat HGR.out hg5);clear hcs5 hp5 hs5 hg5)
       | (at_builtin;refine zca _ rfl (.tmp 46) (.tmp 47) 50 40 _ _ 33 336 rfl Tryz.underlying50 ztS zlE zlF zlG (zaa _ _ _) (by decide) w2.heap.size (.slice va s.length vc) (.slice a5 es.length c5) s.length es.length (ec (S.map SE.val)) (ec (S5.map SE.val)) rfl OW5.out rfl HCS5.out (zuH S5) (by unfold maxLen;omega) (by omega) (by omega) ?_;intro a8 c8 w8 hown hg8 hat;have OW8:=lh (show w8.ownsRow w2.heap.size 40 33 (.slice a8 (s.length+es.length) c8) (s++es).length (ec ((S++S5).map SE.val)) by rw[List.length_append,List.map_append,zhw];exact hown);have B8:=za2 hg8 (fun q hq=>(zam OW5.out q hq).1) (by omega:w2.heap.size<=w5.heap.size);have S8:=lh (HS5.out.belowB B8 (by omega) (fun _ q hq=>by have:=hso q hq;omega));have HG8:=lh (zay HG5.out B8);clear hown hg8 hat B8))
      go_roundw
      case rel=>exact⟨k+1,e2,s++es,by omega,by go_num,HW,by omega,by omega,by rw[List.length_append];omega,lh ⟨⟨S++S5,by rw[List.length_append,List.length_append,hSl,hl5],by rw[List.map_append,List.map_append];exact HSP.out.append HP5.out,by rw[List.length_append];rw[List.length_append] at OW8;exact OW8.out⟩,S8.out,HG8.out⟩⟩
      case measure=>simp [intOf];omega
    · rw[if_pos hc0'] at hw;rw[<-hw,if_pos hc0'] at hg;subst hg;have t2:(ec0 != 0)=true:=bne_iff_ne.2 hc0';clear hw hc0';go_wp2_with (go_at_call 57;(refine HEN.out.mono ?_);rintro _ w5 ⟨hv,rfl,hse,hs5,hg5⟩;obtain⟨-,a5,c5,rfl,-⟩:=hse;have HS5:=lh hs5;have HG5:=lh (zat HGR.out hg5);clear hs5 hg5)
      go_ret2
      exact⟨_,rfl,SeO.nil _ _ _,HS5.out,zat G2.out HG5.out⟩
  obtain rfl:k=ids.length:=by omega
  have hw:=HW.out;rw[List.drop_length] at hw;unfold zhT at hw;rw[<-hw,if_neg (fun q=>q rfl)] at hg;dsimp only at hg;have HSR:=lh hsr;have HGR:=lh hgr;clear hw HW HRR hown hSp hsr hgr;by_cases hmx:most<(s.length:Int)
  · rw[if_pos hmx] at hg;subst hg;have t2:decide (most<(s.length:Int))=true:=decide_eq_true hmx;clear hmx;go_wp2_with fail
    go_ret2
    exact⟨_,rfl,SeO.nil _ _ _,HSR.out,zat G2.out HGR.out⟩
  · rw[if_neg hmx] at hg;subst hg;have t2:decide (most<(s.length:Int))=false:=decide_eq_false hmx;have HSO:=lh (zsg (.slice va s.length vc) S s.length w2.heap.size wr hSl HOW.out h19);clear hmx;go_wp2_with (go_at_call 58;(refine HSO.out.mono ?_);rintro _ w5 ⟨rfl,hg5,hse⟩;have HSE:=lh (hse s HSP.out);have B5:=za2 hg5 (fun q hq=>(zam HOW.out q hq).1) zr;have S5:=lh (HSR.out.belowB B5 (by omega) (fun _ q hq=>by have:=hso q hq;omega));have HG5:=lh (zay HGR.out B5);clear hg5 hse B5)
    go_ret2
    exact⟨_,rfl,HSE.out,S5.out,zat G2.out HG5.out⟩
end
end Go.Proofs.YtefcmdmfgdcpmaaGreatDoor
