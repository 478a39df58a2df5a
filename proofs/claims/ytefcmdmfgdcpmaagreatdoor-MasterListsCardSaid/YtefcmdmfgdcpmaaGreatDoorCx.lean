/- Catalogs. -/
import Derived.Test.YtefcmdmfgdcpmaaGreatDoorMx
import Derived.Sort.OwnSortedInts
set_option maxRecDepth 8000
set_option maxHeartbeats 16000000
namespace Go.Proofs.YtefcmdmfgdcpmaaGreatDoor
open Go.RowKit
section
set_option linter.unusedSimpArgs false
structure EaJ {σ:Type} (w0:World) (p:Nat) (sv:Value) (l:List Rw) (fl cd:Int) (J K:Int->σ->World->Prop):Prop where
 sh:∀ c s W,J c s W->SHs w0 W p sv l fl cd c
 tick:∀ c s W W',J c s W->W.grownBy W' (some p)->SHs w0 W' p sv l fl cd (c+1)->K (c+1) s W'
 skip:∀ c s W,K c s W->J c s W
 below:∀ c s W W',J c s W->Below W.heap.size W W'->J c s W'
theorem zpS{σ:Type}(step:σ->ByteArray->ByteArray->σ)(J K:Int->σ->World->Prop)(s0:σ)(p bf:Nat)(sv:Value)(l:List Rw)(fl cd ca id:Int)(L:UInt8)(w0 w:World)(hw:IntKind.u8.wrap ((L.toNat:Int) - 1)=((L - 1).toNat:Int))(hA:EaJ w0 p sv l fl cd J K)(h0:J ca s0 w)(hl:l.length<=1000)(hkz:∀ x∈l,x.2.1.size<=1000)(hc0:0<=ca)(hc1:ca<=90000)(hcd:cd≠0∧cd≠6∨fl<=0)(hst:∀ c s k r W,K c s W->c<=ca+l.length+1->(id,k,r)∈l->(Ds.bl k).headD 0=L->Calls Tryz.prog 69 #[.string k,.string r,.pointer (some ⟨bf,0,none⟩)] W fun e w'=>e=.returned (.int .i64 0)∧J c (step s k r) w') :
  Calls Tryz.prog 68 #[.iface 31 (.pointer (some ⟨p,0,none⟩)),.int .i64 id,.int .u8 (L.toNat:Nat),.func (.func 69) #[] #[.pointer (some ⟨bf,0,none⟩)]] w fun r w' =>
   ∃ s c code,zbt l id fl cd L (fun s k r=>(.ok (step s k r):Except Int σ)) (l.length+1) ca [L - 1,255] s0=(.ok (s,code),c)∧r=.returned (.int .i64 code)∧J c s w':=by
 have hR0:cnt id [L - 1,255] l<l.length+1:=Nat.lt_succ_of_le (cnt_le _ _ _);generalize hR:zbt l id fl cd L (fun s k r=>(.ok (step s k r):Except Int σ)) (l.length+1) ca [L - 1,255] s0=R;have HST:=lh hst;have HA:=lh hA;have HR:=lh hR;have HR0:=lh hR0;have H0:=lh h0;have hcv:=zgv (L - 1) 255;clear hR hR0 h0 hst hA;go_enter Tryz.func68,Tryz.ntmps68
 go_wp2_with fail
 have B0:Below w.heap.size w (w.alloc (.cells #[.int .u8 ((L - 1).toNat:Nat),.int .u8 255] 5)):=(Below.refl _ _).alloc (Nat.le_refl _) _;go_loopw [9] (fun kv wr=>∃ (f:Nat) (c:Int) (k:ByteArray) (s:σ),kv=.string k∧Hid (zbt l id fl cd L (fun s k r=>(.ok (step s k r):Except Int σ)) f c (Ds.bl k) s=R)∧Hid (cnt id (Ds.bl k) l<f)∧0<=c∧c+f<=ca+l.length+1∧Hid (J c s wr)) (fun kv _=>cnt id (Ds.bl (zsX kv)) l)
 case atStart=>exact⟨l.length+1,ca,_,s0,rfl,HR,HR0,hc0,by omega,lh (HA.out.below _ _ _ _ H0.out B0)⟩
 case round =>
  obtain⟨f,c,k,s,rfl,HP,HC,hc2,hc3,HJ⟩:=hrel;obtain⟨g,rfl⟩:∃ g,f=g+1:=⟨f - 1,by have:=HC.out;omega⟩;have hnx:=zhb p sv l fl cd c id k w0 wr (HA.out.sh _ _ _ HJ.out) hc2 (by omega);have hmt:=zfu ⟨p,0,none⟩;have hP:=HP.out;unfold zbt at hP;by_cases hf:c+1=fl
  · rw[if_pos hf] at hP;have hcd':cd≠0∧cd≠6:=by rcases hcd with h|h;exact h;omega
    unfold nxV at hnx;rw[if_pos hf] at hnx;have HN:=lh hnx;have HPP:=lh hP;have t1:(cd==6)=false:=by rw[beq_eq_false_iff_ne];exact hcd'.2
    have t2:(cd==0)=false:=by rw[beq_eq_false_iff_ne];exact hcd'.1
    have t3:(cd != 0)=true:=by rw[bne_iff_ne];exact hcd'.1
    clear hnx hP hcd' hf;go_wp2_with (go_at_call 324;(refine HN.out.mono ?_);rintro _ w2 ⟨rfl,s1,s2⟩;have J2:=lh (HA.out.tick _ _ _ _ HJ.out s2 s1);clear s1 s2)
    go_ret
    exact⟨_,_,_,HPP.out.symm,rfl,HA.out.skip _ _ _ J2.out⟩
  rw[if_neg hf] at hP;unfold nxV at hnx;rw[if_neg hf] at hnx;clear hf
  cases hx:nx id (Ds.bl k) l with
  | none =>
    rw[hx] at hP hnx;have HN:=lh hnx;have HPP:=lh hP;clear hnx hP hx;go_wp2_with (go_at_call 324;(refine HN.out.mono ?_);rintro _ w2 ⟨rfl,s1,s2⟩;have J2:=lh (HA.out.tick _ _ _ _ HJ.out s2 s1);clear s1 s2)
    go_ret
    exact⟨_,_,_,HPP.out.symm,rfl,HA.out.skip _ _ _ J2.out⟩
  | some x =>
    rw[hx] at hP hnx;obtain⟨hmem,hxi,hx3⟩:=zdI hx;have hcn:=zjt hx;obtain⟨xi,xk,xr⟩:=x;have hks:=hkz _ hmem;have HMEM:=lh hmem;clear hmem;simp only at hP hnx hx3 hcn hks hxi
    have hxe:=hxi.symm;subst hxe
    have hpos:1<=xk.size:=by
     rcases Nat.eq_zero_or_pos xk.size with h|h
     · have:Ds.bl xk=[]:=List.eq_nil_of_length_eq_zero (by rw[Ds.bl_length];exact h);rw[this,zeA] at hx3;cases hx3
     · exact h
    have HN:=lh hnx;have HCM:=lh hcn;have HCN:Hid (cnt id (Ds.bl xk) l<g):=lh (by have:=HC.out;omega);have hb0:xk[0]'hpos=(Ds.bl xk).headD 0:=zgF xk hpos;have g0:(0:Int)<=0∧(0:Int)<(xk.size:Int):=by omega
    clear hnx hx hx3 hcn;obtain⟨q,hq⟩:∃ q,(Ds.bl xk).headD 0=q:=⟨_,rfl⟩;have HQ:=lh hq;rw[hq] at hP hb0;clear hq;by_cases h80:L<q
    · rw[if_pos h80] at hP;have HPP:=lh hP;have q1:((L.toNat:Nat):Int)<((q.toNat:Nat):Int):=Int.ofNat_lt.2 (UInt8.lt_iff_toNat_lt.1 h80);have q2:decide (((L.toNat:Nat):Int)<((q.toNat:Nat):Int))=true:=decide_eq_true q1;have q3:L.toNat<q.toNat:=UInt8.lt_iff_toNat_lt.1 h80;have q4:decide (L.toNat<q.toNat)=true:=decide_eq_true q3;clear hP h80;go_wp2_with (go_at_call 324;(refine HN.out.mono ?_);rintro _ w2 ⟨rfl,s1,s2⟩;have J2:=lh (HA.out.tick _ _ _ _ HJ.out s2 s1);clear s1 s2)
      go_ret
      exact⟨_,_,_,HPP.out.symm,rfl,HA.out.skip _ _ _ J2.out⟩
    rw[if_neg h80] at hP;by_cases h8:q<L
    · rw[if_pos h8] at hP;have HPP:=lh hP;have q1:¬ ((L.toNat:Nat):Int)<((q.toNat:Nat):Int):=fun h=>h80 (UInt8.lt_iff_toNat_lt.2 (Int.ofNat_lt.1 h))
      have q2:decide (((L.toNat:Nat):Int)<((q.toNat:Nat):Int))=false:=decide_eq_false q1;have q3:¬ L.toNat<q.toNat:=fun h=>h80 (UInt8.lt_iff_toNat_lt.2 h)
      have q4:decide (L.toNat<q.toNat)=false:=decide_eq_false q3;have q5:¬ q.toNat=L.toNat:=by have:=UInt8.lt_iff_toNat_lt.1 h8;omega
      have q6:(((q.toNat:Nat):Int)==((L.toNat:Nat):Int))=false:=by rw[beq_eq_false_iff_ne];omega
      have q7:(q.toNat==L.toNat)=false:=by rw[beq_eq_false_iff_ne];omega
      clear hP h80 h8;go_wp2_with (go_at_call 324;(refine HN.out.mono ?_);rintro _ w2 ⟨rfl,s1,s2⟩;have J2:=lh (HA.out.tick _ _ _ _ HJ.out s2 s1);clear s1 s2)
      go_roundw
      case rel=>exact⟨g,c+1,xk,s,rfl,HPP,HCN,by omega,by omega,lh (HA.out.skip _ _ _ J2.out)⟩
      case measure=>exact HCM.out
    rw[if_neg h8] at hP
    obtain rfl:q=L:=by
     refine UInt8.toNat_inj.1 ?_
     have h1:¬ L.toNat<q.toNat:=fun h=>h80 (UInt8.lt_iff_toNat_lt.2 h)
     have h2:¬ q.toNat<L.toNat:=fun h=>h8 (UInt8.lt_iff_toNat_lt.2 h)
     omega
    have q2:decide (((q.toNat:Nat):Int)<((q.toNat:Nat):Int))=false:=decide_eq_false (by omega);have q4:decide (q.toNat<q.toNat)=false:=decide_eq_false (by omega);clear h80 h8;have hP2:zbt l id fl cd q (fun s k r=>(.ok (step s k r):Except Int σ)) g (c+1) (Ds.bl xk) (step s xk xr)=R:=hP;have HPP:=lh hP2;clear hP hP2;have HUS:=lh (fun W (hj:K (c+1) s W)=>HST.out (c+1) s xk xr W hj (by omega) HMEM.out HQ.out)
    go_wp2_with (first
     | (go_at_call 324;(refine HN.out.mono ?_);rintro _ w2 ⟨rfl,s1,s2⟩;have J2:=lh (HA.out.tick _ _ _ _ HJ.out s2 s1);clear s1 s2)
     | (go_at_call 69;(refine (HUS.out _ J2.out).mono ?_);rintro _ w3 ⟨rfl,hj3⟩;have J3:=lh hj3;clear hj3))
    go_roundw
    case rel=>exact⟨g,c+1,xk,step s xk xr,rfl,HPP,HCN,by omega,by omega,J3⟩
    case measure=>exact HCM.out
end
section
set_option linter.unusedSimpArgs false
structure CtJ (w0 wB:World) (p bf bo:Nat) (sv:Value) (l:List Rw) (fl cd:Int) (c:Int) (s:List Int) (W:World) (v:Value):Prop where
 sh:SHs w0 W p sv l fl cd c
 g:wB.grownBy W (some p)
 cf:W.cell? ⟨bf,0,none⟩=some (.func (.func 26) #[] #[.pointer (some ⟨bo,0,none⟩)])
 co:W.cell? ⟨bo,0,none⟩=some v
 fo:W.frozen? ⟨bo,0,none⟩=false
 ow:W.ownsRow wB.heap.size 3 1 v s.length (iv s)
 n1:some bo≠v.ownBlock
 n2:some bf≠v.ownBlock
 lt:p<wB.heap.size
 zo:wB.heap.size<=bo
 zf:wB.heap.size<=bf
 ne:bo≠bf
 z0:w0.heap.size<=wB.heap.size
 so:∀ b,sv.ownBlock=some b->b<wB.heap.size
theorem CtJ.keep{w0 wB W W':World}{p bf bo:Nat}{sv:Value}{l:List Rw}{fl cd c:Int}{s:List Int}{v:Value}(h:CtJ w0 wB p bf bo sv l fl cd c s W v)(hb:Below W.heap.size W W'):CtJ w0 wB p bf bo sv l fl cd c s W' v :=
 ⟨h.sh.below hb,zay h.g (hb.mono h.g.size),(hb.cell (p:=⟨bf,0,none⟩) (zaR h.cf)).trans h.cf,(hb.cell (p:=⟨bo,0,none⟩) (zaR h.co)).trans h.co,(hb.frozen (p:=⟨bo,0,none⟩) (zaR h.co)).trans h.fo,zaD h.ow (fun x hx=>hb.block x (zam h.ow x hx).2),h.n1,h.n2,h.lt,h.zo,h.zf,h.ne,h.z0,h.so⟩
theorem CtJ.tick{w0 wB W W':World}{p bf bo:Nat}{sv:Value}{l:List Rw}{fl cd c c':Int}{s:List Int}{v:Value}(h:CtJ w0 wB p bf bo sv l fl cd c s W v)(hg:W.grownBy W' (some p))(hs:SHs w0 W' p sv l fl cd c'):CtJ w0 wB p bf bo sv l fl cd c' s W' v:=by
 have e:∀ k,k≠p->k<W.heap.size->W'.heap[k]?=W.heap[k]?:=fun k h1 h2=>hg.block k h2 (fun e=>h1 (Option.some.inj e))
 have lt:=h.lt;have zo:=h.zo;have zf:=h.zf;exact⟨hs,zat h.g hg,(World.cell?_of_block (a:=⟨bf,0,none⟩) (e bf (by omega) (zaR h.cf))).trans h.cf,(World.cell?_of_block (a:=⟨bo,0,none⟩) (e bo (by omega) (zaR h.co))).trans h.co,(World.frozen?_of_block (a:=⟨bo,0,none⟩) (e bo (by omega) (zaR h.co))).trans h.fo,zaD h.ow (fun x hx=>e x (by have:=(zam h.ow x hx).1;omega) (zam h.ow x hx).2),h.n1,h.n2,h.lt,h.zo,h.zf,h.ne,h.z0,h.so⟩
theorem CtJ.app{w0 wB W W1 W2:World}{p bf bo n:Nat}{sv:Value}{l:List Rw}{fl cd c:Int}{s:List Int}{v:Value}{a:Option Addr}{cc:Nat}{z:Int}(h:CtJ w0 wB p bf bo sv l fl cd c s W v)(hb:Below W.heap.size W W1)(ho:W2.ownsRow wB.heap.size 3 1 (.slice a n cc) (s++[z]).length (iv (s++[z])))(hg:W1.grownBy W2 v.ownBlock)(hat:(Value.slice a n cc).ownBlock=v.ownBlock∨(Value.slice a n cc).ownBlock=some W1.heap.size) :
  CtJ w0 wB p bf bo sv l fl cd c (s++[z]) (W2.setCell ⟨bo,0,none⟩ (.slice a n cc)) (.slice a n cc):=by
 have h1:=h.keep hb;have lo:=zaR h1.co;have lf:=zaR h1.cf;have o1:∀ q,v.ownBlock=some q->wB.heap.size<=q∧q<W1.heap.size:=fun q hq=>zam h1.ow q hq
 have B2:Below wB.heap.size W1 W2:=za2 hg (fun q hq=>(o1 q hq).1) h1.g.size;have hs9:=zaH W2 ⟨bo,0,none⟩ (.slice a n cc);have B9:Below wB.heap.size W2 (W2.setCell ⟨bo,0,none⟩ (.slice a n cc)):=zaU hs9 h.zo (Nat.le_trans h1.g.size B2.size);have co2:W2.cell? ⟨bo,0,none⟩=some v:=(World.cell?_of_block (a:=⟨bo,0,none⟩) (hg.block bo lo h.n1)).trans h1.co;have cf2:=(World.cell?_of_block (a:=⟨bf,0,none⟩) (hg.block bf lf h.n2)).trans h1.cf;have fo2:W2.frozen? ⟨bo,0,none⟩=false:=(World.frozen?_of_block (a:=⟨bo,0,none⟩) (hg.block bo lo h.n1)).trans h1.fo
 have n1':some bo≠(Value.slice a n cc).ownBlock:=by
  rcases hat with e|e
  · rw[e];exact h.n1
  · rw[e];intro q;have:=Option.some.inj q;omega
 have n2':some bf≠(Value.slice a n cc).ownBlock:=by
  rcases hat with e|e
  · rw[e];exact h.n2
  · rw[e];intro q;have:=Option.some.inj q;omega
 refine⟨h1.sh.belowB (B2.trans B9) h.lt (fun _ b hb=>h.so b hb),zay h1.g (B2.trans B9),?_,World.cell?_setCell_same' _ _ _ (by rw[co2];rfl),by rw[World.frozen?_setCell];exact fo2,zaD ho (fun x hx=>hs9.block x (zam ho x hx).2 (fun e=>n1' (by rw[hx];exact e.symm))),n1',n2',h.lt,h.zo,h.zf,h.ne,h.z0,h.so⟩
 rw[World.cell?_setCell_other _ _ _ _ (by intro e;exact h.ne (congrArg Addr.block e))];exact cf2
attribute [local go_sem ↓] zaV zaW zaz za1
attribute [local go_sem] zav zap zal zaI zaJ zae zaq zai zaw zao zas zan zaa zaj zaf zaA zax zak zag zar zaG zaC zaE
theorem ztF(x:En)(al gr:Value)(p bf bo:Nat)(sv:Value)(l:List Rw)(fl cd c:Int)(s:List Int)(v:Value)(w0 wB W:World)(_hone:zaM (x.vals al gr).toList=true)(H:CtJ w0 wB p bf bo sv l fl cd c s W v)(hs:s.length<=1000) :
  Calls Tryz.prog 26 #[.agg (x.vals al gr),.pointer (some ⟨bo,0,none⟩)] W fun r w'=>r=.returned (.tuple #[])∧∃ v',CtJ w0 wB p bf bo sv l fl cd c (s++[x.cat]) w' v':=by
 obtain⟨va,vc,rfl⟩:=za6 H.ow;have b1:=zab W (.cells (x.vals al gr) 40);have b2:=zab (W.alloc (.cells (x.vals al gr) 40)) (.cells #[.int .i64 x.cat] 3);have H2:=(H.keep b1).keep b2;have co1:=(H.keep b1).co;have n30:=zah (zai W (x.vals al gr) 40 (0,0)) 30 _ (zbM _ _ _);have ow2:=H2.ow;have zz:=H.g.size;have HH:=lh H;have HB:=lh (bt b1 b2);clear H H2 b1 b2;go_enter Tryz.func26,Tryz.ntmps26
 go_wp2_with (at_builtin;refine zca _ rfl (.tmp 3) (.tmp 6) 27 3 _ _ 1 8 rfl Tryz.underlying27 zp0 zlX zlY zlZ rfl (by decide) wB.heap.size (.slice va s.length vc) (.slice (some ⟨W.heap.size+1,0,none⟩) 1 1) s.length 1 (iv s) (iv [x.cat]) rfl ow2 rfl (zlu _ x.cat _ (by simp)) (zp6 _) (by unfold maxLen;omega) (by omega) (by simp;omega) ?_;intro a8 c8 w8 hown hg8 hat;have HO:=lh (show w8.ownsRow wB.heap.size 3 1 (.slice a8 (s.length+1) c8) (s++[x.cat]).length (iv (s++[x.cat])) by rw[List.length_append,List.length_singleton,show iv (s++[x.cat])=iv s++iv [x.cat] from List.map_append];exact hown);have HG8:=lh hg8;have HAT:=lh hat;have co8:=(World.cell?_of_block (a:=⟨bo,0,none⟩) (hg8.block bo (zaR ((HH.out.keep HB.out).co)) HH.out.n1)).trans ((HH.out.keep HB.out).co);have fo8:=(World.frozen?_of_block (a:=⟨bo,0,none⟩) (hg8.block bo (zaR ((HH.out.keep HB.out).co)) HH.out.n1)).trans ((HH.out.keep HB.out).fo);clear hown hg8 hat)
 go_end0
 exact⟨rfl,_,HH.out.app HB.out HO.out HG8.out HAT.out⟩
theorem zrl(k r:ByteArray)(y:Fu)(p bf bo:Nat)(sv:Value)(l:List Rw)(fl cd c:Int)(s:List Int)(v:Value)(w0 wB W:World)(hm:MaxL W)(hT:Tab W)(hd:zc6 (Ds.bl r)=some y)(hk:zfr y=Ds.bl k)(H:CtJ w0 wB p bf bo sv l fl cd c s W v)(hs:s.length<=1000) :
  Calls Tryz.prog 69 #[.string k,.string r,.pointer (some ⟨bf,0,none⟩)] W fun e w'=>e=.returned (.int .i64 0)∧∃ v',CtJ w0 wB p bf bo sv l fl cd c (s++[y.1.cat]) w' v':=by
 have hky:=ziQ y k;rw[decide_eq_true hk] at hky;have HD:=lh (zdn r y W hm hT hd);have HK:=lh (fun W=>zd9 y.1.kind y.1.name W);have HH:=lh H;clear hk hd H hm hT;generalize zaT y.1.kind y.1.name=kz at hky HK;go_enter Tryz.func69,Tryz.ntmps69
 go_wp2_with (first
  | (go_at_call 12;(refine HD.out.mono ?_);rintro _ w3 ⟨a1,c1,a2,c2,rfl,hI,hGs,hb3,hf1,hf2⟩;have hone:=zau y.1 (.slice a1 y.2.1.length c1) (.slice a2 y.2.2.length c2) rfl rfl;have R0:=zai w3 (y.1.vals (.slice a1 y.2.1.length c1) (.slice a2 y.2.2.length c2)) 40 (0,0);have B3:=lh (bt hb3 (zab w3 (.cells (y.1.vals (.slice a1 y.2.1.length c1) (.slice a2 y.2.2.length c2)) 40)));have N0:=zah R0 0 _ (zaC _ _ _);have N1:=zah R0 1 _ (zaE _ _ _);clear hI hGs hb3 hf1 hf2)
  | (go_at_call 70;(with_reducible refine (HK.out _).mono ?_);rintro _ w4 ⟨rfl,hb4⟩;have R4:=zaB hb4 R0 (by rw[zaa];decide);have HH4:=lh (HH.out.keep (bt B3.out hb4));have cf4:=HH4.out.cf;clear hb4)
  | (go_at_call 26;(refine (ztF y.1 _ _ p bf bo sv l fl cd c s v w0 wB w4 hone HH4.out hs).mono ?_);rintro _ w5 ⟨rfl,hj⟩;have HJ5:=lh hj;clear hj))
 go_ret
 exact⟨rfl,HJ5.out⟩
def RdL(l:List Rw)(id:Int)(L:UInt8):Prop:=∀ k r,(id,k,r)∈l->(Ds.bl k).headD 0=L->∃ y,zc6 (Ds.bl r)=some y∧zfr y=Ds.bl k
def ctS(s:List Int)(k r:ByteArray):List Int:=s++[(zaS k r).1.1.cat]
def CtK(w0 wB:World)(p bf bo:Nat)(sv:Value)(l:List Rw)(fl cd ca:Int)(n:Nat)(c:Int)(s:List Int)(W:World):Prop:=(∃ v,CtJ w0 wB p bf bo sv l fl cd c s W v)∧(s.length:Int)+ca<=c+n∧1<=s.length
theorem zvo(w0 wB:World)(p bf bo:Nat)(sv:Value)(l:List Rw)(fl cd ca:Int):EaJ w0 p sv l fl cd (CtK w0 wB p bf bo sv l fl cd ca 1) (CtK w0 wB p bf bo sv l fl cd ca 0) :=
 ⟨fun _ _ _ ⟨⟨_,h⟩,_⟩=>h.sh,fun _ _ _ _ ⟨⟨v,h⟩,q,z⟩ hg hs=>⟨⟨v,h.tick hg hs⟩,by omega,z⟩,fun _ _ _ ⟨h,q,z⟩=>⟨h,by omega,z⟩,fun _ _ _ _ ⟨⟨v,h⟩,q⟩ hb=>⟨⟨v,h.keep hb⟩,q⟩⟩
theorem zkg{k r:ByteArray}{y:Fu}(hd:zc6 (Ds.bl r)=some y)(hk:zfr y=Ds.bl k):zaS k r=(y,0):=by
 unfold zaS;rw[hd];exact if_pos hk
theorem zkv(p bo:Nat)(sv:Value)(l:List Rw)(fl cd ca:Int)(s:List Int)(v:Value)(w0 wB w:World)(hm:MaxL w0)(hT:Tab w0)(hl:l.length<=900)(hkz:∀ x∈l,x.2.1.size<=1000)(hc0:0<=ca)(hc1:ca<=90000)(hcd:cd≠0∧cd≠6∨fl<=0)(hr:RdL l 1 67)(hs:s.length=1)(H:CtJ w0 wB p w.heap.size bo sv l fl cd ca s (w.alloc (.cells #[.func (.func 26) #[] #[.pointer (some ⟨bo,0,none⟩)]] 73)) v) :
  Calls Tryz.prog 25 #[.iface 31 (.pointer (some ⟨p,0,none⟩)),.int .i64 1,.int .u8 67,.func (.func 26) #[] #[.pointer (some ⟨bo,0,none⟩)]] w fun r w' =>
   ∃ s' c code,zbt l 1 fl cd 67 (fun s k r=>(.ok (ctS s k r):Except Int (List Int))) (l.length+1) ca [(67:UInt8) - 1,255] s=(.ok (s',code),c)∧r=.returned (.int .i64 code)∧(1<=s'.length∧s'.length<=1000)∧∃ v',CtJ w0 wB p w.heap.size bo sv l fl cd c s' w' v':=by
 have HA:=lh (zpS ctS (CtK w0 wB p w.heap.size bo sv l fl cd ca 1) (CtK w0 wB p w.heap.size bo sv l fl cd ca 0) s p w.heap.size sv l fl cd ca 1 67 w0 _ (by decide) (zvo w0 wB p w.heap.size bo sv l fl cd ca) ⟨⟨v,H⟩,by omega,by omega⟩ (by omega) hkz hc0 hc1 hcd (fun c s k r W hK hcb hmem hL=>by
  obtain⟨⟨v1,h1⟩,hq,hz⟩:=hK;obtain⟨y,hd,hk⟩:=hr k r hmem hL;refine (zrl k r y p w.heap.size bo sv l fl cd c s v1 w0 wB W (hm.below h1.sh.b) (hT.below h1.sh.b) hd hk h1 (by omega)).mono ?_
  rintro e w' ⟨he,v2,h2⟩;refine⟨he,?_⟩
  unfold ctS;rw[zkg hd hk];exact⟨⟨v2,h2⟩,by rw[List.length_append,List.length_singleton];omega,by rw[List.length_append];omega⟩))
 clear H hr hm hT;go_enter Tryz.func25,Tryz.ntmps25
 go_wp2_with (go_at_call 68;(refine HA.out.mono ?_);rintro _ w2 ⟨s',c,code,hrec,rfl,hj⟩;have HR:=lh hrec;have HJ:=lh hj;clear hrec hj)
 go_ret
 obtain⟨hj,hq,hz⟩:=HJ.out;have hca:=(zc2 (step:=fun s k r=>(.ok (ctS s k r):Except Int (List Int))) (l:=l) (id:=1) (fl:=fl) (cd:=cd) (L:=67) (l.length+1) ca [(67:UInt8) - 1,255] s).2;rw[HR.out] at hca;dsimp only at hca;exact⟨s',c,code,HR.out,rfl,⟨hz,by omega⟩,hj⟩
end
section
set_option linter.unusedSimpArgs false
theorem zgb(d:Array Int):∀ j,j<d.size->∃ i,i<=j∧Lib.keeps d i=true∧d[i]! = d[j]!
 | 0,_=>⟨0,Nat.le_refl _,Lib.keeps_lt_one d 0 (by decide),rfl⟩
 | j+1,h=>by
   cases hk:Lib.keeps d (j+1)
   · obtain⟨i,h1,h2,h3⟩:=zgb d j (by omega);refine⟨i,by omega,h2,?_⟩
     rw[h3];unfold Lib.keeps at hk;have hk2:d[j+1]! = d[j]!:=by simpa using hk
     exact hk2.symm
   · exact⟨j+1,Nat.le_refl _,hk,rfl⟩
theorem ziC(l:List Int)(x:Int):x∈Lib.compact l↔x∈l:=by
 unfold Lib.compact Lib.compactUpTo;constructor
 · intro h;obtain⟨j,hj,rfl⟩:=List.mem_map.1 h;have hj2:=List.mem_range.1 (List.mem_filter.1 hj).1;rw[getElem!_pos _ _ (by simpa using hj2)];simp
 · intro h;obtain⟨j,hj,rfl⟩:=List.getElem_of_mem h;obtain⟨i,h1,h2,h3⟩:=zgb l.toArray j (by simpa using hj);refine List.mem_map.2 ⟨i,List.mem_filter.2 ⟨List.mem_range.2 (by omega),h2⟩,?_⟩
   rw[h3,getElem!_pos _ _ (by simpa using hj)];simp
theorem zff(l:List Int):(Lib.compact l).length<=l.length:=by
 unfold Lib.compact Lib.compactUpTo;rw[List.length_map];have:=List.length_filter_le (Lib.keeps l.toArray) (List.range l.length);rw[List.length_range] at this;exact this
def zfS(s:List Int):List Int:=Lib.compact (s.mergeSort fun x y=>decide (x<=y))
theorem ze3(s:List Int)(x:Int):x∈zfS s↔x∈s:=by
 unfold zfS;rw[ziC];exact (List.mergeSort_perm s _).mem_iff
theorem zjM(s:List Int):(zfS s).length<=s.length:=by
 unfold zfS;refine Nat.le_trans (zff _) ?_
 rw[List.length_mergeSort];exact Nat.le_refl _
theorem zqe{W:World}{base:Nat}{va:Option Addr}{vc:Nat}{s:List Int}(ow:W.ownsRow base 3 1 (.slice va s.length vc) s.length (iv s))(h0:0<s.length):∃ g,va=some ⟨g,0,none⟩∧base<=g∧g<W.heap.size∧s.length<=vc∧Sort.Holds (Value.int .i64) W g 0 s.toArray ∧
  ∀ n os (ts:List Int),ts.length=s.length->(Sort.grow (Sort.putRow (Value.int .i64) (Sort.ahead W n) g 0 ts.toArray) os).ownsRow base 3 1 (.slice (some ⟨g,0,none⟩) s.length vc) s.length (iv ts)∧W.grownBy (Sort.grow (Sort.putRow (Value.int .i64) (Sort.ahead W n) g 0 ts.toArray) os) (some g):=by
 rcases ow.2 with ⟨e,-⟩|⟨g,cap,cur,e,hb,hg,hnc,hcap,hcs,ht⟩
 · injection e with _ e2 _
   omega
 · injection e with e1 _ e3
   subst e1 e3;have hlt:g<W.heap.size:=(Array.getElem?_eq_some_iff.1 hg).1;rw[Nat.mul_one] at ht;refine⟨g,rfl,hb,hlt,hnc,holds_of_blockI hg ht,fun n os ts hl=>⟨?_,grownBy_sortedI _⟩⟩
   exact ownsRow_sortedI hl hb hg hnc hcap hcs
def CxR(w0 w w':World)(p:Nat)(sv:Value)(l:List Rw)(fl cd ca:Int)(r:Ending):Prop :=
 ∃ s' c code,zbt l 1 fl cd 67 (fun s k r=>(.ok (ctS s k r):Except Int (List Int))) (l.length+1) ca [(67:UInt8) - 1,255] [1]=(.ok (s',code),c)∧(∃ a cc n,r=.returned (.tuple #[.slice a n cc,.int .i64 code])∧(code=0->n=(zfS s').length∧IS w' (.slice a n cc) (zfS s'))∧∀ b,(Value.slice a n cc).ownBlock=some b->w.heap.size<=b)∧SHs w0 w' p sv l fl cd c∧w.grownBy w' (some p)
theorem zua{w:World}{base:Nat}{g n cc:Nat}{l m:List Int}(h:w.ownsRow base 3 1 (.slice (some ⟨g,0,none⟩) n cc) n (iv (l++m)))(hz:l.length<=1000000):IS w (.slice (some ⟨g,0,none⟩) l.length cc) l:=by
 obtain⟨a,c,e,hl,hc⟩:=zbq h;injection e with e1 e2 e3
 subst e1 e3;refine⟨_,_,rfl,hz,fun h0=>?_⟩
 have hn:n=(l++m).length:=by
  unfold iv at hl;rw[List.length_map,Nat.mul_one] at hl;exact hl.symm
 obtain⟨ad,e2,hp⟩:=hc (by rw[hn,List.length_append];omega);cases e2
 have hcell:∀ k (hk:k<l.length),w.cell? ⟨g,0+k,none⟩=some (.int .i64 l[k]):=fun k hk=>by
  have:=hp k (.int .i64 l[k]) (by unfold iv;rw[List.getElem?_map,List.getElem?_append_left hk,List.getElem?_eq_getElem hk];rfl);rw[Addr.add_lit] at this;exact this
 exact⟨g,0,rfl,zaR (hcell 0 h0),hcell⟩
theorem zqh{w:World}{q:Nat}(z:Int)(hq:w.heap.size=q):(w.alloc (.cells #[.int .i64 z] 3)).ownsRow q 3 1 (.slice (some ⟨q,0,none⟩) 1 1) 1 (iv [z]):=by
 subst hq;exact⟨rfl,.inr ⟨w.heap.size,1,#[.int .i64 z],rfl,Nat.le_refl _,heap_alloc_new w _,Nat.le_refl _,by unfold maxLen;omega,rfl,rfl⟩⟩
theorem zft(p:Nat)(sv:Value)(l:List Rw)(fl cd ca:Int)(w0 w:World)(hm:MaxL w0)(hT:Tab w0)(hS:SHs w0 w p sv l fl cd ca)(hso:∀ b,sv.ownBlock=some b->b<w.heap.size)(hl:l.length<=900)(hkz:∀ x∈l,x.2.1.size<=1000)(hc0:0<=ca)(hc1:ca<=90000)(hcd:cd≠0∧cd≠6∨fl<=0)(hr:RdL l 1 67) :
  Calls Tryz.prog 10 #[.iface 31 (.pointer (some ⟨p,0,none⟩))] w fun r w'=>CxR w0 w w' p sv l fl cd ca r:=by
 have hpl:=hS.pl;have hz0:=hS.b.size;have b1:=zab w (.cells #[.int .i64 1] 3);have b2:=zab (w.alloc (.cells #[.int .i64 1] 3)) (.cells #[.slice (some ⟨w.heap.size,0,none⟩) 1 1] 27);have b12:=bt b1 b2;have co2:((w.alloc (.cells #[.int .i64 1] 3)).alloc (.cells #[.slice (some ⟨w.heap.size,0,none⟩) 1 1] 27)).cell? ⟨w.heap.size+1,0,none⟩=some (.slice (some ⟨w.heap.size,0,none⟩) 1 1):=by simp [go_sem]
 have fo2:((w.alloc (.cells #[.int .i64 1] 3)).alloc (.cells #[.slice (some ⟨w.heap.size,0,none⟩) 1 1] 27)).frozen? ⟨w.heap.size+1,0,none⟩=false:=by simp
 have z2:((w.alloc (.cells #[.int .i64 1] 3)).alloc (.cells #[.slice (some ⟨w.heap.size,0,none⟩) 1 1] 27)).heap.size=w.heap.size+2:=by simp
 have ow2:=zaD (zqh (w:=w) 1 rfl) (fun x hx=>b2.block x (zam (zqh (w:=w) 1 rfl) x hx).2)
 have HW:∀ W2:World,((w.alloc (.cells #[.int .i64 1] 3)).alloc (.cells #[.slice (some ⟨w.heap.size,0,none⟩) 1 1] 27))=W2->Hid (CtJ w0 w p W2.heap.size (w.heap.size+1) sv l fl cd ca [1] (W2.alloc (.cells #[.func (.func 26) #[] #[.pointer (some ⟨w.heap.size+1,0,none⟩)]] 73)) (.slice (some ⟨w.heap.size,0,none⟩) 1 1)):=fun W2 e=>by
  rw[e] at b2 b12 co2 fo2 z2 ow2;have b3:=zab W2 (.cells #[.func (.func 26) #[] #[.pointer (some ⟨w.heap.size+1,0,none⟩)]] 73);exact lh ⟨hS.below (bt b12 b3),zad _ (bt b12 b3),by simp [go_sem],(b3.cell (p:=⟨w.heap.size+1,0,none⟩) (by show w.heap.size+1<W2.heap.size;omega)).trans co2,(b3.frozen (p:=⟨w.heap.size+1,0,none⟩) (by show w.heap.size+1<W2.heap.size;omega)).trans fo2,zaD ow2 (fun x hx=>b3.block x (zam ow2 x hx).2),(by intro q;have q2:w.heap.size+1=w.heap.size:=Option.some.inj q;omega),(by intro q;have q2:W2.heap.size=w.heap.size:=Option.some.inj q;omega),by omega,by omega,by omega,by omega,hz0,hso⟩
 have HE:=lh (fun W2 e=>zkv p (w.heap.size+1) sv l fl cd ca [1] _ w0 w W2 hm hT hl hkz hc0 hc1 hcd hr rfl (HW W2 e).out);clear b1 b2 b12 co2 fo2 z2 ow2 HW hr hm hT;go_enter Tryz.func10,Tryz.ntmps10
 go_upto_region 2 with fail
 obtain⟨W2,hW2⟩:∃ W2,((w.alloc (.cells #[.int .i64 1] 3)).alloc (.cells #[.slice (some ⟨w.heap.size,0,none⟩) 1 1] 27))=W2:=⟨_,rfl⟩;have HE2:=lh (HE.out W2 hW2);rw[hW2];clear HE hW2
 go_wp2_with (first
  | (go_at_call 25;(refine HE2.out.mono ?_);rintro _ w3 ⟨s',c,code,hrec,rfl,hs,v',hj⟩;have HREC:=lh hrec;have HJ:=lh hj;have co3:=hj.co;obtain⟨va,vc,rfl⟩:=za6 hj.ow;obtain⟨g,rfl,hg1,hg2,hvc,hH,hrow⟩:=zqe hj.ow (by omega);have HROW:=lh hrow;have HHO:=lh hH;have hsl:=hs.2;have hs1:=hs.1;have hcc:(code != 0)=true∧code≠0∨(code != 0)=false∧code=0:=(by by_cases q:code=0;exact .inr ⟨by rw[q];rfl,q⟩;exact .inl ⟨bne_iff_ne.2 q,q⟩);clear hrec hj hH hrow hs;rcases hcc with ⟨t1,hcq⟩|⟨t1,hcq⟩ <;> (have HCQ:=lh hcq;clear hcq))
  | (go_at_call 27;(refine (Tryz.slices_Sort_int g 0 vc s' w3 HHO.out hg2 (by omega)).mono ?_);rintro _ w4 ⟨rfl,n4,os4,hw4⟩;obtain⟨ts,hts⟩:∃ ts,(s'.mergeSort fun x y=>decide (x<=y))=ts:=⟨_,rfl⟩;have hsl4:ts.length=s'.length:=(by rw[<-hts];exact List.length_mergeSort _);rw[hts] at hw4;have hro:=HROW.out n4 os4 ts hsl4;rw[<-hw4] at hro;have HTS:=lh hts;have OW4:=lh hro.1;have HG4:=lh hro.2;have co4:=(World.cell?_of_block (a:=⟨w.heap.size+1,0,none⟩) (hro.2.block (w.heap.size+1) (zaR co3) HJ.out.n1)).trans co3;have HSL:=lh hsl4;clear hro hw4 hts hsl4)
  | (go_at_call 28;have ow4:=OW4.out;rw[<-HSL.out] at ow4;have hz4:=HSL.out;obtain⟨g2,e2,-,hg24,-,hH4,hrow4⟩:=zqe ow4 (by omega);cases e2;have hcp:=Tryz.slices_Compact_int g 0 vc ts w4 hH4 (by omega) (by omega);rw[hz4] at hcp;refine hcp.mono ?_;rintro _ w5 ⟨rfl,q5,hw5⟩;have HW5:=lh hw5;have HROW4:=lh hrow4;clear ow4 hH4 hrow4 hcp hw5))
 · go_ret2
   exact⟨s',c,code,HREC.out,⟨_,_,_,rfl,fun h=>absurd h HCQ.out,fun b hb=>by cases hb⟩,HJ.out.sh,HJ.out.g⟩
 · obtain rfl:=HCQ.out;have hz4:=HSL.out;have hcl:=zff ts;have hro:=HROW4.out q5 #[] (Lib.compact ts++List.replicate (s'.length - (Lib.compact ts).length) 0) (by rw[List.length_append,List.length_replicate];omega);rw[Sort.grow_empty,<-HW5.out] at hro;obtain⟨ow5,hg5⟩:=hro;have b34:Below w.heap.size w3 w4:=zaU HG4.out hg1 HJ.out.g.size;have b45:Below w.heap.size w4 w5:=zaU hg5 hg1 (Nat.le_trans HJ.out.g.size HG4.out.size);go_ret2
   refine⟨s',c,0,HREC.out,⟨_,_,_,rfl,fun _=>⟨?_,?_⟩,fun b hb=>by cases hb;exact hg1⟩,HJ.out.sh.belowB (b34.trans b45) hpl (fun _ b hb=>hso b hb),zay HJ.out.g (b34.trans b45)⟩
   · unfold zfS;rw[HTS.out]
   · unfold zfS;rw[HTS.out];exact zua ow5 (by omega)
end
end Go.Proofs.YtefcmdmfgdcpmaaGreatDoor
