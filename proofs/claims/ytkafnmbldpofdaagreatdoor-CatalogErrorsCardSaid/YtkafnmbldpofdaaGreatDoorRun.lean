/- Catalogs. -/
import Derived.Test.YtkafnmbldpofdaaGreatDoorLiC
set_option maxRecDepth 8000
set_option maxHeartbeats 8000000
namespace Go.Proofs.YtkafnmbldpofdaaGreatDoor
open Go.RowKit
section
attribute [local go_sem ↓] zaX zdf za0 zaD zbg zka
attribute [local go_sem] zaA zas zan zaM zaO zah zat zai zau zaf zak zaq zab zap zaj zaE zaC zao zam zax zaL zay zaz
theorem zpt(p:Nat)(sv:Value)(l:List Rw)(fl cd ca id:Int)(name:ByteArray)(w0 w:World)(hm:MaxL w0)(hT:Tab w0)(hS:SHs w0 w p sv l fl cd ca)(hso:∀ b,sv.ownBlock=some b->b<w.heap.size)(hl:l.length<=1000)(hkz:∀ x∈l,x.2.1.size<=1000)(hc0:0<=ca)(hc1:ca<=80000)(hcd:cd≠0∧cd≠6∨fl<=0) :
  Calls Tryz.prog 33 #[.iface 37 (.pointer (some ⟨p,0,none⟩)),.int .i64 id,.string name] w fun r w'=>GnR w0 w w' p sv l fl cd (zh3 l fl cd ca id name) r:=by
 have S:=lh hS
 have G:=lh (World.grownBy.refl w (some p))
 have hcd2:cd≠0∨fl<=0:=hcd.imp (fun h=>h.1) (fun h=>h)
 have hz0:=hS.b.size
 have hpl:=hS.pl
 clear hS
 unfold zh3
 have hget:=fun W (h:SHs w0 W p sv l fl cd ca)=>zdT p sv l fl cd ca id 1 name w0 W hm hT h hc0 (by omega) hcd2
 have hca:=zbU l fl cd ca id 1 name
 generalize zbs l fl cd ca id 1 name=gg at hget hca ⊢
 obtain⟨⟨y,code⟩,cb⟩:=gg
 dsimp only at hca ⊢
 have HGE:=lh hget
 have hgn:=fun W (h:SHs w0 W p sv l fl cd cb) (ho:∀ b,sv.ownBlock=some b->b<W.heap.size)=>zdD p sv l fl cd cb id name w0 W hm hT h ho hl hkz (by omega) (by omega) hcd
 have HGN:=lh hgn
 clear hget hgn
 by_cases h0:code=0
 rotate_left
 · rw[if_pos h0]
   have t1:(code != 0)=true:=by rw[bne_iff_ne];exact h0
   clear h0
   go_enter Tryz.func33,Tryz.ntmps33
   go_wp2_with (go_at_call 14;(refine (HGE.out _ S.out).mono ?_);rintro _ w2 ⟨⟨al,gr,rfl,hI,hGs,hf1,hf2⟩,hs,hg⟩;clear HGE;have hone:=zav y.1 al gr (zaT hI) (zaU hGs);have BZ:=zag w2 (.cells (y.1.vals al gr) 32);have G:=lh (zaY (zaI G.out hg) BZ);have S:=lh (hs.below BZ);clear hI hGs hf1 hf2 hs hg BZ)
   go_ret2
   exact⟨none,0,rfl,S.out,G.out⟩
 rw[if_neg (fun h=>h h0)]
 subst h0
 generalize zfM l fl cd cb id name=gn at HGN ⊢
 obtain⟨⟨nl,nc⟩,cc⟩:=gn
 go_enter Tryz.func33,Tryz.ntmps33
 go_wp2_with (first
  | (go_at_call 14;(refine (HGE.out _ S.out).mono ?_);rintro _ w2 ⟨⟨al,gr,rfl,hI,hGs,hf1,hf2⟩,hs,hg⟩;clear HGE;have hone:=zav y.1 al gr (zaT hI) (zaU hGs);have BZ:=zag w2 (.cells (y.1.vals al gr) 32);have G:=lh (zaY (zaI G.out hg) BZ);have S:=lh (hs.below BZ);clear hI hGs hf1 hf2 hs hg BZ)
  | (go_at_call 63;(refine (HGN.out _ S.out (fun b hb=>Nat.lt_of_lt_of_le (hso b hb) G.out.size)).mono ?_);rintro _ w3 ⟨a,c,rfl,hs,hg⟩;have G:=lh (zaI G.out hg);have S:=lh hs;clear hs hg))
 go_ret2
 exact⟨_,_,rfl,S.out,G.out⟩
end
section
set_option linter.unusedSimpArgs false
def upC(g:(List Ch × Int) × Int):((List Ch × Int) × Int) × Int:=(((g.1.1,(g.1.1.length:Int)),g.1.2),g.2)
def upL{β:Type}(g:(List β × Int) × Int):((List Ch × Int) × Int) × Int:=((([],(g.1.1.length:Int)),g.1.2),g.2)
def zjU(k:Nat)(l:List Rw)(fl cd ca:Int)(x:Fu)(name tn:ByteArray):((List Ch × Int) × Int) × Int :=
 if k=0 then upC (zne l fl cd ca 2 x) else if k=1 then upC (zpY l fl cd ca 2 x) else if k=2 then upC (zqJ l fl cd ca 2 x.1.kind name) else if k=3 then upC (znC l fl cd ca 2 name tn) else if k=4 then upL (zoj l fl cd ca 2 50 ⟨#[42,42]⟩) else upL (zh3 l fl cd ca 2 name)
theorem zjj{fl cd:Int}{g:(List Ch × Int) × Int}{v:(List Ch × Int) × Int}(h:Fx [] fl cd g v.1):Fx ([],0) fl cd (upC g) (upC v).1:=by
 rcases h with ⟨h1,h2⟩|⟨h1,h2⟩
 · exact .inl ⟨h1,by unfold upC;dsimp only;rw[h2]⟩
 · exact .inr ⟨h1,by unfold upC;dsimp only;rw[h2];rfl⟩
theorem zoU{β:Type}{fl cd:Int}{g:(List β × Int) × Int}{v:(List β × Int) × Int}(h:Fx [] fl cd g v.1):Fx ([],0) fl cd (upL g) (upL v).1:=by
 rcases h with ⟨h1,h2⟩|⟨h1,h2⟩
 · exact .inl ⟨h1,by unfold upL;dsimp only;rw[h2]⟩
 · exact .inr ⟨h1,by unfold upL;dsimp only;rw[h2];rfl⟩
theorem zq4{k:Nat}{l:List Rw}{fl cd:Int}{x:Fu}{name tn:ByteArray}(hcd:cd≠0∧cd≠6)(h:0<fl):Fx ([],0) fl cd (zjU k l fl cd 0 x name tn) (zjU k l 0 0 0 x name tn).1:=by
 unfold zjU
 split
 · exact zjj (zoW hcd h (Int.le_refl _))
 split
 · exact zjj (zqY hcd h (Int.le_refl _))
 split
 · exact zjj (zqR hcd.1 h (Int.le_refl _))
 split
 · exact zjj (zqV hcd h (Int.le_refl _))
 split
 · exact zoU (zqt hcd.1 h (Int.le_refl _))
 · exact zoU (zmJ hcd.1 h (Int.le_refl _))
def RunR(w0 w w':World)(p:Nat)(sv:Value)(l:List Rw)(fl cd:Int)(g:((List Ch × Int) × Int) × Int)(r:Ending):Prop :=
 ∃ ov,r=.returned (.tuple #[ov,.int .i64 g.1.1.2,.int .i64 g.1.2])∧ChS w' ov g.1.1.1∧SHs w0 w' p sv l fl cd g.2∧w.grownBy w' (some p)
attribute [local go_sem ↓] zaX zdf za0 zaD zbg zka
attribute [local go_sem] zaA zas zan zaM zaO zah zat zai zau zaf zak zaq zab zap zaj zaE zaC zao zam zax zaL zay zaz
theorem run35(k:Nat)(hk:k<6)(p bw bx bn bq:Nat)(sv:Value)(l:List Rw)(fl cd:Int)(x:Fu)(al gr:Value)(name tn:ByteArray)(w0 w:World)(hm:MaxL w0)(hT:Tab w0)(hS:SHs w0 w p sv l fl cd 0)(hso:∀ b,sv.ownBlock=some b->b<w.heap.size)(hl:l.length<=19)(hkz:∀ y∈l,y.2.1.size<=1000)(hcd:cd≠0∧cd≠6∨fl<=0)(hsz:x.1.name.size<=1000)(hI:IS w al x.2.1)(hGr:GS w gr x.2.2)(o1:0<x.2.1.length->∀ q,al.ownBlock=some q->q≠p)(o2:0<x.2.2.length->∀ q,gr.ownBlock=some q->q≠p)(hns:name.size<=1000)(hts:tn.size<=1000)(cw:w.cell? ⟨bw,0,none⟩=some (.int .i64 k))(cx:row w bx=x.1.vals al gr)(cn:w.cell? ⟨bn,0,none⟩=some (.string name))(cq:w.cell? ⟨bq,0,none⟩=some (.string tn)) :
  Calls Tryz.prog 29 #[.iface 37 (.pointer (some ⟨p,0,none⟩)),.pointer (some ⟨bw,0,none⟩),.pointer (some ⟨bx,0,none⟩),.pointer (some ⟨bn,0,none⟩),.pointer (some ⟨bq,0,none⟩)] w fun r w'=>RunR w0 w w' p sv l fl cd (zjU k l fl cd 0 x name tn) r:=by
 have N0:=zaa cx 0 _ (zay _ _ _)
 have hl2:l.length<=1000:=by omega
 have:k=0∨k=1∨k=2∨k=3∨k=4∨k=5:=by omega
 rcases this with rfl|rfl|rfl|rfl|rfl|rfl
 · have hc:=zl2 p sv l fl cd 0 2 x al gr w0 w hm hT hS (Int.le_refl _) (by decide) hcd hsz hI hGr o1 o2
   unfold zjU
   rw[if_pos rfl]
   generalize zne l fl cd 0 2 x=g at hc ⊢
   have HC:=lh hc
   clear hc hS hso hl hkz hI hGr o1 o2 hm hT
   go_enter Tryz.func29,Tryz.ntmps29
   go_wp2_with (go_at_call 11;(refine HC.out.mono ?_);rintro _ w5 ⟨ov,rfl,hch,hs,hg⟩;have HCH:=lh hch;obtain⟨va,vc,rfl,-⟩:=hch;have HS:=lh hs;have HG:=lh hg;clear hs hg)
   go_ret3
   exact⟨_,rfl,HCH.out,HS.out,HG.out⟩
 · have hc:=zjo p sv l fl cd 0 2 x al gr w0 w hm hT hS (Int.le_refl _) (by decide) hcd hsz hI hGr o1 o2
   unfold zjU
   rw[if_neg (by decide),if_pos rfl]
   generalize zpY l fl cd 0 2 x=g at hc ⊢
   have HC:=lh hc
   clear hc hS hso hl hkz hI hGr o1 o2 hm hT
   go_enter Tryz.func29,Tryz.ntmps29
   go_wp2_with (go_at_call 30;(refine HC.out.mono ?_);rintro _ w5 ⟨ov,rfl,hch,hs,hg⟩;have HCH:=lh hch;obtain⟨va,vc,rfl,-⟩:=hch;have HS:=lh hs;have HG:=lh hg;clear hs hg)
   go_ret3
   exact⟨_,rfl,HCH.out,HS.out,HG.out⟩
 · have hc:=zkr p sv l fl cd 0 2 x.1.kind name w0 w hm hT hS hso hl2 hkz (Int.le_refl _) (by decide) hcd
   unfold zjU
   rw[if_neg (by decide),if_neg (by decide),if_pos rfl]
   generalize zqJ l fl cd 0 2 x.1.kind name=g at hc ⊢
   have HC:=lh hc
   clear hc hS hso hl hkz hI hGr o1 o2 hm hT
   go_enter Tryz.func29,Tryz.ntmps29
   go_wp2_with (go_at_call 17;(refine HC.out.mono ?_);rintro _ w5 ⟨ov,rfl,hch,hs,hg⟩;have HCH:=lh hch;obtain⟨va,vc,rfl,-⟩:=hch;have HS:=lh hs;have HG:=lh hg;clear hs hg)
   go_ret3
   exact⟨_,rfl,HCH.out,HS.out,HG.out⟩
 · have hc:=zg7 p sv l fl cd 0 2 name tn w0 w hm hT hS hso hl2 (Int.le_refl _) (by decide) hcd hns hts
   unfold zjU
   rw[if_neg (by decide),if_neg (by decide),if_neg (by decide),if_pos rfl]
   generalize znC l fl cd 0 2 name tn=g at hc ⊢
   have HC:=lh hc
   clear hc hS hso hl hkz hI hGr o1 o2 hm hT
   go_enter Tryz.func29,Tryz.ntmps29
   go_wp2_with (go_at_call 31;(refine HC.out.mono ?_);rintro _ w5 ⟨ov,rfl,hch,hs,hg⟩;have HCH:=lh hch;obtain⟨va,vc,rfl,-⟩:=hch;have HS:=lh hs;have HG:=lh hg;clear hs hg)
   go_ret3
   exact⟨_,rfl,HCH.out,HS.out,HG.out⟩
 · have hc:=zpy p sv l fl cd 0 2 50 ⟨#[42,42]⟩ w0 w hm hT hS hso hl hkz (Int.le_refl _) (by decide) hcd
   unfold zjU
   rw[if_neg (by decide),if_neg (by decide),if_neg (by decide),if_neg (by decide),if_pos rfl]
   generalize zoj l fl cd 0 2 50 ⟨#[42,42]⟩=g at hc ⊢
   have HC:=lh hc
   clear hc hS hso hl hkz hI hGr o1 o2 hm hT
   go_enter Tryz.func29,Tryz.ntmps29
   go_wp2_with (go_at_call 32;(refine HC.out.mono ?_);rintro _ w5 ⟨ov,rfl,⟨va,vc,rfl⟩,hs,hg⟩;have HS:=lh hs;have HG:=lh hg;clear hs hg)
   go_ret3
   exact⟨_,rfl,zbi _,HS.out,HG.out⟩
 · have hc:=zpt p sv l fl cd 0 2 name w0 w hm hT hS hso hl2 hkz (Int.le_refl _) (by decide) hcd
   unfold zjU
   rw[if_neg (by decide),if_neg (by decide),if_neg (by decide),if_neg (by decide),if_neg (by decide)]
   generalize zh3 l fl cd 0 2 name=g at hc ⊢
   have HC:=lh hc
   clear hc hS hso hl hkz hI hGr o1 o2 hm hT
   go_enter Tryz.func29,Tryz.ntmps29
   go_wp2_with (go_at_call 33;(refine HC.out.mono ?_);rintro _ w5 ⟨va,vc,rfl,hs,hg⟩;have HS:=lh hs;have HG:=lh hg;clear hs hg)
   go_ret3
   exact⟨_,rfl,zbi _,HS.out,HG.out⟩
end
end Go.Proofs.YtkafnmbldpofdaaGreatDoor
