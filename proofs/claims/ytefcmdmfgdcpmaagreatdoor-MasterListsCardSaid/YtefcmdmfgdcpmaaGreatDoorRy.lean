/- Catalogs. -/
import Derived.Test.YtefcmdmfgdcpmaaGreatDoorEc
import Derived.Test.YtefcmdmfgdcpmaaGreatDoorRsB
set_option maxRecDepth 8000
set_option maxHeartbeats 4000000
namespace Go.Proofs.YtefcmdmfgdcpmaaGreatDoor
def rclip(n:Nat):Int:=if 1099511627776<n then -1 else (n:Int)
theorem zoX(n:Nat)(h:n<=1099511627776):rclip n=n:=by unfold rclip;rw[if_neg (by omega)]
def rN(s:List UInt8 × Nat):Int × (List UInt8 × Nat):=(rclip (Rd.num s).1,(Rd.num s).2)
theorem zdz(n:Int)(r:List UInt8)(h0:0<=n)(h:n<=1099511627776):rN (Wi.enc n.toNat++r,0)=(n,(r,0)):=by
 unfold rN;rw[Rd.num_enc _ _ (by omega)];simp only
 rw[zoX _ (by omega),Int.toNat_of_nonneg h0]
def rL(s:List UInt8 × Nat):Nat->List Int × (List UInt8 × Nat)
 | 0=>([],s)
 | k+1=>((rL s k).1++[(rN (rL s k).2).1],(rN (rL s k).2).2)
theorem zqj(ns:List Int)(r:List UInt8)(h:zfx ns):∀ k,k<=ns.length->rL (encs (ns.map Int.toNat)++r,0) k=(ns.take k,(encs ((ns.drop k).map Int.toNat)++r,0))
 | 0,_=>rfl
 | k+1,hk=>by
   have hlt:k<ns.length:=by omega
   have hx:=h _ (List.getElem_mem hlt);rw[rL,zqj ns r h k (by omega)];simp only
   rw[List.drop_eq_getElem_cons hlt,List.map_cons,encs,List.append_assoc,zdz _ _ hx.1 hx.2];simp only
   rw[List.take_succ_eq_append_getElem hlt]
theorem zqi(ns:List Int)(r:List UInt8)(h:zfx ns)(n:Nat)(hn:n=ns.length):rL (encs (ns.map Int.toNat)++r,0) n=(ns,(r,0)):=by
 rw[zqj ns r h n (by omega),hn,List.take_length,List.drop_length];rfl
def rrG(e:En)(s:List UInt8 × Nat):En × (List UInt8 × Nat) :=
 let a:=rN s
 let b:=rN a.2
 let c:=Rd.boo b.2
 let d:=Rd.txt 8 c.2
 ({ e with lim:=a.1,last:=b.1,em:=c.1,owner:=⟨d.1.toArray⟩ },d.2)
def rrA(e:En)(s:List UInt8 × Nat):En × (List UInt8 × Nat):=({ e with target:=⟨(Rd.txt 31 s).1.toArray⟩ },(Rd.txt 31 s).2)
def rrC(e:En)(s:List UInt8 × Nat):En × (List UInt8 × Nat):=({ e with cat:=(rN s).1 },(rN s).2)
def rGr(s:List UInt8 × Nat):Gr × (List UInt8 × Nat) :=
 let t:=Rd.txt 8 s
 let b:=Rd.boo t.2
 let n:=rN b.2
 ((⟨t.1.toArray⟩,b.1,n.1),n.2)
def rGs(s:List UInt8 × Nat):Nat->List Gr × (List UInt8 × Nat)
 | 0=>([],s)
 | k+1=>((rGs s k).1++[(rGr (rGs s k).2).1],(rGr (rGs s k).2).2)
theorem zsB(g:Gr)(r:List UInt8)(h:GrOk g)(h8:g.1.size<=8):rGr (grs [g]++r,0)=(g,(r,0)):=by
 have hl:=h.l;obtain⟨a,b,c⟩:=g;simp only at h8 hl
 have e1:grs [(a,b,c)]++r=Wi.enc (Ds.bl a).length++(Ds.bl a++(tb b::(Wi.enc c.toNat++r))):=by
  rw[Ds.bl_length];simp only[grs,List.append_assoc,List.cons_append,List.nil_append]
 unfold rGr;rw[e1,Rd.txt_enc 8 _ _ (by rw[Ds.bl_length];omega) (by rw[Ds.bl_length];omega)];simp only
 rw[show tb b=(if b then 1 else 0) from rfl,Rd.boo_tb];simp only
 rw[zdz _ _ hl.1 hl.2,Ds.mk_bl]
theorem zm6(g:List Gr)(r:List UInt8)(h:∀ x∈g,GrOk x∧x.1.size<=8):∀ k,k<=g.length->rGs (grs g++r,0) k=(g.take k,(grs (g.drop k)++r,0))
 | 0,_=>rfl
 | k+1,hk=>by
   have hlt:k<g.length:=by omega
   have e1:grs (g.drop k)++r=grs [g[k]]++(grs (g.drop (k+1))++r):=by
    rw[List.drop_eq_getElem_cons hlt,show g[k]::g.drop (k+1)=[g[k]]++g.drop (k+1) from rfl,zcK,List.append_assoc]
   have hx:=h _ (List.getElem_mem hlt);rw[rGs,zm6 g r h k (by omega)];simp only
   rw[e1,zsB _ _ hx.1 hx.2];simp only
   rw[List.take_succ_eq_append_getElem hlt]
def rrP(e:En)(s:List UInt8 × Nat):En × List Gr × (List UInt8 × Nat) :=
 let a:=rN s
 let t:=Rd.txt 8 a.2
 let n:=Rd.cnt 8 t.2
 let l:=rGs n.2 n.1
 ({ e with lev:=a.1,owner:=⟨t.1.toArray⟩ },l.1,l.2)
def rrD(e:En)(s:List UInt8 × Nat):En × List Int × (List UInt8 × Nat) :=
 let l:=rL s 14
 let u:=Rd.boo l.2
 let c:=rN u.2
 let v:=Rd.txt 8 c.2
 let o:=Rd.txt 8 v.2
 let cr:=rN o.2
 let ex:=rN cr.2
 let ar:=Rd.boo ex.2
 let n:=Rd.cnt 4 ar.2
 let al:=rL n.2 n.1
 let us:=rN al.2
 ({ e with d0:=l.1.getD 0 0,d1:=l.1.getD 1 0,d2:=l.1.getD 2 0,d3:=l.1.getD 3 0,d4:=l.1.getD 4 0,d5:=l.1.getD 5 0,d6:=l.1.getD 6 0,d7:=l.1.getD 7 0,d8:=l.1.getD 8 0,d9:=l.1.getD 9 0,d10:=l.1.getD 10 0,d11:=l.1.getD 11 0,d12:=l.1.getD 12 0,d13:=l.1.getD 13 0,uq:=u.1,cls:=c.1,vol:=⟨v.1.toArray⟩,own:=⟨o.1.toArray⟩,cr:=cr.1,ex:=ex.1,ar:=ar.1,used:=us.1 },al.1,us.2)
def rrX(k:Int)(n:ByteArray)(s:List UInt8 × Nat):Fu × (List UInt8 × Nat) :=
 if k=0 then (((rrD (En.base k n) s).1,(rrD (En.base k n) s).2.1,[]),(rrD (En.base k n) s).2.2)
 else if k=1 then (((rrG (En.base k n) s).1,[],[]),(rrG (En.base k n) s).2)
 else if k=2 then (((rrA (En.base k n) s).1,[],[]),(rrA (En.base k n) s).2)
 else if k=3 then (((rrC (En.base k n) s).1,[],[]),(rrC (En.base k n) s).2)
 else (((rrP (En.base k n) s).1,[],(rrP (En.base k n) s).2.1),(rrP (En.base k n) s).2.2)
theorem zpe(e:En)(l:List Int)(r:List UInt8)(h:DatOk e l)(hv:e.vol.size<=8)(ho:e.own.size<=8):rrD (En.base e.kind e.name) (zcr e l++r,0)=(zkT e,l,(r,0)):=by
 obtain⟨hn,hc,-,-,hcr,hex,hl,hl4,hu⟩:=h
 have e1:zcr e l++r=encs ((zfU e).map Int.toNat)++(tb e.uq::(Wi.enc e.cls.toNat++(Wi.enc (Ds.bl e.vol).length++(Ds.bl e.vol++(Wi.enc (Ds.bl e.own).length++(Ds.bl e.own++(Wi.enc e.cr.toNat++(Wi.enc e.ex.toNat++(tb e.ar::(Wi.enc l.length++(encs (l.map Int.toNat)++(Wi.enc e.used.toNat++r)))))))))))):=by
  unfold zcr zhm;rw[Ds.bl_length,Ds.bl_length];simp only[encs,List.append_assoc,List.cons_append,List.nil_append]
 unfold rrD;rw[e1,zqi (zfU e) _ hn 14 rfl];simp only
 rw[show tb e.uq=(if e.uq then 1 else 0) from rfl,Rd.boo_tb];simp only
 rw[zdz _ _ hc.1 hc.2];simp only
 rw[Rd.txt_enc 8 _ _ (by rw[Ds.bl_length];omega) (by rw[Ds.bl_length];omega)];simp only
 rw[Rd.txt_enc 8 _ _ (by rw[Ds.bl_length];omega) (by rw[Ds.bl_length];omega)];simp only
 rw[zdz _ _ hcr.1 hcr.2];simp only
 rw[zdz _ _ hex.1 hex.2];simp only
 rw[show tb e.ar=(if e.ar then 1 else 0) from rfl,Rd.boo_tb];simp only
 rw[Rd.cnt_enc 4 _ _ hl4 (by omega)];simp only
 rw[zqi l _ hl l.length rfl];simp only
 rw[zdz _ _ hu.1 hu.2,Ds.mk_bl,Ds.mk_bl];rfl
theorem zpg(e:En)(g:List Gr)(r:List UInt8)(h:ProfOk e g)(ho:e.owner.size<=8)(hg8:∀ x∈g,x.1.size<=8):rrP (En.base e.kind e.name) (zc9 e g++r,0)=(ziY e,g,(r,0)):=by
 obtain⟨hl,-,hg,h8⟩:=h
 have e1:zc9 e g++r=Wi.enc e.lev.toNat++(Wi.enc (Ds.bl e.owner).length++(Ds.bl e.owner++(Wi.enc g.length++(grs g++r)))):=by
  unfold zc9;rw[Ds.bl_length];simp only[List.append_assoc]
 unfold rrP;rw[e1,zdz _ _ hl.1 hl.2];simp only
 rw[Rd.txt_enc 8 _ _ (by rw[Ds.bl_length];omega) (by rw[Ds.bl_length];omega)];simp only
 rw[Rd.cnt_enc 8 _ _ h8 (by omega)];simp only
 rw[zm6 g r (fun x hx=>⟨hg x hx,hg8 x hx⟩) _ (Nat.le_refl _),List.take_length,List.drop_length,Ds.mk_bl];rfl
theorem zpf(e:En)(r:List UInt8)(h:Vp.grp e=true):rrG (En.base e.kind e.name) (zdc e++r,0)=(zhX e,(r,0)):=by
 unfold Vp.grp at h;simp only[Bool.and_eq_true] at h
 obtain⟨⟨h1,h2⟩,h3⟩:=h;have r1:=rng1 _ _ _ h1;have r2:=rng1 _ _ _ h2;have r3:=own8 _ h3
 have e1:zdc e++r=Wi.enc e.lim.toNat++(Wi.enc e.last.toNat++(tb e.em::(Wi.enc (Ds.bl e.owner).length++(Ds.bl e.owner++r)))):=by
  unfold zdc encs encs encs;rw[Ds.bl_length];simp
 unfold rrG;rw[e1,zdz _ _ (by omega) (by omega)];simp only
 rw[zdz _ _ (by omega) (by omega)];simp only
 rw[show tb e.em=(if e.em then 1 else 0) from rfl,Rd.boo_tb];simp only
 rw[Rd.txt_enc 8 _ _ (by omega) (by omega),Ds.mk_bl];rfl
theorem zpc(e:En)(r:List UInt8)(h:e.target.size<=31):rrA (En.base e.kind e.name) (zdQ e++r,0)=(zkR e,(r,0)):=by
 have e1:zdQ e++r=Wi.enc (Ds.bl e.target).length++(Ds.bl e.target++r):=by
  unfold zdQ;rw[Ds.bl_length,List.append_assoc]
 unfold rrA;rw[e1,Rd.txt_enc 31 _ _ (by rw[Ds.bl_length];omega) (by rw[Ds.bl_length];omega),Ds.mk_bl];rfl
theorem zpd(e:En)(r:List UInt8)(h:Vp.cat e=true):rrC (En.base e.kind e.name) (zeS e++r,0)=(zkS e,(r,0)):=by
 have r1:=rng1 _ _ _ h;unfold rrC zeS;rw[zdz _ _ (by omega) (by omega)];rfl
theorem zph(x:Fu)(r:List UInt8)(h:okX x=true):rrX x.1.kind x.1.name (zeT x++r,0)=(x,(r,0)):=by
 obtain⟨e,l,g⟩:=x;unfold okX at h;unfold rrX zeT;simp only at h ⊢
 split at h
 · rename_i k;rw[if_pos k,if_pos k];unfold okD at h;simp only[Bool.and_eq_true] at h
   obtain⟨⟨_,h2⟩,h3⟩:=h;obtain⟨q1,-,q3⟩:=(zbj _ _ _ _ _ _).1 h3;have hd:=zhr e l h2;rw[zpe e l r hd.1 hd.2.1.1 hd.2.1.2,q1,<-q3]
 · rename_i k0;rw[if_neg k0,if_neg k0];split at h
   · rename_i k;rw[if_pos k,if_pos k];unfold okG at h;simp only[Bool.and_eq_true] at h
     obtain⟨⟨_,h2⟩,h3⟩:=h;obtain⟨q1,q2,q3⟩:=(zbj _ _ _ _ _ _).1 h3;rw[zpf e r h2,q1,<-q2,<-q3]
   · rename_i k1;rw[if_neg k1,if_neg k1];split at h
     · rename_i k;rw[if_pos k,if_pos k];unfold okA at h;simp only[Bool.and_eq_true] at h
       obtain⟨⟨_,h2⟩,h3⟩:=h;obtain⟨q1,q2,q3⟩:=(zbj _ _ _ _ _ _).1 h3;have:=zdP e h2;rw[zpc e r (by omega),q1,<-q2,<-q3]
     · rename_i k2;rw[if_neg k2,if_neg k2];split at h
       · rename_i k;rw[if_pos k,if_pos k];unfold okC at h;simp only[Bool.and_eq_true] at h
         obtain⟨⟨_,h2⟩,h3⟩:=h;obtain⟨q1,q2,q3⟩:=(zbj _ _ _ _ _ _).1 h3;rw[zpd e r h2,q1,<-q2,<-q3]
       · rename_i k3;rw[if_neg k3,if_neg k3];split at h
         · unfold okP at h;simp only[Bool.and_eq_true] at h
           obtain⟨⟨_,h2⟩,h3⟩:=h;obtain⟨q1,q2,-⟩:=(zbj _ _ _ _ _ _).1 h3;have hp:=zfA e g h2;rw[zpg e g r hp.1 hp.2.2.1 (fun x hx=>(hp.2.2.2 x hx).1),q1,<-q2]
         · cases h
def zqF(k:Int)(s:List UInt8):Option Fu :=
 if Rd.fin (rrX k ⟨(zd3 s).toArray⟩ (s.drop 32,0)).2=0∧okX (rrX k ⟨(zd3 s).toArray⟩ (s.drop 32,0)).1=true∧ze9 (rrX k ⟨(zd3 s).toArray⟩ (s.drop 32,0)).1=s then some (rrX k ⟨(zd3 s).toArray⟩ (s.drop 32,0)).1 else none
theorem zs2(s:List UInt8)(x:Fu)(hx:okX x=true)(hr:ze9 x=s):zqF x.1.kind s=some x:=by
 subst hr;have h3:=zeD x [] hx;rw[List.append_nil,List.append_nil] at h3;obtain⟨-,h2,h3⟩:=h3;have hb:=zph x [] hx;rw[List.append_nil] at hb;unfold zqF;rw[h2,h3,Ds.mk_bl,hb];rw[if_pos ⟨rfl,hx,rfl⟩]
theorem zk2(k:Int)(s:List UInt8)(x:Fu)(h:zqF k s=some x):okX x=true∧ze9 x=s:=by
 unfold zqF at h;split at h
 · rename_i c;cases h;exact c.2
 · cases h
theorem zn4(s:List UInt8)(hl:32<=s.length∧s.length<=200):zc6 s=(match zeL (s.headD 0) with|some k=>zqF k s|none=>none):=by
 cases hk:zeL (s.headD 0) with
 | none=>unfold zc6;rw[if_pos hl,hk]
 | some k =>
   simp only
   cases hd:zc6 s with
   | some x =>
     obtain⟨hx,hr⟩:=zcI s x hd;have:=zs2 s x hx hr;have h3:=zeD x [] hx;rw[List.append_nil,List.append_nil,hr] at h3;rw[h3.1,zcZ _ (zd5 x hx)] at hk;cases hk
     exact this.symm
   | none =>
     cases ht:zqF k s with
     | none=>rfl
     | some y =>
       obtain⟨hy,hr⟩:=zk2 k s y ht;rw[<-hr,zgy y hy (zg7 y hy)] at hd;cases hd
section
open Go.RowKit
theorem Held.below{w w':World}{g n:Nat}(h:Held w g n)(hb:Below w.heap.size w w'):Held w' g n:=by
 obtain⟨t,fr,hbl⟩:=zbm h
 have hlt:g<w.heap.size:=by
  rcases Nat.lt_or_ge g w.heap.size with k|k
  · exact k
  · rw[Array.getElem?_eq_none k] at hbl;cases hbl
 exact h.of_block (hb.block _ hlt)
theorem Held.new(w:World)(cs:Array Value)(t:TypeId)(n:Nat)(hn:cs.size=n)(h0:0<n):Held (w.alloc (.cells cs t)) w.heap.size n:=⟨by rw[zai];exact hn,h0,fun o=>by simp⟩
theorem Held.lt{w:World}{g n:Nat}(h:Held w g n):g<w.heap.size:=by
 obtain⟨t,fr,hbl⟩:=zbm h;rcases Nat.lt_or_ge g w.heap.size with k|k
 · exact k
 · rw[Array.getElem?_eq_none k] at hbl;cases hbl
theorem Held.set{W:World}{g g' n:Nat}(h:Held W g n)(c:Array Value)(hc:g'=g->c.size=n):Held (W.setRow g' c) g n:=by
 by_cases e:g'=g
 · subst e;refine⟨by rw[zaQ h];exact hc rfl,h.2.1,fun o=>?_⟩
   obtain⟨t,fr,hb⟩:=zbm h;have h1:=h.2.2 o;unfold World.frozen? at h1 ⊢;rw[hb] at h1;rw[setRow_heap W _ _ c t fr hb];exact h1
 · exact h.of_block (zaX W g' g c (fun q=>e q.symm))
theorem zbr(W:World)(g g':Nat)(c:Array Value)(h:g≠g'):row (W.setRow g' c) g=row W g:=by
 unfold row;rw[zaX W g' g c h]
theorem zr0(ev:Operand->Value)(w:World)(dst x t pos af gd)(h1:zbA (ev x)=true)(h2:(row w (za0 (ev x))).size=2) :
  (execOp ev ⟨dst,.load 295 x,t,pos,af,gd⟩).run Tryz.prog w=.ok (.value (.agg (row w (za0 (ev x))))) w :=
 zb2 ev w _ 1 _ Tryz.underlying295 rfl (by kernel_rfl) dst x t pos af gd h1 h2
theorem zsV(ev:Operand->Value)(w:World)(dst x y t' pos af gd)(h1:zbA (ev x)=true)(h2:Held w (za0 (ev x)) 2)(h3:zbC (ev y)=true)(h4:(zaK (ev y)).size=2)(h5:zaM (zaK (ev y)).toList=true) :
  (execOp ev ⟨dst,.store 295 x y,t',pos,af,gd⟩).run Tryz.prog w=.ok .skip (w.setRow (za0 (ev x)) (zaK (ev y))) :=
 zbN ev w _ 1 (by kernel_rfl) dst x y t' pos af gd h1 h2 h3 h4 h5
attribute [local go_sem ↓] zr0 zsV
attribute [local go_sem] zav zap zal zae zaq zai zaw zao zas zan zaj zaf zaA zax zak
end
end Go.Proofs.YtefcmdmfgdcpmaaGreatDoor
