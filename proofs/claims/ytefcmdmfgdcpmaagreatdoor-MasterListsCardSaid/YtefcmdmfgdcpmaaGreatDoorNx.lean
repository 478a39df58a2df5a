/- Catalogs. -/
import Derived.Test.YtefcmdmfgdcpmaaGreatDoorGt
set_option maxRecDepth 8000
set_option maxHeartbeats 16000000
namespace Go.Proofs.YtefcmdmfgdcpmaaGreatDoor
def wtx(s:List UInt8):List UInt8:=Wi.enc s.length++s
def zFu:Fu:=(En.zero,[],[])
def zsk(g:Fu):Bool:=zeF g.1 En.zero g.2.1 [] g.2.2 []
def fitG(n:List UInt8)(g:Fu):Bool:=if Ds.gen n=true then okX g&&(decide (g.1.kind=1)&&decide (Ds.bl g.1.name=Ds.splG n)) else zsk g
def zmT(x g:Fu):Bool:=okX x&&(decide (x.1.kind=0)&&fitG (Ds.bl x.1.name) g)
def grpL(x g:Fu):List UInt8:=if Ds.gen (Ds.bl x.1.name)=true then ze9 g else []
def zut(x g:Fu):List UInt8:=wtx (ze9 x)++wtx (grpL x g)
def zvP(x g:Fu):Option (List UInt8):=if zmT x g=true then some (zut x g) else none
def zm1(s:List UInt8):Option (Fu × Fu) :=
 let a:=Rd.txt 200 (s,0)
 let b:=Rd.txt 200 a.2
 if Rd.fin b.2=0 then
  match zc6 a.1 with
  | none=>none
  | some x=>match (if b.1=[] then some zFu else zc6 b.1) with
    | none=>none
    | some g=>if zvP x g=some s then some (x,g) else none
 else none
section
open Go.RowKit
set_option linter.unusedSimpArgs false
def zvO(x g:Fu):ByteArray:=if zmT x g=true then ⟨(zut x g).toArray⟩ else ⟨#[]⟩
attribute [local go_sem ↓] zaV zaW
attribute [local go_sem] zap zal zae zaq zai zaw zao zas zan zaa zaj zaf zaA zax zak zag zar zaG
end
section
open Go.RowKit
def ParRo(w w':World)(s:List UInt8)(r:Ending):Prop:=∃ (x g:Fu) (al gr al2 gr2:Value) (code:Int),r=.returned (.tuple #[.agg (x.1.vals al gr),.agg (g.1.vals al2 gr2),.int .i64 code])∧IS w' al x.2.1∧GS w' gr x.2.2∧IS w' al2 g.2.1∧GS w' gr2 g.2.2∧Below w.heap.size w w'∧(zm1 s=some (x,g)∧code=0∨zm1 s=none∧x=zFu∧g=zFu∧code=11) ∧
 (∀ y,al.ownBlock=some y->w.heap.size<=y)∧(∀ y,gr.ownBlock=some y->w.heap.size<=y)∧(∀ y,al2.ownBlock=some y->w.heap.size<=y)∧(∀ y,gr2.ownBlock=some y->w.heap.size<=y)
theorem ParRo.bad{w w':World}{s:List UInt8}(hp:zm1 s=none)(hb:Below w.heap.size w w'):ParRo w w' s (.returned (.tuple #[.agg (zlit 0 ⟨#[]⟩),.agg (zlit 0 ⟨#[]⟩),.int .i64 11])):=by
 rw[zbE];exact⟨zFu,zFu,.slice none 0 0,.slice none 0 0,.slice none 0 0,.slice none 0 0,11,rfl,IS.nil _,GS.nil _,IS.nil _,GS.nil _,hb,Or.inr ⟨hp,rfl,rfl,rfl⟩,(fun y hy=>by cases hy),(fun y hy=>by cases hy),(fun y hy=>by cases hy),(fun y hy=>by cases hy)⟩
def PW(w W:World)(rb:Nat):Prop:=Below w.heap.size w W∧Held W w.heap.size 33∧Held W (w.heap.size+1) 33∧w.heap.size+1<rb∧rb<W.heap.size
theorem PW.lt{w W:World}{rb:Nat}(h:PW w W rb):rb<W.heap.size:=h.2.2.2.2
theorem PW.bel{w W:World}{rb:Nat}(h:PW w W rb):Below w.heap.size w W:=h.1
theorem PW.r0{w W:World}{rb:Nat}(h:PW w W rb):Held W w.heap.size 33:=h.2.1
theorem PW.r1{w W:World}{rb:Nat}(h:PW w W rb):Held W (w.heap.size+1) 33:=h.2.2.1
theorem PW.grown{w W W':World}{rb:Nat}(h:PW w W rb)(hg:W.grownBy W' (some rb)):PW w W' rb:=by
 obtain⟨h1,h2,h3,h4,h5⟩:=h;refine⟨h1.trans (zaU hg (by omega) (by omega)),h2.of_block (hg.block _ h2.lt (by intro e;have:=Option.some.inj e;omega)),h3.of_block (hg.block _ h3.lt (by intro e;have:=Option.some.inj e;omega)),h4,Nat.lt_of_lt_of_le h5 hg.size⟩
theorem PW.below{w W W':World}{rb:Nat}(h:PW w W rb)(hb:Below W.heap.size W W'):PW w W' rb :=
 ⟨bt h.1 hb,h.2.1.below hb,h.2.2.1.below hb,h.2.2.2.1,Nat.lt_of_lt_of_le h.2.2.2.2 hb.size⟩
theorem PW.alloc{w W:World}{rb:Nat}(h:PW w W rb)(o:Obj):PW w (W.alloc o) rb:=h.below ((Below.refl _ _).alloc (Nat.le_refl _) o)
def P4(W:World)(g p q:Nat)(xv gv:Array Value):Prop:=row W p=xv∧row W q=gv∧Held W g 33∧Held W (g+1) 33
theorem P4.set{W:World}{g p q k:Nat}{xv gv:Array Value}(h:P4 W g p q xv gv)(c:Array Value)(hc:c.size=33)(hp:g+1<p)(hq:g+1<q)(hk:k=g∨k=g+1):P4 (W.setRow k c) g p q xv gv :=
 ⟨by rw[zbr _ _ _ _ (by omega)];exact h.1,by rw[zbr _ _ _ _ (by omega)];exact h.2.1,h.2.2.1.set c (fun _=>hc),h.2.2.2.set c (fun _=>hc)⟩
theorem below2'(w:World)(a b:Obj):Below w.heap.size w ((w.alloc a).alloc b):=by exact zbo
structure FNs (w W:World) (rb p q:Nat) (x g:Fu) (al gr al2 gr2:Value):Prop where
 pw:PW w W rb
 rx:row W p=x.1.vals al gr
 rg:row W q=g.1.vals al2 gr2
 ix:IS W al x.2.1
 gx:GS W gr x.2.2
 ig:IS W al2 g.2.1
 gg:GS W gr2 g.2.2
 nx:x.1.name.size<=1000
 ng:g.1.name.size<=1000
 pp:w.heap.size+1<p
 qq:w.heap.size+1<q
 o1:∀ y,al.ownBlock=some y->w.heap.size+2<=y
 o2:∀ y,gr.ownBlock=some y->w.heap.size+2<=y
 o3:∀ y,al2.ownBlock=some y->w.heap.size+2<=y
 o4:∀ y,gr2.ownBlock=some y->w.heap.size+2<=y
theorem FNs.below{w W W':World}{rb p q:Nat}{x g:Fu}{al gr al2 gr2:Value}(h:FNs w W rb p q x g al gr al2 gr2)(hb:Below W.heap.size W W'):FNs w W' rb p q x g al gr al2 gr2 :=
 ⟨h.pw.below hb,zaB hb h.rx (by rw[zaa];decide),zaB hb h.rg (by rw[zaa];decide),h.ix.below hb,h.gx.below hb,h.ig.below hb,h.gg.below hb,h.nx,h.ng,h.pp,h.qq,h.o1,h.o2,h.o3,h.o4⟩
theorem FNs.p4{w W:World}{rb p q:Nat}{x g:Fu}{al gr al2 gr2:Value}(h:FNs w W rb p q x g al gr al2 gr2):P4 W w.heap.size p q (x.1.vals al gr) (g.1.vals al2 gr2):=⟨h.rx,h.rg,h.pw.r0,h.pw.r1⟩
theorem FNs.start{w w3 w5:World}{rb:Nat}{x:Fu}{al gr:Value}{t t':TypeId}(h5:PW w w5 rb)(h35:rb<w3.heap.size)(hx:x.1.name.size<=1000)(hi:IS w5 al x.2.1)(hg:GS w5 gr x.2.2)(o1:∀ y,al.ownBlock=some y->w3.heap.size<=y)(o2:∀ y,gr.ownBlock=some y->w3.heap.size<=y) :
  FNs w ((w5.alloc (.cells (x.1.vals al gr) t)).alloc (.cells (zlit 0 ⟨#[]⟩) t')) rb w5.heap.size (w5.heap.size+1) x zFu al gr (.slice none 0 0) (.slice none 0 0)∧Held ((w5.alloc (.cells (x.1.vals al gr) t)).alloc (.cells (zlit 0 ⟨#[]⟩) t')) (w5.heap.size+1) 33:=by
 have b1:=below2' w5 (.cells (x.1.vals al gr) t) (.cells (zlit 0 ⟨#[]⟩) t');have z4:=h5.2.2.2.1;have z5:=h5.lt;refine⟨⟨h5.below b1,zaw _ _ _ _ _,?_,hi.below b1,hg.below b1,IS.nil _,GS.nil _,hx,by decide,by omega,by omega,fun y hy=>by have:=o1 y hy;omega,fun y hy=>by have:=o2 y hy;omega,(fun y hy=>by cases hy),(fun y hy=>by cases hy)⟩,?_⟩
 · rw[zao,zbE];rfl
 · have:=Held.new (w5.alloc (.cells (x.1.vals al gr) t)) (zlit 0 ⟨#[]⟩) t' 33 rfl (by decide);simpa using this
attribute [local go_sem ↓] zaV zaW zaz
attribute [local go_sem] zav zap zal zae zaq zai zaw zao zas zan zaa zaj zaf zaA zax zak zag zar zaG
end
section
open Go.RowKit
set_option linter.unusedSimpArgs false
attribute [local go_sem ↓] zaV zaW
attribute [local go_sem] zap zal zae zaq zai zaw zao zas zan zaa zaj zaf zaA zax zak zag zar zaG
end
section
open Go.RowKit
set_option linter.unusedSimpArgs false
theorem FNs.two{w W2 w3 w4:World}{rb:Nat}{x g:Fu}{al gr al2 gr2:Value}{t t':TypeId}(h2:PW w W2 rb)(hb3:Below W2.heap.size W2 w3)(hi:IS w3 al x.2.1)(hg:GS w3 gr x.2.2)(o1:∀ y,al.ownBlock=some y->W2.heap.size<=y)(o2:∀ y,gr.ownBlock=some y->W2.heap.size<=y)(hx:x.1.name.size<=60)(hb4:Below (w3.alloc (.cells (x.1.vals al gr) t)).heap.size (w3.alloc (.cells (x.1.vals al gr) t)) w4)(hi2:IS w4 al2 g.2.1)(hg2:GS w4 gr2 g.2.2)(o3:∀ y,al2.ownBlock=some y->(w3.alloc (.cells (x.1.vals al gr) t)).heap.size<=y)(o4:∀ y,gr2.ownBlock=some y->(w3.alloc (.cells (x.1.vals al gr) t)).heap.size<=y)(hgn:g.1.name.size<=60) :
  FNs w (w4.alloc (.cells (g.1.vals al2 gr2) t')) rb w3.heap.size w4.heap.size x g al gr al2 gr2:=by
 have P3:=h2.below hb3;have P4:=((P3.alloc (.cells (x.1.vals al gr) t)).below hb4).alloc (.cells (g.1.vals al2 gr2) t');have z3:=hb3.size;have z4:=hb4.size;have zr:=h2.2.2.2.1;have zl:=h2.lt;simp at z4 o3 o4
 have b5:Below w4.heap.size w4 (w4.alloc (.cells (g.1.vals al2 gr2) t')):=(Below.refl _ _).alloc (Nat.le_refl _) _;have b3:Below w3.heap.size w3 (w4.alloc (.cells (g.1.vals al2 gr2) t')):=bt (((Below.refl _ _).alloc (Nat.le_refl _) _).trans (hb4.mono (by simp))) b5;refine⟨P4,?_,zai _ _ _ _,hi.below b3,hg.below b3,hi2.below b5,hg2.below b5,by omega,by omega,by omega,by omega,fun y h=>by have:=o1 y h;omega,fun y h=>by have:=o2 y h;omega,fun y h=>by have:=o3 y h;omega,fun y h=>by have:=o4 y h;omega⟩
 exact zaB b5 (zaB hb4 (zai w3 _ _ _) (by rw[zaa];decide)) (by rw[zaa];decide)
attribute [local go_sem ↓] zaV zaz zr0 zsV
attribute [local go_sem ↓ high] zaW
attribute [local go_sem] zav zap zal zae zaq zai zaw zao zas zan zaa zaj zaf zaA zax zak zag zar zvj
end
section
open Go.RowKit
def zeV(s:ByteArray):ByteArray:=⟨(Ds.splG (Ds.bl s)).toArray⟩
def zsl(x g:Fu):ByteArray × Int:=(zvO x g,if zmT x g=true then 0 else 1)
def zmR(l:List Rw)(id:Int)(x:Fu):ByteArray × Int :=
 if Ds.gen (Ds.bl x.1.name)=true then match zbd l id 1 (zeV x.1.name) with
  | (g,c)=>if c≠0 then (⟨#[]⟩,c) else zsl x g
 else zsl x zF0
def zmS(l:List Rw)(name:ByteArray):ByteArray × Int:=match zcC l name with
 | (x,id,c)=>if c≠0 then (⟨#[]⟩,c) else if x.1.kind≠0 then (⟨#[]⟩,7) else zmR l id x
def zif(x:Fu):Prop:=x.1.name.size<=60
theorem zdN:zif zF0:=by show (0:Nat)<=60;omega
theorem zi3(key s:ByteArray):zif (zaS key s).1:=by
 unfold zaS
 cases h:zc6 (Ds.bl s) with
 | none=>exact zdN
 | some y =>
   dsimp only;split
   · have:=(zcc y (zcI _ _ h).1).1;rw[Ds.bl_length] at this;exact Nat.le_trans this (by decide)
   · exact zdN
theorem zf9(l:List Rw)(fl cd ca id kind:Int)(name:ByteArray):zif (zbn l fl cd ca id kind name).1.1:=by
 unfold zbn;split
 · exact zdN
 split
 · exact zdN
 split
 · exact zdN
 · exact zi3 _ _
theorem zfm(l:List Rw)(fl cd id:Int)(name:ByteArray):∀ (ks:List Int) (ca:Int),zif (zeU l fl cd id name ks ca).1.1
 | [],_=>zdN
 | k::ks,ca=>by
   unfold zeU;split
   · exact zfm l fl cd id name ks _
   · exact zf9 _ _ _ _ _ _ _
theorem ziI(l:List Rw)(fl cd ca id:Int)(name:ByteArray):zif (zbF l fl cd ca id name).1.1:=by
 unfold zbF;split
 · exact zdN
 · exact zfm _ _ _ _ _ _ _
theorem zbR{w w':World}{p:Nat}{al:Value}{l:List Int}(h:IS w al l)(hg:w.grownBy w' (some p))(ho:∀ q,al.ownBlock=some q->p<q):IS w' al l :=
 h.keep (p+1) (fun q hq=>ho q hq) hg.size (fun k hk hl=>hg.block k hl (fun e=>by have:=Option.some.inj e;omega))
theorem zbQ{w w':World}{p:Nat}{al:Value}{l:List Gr}(h:GS w al l)(hg:w.grownBy w' (some p))(ho:∀ q,al.ownBlock=some q->p<q):GS w' al l :=
 h.keep (p+1) (fun q hq=>ho q hq) hg.size (fun k hk hl=>hg.block k hl (fun e=>by have:=Option.some.inj e;omega))
theorem za4{w w':World}{p b:Nat}{cs:Array Value}(h:row w b=cs)(h0:0<cs.size)(hg:w.grownBy w' (some p))(hne:b≠p):row w' b=cs:=by
 have hb:b<w.heap.size:=by
  rcases Nat.lt_or_ge b w.heap.size with h1|h1
  · exact h1
  · exfalso
    unfold row at h;rw[Array.getElem?_eq_none h1] at h;subst h;simp at h0
 unfold row at *;rw[hg.block b hb (fun e=>hne (Option.some.inj e))];exact h
attribute [local go_sem ↓] zaV zaW zaz za1
attribute [local go_sem] zav zap zal zaI zaJ zae zaq zai zaw zao zas zan zaa zaj zaf zaA zax zak zag zar zaG zaC zaE
end
section
open Go.RowKit
attribute [local go_sem ↓] zaV zaW zaz za1
attribute [local go_sem] zav zap zal zaI zaJ zae zaq zai zaw zao zas zan zaa zaj zaf zaA zax zak zag zar zaG zaC zaE
end
section
open Go.RowKit
set_option linter.unusedSimpArgs false
abbrev Ch:=Int × Int × ByteArray × ByteArray × ByteArray
def znH(c:Ch):Option Fu :=
 if c.1=0∧1<=c.2.1∧c.2.1<=15 then (match zc6 (Ds.bl c.2.2.2.1) with
  | some y=>if zfr y=Ds.bl c.2.2.1 then some y else none
  | none=>none) else none
def PutR(w w':World)(o:Option Fu)(r:Ending):Prop:=∃ (x:Fu) (al gr:Value) (b:Bool),r=.returned (.tuple #[.agg (x.1.vals al gr),.bool b])∧IS w' al x.2.1∧GS w' gr x.2.2∧Below w.heap.size w w'∧(o=some x∧b=true∨o=none∧b=false)∧(∀ q,al.ownBlock=some q->w.heap.size<=q)∧(∀ q,gr.ownBlock=some q->w.heap.size<=q)
theorem PutR.put{w W:World}{o:Option Fu}{x:Fu}{al gr:Value}{b:Bool}(hH:Held W (w.heap.size+1) 33)(hb:Below w.heap.size w W)(hI:IS W al x.2.1)(hg:GS W gr x.2.2)(h1:∀ q,al.ownBlock=some q->w.heap.size+1<q)(h2:∀ q,gr.ownBlock=some q->w.heap.size+1<q)(ho:o=some x∧b=true∨o=none∧b=false) :
  PutR w (W.setRow (w.heap.size+1) (x.1.vals al gr)) o (.returned (.tuple #[.agg (row (W.setRow (w.heap.size+1) (x.1.vals al gr)) (w.heap.size+1)),.bool b])):=by
 have hk:∀ j,w.heap.size+1+1<=j->j<W.heap.size->(W.setRow (w.heap.size+1) (x.1.vals al gr)).heap[j]?=W.heap[j]?:=fun j h1 _=>zaX _ _ _ _ (by omega)
 exact⟨x,al,gr,b,congrArg (fun z=>Ending.returned (.tuple #[.agg z,.bool b])) (zaQ hH _),hI.keep (w.heap.size+1+1) (fun y hy=>h1 y hy) (by simp) hk,hg.keep (w.heap.size+1+1) (fun y hy=>h2 y hy) (by simp) hk,below_setRow hb (by omega) _,ho,fun q hq=>by have:=h1 q hq;omega,fun q hq=>by have:=h2 q hq;omega⟩
theorem PutR.put0{w W:World}(hH:Held W (w.heap.size+1) 33)(hb:Below w.heap.size w W) :
  PutR w (W.setRow (w.heap.size+1) (zlit 0 ⟨#[]⟩)) none (.returned (.tuple #[.agg (row (W.setRow (w.heap.size+1) (zlit 0 ⟨#[]⟩)) (w.heap.size+1)),.bool false])):=by
 rw[zbE];exact PutR.put (x:=zF0) hH hb (IS.nil _) (GS.nil _) (fun _ h=>by cases h) (fun _ h=>by cases h) (Or.inr ⟨rfl,rfl⟩)
attribute [local go_sem ↓] zaV zaW zaz za1
attribute [local go_sem] zav zap zal zaI zaJ zae zaq zai zaw zao zas zan zaa zaj zaf zaA zax zak zag zar zaG zaC zaE
end
section
open Go.RowKit
set_option linter.unusedSimpArgs false
attribute [local go_sem ↓] zaV zaW zaz za1
attribute [local go_sem] zav zap zal zaI zaJ zae zaq zai zaw zao zas zan zaa zaj zaf zaA zax zak zag zar zaG zaC zaE
end
end Go.Proofs.YtefcmdmfgdcpmaaGreatDoor
