/- Catalogs. -/
import Derived.Test.YtkafnmbldpofdaaGreatDoorRun
import Derived.Test.YtkafnmbldpofdaaGreatDoorTh4
set_option maxRecDepth 100000
set_option maxHeartbeats 16000000
namespace Go.Proofs.YtkafnmbldpofdaaGreatDoor
section
open Go.ChangeShapes Go.WideShapes Go.RowKit
def EFT(w:World)(b o:Nat)(x:Ef):Prop :=
 ∃ (a1:Option Addr) (c1:Nat) (a2:Option Addr) (c2:Nat),mid w b o=x.e.vals (.slice a1 x.n1 c1) (.slice a2 x.n2 c2)∧x.n1<=9223372036854775807∧x.n2<=9223372036854775807∧(x.n1<=1000->∃ l:List Int,l.length=x.n1∧IS w (.slice a1 x.n1 c1) l)∧(x.n2<=1000->x.gs.length=x.n2∧GS w (.slice a2 x.n2 c2) x.gs)
def EST(w:World)(a:Option Addr)(n:Nat)(F:Nat->Ef):Prop:=n<=9223372036854775807∧∀ k,k<n->∃ b o,a=some ⟨b,o,none⟩∧b<w.heap.size∧EFT w b (o+k*33) (F k)
theorem EST.es{w:World}{a:Option Addr}{n:Nat}{F:Nat->Ef}(h:EST w a n F):ES w a n F :=
 ⟨h.1,fun k hk=>by
  obtain⟨b,o,h1,h2,a1,c1,a2,c2,h3,h4,h5,-,h7⟩:=h.2 k hk
  exact⟨b,o,h1,h2,a1,c1,a2,c2,h3,h4,h5,h7⟩⟩
theorem zsh{H:Type}{enc:TypeId × Value->H}{W:World}{fuel:Nat}{a:Option Addr}{n c:Nat}{x:DataW H × List MemPlace}(h:DataW.trod enc Tryz.prog W 0 (fun _=>true) true fuel 29 [.slice a n c]=some x):n<=1000->∃ l:List Int,l.length=n∧IS W (.slice a n c) l:=by
 obtain⟨a',n',c',e,hg⟩:=zhx h
 cases e
 exact hg
theorem znn{H:Type}{enc:TypeId × Value->H}{W:World}{r:Reach}{base:Nat}{v:Value}{d:DataW H}{p:List MemPlace}(hv:Value.okWide Tryz.prog W r base 22 v)(h:DataW.Trod enc Tryz.prog W 0 (fun _=>true) true 22 v d p) :
  ∃ (a:Option Addr) (n c:Nat) (F:Nat->Ef),v=.slice a n c∧EST W a n F:=by
 obtain⟨a,n,c,rfl⟩:=okWide_slice Tryz.underlying22 hv
 obtain⟨fuel,hf⟩:=h
 rcases Go.Deep.open_slice Tryz.underlying22 hf with ⟨h1,-⟩|⟨a',len,cap,m,f,D,Pl,h1,-,hl,hmax,hm,-,hi⟩
 · have:=List.head_eq_of_cons_eq h1
   injection this with e1 e2 e3
   subst e1 e2 e3
   exact⟨none,0,0,fun _=>⟨En.zero,0,0,[]⟩,rfl,by omega,fun k hk=>by omega⟩
 · have:=List.head_eq_of_cons_eq h1
   injection this with e1 e2 e3
   subst e1 e2 e3
   have e33:Tryz.prog.cellsOf 32=33:=by kernel_rfl
   have each:∀ k,k<n->∃ (x:Ef) (b o:Nat),a'=⟨b,o,none⟩∧b<W.heap.size∧EFT W b (o+k*33) x:=fun k hk=>by
    obtain⟨cs,hc,ht⟩:=hi k (by rw[hm];split <;> omega)
    rw[e33] at hc
    obtain⟨_,hcl,hat⟩:=World.cells?_some hc
    obtain⟨e,a1,n1,c1,a2,n2,c2,hcs,l1,l2,hg,fl,zz,htr⟩:=zql hcl ht
    have hIL:=zsh htr
    obtain⟨cs0,hc0,-⟩:=hi 0 (by rw[hm];split <;> omega)
    rw[e33] at hc0
    obtain⟨_,hcl0,hat0⟩:=World.cells?_some hc0
    have z0:=(hat0 0 (by omega)).trans (List.getElem?_eq_getElem (by omega:0<cs0.length))
    obtain⟨b,o,s⟩:=a'
    obtain rfl:s=none:=by
     have:=World.cell?_spot z0
     simpa [Addr.add] using this
    have hcell:∀ (i:Nat) (v:Value),(e.vals (.slice a1 n1 c1) (.slice a2 n2 c2))[i]?=some v->W.cell? ⟨b,o+k*33+i,none⟩=some v:=fun i v hv=>by
     have hi33:i<33:=by have:=(Array.getElem?_eq_some_iff.1 hv).1;rw[zab] at this;exact this
     have:=hat i (by omega)
     rw[Addr.add_mid,Addr.add_mid] at this
     rw[this,hcs,Array.getElem?_toList]
     exact hv
    have hmid:=zol (w:=W) (b:=b) (o:=o+k*33) (zab e (.slice a1 n1 c1) (.slice a2 n2 c2)) hcell
    refine⟨⟨e,n1,n2,if h:n2<=1000 then Classical.choose (hg h) else []⟩,b,o,rfl,block_lt_of_cell (hcell 0 _ (zay _ _ _)),a1,c1,a2,c2,hmid,l1,l2,hIL,fun h=>?_⟩
    have:=Classical.choose_spec (hg h)
    simp only[dif_pos (show n2<=1000 from h)]
    exact this
   refine⟨some a',n,c,fun k=>if h:k<n then Classical.choose (each k h) else ⟨En.zero,0,0,[]⟩,rfl,by simp only[maxLen] at hmax;omega,fun k hk=>?_⟩
   obtain⟨b,o,ha,hlt,hE⟩:=Classical.choose_spec (each k hk)
   refine⟨b,o,by rw[ha],hlt,?_⟩
   simp only[dif_pos hk]
   exact hE
end
section
open Go.RowKit
set_option linter.unusedSimpArgs false
theorem zil(sv:Value)(l:List Rw)(fl cd:Int)(w:World)(hr:RwS w sv l)(ho:∀ b,sv.ownBlock=some b->b<w.heap.size):SHs w (w.alloc (.cells #[sv,.int .i64 fl,.int .i64 cd,.int .i64 0] 69)) w.heap.size sv l fl cd 0:=by
 refine⟨⟨zai _ _ _ _,fun o=>by simp⟩,hr.below ((Below.refl _ _).alloc (Nat.le_refl _) _),fun b hb e=>?_,Nat.le_refl _,by simp,(Below.refl _ _).alloc (Nat.le_refl _) _⟩
 have:=ho b hb
 omega
theorem zmm{w w8:World}{base n c':Nat}{a' a:Option Addr}{F:Nat->Ef}{x:Ef}{b1 b2:Option Addr}{c1 c2:Nat}{rows:List (Array Value)}(h:w8.ownsRow base 32 33 (.slice a' (1+n) c') (1+n) ((x.e.vals (.slice b1 x.n1 c1) (.slice b2 x.n2 c2)).toList++ec rows))(hl:rows.length=n)(hz:∀ r∈rows,r.size=33)(hx1:x.n1<=9223372036854775807)(hx2:x.n2<=9223372036854775807)(hx:x.n2<=1000->x.gs.length=x.n2∧GS w8 (.slice b2 x.n2 c2) x.gs)(hn:1+n<=9223372036854775807)(hES:ES w a n F)(hB:Below w.heap.size w w8)(hr:∀ (k:Nat) (r:Array Value),rows[k]?=some r->∃ b o,a=some ⟨b,o,none⟩∧mid w b (o+k*33)=r∧k<n):ES w8 a' (1+n) (fun j=>match j with|0=>x|j+1=>F j):=by
 have hz':∀ r∈(x.e.vals (.slice b1 x.n1 c1) (.slice b2 x.n2 c2))::rows,r.size=33:=fun r hr=>by
  rcases List.mem_cons.1 hr with rfl|hr
  · exact zab _ _ _
  · exact hz r hr
 have h':w8.ownsRow base 32 33 (.slice a' (1+n) c') (1+n) (ec ((x.e.vals (.slice b1 x.n1 c1) (.slice b2 x.n2 c2))::rows)):=h
 refine⟨hn,fun k hk=>?_⟩
 cases k with
 | zero =>
   obtain⟨g,cc,e,-,hlt,hm⟩:=own_mid hz' h' 0 _ rfl
   injection e with e1
   exact⟨g,0,e1,hlt,b1,c1,b2,c2,by rw[Nat.zero_add];exact hm,hx1,hx2,hx⟩
 | succ j =>
   have hj:rows[j]?=some (rows[j]'(by omega)):=List.getElem?_eq_getElem _
   obtain⟨g,cc,e,-,hlt,hm⟩:=own_mid hz' h' (j+1) (rows[j]'(by omega)) (by rw[List.getElem?_cons_succ];exact hj)
   injection e with e1
   obtain⟨b,o,ha,hmw,hjn⟩:=hr j _ hj
   obtain⟨b',o',ha',hlt',d1,e1',d2,e2',h1,h2,h3,h4⟩:=hES.2 j hjn
   rw[ha] at ha'
   cases ha'
   refine⟨g,0,e1,hlt,d1,e1',d2,e2',?_,h2,h3,fun h=>⟨(h4 h).1,(h4 h).2.below hB⟩⟩
   rw[Nat.zero_add,hm,<-hmw,h1]
def zpQ(x:Ef)(F:Nat->Ef):Nat->Ef:=fun j=>match j with|0=>x|j+1=>F j
structure CeH (w:World) (a:Option Addr) (n c:Nat) (xs:Array Value) (rows:List (Array Value)) (A:Prop):Prop where
 cs:CS w 33 (.slice a n c) n (ec rows)
 sz:∀ r∈rows,r.size=33
 one:∀ r∈rows,zaV r.toList=true
 nsz:n*336<=140737488351232
 x1:zaV xs.toList=true
 xz:xs.size=33
 few:∀ W base a' c',Below w.heap.size w W->W.ownsRow base 32 33 (.slice a' (1+n) c') (1+n) (xs.toList++ec rows)->Calls Tryz.prog 9 #[.slice a' (1+n) c',.int .i64 13] W fun r w'=>∃ bb:Bool,r=.returned (.bool bb)∧(bb=true->A)∧Below W.heap.size W w'
theorem zrO{w:World}{a:Option Addr}{n c:Nat}{F:Nat->Ef}{x:Ef}{a1 a2:Option Addr}{c1 c2:Nat}(h:ES w a n F)(hn:n*336<=140737488351232)(hx1:x.n1<=9223372036854775807)(hx2:x.n2<=9223372036854775807)(hx:x.n2<=1000->x.gs.length=x.n2∧GS w (.slice a2 x.n2 c2) x.gs) :
  ∃ rows,CeH w a n c (x.e.vals (.slice a1 x.n1 c1) (.slice a2 x.n2 c2)) rows (zp3 (zpQ x F) (1+n) 13):=by
 obtain⟨rows,h1,h2,h3,h4,h5⟩:=h.all (c:=c)
 refine⟨rows,h1,h3,h4,hn,zav _ _ _ rfl rfl,zab _ _ _,fun W base a' c' hb ho=>?_⟩
 exact few35 a' (1+n) c' (zpQ x F) 13 W (zmm (x:=x) ho h2 h3 hx1 hx2 (fun q=>⟨(hx q).1,(hx q).2.below hb⟩) (by omega) h hb h5)
structure CeS (w W:World) (h:Nat) (xs:Array Value) (name tn:ByteArray):Prop where
 b:Below w.heap.size w W
 r:row W h=xs
 n:W.cell? ⟨h+1,0,none⟩=some (.string name)
 t:W.cell? ⟨h+2,0,none⟩=some (.string tn)
 z:h+3<=W.heap.size
theorem CeS.below{w W W':World}{h:Nat}{xs:Array Value}{name tn:ByteArray}(hS:CeS w W h xs name tn)(h0:0<xs.size)(hb:Below W.heap.size W W'):CeS w W' h xs name tn:=by
 have z:=hS.z
 exact⟨bt hS.b hb,zae hb hS.r h0,(World.cell?_of_block (a:=⟨h+1,0,none⟩) (hb.block (h+1) (by omega))).trans hS.n,(World.cell?_of_block (a:=⟨h+2,0,none⟩) (hb.block (h+2) (by omega))).trans hS.t,Nat.le_trans z hb.size⟩
theorem zkv(w:World)(xs:Array Value)(h0:0<xs.size)(name tn:ByteArray):CeS w (((w.alloc (.cells xs 32)).alloc (.cells #[.string name] 9)).alloc (.cells #[.string tn] 9)) w.heap.size xs name tn :=
 ⟨by exact za4,zae (w:=w.alloc (.cells xs 32)) (by exact za4) (zai w xs 32 (0,0)) h0,by simp [go_sem],by simp [go_sem],by simp⟩
attribute [local go_sem ↓] zaX zdf za0 zaD zbg
attribute [local go_sem] zaA zas zan zaM zaO zah zat zai zau zaf zak zaq zab zap zaj zaE zaC zao zam zax zaL zay zaz
theorem zoH(k:Nat)(hk:k<6)(w wB:World)(bw h:Nat)(sv:Value)(l:List Rw)(fl cd:Int)(x:Fu)(al gr:Value)(name tn:ByteArray)(hm:MaxL w)(hT:Tab w)(hS:CeS w wB h (x.1.vals al gr) name tn)(cw:wB.cell? ⟨bw,0,none⟩=some (.int .i64 k))(hbw:bw<wB.heap.size)(hr:RwS wB sv l)(ho:∀ b,sv.ownBlock=some b->b<wB.heap.size)(hl:l.length<=19)(hkz:∀ y∈l,y.2.1.size<=1000)(hcd:cd≠0∧cd≠6∨fl<=0)(hz:x.1.name.size<=1000∧name.size<=1000∧tn.size<=1000)(hI:IS w al x.2.1)(hG:GS w gr x.2.2) :
  Calls Tryz.prog 29 #[.iface 37 (.pointer (some ⟨wB.heap.size,0,none⟩)),.pointer (some ⟨bw,0,none⟩),.pointer (some ⟨h,0,none⟩),.pointer (some ⟨h+1,0,none⟩),.pointer (some ⟨h+2,0,none⟩)] (wB.alloc (.cells #[sv,.int .i64 fl,.int .i64 cd,.int .i64 0] 69)) fun r w'=>RunR wB (wB.alloc (.cells #[sv,.int .i64 fl,.int .i64 cd,.int .i64 0] 69)) w' wB.heap.size sv l fl cd (zjU k l fl cd 0 x name tn) r:=by
 have hb:=zag wB (.cells #[sv,.int .i64 fl,.int .i64 cd,.int .i64 0] 69)
 have hS2:=hS.below (by rw[zab];decide) hb
 have z:=hS.b.size
 exact run35 k hk wB.heap.size bw h (h+1) (h+2) sv l fl cd x al gr name tn wB _ (hm.below hS.b) (hT.below hS.b) (zil sv l fl cd wB hr ho) (fun b e=>by have:=ho b e;simp;omega) hl hkz hcd hz.1 (hI.below hS2.b) (hG.below hS2.b) (fun h0 q hq=>by have:=zmU hI h0 q hq;omega) (fun h0 q hq=>by have:=zmP hG h0 q hq;omega) hz.2.1 hz.2.2 ((hb.cell (p:=⟨bw,0,none⟩) hbw).trans cw) hS2.r hS2.n hS2.t
theorem zk1(a:Option Addr)(n c:Nat)(xs:Array Value)(rows:List (Array Value))(A:Prop)(name tn:ByteArray)(fv code:Int)(w:World)(hm:MaxL w)(hT:Tab w)(hH:CeH w a n c xs rows A)(hno:¬ (A∧code≠0∧code≠6∧name.size<=60∧tn.size<=60)) :
  Calls Tryz.prog 5 #[.slice a n c,.agg xs,.string name,.string tn,.int .u8 fv,.int .i64 code] w fun r w'=>r=.returned (.bool true)∧Below w.heap.size w w':=by
 have HAW:=lh (fun W (b:Below w.heap.size w W)=>aw35 W (hm.below b) (hT.below b))
 have HH:=lh hH
 have hnz:=hH.nsz
 have hxz:=hH.xz
 have hone:=hH.x1
 have hx0:0<xs.size:=by omega
 have HS0:=lh (zkv w xs hx0 name tn)
 have HNO:=lh hno
 clear hm hT hH hno
 by_cases h0:code=0
 · have c0:(code==0)=true:=beq_iff_eq.2 h0
   clear h0
   go_enter Tryz.func5,Tryz.ntmps5
   go_wp2_with (first
   | (go_at_call 8;(with_reducible refine (HAW.out _ HS0.out.b).mono ?_);rintro _ w1 ⟨rfl,hb⟩;have HS1:=lh (HS0.out.below hx0 hb);have z1:=HS1.out.b.size;have q1:=HS1.out.r;clear hb)
   | (at_builtin;refine zbC _ rfl (.tmp 28) (.tmp 29) 22 32 _ _ 33 336 rfl Tryz.underlying22 zov zha zgT zhv (zab _ _ _) (by decide) w1.heap.size (.slice (some ⟨w1.heap.size,0,none⟩) 1 1) (.slice a n c) 1 n xs.toList (ec rows) rfl (zek rfl HH.out.xz) rfl (HH.out.cs.below (HS1.out.b.alloc z1 _)) (zfT rows HH.out.sz HH.out.one) (by unfold maxLen;omega) (by omega) (by simp) ?_;intro ha8 hc8 w8 hown8 hg8 _;have HS8:=lh (HS1.out.below hx0 (((Below.refl _ _).alloc (Nat.le_refl _) _).grown hg8 (by simp) (fun q hq=>by cases hq;exact Nat.le_refl _)));have HW8:=lh hown8;clear hown8 hg8)
   | (go_at_call 9;(refine (HH.out.few _ _ _ _ HS8.out.b HW8.out).mono ?_);rintro _ w9 ⟨bb,rfl,hf,hb⟩;have HS9:=lh (HS8.out.below hx0 hb);have HF:=lh hf;have n9:=HS9.out.n;have u9:=HS9.out.t;clear hb hf;cases bb))
   all_goals
    go_ret
    exact⟨rfl,HS9.out.b⟩
 have c0:(code==0)=false:=beq_eq_false_iff_ne.2 h0
 by_cases h6:code=6
 · have c6:(code==6)=true:=beq_iff_eq.2 h6
   clear h0 h6
   go_enter Tryz.func5,Tryz.ntmps5
   go_wp2_with (first
   | (go_at_call 8;(with_reducible refine (HAW.out _ HS0.out.b).mono ?_);rintro _ w1 ⟨rfl,hb⟩;have HS1:=lh (HS0.out.below hx0 hb);have z1:=HS1.out.b.size;have q1:=HS1.out.r;clear hb)
   | (at_builtin;refine zbC _ rfl (.tmp 28) (.tmp 29) 22 32 _ _ 33 336 rfl Tryz.underlying22 zov zha zgT zhv (zab _ _ _) (by decide) w1.heap.size (.slice (some ⟨w1.heap.size,0,none⟩) 1 1) (.slice a n c) 1 n xs.toList (ec rows) rfl (zek rfl HH.out.xz) rfl (HH.out.cs.below (HS1.out.b.alloc z1 _)) (zfT rows HH.out.sz HH.out.one) (by unfold maxLen;omega) (by omega) (by simp) ?_;intro ha8 hc8 w8 hown8 hg8 _;have HS8:=lh (HS1.out.below hx0 (((Below.refl _ _).alloc (Nat.le_refl _) _).grown hg8 (by simp) (fun q hq=>by cases hq;exact Nat.le_refl _)));have HW8:=lh hown8;clear hown8 hg8)
   | (go_at_call 9;(refine (HH.out.few _ _ _ _ HS8.out.b HW8.out).mono ?_);rintro _ w9 ⟨bb,rfl,hf,hb⟩;have HS9:=lh (HS8.out.below hx0 hb);have HF:=lh hf;have n9:=HS9.out.n;have u9:=HS9.out.t;clear hb hf;cases bb))
   all_goals
    go_ret
    exact⟨rfl,HS9.out.b⟩
 have c6:(code==6)=false:=beq_eq_false_iff_ne.2 h6
 by_cases hns:name.size<=60
 rotate_left
 · have c7:decide (60<(name.size:Int))=true:=decide_eq_true (by omega)
   clear h0 h6 hns
   go_enter Tryz.func5,Tryz.ntmps5
   go_wp2_with (first
   | (go_at_call 8;(with_reducible refine (HAW.out _ HS0.out.b).mono ?_);rintro _ w1 ⟨rfl,hb⟩;have HS1:=lh (HS0.out.below hx0 hb);have z1:=HS1.out.b.size;have q1:=HS1.out.r;clear hb)
   | (at_builtin;refine zbC _ rfl (.tmp 28) (.tmp 29) 22 32 _ _ 33 336 rfl Tryz.underlying22 zov zha zgT zhv (zab _ _ _) (by decide) w1.heap.size (.slice (some ⟨w1.heap.size,0,none⟩) 1 1) (.slice a n c) 1 n xs.toList (ec rows) rfl (zek rfl HH.out.xz) rfl (HH.out.cs.below (HS1.out.b.alloc z1 _)) (zfT rows HH.out.sz HH.out.one) (by unfold maxLen;omega) (by omega) (by simp) ?_;intro ha8 hc8 w8 hown8 hg8 _;have HS8:=lh (HS1.out.below hx0 (((Below.refl _ _).alloc (Nat.le_refl _) _).grown hg8 (by simp) (fun q hq=>by cases hq;exact Nat.le_refl _)));have HW8:=lh hown8;clear hown8 hg8)
   | (go_at_call 9;(refine (HH.out.few _ _ _ _ HS8.out.b HW8.out).mono ?_);rintro _ w9 ⟨bb,rfl,hf,hb⟩;have HS9:=lh (HS8.out.below hx0 hb);have HF:=lh hf;have n9:=HS9.out.n;have u9:=HS9.out.t;clear hb hf;cases bb))
   all_goals
    go_ret
    exact⟨rfl,HS9.out.b⟩
 have c7:decide (60<(name.size:Int))=false:=decide_eq_false (by omega)
 by_cases hts:tn.size<=60
 rotate_left
 · have c8:decide (60<(tn.size:Int))=true:=decide_eq_true (by omega)
   clear h0 h6 hns hts
   go_enter Tryz.func5,Tryz.ntmps5
   go_wp2_with (first
   | (go_at_call 8;(with_reducible refine (HAW.out _ HS0.out.b).mono ?_);rintro _ w1 ⟨rfl,hb⟩;have HS1:=lh (HS0.out.below hx0 hb);have z1:=HS1.out.b.size;have q1:=HS1.out.r;clear hb)
   | (at_builtin;refine zbC _ rfl (.tmp 28) (.tmp 29) 22 32 _ _ 33 336 rfl Tryz.underlying22 zov zha zgT zhv (zab _ _ _) (by decide) w1.heap.size (.slice (some ⟨w1.heap.size,0,none⟩) 1 1) (.slice a n c) 1 n xs.toList (ec rows) rfl (zek rfl HH.out.xz) rfl (HH.out.cs.below (HS1.out.b.alloc z1 _)) (zfT rows HH.out.sz HH.out.one) (by unfold maxLen;omega) (by omega) (by simp) ?_;intro ha8 hc8 w8 hown8 hg8 _;have HS8:=lh (HS1.out.below hx0 (((Below.refl _ _).alloc (Nat.le_refl _) _).grown hg8 (by simp) (fun q hq=>by cases hq;exact Nat.le_refl _)));have HW8:=lh hown8;clear hown8 hg8)
   | (go_at_call 9;(refine (HH.out.few _ _ _ _ HS8.out.b HW8.out).mono ?_);rintro _ w9 ⟨bb,rfl,hf,hb⟩;have HS9:=lh (HS8.out.below hx0 hb);have HF:=lh hf;have n9:=HS9.out.n;have u9:=HS9.out.t;clear hb hf;cases bb))
   all_goals
    go_ret
    exact⟨rfl,HS9.out.b⟩
 have HA:=lh (fun (h:A)=>HNO.out ⟨h,h0,h6,hns,hts⟩)
 clear h0 h6 hns hts HNO
 go_enter Tryz.func5,Tryz.ntmps5
 go_wp2_with (first
  | (go_at_call 8;(with_reducible refine (HAW.out _ HS0.out.b).mono ?_);rintro _ w1 ⟨rfl,hb⟩;have HS1:=lh (HS0.out.below hx0 hb);have z1:=HS1.out.b.size;have q1:=HS1.out.r;clear hb)
  | (at_builtin;refine zbC _ rfl (.tmp 28) (.tmp 29) 22 32 _ _ 33 336 rfl Tryz.underlying22 zov zha zgT zhv (zab _ _ _) (by decide) w1.heap.size (.slice (some ⟨w1.heap.size,0,none⟩) 1 1) (.slice a n c) 1 n xs.toList (ec rows) rfl (zek rfl HH.out.xz) rfl (HH.out.cs.below (HS1.out.b.alloc z1 _)) (zfT rows HH.out.sz HH.out.one) (by unfold maxLen;omega) (by omega) (by simp) ?_;intro ha8 hc8 w8 hown8 hg8 _;have HS8:=lh (HS1.out.below hx0 (((Below.refl _ _).alloc (Nat.le_refl _) _).grown hg8 (by simp) (fun q hq=>by cases hq;exact Nat.le_refl _)));have HW8:=lh hown8;clear hown8 hg8)
  | (go_at_call 9;(refine (HH.out.few _ _ _ _ HS8.out.b HW8.out).mono ?_);rintro _ w9 ⟨bb,rfl,hf,hb⟩;have HS9:=lh (HS8.out.below hx0 hb);have HF:=lh hf;have n9:=HS9.out.n;have u9:=HS9.out.t;clear hb hf;cases bb;rotate_left 1;exact absurd (HF.out (by first|rfl|trivial)) HA.out))
 go_ret
 exact⟨rfl,HS9.out.b⟩
theorem zjT(a:Option Addr)(n c:Nat)(rows:List (Array Value))(A:Prop)(X:Nat->Fu)(x:Fu)(al gr:Value)(name tn:ByteArray)(fv code:Int)(w:World)(hm:MaxL w)(hT:Tab w)(hH:CeH w a n c (x.1.vals al gr) rows A)(hn:n<=12)(hX:FL w a n X)(hsz:x.1.name.size<=60)(hI:IS w al x.2.1)(hG:GS w gr x.2.2)(h0:code≠0)(h6:code≠6)(hns:name.size<=60)(hts:tn.size<=60)(hf0:0<=fv)(hf1:fv<256) :
  Calls Tryz.prog 5 #[.slice a n c,.agg (x.1.vals al gr),.string name,.string tn,.int .u8 fv,.int .i64 code] w fun r w'=>r=.returned (.bool true)∧Below w.heap.size w w':=by
 have hone:=zav x.1 al gr (zaT hI) (zaU hG)
 have HAW:=lh (fun W (b:Below w.heap.size w W)=>aw35 W (hm.below b) (hT.below b))
 have HMK:=lh (fun W (b:Below w.heap.size w W)=>zny 2 a n c X W (by omega) (hX.below b))
 have hMI:=zi3 2 X n
 have hml:=zgh 2 X n
 generalize zie 2 X n=M at HMK hMI hml
 have HKEY:=lh (zmQ hMI)
 have HH:=lh hH
 have hnz:=hH.nsz
 have hx0:0<(x.1.vals al gr).size:=by rw[zab];decide
 have HS0:=lh (zkv w (x.1.vals al gr) hx0 name tn)
 have c0:(code==0)=false:=beq_eq_false_iff_ne.2 h0
 have c6:(code==6)=false:=beq_eq_false_iff_ne.2 h6
 have c7:decide (60<(name.size:Int))=false:=decide_eq_false (by omega)
 have c8:decide (60<(tn.size:Int))=false:=decide_eq_false (by omega)
 have c9:(code != code)=false:=by simp
 have HM:=lh hm
 have HTT:=lh hT
 have HI:=lh hI
 have HG:=lh hG
 have HCD:Hid (code≠0∧code≠6):=lh ⟨h0,h6⟩
 have HZ:Hid (x.1.name.size<=1000∧name.size<=1000∧tn.size<=1000):=lh ⟨by omega,by omega,by omega⟩
 clear hm hT hH hX hI hG h0 h6 hns hts hsz hMI
 go_enter Tryz.func5,Tryz.ntmps5
 go_wp2_with (first
  | (go_at_call 8;(with_reducible refine (HAW.out _ HS0.out.b).mono ?_);rintro _ w1 ⟨rfl,hb⟩;have HS1:=lh (HS0.out.below hx0 hb);have z1:=HS1.out.b.size;have q1:=HS1.out.r;clear hb)
  | (at_builtin;refine zbC _ rfl (.tmp 28) (.tmp 29) 22 32 _ _ 33 336 rfl Tryz.underlying22 zov zha zgT zhv (zab _ _ _) (by decide) w1.heap.size (.slice (some ⟨w1.heap.size,0,none⟩) 1 1) (.slice a n c) 1 n (x.1.vals al gr).toList (ec rows) rfl (zek rfl HH.out.xz) rfl (HH.out.cs.below (HS1.out.b.alloc z1 _)) (zfT rows HH.out.sz HH.out.one) (by unfold maxLen;omega) (by omega) (by simp) ?_;intro ha8 hc8 w8 hown8 hg8 _;have HS8:=lh (HS1.out.below hx0 (((Below.refl _ _).alloc (Nat.le_refl _) _).grown hg8 (by simp) (fun q hq=>by cases hq;exact Nat.le_refl _)));have HW8:=lh hown8;clear hown8 hg8)
  | (go_at_call 9;(refine (HH.out.few _ _ _ _ HS8.out.b HW8.out).mono ?_);rintro _ w9 ⟨bb,rfl,hf,hb⟩;have HS9:=lh (HS8.out.below hx0 hb);have HF:=lh hf;have n9:=HS9.out.n;have u9:=HS9.out.t;clear hb hf;cases bb)
  | (go_at_call 10;(refine (HMK.out _ HS9.out.b).mono ?_);rintro _ w4 ⟨vb,rfl,hr,ho,hb⟩;obtain⟨vba,vbc,rfl,-⟩:=_root_.id hr;have HS4:=lh (HS9.out.below hx0 hb);have SR:=lh hr;have SO:=lh ho;clear hr ho hb))
 · go_ret
   exact⟨rfl,HS9.out.b⟩
 clear HAW HMK HH HS0 HS1 HS8 HW8 HS9 n9 u9 HF z1 q1 hnz
 rw[show w.heap.size+1+1=w.heap.size+2 from rfl]
 obtain⟨kk,hkk⟩:∃ kk,1+fv % 16=kk:=⟨_,rfl⟩
 rw[hkk]
 have hk1:0<kk:=by omega
 have hzs:=HS4.out.b.size
 have hl19:M.length<=19:=by omega
 clear hkk hf0 hf1
 go_loopw [57] (fun i wr=>∃ k:Nat,k<=6∧i=.int .i64 k∧Hid (Below w4.heap.size w4 wr)) (fun i _=>6 - (intOf i).toNat)
 case atStart=>exact⟨0,Nat.zero_le _,rfl,lh (Below.refl _ _)⟩
 case round =>
  obtain⟨k,hk,rfl,HB⟩:=hrel
  by_cases hlt:k<6
  rotate_left
  · obtain rfl:k=6:=by omega
    go_wp2_with fail
    go_ret
    exact⟨rfl,bt HS4.out.b HB.out⟩
  have j2:(k:Int)<6:=by omega
  have hfx:=zq4 (k:=k) (l:=M) (x:=x) (name:=name) (tn:=tn) HCD.out hk1
  have hgood:=fun (wB:World) hS cw hbw hr ho=>zoH k hlt w wB wr.heap.size w.heap.size (.slice vba M.length vbc) M 0 0 x al gr name tn HM.out HTT.out hS cw hbw hr ho hl19 HKEY.out (.inr (Int.le_refl _)) HZ.out HI.out HG.out
  have hbad:=fun (wB:World) hS cw hbw hr ho=>zoH k hlt w wB wr.heap.size w.heap.size (.slice vba M.length vbc) M kk code x al gr name tn HM.out HTT.out hS cw hbw hr ho hl19 HKEY.out (.inl HCD.out) HZ.out HI.out HG.out
  generalize zjU k M 0 0 0 x name tn=gG at hfx hgood
  generalize zjU k M kk code 0 x name tn=gB at hfx hbad
  obtain⟨⟨⟨csG,nG⟩,eG⟩,cG⟩:=gG
  obtain⟨⟨⟨csB,nB⟩,eB⟩,cB⟩:=gB
  have bB:=zag wr (.cells #[.int .i64 (k:Int)] 3)
  have SB:=(HS4.out.below hx0 HB.out).below hx0 bB
  have cwB:(wr.alloc (.cells #[.int .i64 (k:Int)] 3)).cell? ⟨wr.heap.size,0,none⟩=some (.int .i64 (k:Int)):=by simp [go_sem]
  have szB:(wr.alloc (.cells #[.int .i64 (k:Int)] 3)).heap.size=wr.heap.size+1:=by simp
  have HRB:=lh ((SR.out.below HB.out).below bB)
  have HOB:=lh (fun q hq=>Nat.lt_of_lt_of_le (SO.out q hq) (Nat.le_trans HB.out.size bB.size))
  have HBB:=lh (bt HB.out bB)
  have hG0:=hgood _ SB cwB (by omega) HRB.out HOB.out
  rw[szB] at hG0
  have HSB:=lh SB
  have HGD:=lh hG0
  have HBD:=lh hbad
  clear hgood hG0 hbad SB bB
  dsimp only at hfx
  rcases hfx with ⟨h1,h2⟩|⟨h1,h2⟩
  obtain⟨e1,e2⟩:=Prod.mk.inj h2
  obtain⟨e3,e4⟩:=Prod.mk.inj e1
  clear h2 e1
  subst e2 e3 e4
  have q1:decide (kk<=cB)=false:=decide_eq_false (by dsimp only at h1;omega)
  have q2:decide (cB<kk)=true:=decide_eq_true h1
  have q3:(eB != eB)=false∧(nB != nB)=false:=by simp
  obtain⟨q3,q4⟩:=q3
  clear h1
  rotate_left
  cases h2
  dsimp only at h1
  subst h1
  have q1:decide (cB<=cB)=true:=decide_eq_true (Int.le_refl _)
  have q2:decide (cB<cB)=false:=decide_eq_false (Int.lt_irrefl _)
  all_goals
   go_wp2_with (first|(go_at_call 12;(refine (sh35 _ _ _ _).mono ?_);rintro _ _ ⟨rfl,rfl⟩)|(go_at_call 29;have u1:=HGD;clear u1;(refine HGD.out.mono ?_);rintro _ w5 ⟨ov,rfl,hch,hs,-⟩;clear HGD;obtain⟨oa,oc,rfl,-⟩:=_root_.id hch;have HC5:=lh hch;have HS5:=lh (HSB.out.below hx0 hs.b);have cw5:=(hs.b.cell (p:=⟨wr.heap.size,0,none⟩) (by rw[szB];exact Nat.lt_succ_self _)).trans cwB;have HR5:=lh hs.r;have HO5:=lh (fun q hq=>Nat.lt_of_lt_of_le (HOB.out q hq) hs.b.size);have HB5:=lh (bt HBB.out hs.b);have lt5:wr.heap.size<w5.heap.size:=(by have:=hs.b.size;omega);clear hch hs)|(go_at_call 29;(refine (HBD.out w5 HS5.out cw5 lt5 HR5.out HO5.out).mono ?_);rintro _ w7 ⟨ov7,rfl,hch,hs,-⟩;obtain⟨oa7,oc7,rfl,-⟩:=_root_.id hch;have HC7:=lh hch;have C57:=lh (HC5.out.below hs.b);have c3:=zaa hs.f.1 3 _ rfl;have HB7:=lh hs.b;clear hch hs)|(go_at_call 28;(refine (rchanges _ _ _ _ C57.out HC7.out).mono ?_);rintro _ w9 ⟨rfl,hb⟩;have HB7:=lh (bt HB7.out hb);clear hb))
   go_roundw
   case rel=>exact⟨k+1,by omega,by go_num,lh (bt HB5.out HB7.out)⟩
   case measure=>simp [intOf];omega
end
end Go.Proofs.YtkafnmbldpofdaaGreatDoor
