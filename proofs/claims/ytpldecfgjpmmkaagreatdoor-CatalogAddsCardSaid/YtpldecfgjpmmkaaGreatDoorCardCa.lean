/- Several texts in one: FewE FrameEo FewC FrameCa LaCa CardCa. -/
import Derived.Test.YtpldecfgjpmmkaaGreatDoorSaC
import Derived.Test.YtpldecfgjpmmkaaGreatDoorEn
import Derived.Test.YtpldecfgjpmmkaaGreatDoorFrameEs
import Derived.Test.YtpldecfgjpmmkaaGreatDoorChA
import Derived.Test.YtpldecfgjpmmkaaGreatDoorAw6
import Derived.Test.YtpldecfgjpmmkaaGreatDoorRtF
import Derived.Test.YtpldecfgjpmmkaaGreatDoorNo
import Derived.Test.YtpldecfgjpmmkaaGreatDoorJCatalogAdds
section
/- Contract of dasdlaw33.few. -/
namespace Go.Proofs.YtpldecfgjpmmkaaGreatDoor
open Go.RowKit
set_option maxHeartbeats 8000000
set_option maxRecDepth 8000
attribute [local go_sem] vals_0 vals_1 vals_18 vals_19 vals_23 vals_28 vals_29 vals_32
def GR (w:World) (a:Option Addr) (n:Nat):Prop:=n≤9223372036854775807∧∀ k,k<n→∃ (b o:Nat) (g:Gr),a=some ⟨b,o,none⟩∧b<w.heap.size∧w.cell? ⟨b,o+k*3,none⟩=some (.string g.1)∧w.cell? ⟨b,o+k*3+1,none⟩=some (.bool g.2.1)∧w.cell? ⟨b,o+k*3+2,none⟩=some (.int .i64 g.2.2)
def fewP (e:En) (n1 n2:Nat):Prop:=e.name.size≤60∧n1≤8∧n2≤12
def FV (w wr:World) (cs:Array Value):Prop:=Below w.heap.size w wr∧row wr w.heap.size=cs∧w.heap.size<wr.heap.size
def FewR (e:En) (n1 n2:Nat) (w w':World) (r:Ending):Prop:=∃ b:Bool,r=.returned (.bool b)∧(b=true→fewP e n1 n2)∧Below w.heap.size w w'
theorem FewR.no {e:En} {n1 n2:Nat} {w w':World} (h:Below w.heap.size w w'):FewR e n1 n2 w w' (.returned (.bool false)):=⟨false,rfl,(fun h=>by cases h),h⟩
end Go.Proofs.YtpldecfgjpmmkaaGreatDoor
end
section
/- Entries among the arguments (the openings). -/
namespace Go.Proofs.YtpldecfgjpmmkaaGreatDoor
open Go.ChangeShapes Go.WideShapes Go.RowKit
set_option maxRecDepth 100000
theorem open_isliceN {H:Type} {enc:TypeId × Value→H} {W:World} {fuel:Nat} {v:Value} {x:DataW H × List MemPlace} (h:DataW.trod enc Tryz.prog W 0 (fun _=>true) true fuel 25 [v]=some x) :
  ∃ (a:Option Addr) (n c:Nat),v=.slice a n c∧(n≤1000→∃ l:List Int,l.length=n∧IS W v l):=by
 rcases open_ints Tryz.underlying25 Tryz.underlying3 (by kernel_rfl) h with ⟨h1,-⟩ | ⟨a,len,cap,zs,h1,-,hl,-,hz,-,hc,-⟩
 · obtain rfl:v=.slice none 0 0:=by simpa using h1
   exact⟨none,0,0,rfl,fun _=>⟨[],rfl,IS.nil W⟩⟩
 · obtain rfl:v=.slice (some a) len cap:=by simpa using h1
   refine⟨some a,len,cap,rfl,fun hn=>⟨zs.take len,by rw[List.length_take];split at hz <;> omega,?_⟩⟩
   have hlen:(zs.take len).length=len:=by rw[List.length_take];split at hz <;> omega
   refine⟨some a,cap,by rw[hlen],by omega,fun h0=>?_⟩
   rw[hlen] at h0
   have hzl:len≤zs.length:=by split at hz <;> omega
   have c0:=hc 0 (by omega)
   have hs:a.spot=none:=by
    have:=World.cell?_spot c0
    simpa [Addr.add] using this
   obtain⟨b,o,s⟩:=a
   simp only at hs
   subst hs
   refine⟨b,o,rfl,?_,fun k hk=>?_⟩
   · have:=World.block_lt_of_cell? W _ c0
     simpa [Addr.add] using this
   · rw[hlen] at hk
     have:=hc k (by omega)
     rw[Addr.add_mid] at this
     rw[this]
     simp [List.getD_eq_getElem?_getD,List.getElem?_eq_getElem (show k<zs.length by omega)]
theorem enc_rowN {P:Program} {w:World} {r:Reach} {base:Nat} {t u:TypeId} {cs:Array Value} {ts:List TypeId} (hts:P.cellTypes P.depth t=some ts) (h:Row.okWide P w r base t cs) (i:Nat) (v:Value) (hv:cs[i]?=some v) (hu:ts[i % ts.length]?=some u):Cell.okWide P w r base u v:=by
 obtain⟨ts',h1,_,h2⟩:=h
 obtain rfl:ts=ts':=Option.some.inj (hts.symm.trans h1)
 obtain⟨u',a,b⟩:=h2 i v hv
 obtain rfl:u=u':=Option.some.inj (hu.symm.trans a)
 exact b
theorem enc_intN {P:Program} {w:World} {r:Reach} {base:Nat} {u:TypeId} {k:IntKind} {v:Value} (hu:P.underlying u=some (.int k)) (h:Cell.okWide P w r base u v):∃ n,v=.int k n:=by
 cases v <;> simp_all [Cell.okWide,Cell.ok]
theorem enc_boolN {P:Program} {w:World} {r:Reach} {base:Nat} {u:TypeId} {v:Value} (hu:P.underlying u=some .bool) (h:Cell.okWide P w r base u v):∃ b,v=.bool b:=by
 cases v <;> simp_all [Cell.okWide,Cell.ok]
theorem enc_strN {P:Program} {w:World} {r:Reach} {base:Nat} {u:TypeId} {v:Value} (hu:P.underlying u=some .string) (h:Cell.okWide P w r base u v):∃ b,v=.string b:=by
 cases v <;> simp_all [Cell.okWide,Cell.ok]
theorem enc_cellsN {P:Program} {w:World} {r:Reach} {base:Nat} {t:TypeId} {v:Value} {fs:Array Field} (ht:P.underlying t=some (.struct fs)) (h:Value.okWide P w r base t v):∃ cs,v=.agg cs∧cs.size=P.cellsOf t∧Row.okWide P w r base t cs:=by
 simpa only [Value.okWide,ht] using h
theorem open_gsliceN {H:Type} {enc:TypeId × Value→H} {W:World} {fuel:Nat} {v:Value} {x:DataW H × List MemPlace} (h:DataW.trod enc Tryz.prog W 0 (fun _=>true) true fuel 26 [v]=some x) :
  ∃ (a:Option Addr) (n c:Nat),v=.slice a n c∧(n≤1000→∃ l:List Gr,l.length=n∧GS W v l):=by
 rcases Go.Deep.open_slice Tryz.underlying26 h with ⟨h1,-⟩ | ⟨a,len,cap,m,f,D,Pl,h1,-,hl,-,hm,-,hi⟩
 · obtain rfl:v=.slice none 0 0:=by simpa using h1
   exact⟨none,0,0,rfl,fun _=>⟨[],rfl,GS.nil W⟩⟩
 · obtain rfl:v=.slice (some a) len cap:=by simpa using h1
   refine⟨some a,len,cap,rfl,fun hn=>?_⟩
   have e3:Tryz.prog.cellsOf 87=3:=by kernel_rfl
   have each:∀ i,i<len→∃ g:Gr,W.cell? (a.add (i*3))=some (.string g.1)∧W.cell? ((a.add (i*3)).add 1)=some (.bool g.2.1)∧W.cell? ((a.add (i*3)).add 2)=some (.int .i64 g.2.2):=fun i hlt=>by
    obtain⟨cs,hc,ht⟩:=hi i (by rw[hm];split <;> omega)
    rw[e3] at hc
    obtain⟨_,hcl,hat⟩:=World.cells?_some hc
    obtain⟨y0,y1,y2,n',-,-,f0,f1,f2⟩:=Go.Deep.trod_struct3 Tryz.underlying87 ht
    match cs,hcl with
    | [c0,c1,c2],_ =>
      obtain⟨b,e0,-⟩:=DataW.trod_string Tryz.underlying9 f0
      obtain⟨g,e1,-⟩:=DataW.trod_bool Tryz.underlying4 f1
      obtain⟨l,e2,-⟩:=DataW.trod_int Tryz.underlying3 f2
      have k0:c0=.string b:=List.head_eq_of_cons_eq e0
      have k1:c1=.bool g:=List.head_eq_of_cons_eq e1
      have k2:c2=.int .i64 l:=List.head_eq_of_cons_eq e2
      subst k0 k1 k2
      exact⟨(b,g,l),by simpa [Addr.add] using hat 0 (by omega),hat 1 (by omega),hat 2 (by omega)⟩
   let G:Nat→Gr:=fun i=>if h:i<len then Classical.choose (each i h) else (⟨#[]⟩,false,0)
   have hG:∀ i,i<len→W.cell? (a.add (i*3))=some (.string (G i).1)∧W.cell? ((a.add (i*3)).add 1)=some (.bool (G i).2.1)∧W.cell? ((a.add (i*3)).add 2)=some (.int .i64 (G i).2.2):=fun i hlt=>by
    have:=Classical.choose_spec (each i hlt)
    simp only[G,dif_pos hlt];exact this
   refine⟨(List.range len).map G,by simp,some a,cap,by simp,by simp;omega,fun h0=>?_⟩
   have h0':0<len:=by simpa using h0
   have c0:=(hG 0 h0').1
   have hs:a.spot=none:=by
    have:=World.cell?_spot c0
    simpa [Addr.add] using this
   obtain⟨b,o,s⟩:=a
   simp only at hs
   subst hs
   refine⟨b,o,rfl,?_,fun k hk=>?_⟩
   · have:=World.block_lt_of_cell? W _ c0
     simpa [Addr.add] using this
   · have hk':k<len:=by simpa using hk
     have:=hG k hk'
     rw[Addr.add_mid,Addr.add_mid,Addr.add_mid] at this
     simpa using this
theorem open_enN {H:Type} {enc:TypeId × Value→H} {W:World} {r:Reach} {base:Nat} {v:Value} {d:DataW H} {p:List MemPlace} (hv:Value.okWide Tryz.prog W r base 28 v) (h:DataW.Trod enc Tryz.prog W 0 (fun _=>true) true 28 v d p) :
  ∃ (e:En) (a1:Option Addr) (n1 c1:Nat) (a2:Option Addr) (n2 c2:Nat),v=.agg (e.vals (.slice a1 n1 c1) (.slice a2 n2 c2))∧(n1≤1000→∃ l:List Int,l.length=n1∧IS W (.slice a1 n1 c1) l)∧(n2≤1000→∃ l:List Gr,l.length=n2∧GS W (.slice a2 n2 c2) l):=by
 obtain⟨⟨l⟩,rfl,hsz,hrow⟩:=enc_cellsN Tryz.underlying28 hv
 have e:Tryz.prog.cellsOf 28=33:=by kernel_rfl
 rw[e] at hsz
 have hts:Tryz.prog.cellTypes Tryz.prog.depth 28=some [3,9,3,3,3,3,3,3,3,3,3,3,3,3,3,3,4,3,9,9,3,3,4,25,3,3,3,4,9,9,3,3,26]:=by kernel_rfl
 rcases l with _ | ⟨x0,_ | ⟨x1,_ | ⟨x2,_ | ⟨x3,_ | ⟨x4,_ | ⟨x5,_ | ⟨x6,_ | ⟨x7,_ | ⟨x8,_ | ⟨x9,_ | ⟨x10,_ | ⟨x11,_ | ⟨x12,_ | ⟨x13,_ | ⟨x14,_ | ⟨x15,_ | ⟨x16,_ | ⟨x17,_ | ⟨x18,_ | ⟨x19,_ | ⟨x20,_ | ⟨x21,_ | ⟨x22,_ | ⟨x23,_ | ⟨x24,_ | ⟨x25,_ | ⟨x26,_ | ⟨x27,_ | ⟨x28,_ | ⟨x29,_ | ⟨x30,_ | ⟨x31,_ | ⟨x32,_ | ⟨x33,l⟩⟩⟩⟩⟩⟩⟩⟩⟩⟩⟩⟩⟩⟩⟩⟩⟩⟩⟩⟩⟩⟩⟩⟩⟩⟩⟩⟩⟩⟩⟩⟩⟩⟩ <;> simp at hsz
 obtain⟨fuel,hf⟩:=h
 obtain⟨xs,n,-,-,-,hxs,hfs⟩:=DataW.trod_struct Tryz.underlying28 hf
 have hx0:xs[3]?=some (xs[3]'(by rw[hxs];decide)):=List.getElem?_eq_getElem _
 have hx1:xs[12]?=some (xs[12]'(by rw[hxs];decide)):=List.getElem?_eq_getElem _
 have s1:=(hfs 3 _ rfl).trans hx0
 have s2:=(hfs 12 _ rfl).trans hx1
 obtain⟨a1,n1,c1,rfl,o1⟩:=open_isliceN (v:=x23) s1
 obtain⟨a2,n2,c2,rfl,o2⟩:=open_gsliceN (v:=x32) s2
 clear hfs hx0 hx1 s1 s2 hf
 obtain⟨y0,rfl⟩:=enc_intN Tryz.underlying3 (enc_rowN hts hrow 0 x0 rfl rfl)
 obtain⟨y1,rfl⟩:=enc_strN Tryz.underlying9 (enc_rowN hts hrow 1 x1 rfl rfl)
 obtain⟨y2,rfl⟩:=enc_intN Tryz.underlying3 (enc_rowN hts hrow 2 x2 rfl rfl)
 obtain⟨y3,rfl⟩:=enc_intN Tryz.underlying3 (enc_rowN hts hrow 3 x3 rfl rfl)
 obtain⟨y4,rfl⟩:=enc_intN Tryz.underlying3 (enc_rowN hts hrow 4 x4 rfl rfl)
 obtain⟨y5,rfl⟩:=enc_intN Tryz.underlying3 (enc_rowN hts hrow 5 x5 rfl rfl)
 obtain⟨y6,rfl⟩:=enc_intN Tryz.underlying3 (enc_rowN hts hrow 6 x6 rfl rfl)
 obtain⟨y7,rfl⟩:=enc_intN Tryz.underlying3 (enc_rowN hts hrow 7 x7 rfl rfl)
 obtain⟨y8,rfl⟩:=enc_intN Tryz.underlying3 (enc_rowN hts hrow 8 x8 rfl rfl)
 obtain⟨y9,rfl⟩:=enc_intN Tryz.underlying3 (enc_rowN hts hrow 9 x9 rfl rfl)
 obtain⟨y10,rfl⟩:=enc_intN Tryz.underlying3 (enc_rowN hts hrow 10 x10 rfl rfl)
 obtain⟨y11,rfl⟩:=enc_intN Tryz.underlying3 (enc_rowN hts hrow 11 x11 rfl rfl)
 obtain⟨y12,rfl⟩:=enc_intN Tryz.underlying3 (enc_rowN hts hrow 12 x12 rfl rfl)
 obtain⟨y13,rfl⟩:=enc_intN Tryz.underlying3 (enc_rowN hts hrow 13 x13 rfl rfl)
 obtain⟨y14,rfl⟩:=enc_intN Tryz.underlying3 (enc_rowN hts hrow 14 x14 rfl rfl)
 obtain⟨y15,rfl⟩:=enc_intN Tryz.underlying3 (enc_rowN hts hrow 15 x15 rfl rfl)
 obtain⟨y16,rfl⟩:=enc_boolN Tryz.underlying4 (enc_rowN hts hrow 16 x16 rfl rfl)
 obtain⟨y17,rfl⟩:=enc_intN Tryz.underlying3 (enc_rowN hts hrow 17 x17 rfl rfl)
 obtain⟨y18,rfl⟩:=enc_strN Tryz.underlying9 (enc_rowN hts hrow 18 x18 rfl rfl)
 obtain⟨y19,rfl⟩:=enc_strN Tryz.underlying9 (enc_rowN hts hrow 19 x19 rfl rfl)
 obtain⟨y20,rfl⟩:=enc_intN Tryz.underlying3 (enc_rowN hts hrow 20 x20 rfl rfl)
 obtain⟨y21,rfl⟩:=enc_intN Tryz.underlying3 (enc_rowN hts hrow 21 x21 rfl rfl)
 obtain⟨y22,rfl⟩:=enc_boolN Tryz.underlying4 (enc_rowN hts hrow 22 x22 rfl rfl)
 obtain⟨y24,rfl⟩:=enc_intN Tryz.underlying3 (enc_rowN hts hrow 24 x24 rfl rfl)
 obtain⟨y25,rfl⟩:=enc_intN Tryz.underlying3 (enc_rowN hts hrow 25 x25 rfl rfl)
 obtain⟨y26,rfl⟩:=enc_intN Tryz.underlying3 (enc_rowN hts hrow 26 x26 rfl rfl)
 obtain⟨y27,rfl⟩:=enc_boolN Tryz.underlying4 (enc_rowN hts hrow 27 x27 rfl rfl)
 obtain⟨y28,rfl⟩:=enc_strN Tryz.underlying9 (enc_rowN hts hrow 28 x28 rfl rfl)
 obtain⟨y29,rfl⟩:=enc_strN Tryz.underlying9 (enc_rowN hts hrow 29 x29 rfl rfl)
 obtain⟨y30,rfl⟩:=enc_intN Tryz.underlying3 (enc_rowN hts hrow 30 x30 rfl rfl)
 obtain⟨y31,rfl⟩:=enc_intN Tryz.underlying3 (enc_rowN hts hrow 31 x31 rfl rfl)
 exact⟨⟨y0,y1,y2,y3,y4,y5,y6,y7,y8,y9,y10,y11,y12,y13,y14,y15,y16,y17,y18,y19,y20,y21,y22,y24,y25,y26,y27,y28,y29,y30,y31⟩,a1,n1,c1,a2,n2,c2,by unfold En.vals;rfl,o1,o2⟩
theorem open_grN {H:Type} {enc:TypeId × Value→H} {W:World} {fuel:Nat} {a2:Option Addr} {n2 c2:Nat} {x:DataW H × List MemPlace} (h:DataW.trod enc Tryz.prog W 0 (fun _=>true) true fuel 26 [.slice a2 n2 c2]=some x):GR W a2 n2:=by
 rcases Go.Deep.open_slice Tryz.underlying26 h with ⟨h1,-⟩ | ⟨a,len,cap,m,f,D,Pl,h1,-,hl,hmax,hm,-,hi⟩
 · have:=List.head_eq_of_cons_eq h1
   injection this with e1 e2 e3
   subst e2
   exact⟨by omega,fun k hk=>by omega⟩
 · have:=List.head_eq_of_cons_eq h1
   injection this with e1 e2 e3
   subst e1 e2 e3
   refine⟨by simp only[maxLen] at hmax;omega,fun k hk=>?_⟩
   have e3:Tryz.prog.cellsOf 87=3:=by kernel_rfl
   obtain⟨cs,hc,ht⟩:=hi k (by rw[hm];split <;> omega)
   rw[e3] at hc
   obtain⟨_,hcl,hat⟩:=World.cells?_some hc
   obtain⟨y0,y1,y2,n',-,-,f0,f1,f2⟩:=Go.Deep.trod_struct3 Tryz.underlying87 ht
   match cs,hcl with
   | [c0,c1,c2],_ =>
     obtain⟨b,e0,-⟩:=DataW.trod_string Tryz.underlying9 f0
     obtain⟨g,e1,-⟩:=DataW.trod_bool Tryz.underlying4 f1
     obtain⟨l,e2,-⟩:=DataW.trod_int Tryz.underlying3 f2
     have k0:c0=.string b:=List.head_eq_of_cons_eq e0
     have k1:c1=.bool g:=List.head_eq_of_cons_eq e1
     have k2:c2=.int .i64 l:=List.head_eq_of_cons_eq e2
     subst k0 k1 k2
     have z0:=hat 0 (by omega)
     have z1:=hat 1 (by omega)
     have z2:=hat 2 (by omega)
     have hs:a.spot=none:=by
      obtain⟨cs',hc',-⟩:=hi 0 (by rw[hm];split <;> omega)
      rw[e3] at hc'
      obtain⟨_,hcl',hat'⟩:=World.cells?_some hc'
      match cs',hcl' with
      | [_,_,_],_ =>
        have:=World.cell?_spot (hat' 0 (by omega))
        simpa [Addr.add] using this
     obtain⟨bb,o,s⟩:=a
     simp only at hs
     subst hs
     refine⟨bb,o,(b,g,l),rfl,?_,?_,?_,?_⟩
     · have:=World.block_lt_of_cell? W _ z0
       rw[Addr.add_mid,Addr.add_mid] at this
       exact this
     · simpa [Addr.add_mid] using z0
     · simpa [Addr.add_mid] using z1
     · simpa [Addr.add_mid] using z2
theorem en_grN {H:Type} {enc:TypeId × Value→H} {W:World} {e:En} {a1 a2:Option Addr} {n1 c1 n2 c2:Nat} {d:DataW H} {p:List MemPlace} (h:DataW.Trod enc Tryz.prog W 0 (fun _=>true) true 28 (.agg (e.vals (.slice a1 n1 c1) (.slice a2 n2 c2))) d p):GR W a2 n2:=by
 obtain⟨fuel,hf⟩:=h
 unfold En.vals at hf
 obtain⟨xs,n,-,-,-,hxs,hfs⟩:=DataW.trod_struct Tryz.underlying28 hf
 have hx1:xs[12]?=some (xs[12]'(by rw[hxs];decide)):=List.getElem?_eq_getElem _
 have s2:=(hfs 12 _ rfl).trans hx1
 exact open_grN s2
end Go.Proofs.YtpldecfgjpmmkaaGreatDoor
end
section
/- Contract of dasdlaw35.few. -/
namespace Go.Proofs.YtpldecfgjpmmkaaGreatDoor
open Go.RowKit
set_option maxHeartbeats 8000000
set_option maxRecDepth 8000
attribute [local go_sem ↓] ldEnt stEnt stEntRow ldEntM
attribute [local go_sem] Held_drew isHead_mk headOf_mk offOf_mk isPtr_mk cellsOfV_mk isAggV_mk row_new row_new2 row_new2' row_drew row_drewN vals_size allOne_nil allOne_cons one_int one_bool one_string one_pointer one_slice vals_0 vals_1 vals_23 vals_28 vals_29 vals_32
def fewCP (F:Nat→Ef) (n:Nat) (m:Int):Prop:=(n:Int)≤m∧∀ k,k<n→(F k).e.name.size≤60∧(F k).e.target.size≤60∧(F k).n2≤12∧(F k).n1≤8
def FewCR (F:Nat→Ef) (n:Nat) (m:Int) (w w':World) (r:Ending):Prop:=∃ b:Bool,r=.returned (.bool b)∧(b=true→fewCP F n m)∧Below w.heap.size w w'
theorem FewCR.no {F:Nat→Ef} {n:Nat} {m:Int} {w w':World} (h:Below w.heap.size w w'):FewCR F n m w w' (.returned (.bool false)):=⟨false,rfl,(fun h=>by cases h),h⟩
theorem few35 (a:Option Addr) (n c:Nat) (F:Nat→Ef) (m:Int) (w:World) (hES:ES w a n F) :
  Calls Tryz.prog 8 #[.slice a n c,.int .i64 m] w fun r w'=>FewCR F n m w w' r:=by
 have HES:=Lib.hid hES
 have hn63:=hES.1
 clear hES
 go_enter Tryz.func8,Tryz.ntmps8
 go_wp2_with fail
 go_loopw [9] (fun i wr=>∃ k:Nat,k≤n∧i=.int .i64 k∧(∀ j,j<k→(F j).e.name.size≤60∧(F j).e.target.size≤60∧(F j).n2≤12∧(F j).n1≤8)∧Below w.heap.size w wr) (fun i _=>n - (intOf i).toNat)
 case atStart=>exact⟨0,Nat.zero_le _,rfl,(fun j hj=>absurd hj (by omega)),by exact belA⟩
 case round =>
  obtain⟨k,hk,rfl,hok,B⟩:=hrel
  have HOK:=Lib.hid hok
  have z0:=B.size
  clear hok
  by_cases hlt:k<n
  · obtain⟨b,o,rfl,hb,a1,c1,a2,c2,hmid,h1,h2,-⟩:=(HES.out.below B).2 k hlt
    have hz:(mid wr b (o+k*33)).size=33:=by rw[hmid];exact vals_size _ _ _
    have hone:=vals_one (F k).e (.slice a1 (F k).n1 c1) (.slice a2 (F k).n2 c2) rfl rfl
    by_cases s0:(F k).e.name.size≤60
    rotate_left
    · have f6:decide (60<((F k).e.name.size:Int))=true:=by rw[decide_eq_true_eq];omega
      go_wp2_with fail
      go_ret
      exact FewCR.no (by exact belA)
    have f6:decide (60<((F k).e.name.size:Int))=false:=by rw[decide_eq_false_iff_not];omega
    by_cases s1:(F k).e.target.size≤60
    rotate_left
    · have f7:decide (60<((F k).e.target.size:Int))=true:=by rw[decide_eq_true_eq];omega
      go_wp2_with fail
      go_ret
      exact FewCR.no (by exact belA)
    have f7:decide (60<((F k).e.target.size:Int))=false:=by rw[decide_eq_false_iff_not];omega
    by_cases s2:(F k).n2≤12
    rotate_left
    · have f8:decide (12<((F k).n2:Int))=true:=by rw[decide_eq_true_eq];omega
      go_wp2_with fail
      go_ret
      exact FewCR.no (by exact belA)
    have f8:decide (12<((F k).n2:Int))=false:=by rw[decide_eq_false_iff_not];omega
    by_cases s3:(F k).n1≤8
    rotate_left
    · have f9:decide (8<((F k).n1:Int))=true:=by rw[decide_eq_true_eq];omega
      go_wp2_with fail
      go_ret
      exact FewCR.no (by exact belA)
    have f9:decide (8<((F k).n1:Int))=false:=by rw[decide_eq_false_iff_not];omega
    have HS:Hid ((F k).e.name.size≤60∧(F k).e.target.size≤60∧(F k).n2≤12∧(F k).n1≤8):=Lib.hid ⟨s0,s1,s2,s3⟩
    clear s0 s1 s2 s3
    go_wp2_with fail
    go_roundw
    case rel =>
     refine⟨k+1,by omega,by go_num,fun j hj=>?_,by exact belA⟩
     rcases Nat.lt_or_ge j k with h | h
     · exact HOK.out j h
     · obtain rfl:j=k:=by omega
       exact HS.out
    case measure=>simp [intOf];omega
  · obtain rfl:k=n:=by omega
    by_cases s0:(k:Int)≤m
    rotate_left
    · have f6:decide ((k:Int)≤m)=false:=by rw[decide_eq_false_iff_not];exact s0
      go_wp2_with fail
      go_ret
      exact FewCR.no B
    have f6:decide ((k:Int)≤m)=true:=by rw[decide_eq_true_eq];exact s0
    have HS:Hid ((k:Int)≤m):=Lib.hid s0
    clear s0
    go_wp2_with fail
    go_ret
    exact⟨_,rfl,fun _=>⟨HS.out,HOK.out⟩,B⟩
end Go.Proofs.YtpldecfgjpmmkaaGreatDoor
end
section
/- An entry and rows among the arguments: the bound of the alternates' length. -/
namespace Go.Proofs.YtpldecfgjpmmkaaGreatDoor
open Go.ChangeShapes Go.WideShapes Go.RowKit
set_option maxRecDepth 100000
theorem en_alN {H:Type} {enc:TypeId × Value→H} {W:World} {e:En} {a1 a2:Option Addr} {n1 c1 n2 c2:Nat} {d:DataW H} {p:List MemPlace} (h:DataW.Trod enc Tryz.prog W 0 (fun _=>true) true 28 (.agg (e.vals (.slice a1 n1 c1) (.slice a2 n2 c2))) d p):n1≤9223372036854775807:=by
 obtain⟨fuel,hf⟩:=h
 unfold En.vals at hf
 obtain⟨xs,n,-,-,-,hxs,hfs⟩:=DataW.trod_struct Tryz.underlying28 hf
 have hx1:xs[3]?=some (xs[3]'(by rw[hxs];decide)):=List.getElem?_eq_getElem _
 have s2:=(hfs 3 _ rfl).trans hx1
 rcases open_ints Tryz.underlying25 Tryz.underlying3 (by kernel_rfl) s2 with ⟨h1,-⟩ | ⟨a,len,cap,zs,h1,-,hl,hm,-⟩
 · have:=List.head_eq_of_cons_eq h1
   injection this with e1 e2 e3
   omega
 · have:=List.head_eq_of_cons_eq h1
   injection this with e1 e2 e3
   unfold maxLen at hm
   omega
end Go.Proofs.YtpldecfgjpmmkaaGreatDoor
end
section
/- The walk of CatalogAdds: Add and Replace return the changes of the reference. -/
namespace Go.Proofs.YtpldecfgjpmmkaaGreatDoor
open Go.RowKit
set_option maxHeartbeats 16000000
set_option maxRecDepth 8000
set_option linter.unusedSimpArgs false
theorem ext33 (c:Array Value) (h:c.size=33):c.extract (0+0*33) (0+0*33+33)=c:=by
 show c.extract 0 33=c
 rw[← h];simp
theorem renc_z (x:Fu) (al gr:Value) (w:World) (hok:okX x=true) (hsz:x.1.name.size≤60) (h1:IS w al x.2.1) (h2:GS w gr x.2.2) :
  Calls Tryz.prog 82 #[.agg (x.1.vals al gr)] w fun r w'=>r=.returned (.tuple #[.string (recZ x),.int .i64 0])∧Below w.heap.size w w':=by
 refine (renc_any x al gr w hsz h1 h2).mono ?_
 rintro r w' ⟨t,rfl,ht,hb⟩
 obtain rfl:t=recZ x:=Ds.bl_inj (by rw[ht];unfold recZ;rw[Ds.bl_mk])
 rw[if_pos hok]
 exact⟨rfl,hb⟩
theorem is_own_l {w:World} {al:Value} {l:List Int} (h:IS w al l) (h0:0<l.length) (q:Nat) (hq:al.ownBlock=some q):q<w.heap.size:=by
 obtain⟨a,c,rfl,-,hc⟩:=h
 obtain⟨b,o,rfl,hb,-⟩:=hc h0
 cases hq;exact hb
theorem gs_own_l {w:World} {al:Value} {l:List Gr} (h:GS w al l) (h0:0<l.length) (q:Nat) (hq:al.ownBlock=some q):q<w.heap.size:=by
 obtain⟨a,c,rfl,-,hc⟩:=h
 obtain⟨b,o,rfl,hb,-⟩:=hc h0
 cases hq;exact hb
theorem ca_yes_add (sv:Value) (D:List Rw) (id:Int) (x:Fu) (al gr:Value) (w:World) (hm:MaxL w) (hT:Tab w) (hsz:x.1.name.size≤60) (hI:IS w al x.2.1) (hG:GS w gr x.2.2) (hr:RwS w sv D) (ho:∀ b,sv.ownBlock=some b→b<w.heap.size) :
  Calls Tryz.prog 10 #[.iface 38 (.pointer (some ⟨w.heap.size,0,none⟩)),.int .i64 id,.agg (x.1.vals al gr)] (w.alloc (.cells #[sv,.int .i64 0,.int .i64 0,.int .i64 0] 62)) fun r w'=>∃ ov,r=.returned (.tuple #[ov,.int .i64 (addR D id x).2])∧ChS w' ov (addR D id x).1∧RwS w' sv D∧Below w.heap.size w w':=by
 have hb:=below_al' w (.cells #[sv,.int .i64 0,.int .i64 0,.int .i64 0] 62)
 refine (ca_add w.heap.size sv D 0 0 0 id x al gr w _ hm hT (shelf_newC sv D w hr ho) (Int.le_refl _) (by decide) (.inr (Int.le_refl _)) (by omega) (hI.below hb) (hG.below hb) (fun h0 q hq=>by have:=is_own_l hI h0 q hq;omega) (fun h0 q hq=>by have:=gs_own_l hG h0 q hq;omega)).mono ?_
 rintro _ w' ⟨ov,rfl,hc,hs,-⟩
 rw[addF_no D 0 0 0 id x (Int.le_refl _) (Int.le_refl _)] at hc ⊢
 exact⟨ov,rfl,hc,hs.r,hs.b⟩
theorem ca_yes_rep (sv:Value) (D:List Rw) (id:Int) (x:Fu) (al gr:Value) (w:World) (hm:MaxL w) (hT:Tab w) (hsz:x.1.name.size≤60) (hI:IS w al x.2.1) (hG:GS w gr x.2.2) (hr:RwS w sv D) (ho:∀ b,sv.ownBlock=some b→b<w.heap.size) :
  Calls Tryz.prog 13 #[.iface 38 (.pointer (some ⟨w.heap.size,0,none⟩)),.int .i64 id,.agg (x.1.vals al gr)] (w.alloc (.cells #[sv,.int .i64 0,.int .i64 0,.int .i64 0] 62)) fun r w'=>∃ ov,r=.returned (.tuple #[ov,.int .i64 (repR D id x).2])∧ChS w' ov (repR D id x).1∧RwS w' sv D∧Below w.heap.size w w':=by
 have hb:=below_al' w (.cells #[sv,.int .i64 0,.int .i64 0,.int .i64 0] 62)
 refine (ca_replace w.heap.size sv D 0 0 0 id x al gr w _ hm hT (shelf_newC sv D w hr ho) (Int.le_refl _) (by decide) (.inr (Int.le_refl _)) (by omega) (hI.below hb) (hG.below hb) (fun h0 q hq=>by have:=is_own_l hI h0 q hq;omega) (fun h0 q hq=>by have:=gs_own_l hG h0 q hq;omega)).mono ?_
 rintro _ w' ⟨ov,rfl,hc,hs,-⟩
 rw[repF_no D 0 0 0 id x (Int.le_refl _) (Int.le_refl _)] at hc ⊢
 exact⟨ov,rfl,hc,hs.r,hs.b⟩
theorem ca_ref_add (sv:Value) (D:List Rw) (id:Int) (x:Fu) (al gr:Value) (w:World) (hsz:x.1.name.size≤60) (hI:IS w al x.2.1) (hG:GS w gr x.2.2) (hr:RwS w sv D) :
  Calls Tryz.prog 12 #[sv,.int .i64 id,.agg (x.1.vals al gr)] w fun r w'=>Ch2 w w' (addR D id x) r :=
 r35_add sv D id x al gr w hr hsz (vals_one _ _ _ (is_one hI) (gs_one hG)) (fun W b=>rva_any x al gr W hsz (hI.below b) (hG.below b)) (fun hok W b=>renc_z x al gr W hok hsz (hI.below b) (hG.below b))
theorem ca_ref_rep (sv:Value) (D:List Rw) (id:Int) (x:Fu) (al gr:Value) (w:World) (hsz:x.1.name.size≤60) (hI:IS w al x.2.1) (hG:GS w gr x.2.2) (hr:RwS w sv D) :
  Calls Tryz.prog 14 #[sv,.int .i64 id,.agg (x.1.vals al gr)] w fun r w'=>Ch2 w w' (repR D id x) r :=
 r35_replace sv D id x al gr w hr (vals_one _ _ _ (is_one hI) (gs_one hG)) (fun W b=>rva_any x al gr W hsz (hI.below b) (hG.below b)) (fun hok W b=>renc_z x al gr W hok hsz (hI.below b) (hG.below b))
attribute [local go_sem ↓] ldEnt stEnt stEntRow bldEnt
attribute [local go_sem] Held_drew isHead_mk headOf_mk offOf_mk isPtr_mk cellsOfV_mk isAggV_mk row_new row_new2 row_new2' row_drew row_drewN vals_size allOne_nil allOne_cons one_int one_bool one_string one_pointer one_slice one_func
theorem law_adds_yes (a0:Option Addr) (n0 c0:Nat) (L:List Rw) (id:Int) (x:Fu) (al gr:Value) (w:World) (hm:MaxL w) (hT:Tab w) (hS:RwS w (.slice a0 n0 c0) L) (hL:L.length≤16) (hsz:x.1.name.size≤60) (hI:IS w al x.2.1) (hG:GS w gr x.2.2)
  (hF:∀ W,Below w.heap.size w W→Calls Tryz.prog 7 #[.slice a0 n0 c0,.int .i64 16] W fun r w'=>∃ b:Bool,r=.returned (.bool b)∧w'=W)
  (hW:∀ W,Below w.heap.size w W→Calls Tryz.prog 8 #[.slice (some ⟨W.heap.size,0,none⟩) 1 1,.int .i64 1] (W.alloc (.cells (x.1.vals al gr) 28)) fun r w'=>∃ b:Bool,r=.returned (.bool b)∧Below W.heap.size W w') :
  Calls Tryz.prog 3 #[.slice a0 n0 c0,.int .i64 id,.agg (x.1.vals al gr)] w fun r w'=>r=.returned (.bool true)∧Below w.heap.size w w':=by
 have hone:=vals_one x.1 al gr (is_one hI) (gs_one hG)
 have HAW:=Lib.hid (fun W (b:Below w.heap.size w W)=>aw35 W (hm.below b) (hT.below b))
 have HF:=Lib.hid hF
 have HW:=Lib.hid hW
 have hdl:=dst_len L L.length
 have HDI:=Lib.hid (fun W (b:Below w.heap.size w W)=>rdist (.slice a0 n0 c0) L W (by omega) (hS.below b))
 generalize dst L L.length=D at hdl HDI
 have ha:=fun sv W (b:Below w.heap.size w W)=>ca_yes_add sv D id x al gr W (hm.below b) (hT.below b) hsz (hI.below b) (hG.below b)
 have hr:=fun sv W (b:Below w.heap.size w W)=>ca_yes_rep sv D id x al gr W (hm.below b) (hT.below b) hsz (hI.below b) (hG.below b)
 have hra:=fun sv W (b:Below w.heap.size w W)=>ca_ref_add sv D id x al gr W hsz (hI.below b) (hG.below b)
 have hrr:=fun sv W (b:Below w.heap.size w W)=>ca_ref_rep sv D id x al gr W hsz (hI.below b) (hG.below b)
 generalize addR D id x=ga at ha hra
 generalize repR D id x=gr' at hr hrr
 obtain⟨ca,ea⟩:=ga
 obtain⟨cr,er⟩:=gr'
 dsimp only at ha hr
 have l1:(ea==ea)=true:=by simp
 have l2:(er==er)=true:=by simp
 have HA:=Lib.hid ha
 have HR:=Lib.hid hr
 have HRA:=Lib.hid hra
 have HRR:=Lib.hid hrr
 have HB0:=Lib.hid (below_al' w (.cells (x.1.vals al gr) 28))
 have R0:=row_new w (x.1.vals al gr) 28 (0,0)
 clear ha hr hra hrr hF hW hS hm hT hI hG hsz hdl
 go_enter Tryz.func3,Tryz.ntmps3
 go_upto_region 6 with (first
  | (go_at_call 6;(with_reducible refine (HAW.out _ HB0.out).mono ?_);rintro _ w1 ⟨rfl,hb⟩;have R:=row_below hb R0 (by rw[vals_size];decide);have B:=Lib.hid (bt HB0.out hb);clear hb)
  | (go_at_call 7;(refine (HF.out _ B.out).mono ?_);rintro _ w2 ⟨bb,rfl,rfl⟩;cases bb)
  | (go_at_call 8;(refine (HW.out _ B.out).mono ?_);rintro _ w3 ⟨bb,rfl,hb⟩;have R:=row_below hb R (by rw[vals_size];decide);have B:=Lib.hid (bt B.out hb);clear hb;cases bb)
  | (go_at_call 9;(refine (HDI.out _ B.out).mono ?_);rintro _ w4 ⟨v3,rfl,hD,hDo,hb⟩;obtain⟨va,vc,rfl,-⟩:=_root_.id hD;have R:=row_below hb R (by rw[vals_size];decide);have B:=Lib.hid (bt B.out hb);have SD:=Lib.hid hD;have HDO:=Lib.hid (fun q hq=>(hDo q hq).2);clear hD hDo hb))
 · go_ret
   exact⟨rfl,B.out⟩
 · go_ret
   exact⟨rfl,B.out⟩
 refine wp_region_held_drew (S:=fun w'=>row w' w.heap.size=x.1.vals al gr) (by kernel_rfl) R (fun hHeld=>?_)
 (refine rg_y (i:=0) (some 29) (v:=?_) rfl rfl (by kernel_rfl) (by kernel_rfl) (by kernel_rfl) (fun _ _ _ h=>h) (by kernel_rfl) ?_ (by assumption) ?_;rotate_left 1;focus (intro w hSw;(try dsimp only at hSw);(first | (go_simp;done) | (go_simp;with_reducible rfl)));(try simp only[Act.put,List.setIfInBounds_toArray,List.set_cons_zero,List.set_cons_succ]))
 (refine rg_y (i:=3) (some 32) (v:=?_) rfl rfl (by kernel_rfl) (by kernel_rfl) (by kernel_rfl) (fun _ _ _ h=>h) (by kernel_rfl) ?_ (by assumption) ?_;rotate_left 1;focus (intro w hSw;(try dsimp only at hSw);(first | (go_simp;done) | (go_simp;with_reducible rfl)));(try simp only[Act.put,List.setIfInBounds_toArray,List.set_cons_zero,List.set_cons_succ]))
 (refine rg_y (i:=4) (some 33) (v:=.agg (x.1.vals al gr)) rfl rfl (by kernel_rfl) (by kernel_rfl) (by kernel_rfl) (fun _ _ _ h=>h) (by kernel_rfl) (fun wS hSw=>?_) (by assumption) ?_;focus (exact (ldEnt _ wS _ _ _ _ _ _ rfl (by show (row wS (w.heap.size)).size=33;rw[hSw];exact vals_size _ _ _)).trans (by show Result.ok (Next.value (.agg (row wS (w.heap.size)))) wS=_;rw[hSw]));(try simp only[Act.put,List.setIfInBounds_toArray,List.set_cons_zero,List.set_cons_succ]))
 (refine wpAnyH_ready (rs:=[1]) (by kernel_rfl) (by simp) ?_;refine AllReadyH.cons (o:=_) rfl (fun K hK=>?_) AllReadyH.nil)
 go_simp
 go_at_call 11
 refine (sh35 _ _ _ _).mono ?_
 rintro _ _ ⟨rfl,rfl⟩
 refine hK.out _ _ (row_below (below_al' w4.drew _) R (by rw[vals_size];decide)) (fun hHeld=>?_)
 (clear hK K;(try simp only[Act.put,List.setIfInBounds_toArray,List.set_cons_zero,List.set_cons_succ]))
 (refine rg_y (i:=2) (some 31) (v:=?_) rfl rfl (by kernel_rfl) (by kernel_rfl) (by kernel_rfl) (fun _ _ _ h=>h) (by kernel_rfl) ?_ (by assumption) ?_;rotate_left 1;focus (intro w hSw;(try dsimp only at hSw);(first | (go_simp;done) | (go_simp;with_reducible rfl)));(try simp only[Act.put,List.setIfInBounds_toArray,List.set_cons_zero,List.set_cons_succ]))
 (refine wpAnyH_ready (rs:=[5]) (by kernel_rfl) (by simp) ?_;refine AllReadyH.cons (o:=_) rfl (fun K hK=>?_) AllReadyH.nil)
 go_simp
 go_at_call 10
 refine (HA.out _ w4.drew B.out.drew (SD.out.below (Below.refl _ _).drew) HDO.out).mono ?_
 rintro _ w5 ⟨ov,rfl,hc,hr5,hb⟩
 have hb5:Below w4.heap.size w4 w5:=(Below.refl w4.heap.size w4).drew.trans hb
 have R5:=row_below hb5 R (by rw[vals_size];decide)
 refine hK.out _ _ R5 (fun hHeld=>?_)
 (clear hK K;(try simp only[Act.put,List.setIfInBounds_toArray,List.set_cons_zero,List.set_cons_succ]))
 (refine rg_y (i:=6) (some 28) (v:=?_) rfl rfl (by kernel_rfl) (by kernel_rfl) (by kernel_rfl) (fun _ _ _ h=>h) (by kernel_rfl) ?_ (by assumption) ?_;rotate_left 1;focus (intro w hSw;(try dsimp only at hSw);(first | (go_simp;done) | (go_simp;with_reducible rfl)));(try simp only[Act.put,List.setIfInBounds_toArray,List.set_cons_zero,List.set_cons_succ]))
 (refine rg_y (i:=7) (some 35) (v:=?_) rfl rfl (by kernel_rfl) (by kernel_rfl) (by kernel_rfl) (fun _ _ _ h=>h) (by kernel_rfl) ?_ (by assumption) ?_;rotate_left 1;focus (intro w hSw;(try dsimp only at hSw);(first | (go_simp;done) | (go_simp;with_reducible rfl)));(try simp only[Act.put,List.setIfInBounds_toArray,List.set_cons_zero,List.set_cons_succ]))
 (refine rg_y (i:=8) (some 36) (v:=?_) rfl rfl (by kernel_rfl) (by kernel_rfl) (by kernel_rfl) (fun _ _ _ h=>h) (by kernel_rfl) ?_ (by assumption) ?_;rotate_left 1;focus (intro w hSw;(try dsimp only at hSw);(first | (go_simp;done) | (go_simp;with_reducible rfl)));(try simp only[Act.put,List.setIfInBounds_toArray,List.set_cons_zero,List.set_cons_succ]))
 (refine rg_y (i:=9) (some 7) (v:=?_) rfl rfl (by kernel_rfl) (by kernel_rfl) (by kernel_rfl) (fun _ _ _ h=>h) (by kernel_rfl) ?_ (by assumption) ?_;rotate_left 1;focus (intro w hSw;(try dsimp only at hSw);(first | (go_simp;done) | (go_simp;with_reducible rfl)));(try simp only[Act.put,List.setIfInBounds_toArray,List.set_cons_zero,List.set_cons_succ]))
 (refine rg_y (i:=10) (some 8) (v:=?_) rfl rfl (by kernel_rfl) (by kernel_rfl) (by kernel_rfl) (fun _ _ _ h=>h) (by kernel_rfl) ?_ (by assumption) ?_;rotate_left 1;focus (intro w hSw;(try dsimp only at hSw);(first | (go_simp;done) | (go_simp;with_reducible rfl)));(try simp only[Act.put,List.setIfInBounds_toArray,List.set_cons_zero,List.set_cons_succ]))
 refine wpAnyH_done (by kernel_rfl) ?_ _
 have B5:=Lib.hid (bt B.out hb5)
 have SD5:=Lib.hid hr5
 have HDO5:=Lib.hid (fun q hq=>Nat.lt_of_lt_of_le (HDO.out q hq) hb5.size)
 have C5:=Lib.hid hc
 clear hb hr5 hc hHeld hb5 R SD HDO B
 go_upto_region 8 with (go_at_call 12;(refine (HRA.out _ _ B5.out SD5.out).mono ?_);rintro _ w6 ⟨ov2,rfl,hc6,hb6⟩;have R6:=row_below hb6 R5 (by rw[vals_size];decide);have B6:=Lib.hid (bt B5.out hb6);have SD6:=Lib.hid (SD5.out.below hb6);have HDO6:=Lib.hid (fun q hq=>Nat.lt_of_lt_of_le (HDO5.out q hq) hb6.size);have C5':=Lib.hid (C5.out.below hb6);have C6:=Lib.hid hc6;clear hc6 hb6)
 refine wp_region_held_drew (S:=fun w'=>row w' w.heap.size=x.1.vals al gr) (by kernel_rfl) R6 (fun hHeld=>?_)
 (refine rg_y (i:=0) (some 45) (v:=?_) rfl rfl (by kernel_rfl) (by kernel_rfl) (by kernel_rfl) (fun _ _ _ h=>h) (by kernel_rfl) ?_ (by assumption) ?_;rotate_left 1;focus (intro w hSw;(try dsimp only at hSw);(first | (go_simp;done) | (go_simp;with_reducible rfl)));(try simp only[Act.put,List.setIfInBounds_toArray,List.set_cons_zero,List.set_cons_succ]))
 (refine rg_y (i:=3) (some 48) (v:=?_) rfl rfl (by kernel_rfl) (by kernel_rfl) (by kernel_rfl) (fun _ _ _ h=>h) (by kernel_rfl) ?_ (by assumption) ?_;rotate_left 1;focus (intro w hSw;(try dsimp only at hSw);(first | (go_simp;done) | (go_simp;with_reducible rfl)));(try simp only[Act.put,List.setIfInBounds_toArray,List.set_cons_zero,List.set_cons_succ]))
 (refine rg_y (i:=4) (some 49) (v:=.agg (x.1.vals al gr)) rfl rfl (by kernel_rfl) (by kernel_rfl) (by kernel_rfl) (fun _ _ _ h=>h) (by kernel_rfl) (fun wS hSw=>?_) (by assumption) ?_;focus (exact (ldEnt _ wS _ _ _ _ _ _ rfl (by show (row wS (w.heap.size)).size=33;rw[hSw];exact vals_size _ _ _)).trans (by show Result.ok (Next.value (.agg (row wS (w.heap.size)))) wS=_;rw[hSw]));(try simp only[Act.put,List.setIfInBounds_toArray,List.set_cons_zero,List.set_cons_succ]))
 (refine wpAnyH_ready (rs:=[1]) (by kernel_rfl) (by simp) ?_;refine AllReadyH.cons (o:=_) rfl (fun K hK=>?_) AllReadyH.nil)
 go_simp
 go_at_call 11
 refine (sh35 _ _ _ _).mono ?_
 rintro _ _ ⟨rfl,rfl⟩
 refine hK.out _ _ (row_below (below_al' w6.drew _) R6 (by rw[vals_size];decide)) (fun hHeld=>?_)
 (clear hK K;(try simp only[Act.put,List.setIfInBounds_toArray,List.set_cons_zero,List.set_cons_succ]))
 (refine rg_y (i:=2) (some 47) (v:=?_) rfl rfl (by kernel_rfl) (by kernel_rfl) (by kernel_rfl) (fun _ _ _ h=>h) (by kernel_rfl) ?_ (by assumption) ?_;rotate_left 1;focus (intro w hSw;(try dsimp only at hSw);(first | (go_simp;done) | (go_simp;with_reducible rfl)));(try simp only[Act.put,List.setIfInBounds_toArray,List.set_cons_zero,List.set_cons_succ]))
 (refine wpAnyH_ready (rs:=[5]) (by kernel_rfl) (by simp) ?_;refine AllReadyH.cons (o:=_) rfl (fun K hK=>?_) AllReadyH.nil)
 go_simp
 go_at_call 13
 refine (HR.out _ w6.drew B6.out.drew (SD6.out.below (Below.refl _ _).drew) HDO6.out).mono ?_
 rintro _ w7 ⟨ov3,rfl,hc,hr7,hb⟩
 have hb7:Below w6.heap.size w6 w7:=(Below.refl w6.heap.size w6).drew.trans hb
 have R7:=row_below hb7 R6 (by rw[vals_size];decide)
 refine hK.out _ _ R7 (fun hHeld=>?_)
 (clear hK K;(try simp only[Act.put,List.setIfInBounds_toArray,List.set_cons_zero,List.set_cons_succ]))
 (refine rg_y (i:=6) (some 44) (v:=?_) rfl rfl (by kernel_rfl) (by kernel_rfl) (by kernel_rfl) (fun _ _ _ h=>h) (by kernel_rfl) ?_ (by assumption) ?_;rotate_left 1;focus (intro w hSw;(try dsimp only at hSw);(first | (go_simp;done) | (go_simp;with_reducible rfl)));(try simp only[Act.put,List.setIfInBounds_toArray,List.set_cons_zero,List.set_cons_succ]))
 (refine rg_y (i:=7) (some 51) (v:=?_) rfl rfl (by kernel_rfl) (by kernel_rfl) (by kernel_rfl) (fun _ _ _ h=>h) (by kernel_rfl) ?_ (by assumption) ?_;rotate_left 1;focus (intro w hSw;(try dsimp only at hSw);(first | (go_simp;done) | (go_simp;with_reducible rfl)));(try simp only[Act.put,List.setIfInBounds_toArray,List.set_cons_zero,List.set_cons_succ]))
 (refine rg_y (i:=8) (some 52) (v:=?_) rfl rfl (by kernel_rfl) (by kernel_rfl) (by kernel_rfl) (fun _ _ _ h=>h) (by kernel_rfl) ?_ (by assumption) ?_;rotate_left 1;focus (intro w hSw;(try dsimp only at hSw);(first | (go_simp;done) | (go_simp;with_reducible rfl)));(try simp only[Act.put,List.setIfInBounds_toArray,List.set_cons_zero,List.set_cons_succ]))
 (refine rg_y (i:=9) (some 11) (v:=?_) rfl rfl (by kernel_rfl) (by kernel_rfl) (by kernel_rfl) (fun _ _ _ h=>h) (by kernel_rfl) ?_ (by assumption) ?_;rotate_left 1;focus (intro w hSw;(try dsimp only at hSw);(first | (go_simp;done) | (go_simp;with_reducible rfl)));(try simp only[Act.put,List.setIfInBounds_toArray,List.set_cons_zero,List.set_cons_succ]))
 (refine rg_y (i:=10) (some 12) (v:=?_) rfl rfl (by kernel_rfl) (by kernel_rfl) (by kernel_rfl) (fun _ _ _ h=>h) (by kernel_rfl) ?_ (by assumption) ?_;rotate_left 1;focus (intro w hSw;(try dsimp only at hSw);(first | (go_simp;done) | (go_simp;with_reducible rfl)));(try simp only[Act.put,List.setIfInBounds_toArray,List.set_cons_zero,List.set_cons_succ]))
 refine wpAnyH_done (by kernel_rfl) ?_ _
 have B7:=Lib.hid (bt B6.out hb7)
 have SD7:=Lib.hid hr7
 have C57:=Lib.hid (C5'.out.below hb7)
 have C67:=Lib.hid (C6.out.below hb7)
 have C7:=Lib.hid hc
 clear hb hr7 hc hHeld hb7 R6 SD6 HDO6 B6
 go_wp2_with (first
  | (go_at_call 14;(refine (HRR.out _ _ B7.out SD7.out).mono ?_);rintro _ w8 ⟨ov4,rfl,hc8,hb8⟩;have B8:=Lib.hid (bt B7.out hb8);have C58:=Lib.hid (C57.out.below hb8);have C68:=Lib.hid (C67.out.below hb8);have C78:=Lib.hid (C7.out.below hb8);have C8:=Lib.hid hc8;clear hc8 hb8)
  | (go_at_call 15;(refine (rchanges _ _ ca _ C58.out C68.out).mono ?_);rintro _ w9 ⟨rfl,hb9⟩;have B9:=Lib.hid (bt B8.out hb9);have C79:=Lib.hid (C78.out.below hb9);have C89:=Lib.hid (C8.out.below hb9);clear hb9 C58)
  | (go_at_call 15;(refine (rchanges _ _ cr _ C79.out C89.out).mono ?_);rintro _ w10 ⟨rfl,hb10⟩;have B10:=Lib.hid (bt B9.out hb10);clear hb10))
 go_ret
 exact⟨rfl,B10.out⟩
theorem law_adds_no (a0:Option Addr) (n0 c0:Nat) (F:Nat→Rw) (id:Int) (e:En) (al gr:Value) (A:Prop) (w:World) (hm:MaxL w) (hT:Tab w) (hL:RwL w a0 n0 F) (_hone:allOne (e.vals al gr).toList=true) (h:¬ (n0≤16∧A))
  (hW:∀ W,Below w.heap.size w W→Calls Tryz.prog 8 #[.slice (some ⟨W.heap.size,0,none⟩) 1 1,.int .i64 1] (W.alloc (.cells (e.vals al gr) 28)) fun r w'=>Below W.heap.size W w'∧(r=.returned (.bool false)∨r=.returned (.bool true)∧Hid A)) :
  Calls Tryz.prog 3 #[.slice a0 n0 c0,.int .i64 id,.agg (e.vals al gr)] w fun r w'=>r=.returned (.bool true)∧Below w.heap.size w w':=by
 have HAW:=Lib.hid (fun W (b:Below w.heap.size w W)=>aw35 W (hm.below b) (hT.below b))
 have HF:=Lib.hid (fun W (b:Below w.heap.size w W)=>rfew34 a0 n0 c0 F 16 W (hL.below b))
 have HW:=Lib.hid hW
 have HN:=Lib.hid (fun (a:n0≤16) (b:A)=>h ⟨a,b⟩)
 have HB0:=Lib.hid (below_al' w (.cells (e.vals al gr) 28))
 have R0:=row_new w (e.vals al gr) 28 (0,0)
 clear h hW hm hT
 go_enter Tryz.func3,Tryz.ntmps3
 go_wp2_with (first
  | (go_at_call 6;(with_reducible refine (HAW.out _ HB0.out).mono ?_);rintro _ w1 ⟨rfl,hb⟩;have R:=row_below hb R0 (by rw[vals_size];decide);have B:=Lib.hid (bt HB0.out hb);clear hb)
  | (go_at_call 7;(refine (HF.out _ B.out).mono ?_);rintro _ w2 ⟨bb,rfl,hf,rfl⟩;have HF2:=Lib.hid hf;clear hf;cases bb)
  | (go_at_call 8;(refine (HW.out _ B.out).mono ?_);rintro _ w3 ⟨hb,hh⟩;have B:=Lib.hid (bt B.out hb);clear hb;rcases hh with rfl | ⟨rfl,hA⟩;rotate_left 1;exact absurd hA.out (HN.out (by have:=(HF2.out (by first | rfl | trivial)).1;omega))))
 all_goals
  go_ret
  exact⟨rfl,B.out⟩
theorem law_adds (a0:Option Addr) (n0 c0:Nat) (F:Nat→Rw) (id:Int) (e:En) (a1 a2:Option Addr) (n1 c1 n2 c2:Nat) (w:World) (hm:MaxL w) (hT:Tab w) (hL:RwL w a0 n0 F) (o1:n1≤1000→∃ l:List Int,l.length=n1∧IS w (.slice a1 n1 c1) l) (o2:n2≤1000→∃ l:List Gr,l.length=n2∧GS w (.slice a2 n2 c2) l) (u1:n1≤9223372036854775807) (u2:n2≤9223372036854775807) :
  Calls Tryz.prog 3 #[.slice a0 n0 c0,.int .i64 id,.agg (e.vals (.slice a1 n1 c1) (.slice a2 n2 c2))] w fun r w'=>r=.returned (.bool true)∧Below w.heap.size w w':=by
 have hgs:∃ gs:List Gr,n2≤1000→gs.length=n2∧GS w (.slice a2 n2 c2) gs:=by
  by_cases h:n2≤1000
  · obtain⟨g,h1,h2⟩:=o2 h;exact⟨g,fun _=>⟨h1,h2⟩⟩
  · exact⟨[],fun k=>absurd k h⟩
 obtain⟨gs,hgs⟩:=hgs
 have hfew:∀ W,Below w.heap.size w W→Calls Tryz.prog 8 #[.slice (some ⟨W.heap.size,0,none⟩) 1 1,.int .i64 1] (W.alloc (.cells (e.vals (.slice a1 n1 c1) (.slice a2 n2 c2)) 28)) fun r w'=>Below W.heap.size W w'∧(r=.returned (.bool false)∨r=.returned (.bool true)∧Hid (e.name.size≤60∧n1≤1000∧n2≤1000)):=fun W b=>by
  have hb:=below_al' W (.cells (e.vals (.slice a1 n1 c1) (.slice a2 n2 c2)) 28)
  have hes:ES (W.alloc (.cells (e.vals (.slice a1 n1 c1) (.slice a2 n2 c2)) 28)) (some ⟨W.heap.size,0,none⟩) 1 (fun _=>⟨e,n1,n2,gs⟩):=by
   refine⟨by omega,fun k hk=>⟨W.heap.size,0,rfl,by simp,a1,c1,a2,c2,?_,u1,u2,fun h=>⟨(hgs h).1,((hgs h).2.below b).below hb⟩⟩⟩
   obtain rfl:k=0:=by omega
   unfold mid
   rw[row_new]
   exact ext33 _ (vals_size _ _ _)
  refine (few35 _ 1 1 _ 1 _ hes).mono ?_
  rintro r w' ⟨bb,rfl,hf,hb2⟩
  refine⟨bt hb hb2,?_⟩
  cases bb
  · exact .inl rfl
  · have:=(hf rfl).2 0 (by omega)
    exact .inr ⟨rfl,Lib.hid ⟨this.1,by have:=this.2.2.2;show n1≤1000;change n1≤8 at this;omega,by have:=this.2.2.1;change n2≤12 at this;omega⟩⟩
 by_cases h:n0≤16∧(e.name.size≤60∧n1≤1000∧n2≤1000)
 · obtain⟨h0,h1,h2,h3⟩:=h
   obtain⟨l1,-,i1⟩:=o1 h2
   obtain⟨l2,-,i2⟩:=o2 h3
   refine law_adds_yes a0 n0 c0 (rlst F n0) id (e,l1,l2) _ _ w hm hT (hL.rws c0 (by omega)) (by rw[rlst_len];exact h0) h1 i1 i2 (fun W b=>?_) (fun W b=>?_)
   · refine (rfew34 a0 n0 c0 F 16 W (hL.below b)).mono ?_
     rintro r w' ⟨bb,rfl,-,rfl⟩
     exact⟨bb,rfl,rfl⟩
   · refine (hfew W b).mono ?_
     rintro r w' ⟨hb,rfl | ⟨rfl,-⟩⟩
     · exact⟨false,rfl,hb⟩
     · exact⟨true,rfl,hb⟩
 · exact law_adds_no a0 n0 c0 F id e _ _ (e.name.size≤60∧n1≤1000∧n2≤1000) w hm hT hL (vals_one e _ _ rfl rfl) h hfew
end Go.Proofs.YtpldecfgjpmmkaaGreatDoor
end
section
/- The statement CatalogAdds: the walk, the frame of the row, the card. Conditions: none beyond the statement. -/
namespace Go.Proofs.YtpldecfgjpmmkaaGreatDoor.catalogAdds
open Go.ChangeShapes Go.WideShapes Go.ChangeAt Go.RowKit Go.Proofs.YtpldecfgjpmmkaaGreatDoor
open Go.ChangeMaps (open_string)
set_option maxRecDepth 100000 in
theorem contract (H:Type) (enc:TypeId × Value→H) (W:World) (base:Nat) (args:Array Value) (ds gs:List (DataW H)) (before:List MemPlace)
  (hval:∀ (j:Nat) t v,Tryz.f3.params[j]?=some t→args[j]?=some v→Value.okWide Tryz.prog W .any base t v)
  (hW:DataW.Whole enc Tryz.prog Tryz.f3.params.toList Rows.catalogAddsSpec.vars false W args.toList ds gs before) (hL:laidMetH Tryz.prog Rows.catalogAddsRow.laid W) (hS:W.ShapedOpen Tryz.prog) :
  Calls Tryz.prog 3 args W fun e W'=>∃ v,e=.returned v∧Rows.catalogAddsSpec.post enc Tryz.prog Tryz.f3 false true false false W args v W':=by
 have hW':=hW
 have hlt:∀ x∈before,x.block<W.heap.size:=fun x hx=>by simpa using hW'.lt x hx
 obtain⟨p,q,hA0,hV,rfl,hfz,hnd⟩:=hW
 have hA:DataW.TrodAll enc Tryz.prog W 0 (fun _=>true) true Tryz.f3.params.toList args.toList ds p:=hA0
 have hK:=hA
 rw[Tryz.params3] at hA hval
 obtain⟨v0,vs0,d0,ds0,p0,q0,hargs,rfl,rfl,h0,r0⟩:=trodAll_cons hA
 obtain⟨v1,vs1,d1,ds1,p1,q1,rfl,rfl,rfl,h1,r1⟩:=trodAll_cons r0
 obtain⟨v2,vs2,d2,ds2,p2,q2,rfl,rfl,rfl,h2,r2⟩:=trodAll_cons r1
 obtain⟨rfl,rfl,rfl⟩:=trodAll_nil r2
 obtain rfl:args=#[v0,v1,v2]:=by cases args;simp_all
 obtain⟨rfl,rfl⟩:=trodVars_none hV
 obtain⟨a0,n0,c0,F0,rfl,o0⟩:=open_rw (hval 0 22 v0 rfl rfl) h0
 obtain⟨n1,rfl⟩:=okWide_int Tryz.underlying3 (hval 1 3 v1 rfl rfl)
 obtain⟨e2,a2,n2,c2,x2,m2,k2,rfl,o2,u2⟩:=open_en (hval 2 28 v2 rfl rfl) h2
 rw[MakeChecks.laidMetH_plain _ _ _ (by kernel_rfl)] at hL
 refine (law_adds a0 n0 c0 F0 _ e2 a2 x2 n2 c2 m2 k2 W (max_of hS) (tab_of hL) o0 o2 u2 (en_alN h2) (en_grN h2).1).mono fun e W' ⟨he,hb⟩=>?_
 subst he
 exact⟨_,rfl,_,_,_,[],_,[],hW',trodAll_cons_mk (shut_bool Tryz.underlying4 _) trodAll_mk0,args_below hb (by rw[Tryz.params3];kernel_rfl) hK (fun x hx=>hlt x (by simpa using hx)),rfl,hb.frame _,fun h=>by cases h⟩
def zEnt:Value:=.agg #[.int .i64 0,.string ⟨#[]⟩,.int .i64 0,.int .i64 0,.int .i64 0,.int .i64 0,.int .i64 0,.int .i64 0,.int .i64 0,.int .i64 0,.int .i64 0,.int .i64 0,.int .i64 0,.int .i64 0,.int .i64 0,.int .i64 0,.bool false,.int .i64 0,.string ⟨#[]⟩,.string ⟨#[]⟩,.int .i64 0,.int .i64 0,.bool false,.slice none 0 0,.int .i64 0,.int .i64 0,.int .i64 0,.bool false,.string ⟨#[]⟩,.string ⟨#[]⟩,.int .i64 0,.int .i64 0,.slice none 0 0]
def dEnt {H:Type}:DataW H:=.agg [.lit (.int .i64 0),.lit (.string []),.agg [.lit (.int .i64 0),.lit (.int .i64 0),.lit (.int .i64 0),.lit (.int .i64 0),.lit (.int .i64 0),.lit (.int .i64 0),.lit (.int .i64 0),.lit (.int .i64 0),.lit (.int .i64 0),.lit (.int .i64 0),.lit (.int .i64 0),.lit (.int .i64 0),.lit (.int .i64 0),.lit (.int .i64 0),.lit (.bool false),.lit (.int .i64 0),.lit (.string []),.lit (.string []),.lit (.int .i64 0),.lit (.int .i64 0),.lit (.bool false)],.nil,.lit (.int .i64 0),.lit (.int .i64 0),.lit (.int .i64 0),.lit (.bool false),.lit (.string []),.lit (.string []),.lit (.int .i64 0),.lit (.int .i64 0),.nil]
theorem laid_met (os:Os):laidMetH Tryz.prog Rows.catalogAddsRow.laid ((World.laidAll Tryz.prog os Rows.catalogAddsRow.laid).forCall (fun _ _=>0) ⟨#[],#[(.slice none 0 0:Value),(.int .i64 0:Value),(zEnt:Value)],[]⟩).memory:=by
 rw[MakeChecks.laidMetH_plain _ _ _ (by kernel_rfl)];exact laidMet_laidAll _ (by kernel_rfl) (by kernel_rfl)
theorem reads (os:Os) {H:Type} (enc:TypeId × Value→H):∃ places,DataW.whole enc Tryz.prog ((World.laidAll Tryz.prog os Rows.catalogAddsRow.laid).forCall (fun _ _=>0) ⟨#[],#[(.slice none 0 0:Value),(.int .i64 0:Value),(zEnt:Value)],[]⟩).memory Tryz.f3.params.toList Rows.catalogAddsSpec.vars false #[(.slice none 0 0:Value),(.int .i64 0:Value),(zEnt:Value)].toList 8=some ([.nil,.lit (.int .i64 0),dEnt],[],places) :=
 ⟨[],by kernel_rfl⟩
set_option maxRecDepth 100000 in
theorem lifted (os:Os) (started:os.Started) (H:Type) (enc:TypeId × Value→H) (F:Stop.Interp) :
  ReturnsInHanded {} Tryz.checked os 3 .any ((OpenSpec.ofChange Rows.catalogAddsSpec).preRow enc Tryz.prog Tryz.f3 Rows.catalogAddsRow.domain false Rows.catalogAddsRow.laid) (((OpenSpec.ofChange Rows.catalogAddsSpec).at F).post enc Tryz.prog Tryz.f3 false true false false):=by
 obtain⟨places,hx⟩:=reads os enc
 refine returnsInHanded_of_row (C:=Tryz.checked) (s:=OpenSpec.ofChange Rows.catalogAddsSpec) ownk started (by kernel_rfl) Tryz.func3
  (witness_lay (enc:=enc) (C:=Tryz.checked) false #[(.slice none 0 0:Value),(.int .i64 0:Value),(zEnt:Value)] (World.shaped_of_ZipB (by kernel_rfl) (by kernel_rfl)) (by kernel_rfl)
    (OpenSpec.preRow_of_cond 8 hx (by kernel_rfl) (fun k hk=>by cases hk) (by kernel_rfl) (laid_met os))) ?_
 intro W base args ds gs before hval hW _ _ _ hL hS _
 exact contract H enc W base args ds gs before hval hW hL hS
theorem said:Rows.CatalogAddsSaid :=
 OpenClaim.holds_of_cond 3 Tryz.f3 rfl rfl rfl rfl rfl rfl rfl ⟨rfl,rfl,rfl,rfl,rfl⟩ rfl rfl rfl rfl rfl (by kernel_rfl) Tryz.func3 joined_catalogAdds
  (of_decide_eq_true (by kernel_rfl)) (by unfold Func.isWrapper;first | (rw[if_pos (by decide +kernel)];kernel_rfl) | (rw[if_neg (by decide +kernel)];exact⟨rfl,rfl⟩))
  (fun os started H enc _ F=>by rw[OpenClaim.pre_eq_preRow];exact lifted os started H enc F)
theorem plain (f:FuncId) (fn:Func) (hf:Tryz.pinned.checked.prog.funcNamed Rows.catalogAddsRow.func=some f) (hfn:Tryz.pinned.checked.prog.funcs[f]?=some fn) :
  false=Tryz.pinned.checked.prog.looks []∧∀ (j:Nat) t,fn.params[j]?=some t→Tryz.pinned.checked.prog.wantsStandIn t=false:=by
 obtain rfl:f=3:=Option.some.inj ((show Tryz.prog.funcNamed Rows.catalogAddsRow.func=some 3 by kernel_rfl).symm.trans hf) |>.symm
 obtain rfl:fn=Tryz.f3:=(Option.some.inj (Tryz.func3.symm.trans hfn)).symm
 refine⟨by kernel_rfl,fun j t ht=>?_⟩
 rw[Tryz.params3] at ht
 have hm:=Array.mem_of_getElem? ht
 have ha:(#[22,3,28]:Array TypeId).all (fun t=>!Tryz.prog.wantsStandIn t)=true:=by kernel_rfl
 have:=(Array.all_eq_true_iff_forall_mem.1 ha) t hm
 exact (show Tryz.prog.wantsStandIn t=false by simpa using this)
theorem card:Rows.CatalogAddsCardSaid :=
 Claim7.holds_tied_plain_at .later [] _ _ _ _ said (fun _ h=>by cases h) (by kernel_rfl) (fun _ h=>by cases h) catalogAdds_row_tie rfl ⟨rfl,rfl⟩ (by kernel_rfl) rfl plain (by kernel_rfl)
end Go.Proofs.YtpldecfgjpmmkaaGreatDoor.catalogAdds
end
