/- Several texts in one: FrameB FrameDs FrameGe FrameEn FrameEs FrameRw. -/
import Derived.Test.YtpldecfgjpmmkaaGreatDoorCards
import Derived.Test.YtpldecfgjpmmkaaGreatDoorTie
import Derived.ProofKit
import Derived.OpenShut
import Derived.Deep.DeepHandedRow
import Derived.Lib.LaidTab
import Derived.Stop.LaidErr
import Derived.Carry
import Derived.Lay
import Derived.Test.YtpldecfgjpmmkaaGreatDoorDsA
import Derived.Test.YtpldecfgjpmmkaaGreatDoorCalE
import Derived.Test.YtpldecfgjpmmkaaGreatDoorSaC
import Derived.Lib.SmallJoins
import Derived.ChangeSlices
import Derived.Test.YtpldecfgjpmmkaaGreatDoorEn
import Derived.Deep.Slices
import Derived.Deep.Strs
import Derived.Test.YtpldecfgjpmmkaaGreatDoorAcA
import Derived.Test.YtpldecfgjpmmkaaGreatDoorChA
import Derived.Test.YtpldecfgjpmmkaaGreatDoorSrt
section
/- What every law's frame needs, over whatever list of laid variables: arguments read the same below; the witness by the function that lays. -/
namespace Go.Proofs.YtpldecfgjpmmkaaGreatDoor
open Go.ChangeShapes Go.WideShapes Go.ChangeAt Go.RowKit
theorem ownk:ownKnob Tryz.prog.godebug=none:=by kernel_rfl
theorem laidOut:laidOutB Tryz.prog=true:=by kernel_rfl
theorem trodAll_below {H:Type} {enc:TypeId × Value→H} {W W':World} (hb:Below W.heap.size W W') (sp:Nat→Bool) :
  ∀ (ts:List TypeId) (vs:List Value) (ds:List (DataW H)) (ps:List MemPlace),(∀ t∈ts,Tryz.prog.readableRec t=true∧t<Tryz.prog.types.size)→DataW.TrodAll enc Tryz.prog W 0 (fun _=>true) true ts vs ds ps →
   (∀ p∈ps,p.block<W.heap.size)→(∀ p∈ps,sp p.block=true)→DataW.TrodAll enc Tryz.prog W' 0 sp true ts vs ds ps
 | [],vs,ds,ps,_,h,_,_=>by
   obtain⟨rfl,rfl,rfl⟩:=trodAll_nil h
   exact trodAll_mk0
 | t::ts,vs,ds,ps,ht,h,hlt,hsp=>by
   obtain⟨v,vs',d,ds',p,q,rfl,rfl,rfl,h0,h1⟩:=trodAll_cons h
   have k:=ht t (by simp)
   exact trodAll_cons_mk (WideElems.Trod_stays laidOut k.1 k.2 h0 (fun x hx=>hb.same (hlt x (by simp [hx]))) (fun x hx=>hsp x (by simp [hx])))
    (trodAll_below hb sp ts vs' ds' q (fun u hu=>ht u (by simp [hu])) h1 (fun x hx=>hlt x (by simp [hx])) (fun x hx=>hsp x (by simp [hx])))
theorem args_below {H:Type} {enc:TypeId × Value→H} {W W':World} (hb:Below W.heap.size W W') {ts:List TypeId} {vs:List Value} {ds:List (DataW H)} {ps:List MemPlace} (ht:(ts.all fun t=>Tryz.prog.readableRec t&&decide (t<Tryz.prog.types.size))=true)
  (h:DataW.TrodAll enc Tryz.prog W 0 (fun _=>true) true ts vs ds ps) (hlt:∀ p∈ps,p.block<W.heap.size):DataW.TrodAll enc Tryz.prog W' 0 (fun b=>decide (b<W.heap.size)) true ts vs ds ps :=
 trodAll_below hb _ ts vs ds ps (fun t hm=>by have:=List.all_eq_true.1 ht t hm;simpa using this) h hlt (fun p hp=>by simpa using hlt p hp)
theorem witness_lay {H:Type} {enc:TypeId × Value→H} {C:Checked} {os:Os} {f:FuncId} {fn:Func} {s:OpenSpec} {conds:List PathCond} {apart:Bool} {laid:List (String × DataW Unit)} (modest:Bool) (args:Array Value)
  (hsh:((World.laidAll C.prog os laid).forCall (fun _ _=>0) ⟨#[],args,[]⟩).Shaped C.prog)
  (hok:Input.okWideB C.prog ((World.laidAll C.prog os laid).forCall (fun _ _=>0) ⟨#[],args,[]⟩) f ⟨#[],args,[]⟩=true)
  (hrow:s.preRow enc C.prog fn conds apart laid ((World.laidAll C.prog os laid).forCall (fun _ _=>0) ⟨#[],args,[]⟩).memory args) :
  ∃ (w:World) (tape:Tape) (i:Input),w.os=os∧(w.forCall tape i).Shaped C.prog∧i.vars=[]∧Input.okWide C.prog (w.forCall tape i) .any w.heap.size f i ∧
   s.preRow enc C.prog fn conds apart laid (w.forCall tape i).memory i.args∧({ modest:=modest }:Assume).holds C.prog (lone (Frame.enter C.prog f i.args .normal) [] (w.forCall tape i)) :=
 ⟨World.laidAll C.prog os laid,fun _ _=>0,⟨#[],args,[]⟩,World.laidAll_os _ _ _,hsh,(Input.okWide_of_okWideB (base:=0) hok).1,(Input.okWide_of_okWideB hok).2,hrow,by
  simp only[Assume.holds]
  exact⟨by simp,by simp,fun _=>Modest.zero,by simp,by simp⟩⟩
end Go.Proofs.YtpldecfgjpmmkaaGreatDoor
end
section
/- What the laws of this seat read of the listed variables. -/
namespace Go.Proofs.YtpldecfgjpmmkaaGreatDoor
theorem gTabType:(Tryz.prog.globals[3]?).map (·.type)=some 253:=by kernel_rfl
theorem cellsTab:Tryz.prog.cellsOf 253=20:=by kernel_rfl
theorem cellsU64:Tryz.prog.cellsOf 185=1:=by kernel_rfl
theorem tab_of {W : World} {rest : List (String × DataW Unit)} (h : laidMet Tryz.prog (("math/bits.deBruijn32tab", Rows.laid_math_bits_deBruijn32tab) :: ("math/bits.deBruijn64tab", Rows.laid_math_bits_deBruijn64tab) :: ("internal/strconv.uint64pow10", Rows.laid_internal_strconv_uint64pow10) :: rest) W) : Tab W :=
 Lib.tabIs_of_head (rest:=rest) gTab gTabType Tryz.underlying253 Tryz.underlying185 cellsU64 cellsTab (laidMet.tail (laidMet.tail h))
theorem max_of {W:World} (h:W.ShapedOpen Tryz.prog):MaxL W:=Tryz.laysM144.s1_3 W h
end Go.Proofs.YtpldecfgjpmmkaaGreatDoor
end
section
/- Slices of numbers among the arguments: opened. -/
namespace Go.Proofs.YtpldecfgjpmmkaaGreatDoor
open Go.ChangeShapes Go.WideShapes Go.RowKit
set_option maxRecDepth 100000
theorem open_islice {H:Type} {enc:TypeId × Value→H} {W:World} {fuel:Nat} {v:Value} {x:DataW H × List MemPlace} (h:DataW.trod enc Tryz.prog W 0 (fun _=>true) true fuel 25 [v]=some x) :
  ∃ (a:Option Addr) (n c:Nat),v=.slice a n c∧(n≤1000→∃ l:List Int,l.length=n∧IS W v l):=by
 rcases open_ints Tryz.underlying25 Tryz.underlying3 (by kernel_rfl) h with ⟨h1,-⟩ | ⟨a,len,cap,zs,h1,-,hl,-,hz,-,hc,-⟩
 · obtain rfl:v=.slice none 0 0:=by simpa using h1
   exact⟨none,0,0,rfl,fun _=>⟨[],rfl,IS.nil W⟩⟩
 · obtain rfl:v=.slice (some a) len cap:=by simpa using h1
   refine⟨some a,len,cap,rfl,fun hn=>⟨zs.take len,by rw[List.length_take];split at hz <;> omega,?_⟩⟩
   have hlen:(zs.take len).length=len:=by rw[List.length_take];split at hz <;> omega
   refine⟨some a,cap,by rw[hlen],by omega,fun h0=>?_⟩
   rw[hlen] at h0
   have hzl:len≤zs.length:=by split at hz <;> omega
   have c0:=hc 0 (by omega)
   have hs:a.spot=none:=by
    have:=World.cell?_spot c0
    simpa [Addr.add] using this
   obtain⟨b,o,s⟩:=a
   simp only at hs
   subst hs
   refine⟨b,o,rfl,?_,fun k hk=>?_⟩
   · have:=World.block_lt_of_cell? W _ c0
     simpa [Addr.add] using this
   · rw[hlen] at hk
     have:=hc k (by omega)
     rw[Addr.add_mid] at this
     rw[this]
     simp [List.getD_eq_getElem?_getD,List.getElem?_eq_getElem (show k<zs.length by omega)]
end Go.Proofs.YtpldecfgjpmmkaaGreatDoor
end
section
/- Catalog entries among the arguments: opened to a structure and two lists. -/
namespace Go.Proofs.YtpldecfgjpmmkaaGreatDoor
open Go.ChangeShapes Go.WideShapes Go.RowKit
set_option maxRecDepth 100000
theorem enc_row {P:Program} {w:World} {r:Reach} {base:Nat} {t u:TypeId} {cs:Array Value} {ts:List TypeId} (hts:P.cellTypes P.depth t=some ts) (h:Row.okWide P w r base t cs) (i:Nat) (v:Value) (hv:cs[i]?=some v) (hu:ts[i % ts.length]?=some u):Cell.okWide P w r base u v:=by
 obtain⟨ts',h1,_,h2⟩:=h
 obtain rfl:ts=ts':=Option.some.inj (hts.symm.trans h1)
 obtain⟨u',a,b⟩:=h2 i v hv
 obtain rfl:u=u':=Option.some.inj (hu.symm.trans a)
 exact b
theorem enc_int {P:Program} {w:World} {r:Reach} {base:Nat} {u:TypeId} {k:IntKind} {v:Value} (hu:P.underlying u=some (.int k)) (h:Cell.okWide P w r base u v):∃ n,v=.int k n:=by
 cases v <;> simp_all [Cell.okWide,Cell.ok]
theorem enc_bool {P:Program} {w:World} {r:Reach} {base:Nat} {u:TypeId} {v:Value} (hu:P.underlying u=some .bool) (h:Cell.okWide P w r base u v):∃ b,v=.bool b:=by
 cases v <;> simp_all [Cell.okWide,Cell.ok]
theorem enc_str {P:Program} {w:World} {r:Reach} {base:Nat} {u:TypeId} {v:Value} (hu:P.underlying u=some .string) (h:Cell.okWide P w r base u v):∃ b,v=.string b:=by
 cases v <;> simp_all [Cell.okWide,Cell.ok]
theorem enc_cells {P:Program} {w:World} {r:Reach} {base:Nat} {t:TypeId} {v:Value} {fs:Array Field} (ht:P.underlying t=some (.struct fs)) (h:Value.okWide P w r base t v):∃ cs,v=.agg cs∧cs.size=P.cellsOf t∧Row.okWide P w r base t cs:=by
 simpa only [Value.okWide,ht] using h
theorem open_gslice {H:Type} {enc:TypeId × Value→H} {W:World} {fuel:Nat} {v:Value} {x:DataW H × List MemPlace} (h:DataW.trod enc Tryz.prog W 0 (fun _=>true) true fuel 26 [v]=some x) :
  ∃ (a:Option Addr) (n c:Nat),v=.slice a n c∧(n≤1000→∃ l:List Gr,l.length=n∧GS W v l):=by
 rcases Go.Deep.open_slice Tryz.underlying26 h with ⟨h1,-⟩ | ⟨a,len,cap,m,f,D,Pl,h1,-,hl,-,hm,-,hi⟩
 · obtain rfl:v=.slice none 0 0:=by simpa using h1
   exact⟨none,0,0,rfl,fun _=>⟨[],rfl,GS.nil W⟩⟩
 · obtain rfl:v=.slice (some a) len cap:=by simpa using h1
   refine⟨some a,len,cap,rfl,fun hn=>?_⟩
   have e3:Tryz.prog.cellsOf 87=3:=by kernel_rfl
   have each:∀ i,i<len→∃ g:Gr,W.cell? (a.add (i*3))=some (.string g.1)∧W.cell? ((a.add (i*3)).add 1)=some (.bool g.2.1)∧W.cell? ((a.add (i*3)).add 2)=some (.int .i64 g.2.2):=fun i hlt=>by
    obtain⟨cs,hc,ht⟩:=hi i (by rw[hm];split <;> omega)
    rw[e3] at hc
    obtain⟨_,hcl,hat⟩:=World.cells?_some hc
    obtain⟨y0,y1,y2,n',-,-,f0,f1,f2⟩:=Go.Deep.trod_struct3 Tryz.underlying87 ht
    match cs,hcl with
    | [c0,c1,c2],_ =>
      obtain⟨b,e0,-⟩:=DataW.trod_string Tryz.underlying9 f0
      obtain⟨g,e1,-⟩:=DataW.trod_bool Tryz.underlying4 f1
      obtain⟨l,e2,-⟩:=DataW.trod_int Tryz.underlying3 f2
      have k0:c0=.string b:=List.head_eq_of_cons_eq e0
      have k1:c1=.bool g:=List.head_eq_of_cons_eq e1
      have k2:c2=.int .i64 l:=List.head_eq_of_cons_eq e2
      subst k0 k1 k2
      exact⟨(b,g,l),by simpa [Addr.add] using hat 0 (by omega),hat 1 (by omega),hat 2 (by omega)⟩
   let G:Nat→Gr:=fun i=>if h:i<len then Classical.choose (each i h) else (⟨#[]⟩,false,0)
   have hG:∀ i,i<len→W.cell? (a.add (i*3))=some (.string (G i).1)∧W.cell? ((a.add (i*3)).add 1)=some (.bool (G i).2.1)∧W.cell? ((a.add (i*3)).add 2)=some (.int .i64 (G i).2.2):=fun i hlt=>by
    have:=Classical.choose_spec (each i hlt)
    simp only[G,dif_pos hlt];exact this
   refine⟨(List.range len).map G,by simp,some a,cap,by simp,by simp;omega,fun h0=>?_⟩
   have h0':0<len:=by simpa using h0
   have c0:=(hG 0 h0').1
   have hs:a.spot=none:=by
    have:=World.cell?_spot c0
    simpa [Addr.add] using this
   obtain⟨b,o,s⟩:=a
   simp only at hs
   subst hs
   refine⟨b,o,rfl,?_,fun k hk=>?_⟩
   · have:=World.block_lt_of_cell? W _ c0
     simpa [Addr.add] using this
   · have hk':k<len:=by simpa using hk
     have:=hG k hk'
     rw[Addr.add_mid,Addr.add_mid,Addr.add_mid] at this
     simpa using this
theorem open_en {H:Type} {enc:TypeId × Value→H} {W:World} {r:Reach} {base:Nat} {v:Value} {d:DataW H} {p:List MemPlace} (hv:Value.okWide Tryz.prog W r base 28 v) (h:DataW.Trod enc Tryz.prog W 0 (fun _=>true) true 28 v d p) :
  ∃ (e:En) (a1:Option Addr) (n1 c1:Nat) (a2:Option Addr) (n2 c2:Nat),v=.agg (e.vals (.slice a1 n1 c1) (.slice a2 n2 c2))∧(n1≤1000→∃ l:List Int,l.length=n1∧IS W (.slice a1 n1 c1) l)∧(n2≤1000→∃ l:List Gr,l.length=n2∧GS W (.slice a2 n2 c2) l):=by
 obtain⟨⟨l⟩,rfl,hsz,hrow⟩:=enc_cells Tryz.underlying28 hv
 have e:Tryz.prog.cellsOf 28=33:=by kernel_rfl
 rw[e] at hsz
 have hts:Tryz.prog.cellTypes Tryz.prog.depth 28=some [3,9,3,3,3,3,3,3,3,3,3,3,3,3,3,3,4,3,9,9,3,3,4,25,3,3,3,4,9,9,3,3,26]:=by kernel_rfl
 rcases l with _ | ⟨x0,_ | ⟨x1,_ | ⟨x2,_ | ⟨x3,_ | ⟨x4,_ | ⟨x5,_ | ⟨x6,_ | ⟨x7,_ | ⟨x8,_ | ⟨x9,_ | ⟨x10,_ | ⟨x11,_ | ⟨x12,_ | ⟨x13,_ | ⟨x14,_ | ⟨x15,_ | ⟨x16,_ | ⟨x17,_ | ⟨x18,_ | ⟨x19,_ | ⟨x20,_ | ⟨x21,_ | ⟨x22,_ | ⟨x23,_ | ⟨x24,_ | ⟨x25,_ | ⟨x26,_ | ⟨x27,_ | ⟨x28,_ | ⟨x29,_ | ⟨x30,_ | ⟨x31,_ | ⟨x32,_ | ⟨x33,l⟩⟩⟩⟩⟩⟩⟩⟩⟩⟩⟩⟩⟩⟩⟩⟩⟩⟩⟩⟩⟩⟩⟩⟩⟩⟩⟩⟩⟩⟩⟩⟩⟩⟩ <;> simp at hsz
 obtain⟨fuel,hf⟩:=h
 obtain⟨xs,n,-,-,-,hxs,hfs⟩:=DataW.trod_struct Tryz.underlying28 hf
 have hx0:xs[3]?=some (xs[3]'(by rw[hxs];decide)):=List.getElem?_eq_getElem _
 have hx1:xs[12]?=some (xs[12]'(by rw[hxs];decide)):=List.getElem?_eq_getElem _
 have s1:=(hfs 3 _ rfl).trans hx0
 have s2:=(hfs 12 _ rfl).trans hx1
 obtain⟨a1,n1,c1,rfl,o1⟩:=open_islice (v:=x23) s1
 obtain⟨a2,n2,c2,rfl,o2⟩:=open_gslice (v:=x32) s2
 clear hfs hx0 hx1 s1 s2 hf
 obtain⟨y0,rfl⟩:=enc_int Tryz.underlying3 (enc_row hts hrow 0 x0 rfl rfl)
 obtain⟨y1,rfl⟩:=enc_str Tryz.underlying9 (enc_row hts hrow 1 x1 rfl rfl)
 obtain⟨y2,rfl⟩:=enc_int Tryz.underlying3 (enc_row hts hrow 2 x2 rfl rfl)
 obtain⟨y3,rfl⟩:=enc_int Tryz.underlying3 (enc_row hts hrow 3 x3 rfl rfl)
 obtain⟨y4,rfl⟩:=enc_int Tryz.underlying3 (enc_row hts hrow 4 x4 rfl rfl)
 obtain⟨y5,rfl⟩:=enc_int Tryz.underlying3 (enc_row hts hrow 5 x5 rfl rfl)
 obtain⟨y6,rfl⟩:=enc_int Tryz.underlying3 (enc_row hts hrow 6 x6 rfl rfl)
 obtain⟨y7,rfl⟩:=enc_int Tryz.underlying3 (enc_row hts hrow 7 x7 rfl rfl)
 obtain⟨y8,rfl⟩:=enc_int Tryz.underlying3 (enc_row hts hrow 8 x8 rfl rfl)
 obtain⟨y9,rfl⟩:=enc_int Tryz.underlying3 (enc_row hts hrow 9 x9 rfl rfl)
 obtain⟨y10,rfl⟩:=enc_int Tryz.underlying3 (enc_row hts hrow 10 x10 rfl rfl)
 obtain⟨y11,rfl⟩:=enc_int Tryz.underlying3 (enc_row hts hrow 11 x11 rfl rfl)
 obtain⟨y12,rfl⟩:=enc_int Tryz.underlying3 (enc_row hts hrow 12 x12 rfl rfl)
 obtain⟨y13,rfl⟩:=enc_int Tryz.underlying3 (enc_row hts hrow 13 x13 rfl rfl)
 obtain⟨y14,rfl⟩:=enc_int Tryz.underlying3 (enc_row hts hrow 14 x14 rfl rfl)
 obtain⟨y15,rfl⟩:=enc_int Tryz.underlying3 (enc_row hts hrow 15 x15 rfl rfl)
 obtain⟨y16,rfl⟩:=enc_bool Tryz.underlying4 (enc_row hts hrow 16 x16 rfl rfl)
 obtain⟨y17,rfl⟩:=enc_int Tryz.underlying3 (enc_row hts hrow 17 x17 rfl rfl)
 obtain⟨y18,rfl⟩:=enc_str Tryz.underlying9 (enc_row hts hrow 18 x18 rfl rfl)
 obtain⟨y19,rfl⟩:=enc_str Tryz.underlying9 (enc_row hts hrow 19 x19 rfl rfl)
 obtain⟨y20,rfl⟩:=enc_int Tryz.underlying3 (enc_row hts hrow 20 x20 rfl rfl)
 obtain⟨y21,rfl⟩:=enc_int Tryz.underlying3 (enc_row hts hrow 21 x21 rfl rfl)
 obtain⟨y22,rfl⟩:=enc_bool Tryz.underlying4 (enc_row hts hrow 22 x22 rfl rfl)
 obtain⟨y24,rfl⟩:=enc_int Tryz.underlying3 (enc_row hts hrow 24 x24 rfl rfl)
 obtain⟨y25,rfl⟩:=enc_int Tryz.underlying3 (enc_row hts hrow 25 x25 rfl rfl)
 obtain⟨y26,rfl⟩:=enc_int Tryz.underlying3 (enc_row hts hrow 26 x26 rfl rfl)
 obtain⟨y27,rfl⟩:=enc_bool Tryz.underlying4 (enc_row hts hrow 27 x27 rfl rfl)
 obtain⟨y28,rfl⟩:=enc_str Tryz.underlying9 (enc_row hts hrow 28 x28 rfl rfl)
 obtain⟨y29,rfl⟩:=enc_str Tryz.underlying9 (enc_row hts hrow 29 x29 rfl rfl)
 obtain⟨y30,rfl⟩:=enc_int Tryz.underlying3 (enc_row hts hrow 30 x30 rfl rfl)
 obtain⟨y31,rfl⟩:=enc_int Tryz.underlying3 (enc_row hts hrow 31 x31 rfl rfl)
 exact⟨⟨y0,y1,y2,y3,y4,y5,y6,y7,y8,y9,y10,y11,y12,y13,y14,y15,y16,y17,y18,y19,y20,y21,y22,y24,y25,y26,y27,y28,y29,y30,y31⟩,a1,n1,c1,a2,n2,c2,by unfold En.vals;rfl,o1,o2⟩
end Go.Proofs.YtpldecfgjpmmkaaGreatDoor
end
section
/- Slices of catalog entries among the arguments: opened, however many. -/
namespace Go.Proofs.YtpldecfgjpmmkaaGreatDoor
open Go.ChangeShapes Go.WideShapes Go.RowKit
set_option maxRecDepth 100000
theorem st_fld {H:Type} {enc:TypeId × Value→H} {P:Program} {W:World} {base:Nat} {spare:Nat→Bool} {held:Bool} {fuel:Nat} {t:TypeId} {cs:List Value} {x:DataW H × List MemPlace} {fs:Array Field} (ht:P.underlying t=some (.struct fs)) (h:DataW.trod enc P W base spare held fuel t cs=some x) :
  ∃ n,∀ (i:Nat) (f:Field),fs[i]?=some f→∃ y,DataW.trod enc P W base spare held n f.type ((cs.drop f.offset).take (P.cellsOf f.type))=some y:=by
 obtain⟨xs,n,-,-,-,hl,hf⟩:=DataW.trod_struct ht h
 refine⟨n,fun i f hi=>?_⟩
 have hlt:i<fs.size:=by
  rcases Nat.lt_or_ge i fs.size with h | h
  · exact h
  · rw[Array.getElem?_eq_none h] at hi;cases hi
 exact⟨xs[i]'(by omega),(hf i f hi).trans (List.getElem?_eq_getElem _)⟩
end Go.Proofs.YtpldecfgjpmmkaaGreatDoor
end
section
/- Slices of records of catalogs among the arguments: opened, however many. -/
namespace Go.Proofs.YtpldecfgjpmmkaaGreatDoor
open Go.ChangeShapes Go.WideShapes Go.RowKit
set_option maxRecDepth 100000
theorem open_row {H:Type} {enc:TypeId × Value→H} {W:World} {fuel:Nat} {cs:List Value} {x:DataW H × List MemPlace} (hl:cs.length=3) (h:DataW.trod enc Tryz.prog W 0 (fun _=>true) true fuel 67 cs=some x) :
  ∃ y:Rw,cs=[.int .i64 y.1,.string y.2.1,.string y.2.2]:=by
 rcases cs with _ | ⟨x0,_ | ⟨x1,_ | ⟨x2,_ | ⟨x3,l⟩⟩⟩⟩ <;> simp at hl
 obtain⟨n,hf⟩:=st_fld Tryz.underlying67 h
 obtain⟨_,t0⟩:=hf 0 _ rfl
 obtain⟨y0,e0,-⟩:=DataW.trod_int Tryz.underlying3 t0
 have k0:x0=.int .i64 y0:=List.head_eq_of_cons_eq e0
 obtain⟨_,t1⟩:=hf 1 _ rfl
 obtain⟨y1,e1,-⟩:=DataW.trod_string Tryz.underlying9 t1
 have k1:x1=.string y1:=List.head_eq_of_cons_eq e1
 obtain⟨_,t2⟩:=hf 2 _ rfl
 obtain⟨y2,e2,-⟩:=DataW.trod_string Tryz.underlying9 t2
 have k2:x2=.string y2:=List.head_eq_of_cons_eq e2
 subst k0 k1 k2
 exact⟨(y0,y1,y2),rfl⟩
theorem open_rw {H:Type} {enc:TypeId × Value→H} {W:World} {r:Reach} {base:Nat} {v:Value} {d:DataW H} {p:List MemPlace} (hv:Value.okWide Tryz.prog W r base 22 v) (h:DataW.Trod enc Tryz.prog W 0 (fun _=>true) true 22 v d p) :
  ∃ (a:Option Addr) (n c:Nat) (F:Nat→Rw),v=.slice a n c∧RwL W a n F:=by
 obtain⟨a,n,c,rfl⟩:=okWide_slice Tryz.underlying22 hv
 obtain⟨fuel,hf⟩:=h
 rcases Go.Deep.open_slice Tryz.underlying22 hf with ⟨h1,-⟩ | ⟨a',len,cap,m,f,D,Pl,h1,-,hl,hmax,hm,-,hi⟩
 · have:=List.head_eq_of_cons_eq h1
   injection this with e1 e2 e3
   subst e1 e2 e3
   exact⟨none,0,0,fun _=>(0,⟨#[]⟩,⟨#[]⟩),rfl,by omega,fun k hk=>by omega⟩
 · have:=List.head_eq_of_cons_eq h1
   injection this with e1 e2 e3
   subst e1 e2 e3
   have e33:Tryz.prog.cellsOf 67=3:=by kernel_rfl
   have each:∀ k,k<n→∃ (x:Rw) (b o:Nat),a'=⟨b,o,none⟩∧b<W.heap.size∧RwAt W b (o+k*3) x:=fun k hk=>by
    obtain⟨cs,hc,ht⟩:=hi k (by rw[hm];split <;> omega)
    rw[e33] at hc
    obtain⟨_,hcl,hat⟩:=World.cells?_some hc
    obtain⟨y,rfl⟩:=open_row hcl ht
    obtain⟨cs0,hc0,-⟩:=hi 0 (by rw[hm];split <;> omega)
    rw[e33] at hc0
    obtain⟨_,hcl0,hat0⟩:=World.cells?_some hc0
    have z0:=(hat0 0 (by omega)).trans (List.getElem?_eq_getElem (by omega:0<cs0.length))
    obtain⟨b,o,s⟩:=a'
    obtain rfl:s=none:=by
     have:=World.cell?_spot z0
     simpa [Addr.add] using this
    have q0:=hat 0 (by omega)
    have q1:=hat 1 (by omega)
    have q2:=hat 2 (by omega)
    rw[Addr.add_mid,Addr.add_mid] at q0 q1 q2
    exact⟨y,b,o,rfl,block_lt_of_cell q0,q0,q1,q2⟩
   refine⟨some a',n,c,fun k=>if h:k<n then Classical.choose (each k h) else (0,⟨#[]⟩,⟨#[]⟩),rfl,by simp only[maxLen] at hmax;omega,fun k hk=>?_⟩
   obtain⟨b,o,ha,hlt,hE⟩:=Classical.choose_spec (each k hk)
   refine⟨b,o,by rw[ha],hlt,?_⟩
   simp only[dif_pos hk]
   exact hE
end Go.Proofs.YtpldecfgjpmmkaaGreatDoor
end
