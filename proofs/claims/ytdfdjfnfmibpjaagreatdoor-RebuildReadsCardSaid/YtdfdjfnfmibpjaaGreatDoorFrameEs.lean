/- Several texts in one: FrameB FrameDs FrameGe FrameEn FrameEs FrameRw. -/
import Derived.Test.YtdfdjfnfmibpjaaGreatDoorCards
import Derived.Test.YtdfdjfnfmibpjaaGreatDoorTie
import Derived.ProofKit
import Derived.OpenShut
import Derived.Deep.DeepHandedRow
import Derived.Lib.LaidTab
import Derived.Stop.LaidErr
import Derived.Carry
import Derived.Lay
import Derived.Test.YtdfdjfnfmibpjaaGreatDoorDsA
import Derived.Test.YtdfdjfnfmibpjaaGreatDoorCalE
import Derived.Test.YtdfdjfnfmibpjaaGreatDoorSaC
import Derived.Lib.SmallJoins
import Derived.ChangeSlices
import Derived.Test.YtdfdjfnfmibpjaaGreatDoorEn
import Derived.Deep.Slices
import Derived.Deep.Strs
import Derived.Test.YtdfdjfnfmibpjaaGreatDoorAcA
import Derived.Test.YtdfdjfnfmibpjaaGreatDoorChA
import Derived.Test.YtdfdjfnfmibpjaaGreatDoorSrt
section
/- What every law's frame needs, over whatever list of laid variables: arguments read the same below; the witness by the function that lays. -/
namespace Go.Proofs.YtdfdjfnfmibpjaaGreatDoor
open Go.ChangeShapes Go.WideShapes Go.ChangeAt Go.RowKit
theorem ownk:ownKnob Tryz.prog.godebug=none:=by kernel_rfl
theorem laidOut:laidOutB Tryz.prog=true:=by kernel_rfl
theorem trodAll_below {H:Type} {enc:TypeId × Value→H} {W W':World} (hb:Below W.heap.size W W') (sp:Nat→Bool) :
  ∀ (ts:List TypeId) (vs:List Value) (ds:List (DataW H)) (ps:List MemPlace),(∀ t∈ts,Tryz.prog.readableRec t=true∧t<Tryz.prog.types.size)→DataW.TrodAll enc Tryz.prog W 0 (fun _=>true) true ts vs ds ps →
   (∀ p∈ps,p.block<W.heap.size)→(∀ p∈ps,sp p.block=true)→DataW.TrodAll enc Tryz.prog W' 0 sp true ts vs ds ps
 | [],vs,ds,ps,_,h,_,_=>by
   obtain⟨rfl,rfl,rfl⟩:=trodAll_nil h
   exact trodAll_mk0
 | t::ts,vs,ds,ps,ht,h,hlt,hsp=>by
   obtain⟨v,vs',d,ds',p,q,rfl,rfl,rfl,h0,h1⟩:=trodAll_cons h
   have k:=ht t (by simp)
   exact trodAll_cons_mk (WideElems.Trod_stays laidOut k.1 k.2 h0 (fun x hx=>hb.same (hlt x (by simp [hx]))) (fun x hx=>hsp x (by simp [hx])))
    (trodAll_below hb sp ts vs' ds' q (fun u hu=>ht u (by simp [hu])) h1 (fun x hx=>hlt x (by simp [hx])) (fun x hx=>hsp x (by simp [hx])))
theorem args_below {H:Type} {enc:TypeId × Value→H} {W W':World} (hb:Below W.heap.size W W') {ts:List TypeId} {vs:List Value} {ds:List (DataW H)} {ps:List MemPlace} (ht:(ts.all fun t=>Tryz.prog.readableRec t&&decide (t<Tryz.prog.types.size))=true)
  (h:DataW.TrodAll enc Tryz.prog W 0 (fun _=>true) true ts vs ds ps) (hlt:∀ p∈ps,p.block<W.heap.size):DataW.TrodAll enc Tryz.prog W' 0 (fun b=>decide (b<W.heap.size)) true ts vs ds ps :=
 trodAll_below hb _ ts vs ds ps (fun t hm=>by have:=List.all_eq_true.1 ht t hm;simpa using this) h hlt (fun p hp=>by simpa using hlt p hp)
theorem witness_lay {H:Type} {enc:TypeId × Value→H} {C:Checked} {os:Os} {f:FuncId} {fn:Func} {s:OpenSpec} {conds:List PathCond} {apart:Bool} {laid:List (String × DataW Unit)} (modest:Bool) (args:Array Value)
  (hsh:((World.laidAll C.prog os laid).forCall (fun _ _=>0) ⟨#[],args,[]⟩).Shaped C.prog)
  (hok:Input.okWideB C.prog ((World.laidAll C.prog os laid).forCall (fun _ _=>0) ⟨#[],args,[]⟩) f ⟨#[],args,[]⟩=true)
  (hrow:s.preRow enc C.prog fn conds apart laid ((World.laidAll C.prog os laid).forCall (fun _ _=>0) ⟨#[],args,[]⟩).memory args) :
  ∃ (w:World) (tape:Tape) (i:Input),w.os=os∧(w.forCall tape i).Shaped C.prog∧i.vars=[]∧Input.okWide C.prog (w.forCall tape i) .any w.heap.size f i ∧
   s.preRow enc C.prog fn conds apart laid (w.forCall tape i).memory i.args∧({ modest:=modest }:Assume).holds C.prog (lone (Frame.enter C.prog f i.args .normal) [] (w.forCall tape i)) :=
 ⟨World.laidAll C.prog os laid,fun _ _=>0,⟨#[],args,[]⟩,World.laidAll_os _ _ _,hsh,(Input.okWide_of_okWideB (base:=0) hok).1,(Input.okWide_of_okWideB hok).2,hrow,by
  simp only[Assume.holds]
  exact⟨by simp,by simp,fun _=>Modest.zero,by simp,by simp⟩⟩
end Go.Proofs.YtdfdjfnfmibpjaaGreatDoor
end
section
/- What the laws of this seat read of the listed variables. -/
namespace Go.Proofs.YtdfdjfnfmibpjaaGreatDoor
theorem gTabType:(Tryz.prog.globals[1]?).map (·.type)=some 296:=by kernel_rfl
theorem cellsTab:Tryz.prog.cellsOf 296=20:=by kernel_rfl
theorem cellsU64:Tryz.prog.cellsOf 227=1:=by kernel_rfl
theorem tab_of {W : World} {rest : List (String × DataW Unit)} (h : laidMet Tryz.prog (("math/bits.deBruijn32tab", Rows.laid_math_bits_deBruijn32tab) :: ("math/bits.deBruijn64tab", Rows.laid_math_bits_deBruijn64tab) :: ("internal/strconv.uint64pow10", Rows.laid_internal_strconv_uint64pow10) :: rest) W) : Tab W :=
 Lib.tabIs_of_head (rest:=rest) gTab gTabType Tryz.underlying296 Tryz.underlying227 cellsU64 cellsTab (laidMet.tail (laidMet.tail h))
theorem max_of {W:World} (h:W.ShapedOpen Tryz.prog):MaxL W:=Tryz.laysM144.s1_3 W h
end Go.Proofs.YtdfdjfnfmibpjaaGreatDoor
end
section
/- Slices of numbers among the arguments: opened. -/
namespace Go.Proofs.YtdfdjfnfmibpjaaGreatDoor
open Go.ChangeShapes Go.WideShapes Go.RowKit
set_option maxRecDepth 100000
end Go.Proofs.YtdfdjfnfmibpjaaGreatDoor
end
section
/- Catalog entries among the arguments: opened to a structure and two lists. -/
namespace Go.Proofs.YtdfdjfnfmibpjaaGreatDoor
open Go.ChangeShapes Go.WideShapes Go.RowKit
set_option maxRecDepth 100000
end Go.Proofs.YtdfdjfnfmibpjaaGreatDoor
end
section
/- Slices of catalog entries among the arguments: opened, however many. -/
namespace Go.Proofs.YtdfdjfnfmibpjaaGreatDoor
open Go.ChangeShapes Go.WideShapes Go.RowKit
set_option maxRecDepth 100000
theorem st_fld {H:Type} {enc:TypeId × Value→H} {P:Program} {W:World} {base:Nat} {spare:Nat→Bool} {held:Bool} {fuel:Nat} {t:TypeId} {cs:List Value} {x:DataW H × List MemPlace} {fs:Array Field} (ht:P.underlying t=some (.struct fs)) (h:DataW.trod enc P W base spare held fuel t cs=some x) :
  ∃ n,∀ (i:Nat) (f:Field),fs[i]?=some f→∃ y,DataW.trod enc P W base spare held n f.type ((cs.drop f.offset).take (P.cellsOf f.type))=some y:=by
 obtain⟨xs,n,-,-,-,hl,hf⟩:=DataW.trod_struct ht h
 refine⟨n,fun i f hi=>?_⟩
 have hlt:i<fs.size:=by
  rcases Nat.lt_or_ge i fs.size with h | h
  · exact h
  · rw[Array.getElem?_eq_none h] at hi;cases hi
 exact⟨xs[i]'(by omega),(hf i f hi).trans (List.getElem?_eq_getElem _)⟩
end Go.Proofs.YtdfdjfnfmibpjaaGreatDoor
end
section
/- Slices of records of catalogs among the arguments: opened, however many. -/
namespace Go.Proofs.YtdfdjfnfmibpjaaGreatDoor
open Go.ChangeShapes Go.WideShapes Go.RowKit
set_option maxRecDepth 100000
theorem open_row {H:Type} {enc:TypeId × Value→H} {W:World} {fuel:Nat} {cs:List Value} {x:DataW H × List MemPlace} (hl:cs.length=3) (h:DataW.trod enc Tryz.prog W 0 (fun _=>true) true fuel 113 cs=some x) :
  ∃ y:Rw,cs=[.int .i64 y.1,.string y.2.1,.string y.2.2]:=by
 rcases cs with _ | ⟨x0,_ | ⟨x1,_ | ⟨x2,_ | ⟨x3,l⟩⟩⟩⟩ <;> simp at hl
 obtain⟨n,hf⟩:=st_fld Tryz.underlying113 h
 obtain⟨_,t0⟩:=hf 0 _ rfl
 obtain⟨y0,e0,-⟩:=DataW.trod_int Tryz.underlying3 t0
 have k0:x0=.int .i64 y0:=List.head_eq_of_cons_eq e0
 obtain⟨_,t1⟩:=hf 1 _ rfl
 obtain⟨y1,e1,-⟩:=DataW.trod_string Tryz.underlying9 t1
 have k1:x1=.string y1:=List.head_eq_of_cons_eq e1
 obtain⟨_,t2⟩:=hf 2 _ rfl
 obtain⟨y2,e2,-⟩:=DataW.trod_string Tryz.underlying9 t2
 have k2:x2=.string y2:=List.head_eq_of_cons_eq e2
 subst k0 k1 k2
 exact⟨(y0,y1,y2),rfl⟩
theorem open_rw {H:Type} {enc:TypeId × Value→H} {W:World} {r:Reach} {base:Nat} {v:Value} {d:DataW H} {p:List MemPlace} (hv:Value.okWide Tryz.prog W r base 36 v) (h:DataW.Trod enc Tryz.prog W 0 (fun _=>true) true 36 v d p) :
  ∃ (a:Option Addr) (n c:Nat) (F:Nat→Rw),v=.slice a n c∧RwL W a n F:=by
 obtain⟨a,n,c,rfl⟩:=okWide_slice Tryz.underlying36 hv
 obtain⟨fuel,hf⟩:=h
 rcases Go.Deep.open_slice Tryz.underlying36 hf with ⟨h1,-⟩ | ⟨a',len,cap,m,f,D,Pl,h1,-,hl,hmax,hm,-,hi⟩
 · have:=List.head_eq_of_cons_eq h1
   injection this with e1 e2 e3
   subst e1 e2 e3
   exact⟨none,0,0,fun _=>(0,⟨#[]⟩,⟨#[]⟩),rfl,by omega,fun k hk=>by omega⟩
 · have:=List.head_eq_of_cons_eq h1
   injection this with e1 e2 e3
   subst e1 e2 e3
   have e33:Tryz.prog.cellsOf 113=3:=by kernel_rfl
   have each:∀ k,k<n→∃ (x:Rw) (b o:Nat),a'=⟨b,o,none⟩∧b<W.heap.size∧RwAt W b (o+k*3) x:=fun k hk=>by
    obtain⟨cs,hc,ht⟩:=hi k (by rw[hm];split <;> omega)
    rw[e33] at hc
    obtain⟨_,hcl,hat⟩:=World.cells?_some hc
    obtain⟨y,rfl⟩:=open_row hcl ht
    obtain⟨cs0,hc0,-⟩:=hi 0 (by rw[hm];split <;> omega)
    rw[e33] at hc0
    obtain⟨_,hcl0,hat0⟩:=World.cells?_some hc0
    have z0:=(hat0 0 (by omega)).trans (List.getElem?_eq_getElem (by omega:0<cs0.length))
    obtain⟨b,o,s⟩:=a'
    obtain rfl:s=none:=by
     have:=World.cell?_spot z0
     simpa [Addr.add] using this
    have q0:=hat 0 (by omega)
    have q1:=hat 1 (by omega)
    have q2:=hat 2 (by omega)
    rw[Addr.add_mid,Addr.add_mid] at q0 q1 q2
    exact⟨y,b,o,rfl,block_lt_of_cell q0,q0,q1,q2⟩
   refine⟨some a',n,c,fun k=>if h:k<n then Classical.choose (each k h) else (0,⟨#[]⟩,⟨#[]⟩),rfl,by simp only[maxLen] at hmax;omega,fun k hk=>?_⟩
   obtain⟨b,o,ha,hlt,hE⟩:=Classical.choose_spec (each k hk)
   refine⟨b,o,by rw[ha],hlt,?_⟩
   simp only[dif_pos hk]
   exact hE
end Go.Proofs.YtdfdjfnfmibpjaaGreatDoor
end
