/- Several texts in one: FrameEs FrameRw. -/
import Derived.Test.YtlmgolkgodfmpaaGreatDoorFrameEn
import Derived.Test.YtlmgolkgodfmpaaGreatDoorAcA
import Derived.Test.YtlmgolkgodfmpaaGreatDoorChA
import Derived.Test.YtlmgolkgodfmpaaGreatDoorSrt
section
/- Slices of catalog entries among the arguments: opened, however many. -/
namespace Go.Proofs.YtlmgolkgodfmpaaGreatDoor
open Go.ChangeShapes Go.WideShapes Go.RowKit
set_option maxRecDepth 100000
theorem st_fld {H:Type} {enc:TypeId × Value→H} {P:Program} {W:World} {base:Nat} {spare:Nat→Bool} {held:Bool} {fuel:Nat} {t:TypeId} {cs:List Value} {x:DataW H × List MemPlace} {fs:Array Field} (ht:P.underlying t=some (.struct fs)) (h:DataW.trod enc P W base spare held fuel t cs=some x) :
  ∃ n,∀ (i:Nat) (f:Field),fs[i]?=some f→∃ y,DataW.trod enc P W base spare held n f.type ((cs.drop f.offset).take (P.cellsOf f.type))=some y:=by
 obtain⟨xs,n,-,-,-,hl,hf⟩:=DataW.trod_struct ht h
 refine⟨n,fun i f hi=>?_⟩
 have hlt:i<fs.size:=by
  rcases Nat.lt_or_ge i fs.size with h | h
  · exact h
  · rw[Array.getElem?_eq_none h] at hi;cases hi
 exact⟨xs[i]'(by omega),(hf i f hi).trans (List.getElem?_eq_getElem _)⟩
theorem open_ss {H:Type} {enc:TypeId × Value→H} {W:World} {r:Reach} {base:Nat} {v:Value} {d:DataW H} {p:List MemPlace} (hv:Value.okWide Tryz.prog W r base 33 v) (h:DataW.Trod enc Tryz.prog W 0 (fun _=>true) true 33 v d p) :
  ∃ (a:Option Addr) (n c:Nat),v=.slice a n c∧(n≤1000→∃ l:List ByteArray,l.length=n∧SS W (.slice a n c) l):=by
 obtain⟨a,n,c,rfl⟩:=okWide_slice Tryz.underlying33 hv
 obtain⟨fuel,hf⟩:=h
 rcases Go.Deep.open_slice1 Tryz.underlying33 (by kernel_rfl) hf with ⟨h1,-⟩ | ⟨a',len,cap,m,f,V,D,Pl,h1,-,hl,hmax,hm,-,hi⟩
 · have:=List.head_eq_of_cons_eq h1
   injection this with e1 e2 e3
   subst e1 e2 e3
   exact⟨none,0,0,rfl,fun _=>⟨[],rfl,SS.nil W⟩⟩
 · have:=List.head_eq_of_cons_eq h1
   injection this with e1 e2 e3
   subst e1 e2 e3
   refine⟨some a',n,c,rfl,fun hn=>?_⟩
   have each:∀ k,k<n→∃ s:ByteArray,W.cell? (a'.add k)=some (.string s):=fun k hk=>by
    obtain⟨hc,ht⟩:=hi k (by rw[hm];split <;> omega)
    obtain⟨z,e0,-⟩:=DataW.trod_string Tryz.underlying9 ht
    have e1:V k=.string z:=List.head_eq_of_cons_eq e0
    rw[e1] at hc
    exact⟨z,hc⟩
   let G:Nat→ByteArray:=fun k=>if h:k<n then Classical.choose (each k h) else ⟨#[]⟩
   have hG:∀ k,k<n→W.cell? (a'.add k)=some (.string (G k)):=fun k hk=>by
    have:=Classical.choose_spec (each k hk)
    simp only[G,dif_pos hk];exact this
   refine⟨(List.range n).map G,by simp,some a',c,by simp,by simp;omega,fun h0=>?_⟩
   have h0':0<n:=by simpa using h0
   have c0:=hG 0 h0'
   obtain⟨b,o,s⟩:=a'
   obtain rfl:s=none:=by
    have:=World.cell?_spot c0
    simpa [Addr.add] using this
   refine⟨b,o,rfl,?_,fun k hk=>?_⟩
   · have:=World.block_lt_of_cell? W _ c0
     simpa [Addr.add] using this
   · have hk':k<n:=by simpa using hk
     have:=hG k hk'
     rw[Addr.add_mid] at this
     simpa using this
end Go.Proofs.YtlmgolkgodfmpaaGreatDoor
end
section
/- Slices of records of catalogs among the arguments: opened, however many. -/
namespace Go.Proofs.YtlmgolkgodfmpaaGreatDoor
open Go.ChangeShapes Go.WideShapes Go.RowKit
set_option maxRecDepth 100000
theorem open_row {H:Type} {enc:TypeId × Value→H} {W:World} {fuel:Nat} {cs:List Value} {x:DataW H × List MemPlace} (hl:cs.length=3) (h:DataW.trod enc Tryz.prog W 0 (fun _=>true) true fuel 69 cs=some x) :
  ∃ y:Rw,cs=[.int .i64 y.1,.string y.2.1,.string y.2.2]:=by
 rcases cs with _ | ⟨x0,_ | ⟨x1,_ | ⟨x2,_ | ⟨x3,l⟩⟩⟩⟩ <;> simp at hl
 obtain⟨n,hf⟩:=st_fld Tryz.underlying69 h
 obtain⟨_,t0⟩:=hf 0 _ rfl
 obtain⟨y0,e0,-⟩:=DataW.trod_int Tryz.underlying3 t0
 have k0:x0=.int .i64 y0:=List.head_eq_of_cons_eq e0
 obtain⟨_,t1⟩:=hf 1 _ rfl
 obtain⟨y1,e1,-⟩:=DataW.trod_string Tryz.underlying9 t1
 have k1:x1=.string y1:=List.head_eq_of_cons_eq e1
 obtain⟨_,t2⟩:=hf 2 _ rfl
 obtain⟨y2,e2,-⟩:=DataW.trod_string Tryz.underlying9 t2
 have k2:x2=.string y2:=List.head_eq_of_cons_eq e2
 subst k0 k1 k2
 exact⟨(y0,y1,y2),rfl⟩
theorem open_rw {H:Type} {enc:TypeId × Value→H} {W:World} {r:Reach} {base:Nat} {v:Value} {d:DataW H} {p:List MemPlace} (hv:Value.okWide Tryz.prog W r base 36 v) (h:DataW.Trod enc Tryz.prog W 0 (fun _=>true) true 36 v d p) :
  ∃ (a:Option Addr) (n c:Nat) (F:Nat→Rw),v=.slice a n c∧RwL W a n F:=by
 obtain⟨a,n,c,rfl⟩:=okWide_slice Tryz.underlying36 hv
 obtain⟨fuel,hf⟩:=h
 rcases Go.Deep.open_slice Tryz.underlying36 hf with ⟨h1,-⟩ | ⟨a',len,cap,m,f,D,Pl,h1,-,hl,hmax,hm,-,hi⟩
 · have:=List.head_eq_of_cons_eq h1
   injection this with e1 e2 e3
   subst e1 e2 e3
   exact⟨none,0,0,fun _=>(0,⟨#[]⟩,⟨#[]⟩),rfl,by omega,fun k hk=>by omega⟩
 · have:=List.head_eq_of_cons_eq h1
   injection this with e1 e2 e3
   subst e1 e2 e3
   have e33:Tryz.prog.cellsOf 69=3:=by kernel_rfl
   have each:∀ k,k<n→∃ (x:Rw) (b o:Nat),a'=⟨b,o,none⟩∧b<W.heap.size∧RwAt W b (o+k*3) x:=fun k hk=>by
    obtain⟨cs,hc,ht⟩:=hi k (by rw[hm];split <;> omega)
    rw[e33] at hc
    obtain⟨_,hcl,hat⟩:=World.cells?_some hc
    obtain⟨y,rfl⟩:=open_row hcl ht
    obtain⟨cs0,hc0,-⟩:=hi 0 (by rw[hm];split <;> omega)
    rw[e33] at hc0
    obtain⟨_,hcl0,hat0⟩:=World.cells?_some hc0
    have z0:=(hat0 0 (by omega)).trans (List.getElem?_eq_getElem (by omega:0<cs0.length))
    obtain⟨b,o,s⟩:=a'
    obtain rfl:s=none:=by
     have:=World.cell?_spot z0
     simpa [Addr.add] using this
    have q0:=hat 0 (by omega)
    have q1:=hat 1 (by omega)
    have q2:=hat 2 (by omega)
    rw[Addr.add_mid,Addr.add_mid] at q0 q1 q2
    exact⟨y,b,o,rfl,block_lt_of_cell q0,q0,q1,q2⟩
   refine⟨some a',n,c,fun k=>if h:k<n then Classical.choose (each k h) else (0,⟨#[]⟩,⟨#[]⟩),rfl,by simp only[maxLen] at hmax;omega,fun k hk=>?_⟩
   obtain⟨b,o,ha,hlt,hE⟩:=Classical.choose_spec (each k hk)
   refine⟨b,o,by rw[ha],hlt,?_⟩
   simp only[dif_pos hk]
   exact hE
end Go.Proofs.YtlmgolkgodfmpaaGreatDoor
end
