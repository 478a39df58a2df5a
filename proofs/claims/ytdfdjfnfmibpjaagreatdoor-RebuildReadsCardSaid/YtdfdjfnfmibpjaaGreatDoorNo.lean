/- Several texts in one: Mp Nq Cg No NoR Ch. -/
import Derived.Test.YtdfdjfnfmibpjaaGreatDoorCv
import Derived.Test.YtdfdjfnfmibpjaaGreatDoorNx
import Derived.ChangeMaps5
import Derived.WideKeyRuns
import Derived.Test.YtdfdjfnfmibpjaaGreatDoorAcA
import Derived.Test.YtdfdjfnfmibpjaaGreatDoorSh
import Derived.Deep.QuietTactic
import Derived.BigQuiet
import Derived.Test.YtdfdjfnfmibpjaaGreatDoorSaC
section
/- The map of groups in package rebuild's Notes: keys, look-ups, updates. -/
namespace Go.Proofs.YtdfdjfnfmibpjaaGreatDoor
open Go.RowKit
open Go.ChangeMaps (setBlock)
set_option maxHeartbeats 1600000
set_option maxRecDepth 8000
abbrev PK:=Int × ByteArray
def pk (k:PK):Value:=.agg #[.int .i64 k.1,.string k.2]
def pents:List (PK × Value)→Nat→List MapEntry
 | [],_=>[]
 | x::r,i=>⟨pk x.1,x.2,i⟩::pents r (i+1)
def pent (es:List (PK × Value)):Array MapEntry:=(pents es 0).toArray
theorem pents_len:∀ (es:List (PK × Value)) (i:Nat),(pents es i).length=es.length
 | [],_=>rfl
 | _::r,i=>by rw[pents,List.length_cons,pents_len r (i+1),List.length_cons]
theorem pents_snoc (x:PK × Value):∀ (es:List (PK × Value)) (i:Nat),pents (es++[x]) i=pents es i++[⟨pk x.1,x.2,i+es.length⟩]
 | [],i=>rfl
 | a::r,i=>by rw[List.cons_append,pents,pents,pents_snoc x r (i+1),List.length_cons,List.cons_append,Nat.add_assoc,Nat.add_comm 1]
def mget (k:PK):List (PK × Value)→Option Value
 | []=>none
 | x::r=>if k=x.1 then some x.2 else mget k r
def mset (k:PK) (v:Value):List (PK × Value)→List (PK × Value)
 | []=>[]
 | x::r=>if k=x.1 then (x.1,v)::r else x::mset k v r
def mput (k:PK) (v:Value) (es:List (PK × Value)):List (PK × Value):=if mget k es=none then es++[(k,v)] else mset k v es
theorem mget_snoc (k j:PK) (v:Value):∀ es,mget j (es++[(k,v)])=match mget j es with | some u=>some u | none=>if j=k then some v else none
 | []=>rfl
 | x::r=>by
   rw[List.cons_append,mget,mget,mget_snoc k j v r]
   by_cases h:j=x.1
   · rw[if_pos h,if_pos h]
   · rw[if_neg h,if_neg h]
theorem mget_set (k j:PK) (v:Value):∀ es,mget j (mset k v es)=if j=k then (if mget k es=none then none else some v) else mget j es
 | []=>by simp [mset,mget]
 | x::r=>by
   unfold mset
   by_cases h:k=x.1
   · rw[if_pos h,mget,mget,mget]
     subst h
     by_cases hj:j=x.1
     · rw[if_pos hj,if_pos hj,if_pos rfl];simp
     · rw[if_neg hj,if_neg hj,if_neg hj]
   · rw[if_neg h,mget,mget,mget,if_neg h,mget_set k j v r]
     by_cases hj:j=k
     · subst hj;rw[if_neg h,if_pos rfl,if_pos rfl]
     · rw[if_neg hj,if_neg hj]
theorem mget_put (k j:PK) (v:Value) (es:List (PK × Value)):mget j (mput k v es)=if j=k then some v else mget j es:=by
 unfold mput
 by_cases h:mget k es=none
 · rw[if_pos h,mget_snoc]
   by_cases hj:j=k
   · subst hj;simp [h]
   · rw[if_neg hj,if_neg hj];cases mget j es <;> rfl
 · rw[if_neg h,mget_set,if_neg h]
theorem eq_pk (a b:PK) (w:World):(Op.equal 152 (pk a) (pk b)).run Tryz.prog w=.ok (decide (a=b)) w:=by
 obtain⟨a1,a2⟩:=a
 obtain⟨b1,b2⟩:=b
 show (Op.equalIn (9999+1) 152 (.agg #[.int .i64 a1,.string a2]) (.agg #[.int .i64 b1,.string b2])).run Tryz.prog w=_
 rw[run_equalIn_struct w 9999 152 _ _ (by simp [Program.fieldsOf,Tryz.underlying152]) (by kernel_rfl)]
 simp [Program.fieldsOf,Tryz.underlying152,Op.eqFields,go_sem]
 have e:(a2.toList=b2.toList)=(a2=b2):=propext ⟨fun h=>by
  have h1:=Lib.toList_data a2
  have h2:=Lib.toList_data b2
  exact Ds.bl_inj (h1.symm.trans (h.trans h2)),fun h=>by rw[h]⟩
 by_cases h1:a1=b1
 · subst h1
   by_cases h2:a2=b2
   · subst h2;simp
   · have:¬ a2.toList=b2.toList:=fun h=>h2 (e ▸ h)
     simp [h2,this]
 · simp [h1]
theorem find_pk (k:PK) (w:World):∀ (es:List (PK × Value)) (i j:Nat),
  (mget k es=none→(Instr.findAsking 152 (pk k) (pents es i) j).run Tryz.prog w=.ok none w)∧(∀ v,mget k es=some v→∃ n,(Instr.findAsking 152 (pk k) (pents es i) j).run Tryz.prog w=.ok (some (j+n,v)) w∧n<es.length∧(pents es i)[n]?=some ⟨pk k,v,i+n⟩∧∀ u,(pents es i).modify n (fun e=>⟨pk k,u,e.born⟩)=pents (mset k u es) i)
 | [],i,j=>⟨fun _=>by simp [pents,Instr.findAsking],fun v h=>by simp [mget] at h⟩
 | x::r,i,j=>by
   have ih:=find_pk k w r (i+1) (j+1)
   have he:=eq_pk k x.1 w
   by_cases h:k=x.1
   · rw[decide_eq_true h] at he
     refine⟨fun h2=>?_,fun v h2=>⟨0,?_,by simp,?_,fun u=>?_⟩⟩
     · rw[mget,if_pos h] at h2;cases h2
     · rw[mget,if_pos h] at h2;cases h2
       simp [pents,Instr.findAsking,he]
     · rw[mget,if_pos h] at h2;cases h2
       simp [pents,h]
     · rw[mset,if_pos h];simp [pents,h]
   · rw[decide_eq_false h] at he
     refine⟨fun h2=>?_,fun v h2=>?_⟩
     · rw[mget,if_neg h] at h2
       have:=ih.1 h2
       simp [pents,Instr.findAsking,he,this]
     · rw[mget,if_neg h] at h2
       obtain⟨n,hn,hl,hat,hm⟩:=ih.2 v h2
       refine⟨n+1,?_,by simp;omega,?_,fun u=>?_⟩
       · simp [pents,Instr.findAsking,he,hn];omega
       · simp [pents,hat];omega
       · rw[mset,if_neg h,pents,pents,← hm u];simp
theorem ck_pk (k:PK) (b:Bool) (w:World):(Instr.checkKey b 10000 152 (pk k)).run Tryz.prog w=.ok () w:=by
 obtain⟨k1,k2⟩:=k
 cases b <;> kernel_rfl
theorem fk_pk (k:PK) (es:List MapEntry) (w:World):(Instr.findKey 152 (pk k) es).run Tryz.prog w=(Instr.findAsking 152 (pk k) es).run Tryz.prog w :=
 run_findKey_eq w (by rw[Tryz.underlying152]) _ _
def lkV (o:Option Value):Value:=match o with | some v=>.tuple #[v,.bool true] | none=>.tuple #[.agg (zlit 0 ⟨#[]⟩),.bool false]
theorem lk_pk (w:World) (m n:Nat) (es:List (PK × Value)) (k:PK) (hb:w.heap[m]?=some (.map (pent es) n)) :
  (Instr.lookup 149 (.map (some m)) (pk k) true).run Tryz.prog w=.ok (lkV (mget k es)) w:=by
 have hck:=fun b=>ck_pk k b w
 have hf:=fk_pk k (pents es 0) w
 have hk:=find_pk k w es 0 0
 have hz:(zeroValue 27).run Tryz.prog w=.ok (.agg (zlit 0 ⟨#[]⟩)) w:=by kernel_rfl
 cases hc:mget k es with
 | some v =>
   obtain⟨j,h1,-⟩:=hk.2 v hc
   simp [Instr.lookup,run_underlying Tryz.underlying149,MapKept.run_getObj_map hb,hck,pent,hf,h1,Result.andThen,lkV]
 | none =>
   have h1:=hk.1 hc
   simp [Instr.lookup,run_underlying Tryz.underlying149,MapKept.run_getObj_map hb,hck,pent,hf,h1,hz,Result.andThen,lkV]
theorem sb_pk (k:PK):Instr.sameBits (9999+1) (pk k) (pk k)=true:=by
 obtain⟨k1,k2⟩:=k
 unfold pk
 unfold Instr.sameBits
 simp [Instr.sameBits,MapKept.bytes_beq]
theorem kts (k:PK) (w:World):(Instr.keyThatStays (pk k) (pk k)).run Tryz.prog w=.ok (pk k) w:=by
 unfold Instr.keyThatStays
 rw[show Instr.sameBits 10000 (pk k) (pk k)=true from sb_pk k]
 rfl
theorem mu_pk (w:World) (m:Nat) (es:List (PK × Value)) (k:PK) (v:Value) (hb:w.heap[m]?=some (.map (pent es) es.length)) :
  (Instr.mapUpdate 149 (.map (some m)) (pk k) v).run Tryz.prog w=.ok () (setBlock w m (.map (pent (mput k v es)) (mput k v es).length)):=by
 have hck:=ck_pk k false w
 have hf:=fk_pk k (pents es 0) w
 have hk:=find_pk k w es 0 0
 cases hc:mget k es with
 | none =>
   have h1:=hk.1 hc
   have e:mput k v es=es++[(k,v)]:=if_pos hc
   rw[e]
   simp [Instr.mapUpdate,run_underlying Tryz.underlying149,MapKept.run_getObj_map hb,hck,pent,hf,h1,MapKept.run_setObj_map _ hb,Result.andThen,setBlock,pents_snoc]
 | some u =>
   obtain⟨n,h1,hl,hat,hm⟩:=hk.2 u hc
   have e:mput k v es=mset k v es:=if_neg (by rw[hc];simp)
   have hlen:(mset k v es).length=es.length:=by
    have:=congrArg List.length (hm v)
    rw[List.length_modify,pents_len,pents_len] at this
    exact this.symm
   rw[e,hlen]
   have hkk:=kts k
   simp [Instr.mapUpdate,run_underlying Tryz.underlying149,MapKept.run_getObj_map hb,hck,pent,hf,h1,hat,hkk,MapKept.run_setObj_map _ hb,Result.andThen,setBlock,← hm v]
variable {P:Program} {ops:Array Oper} {rest:List Oper} {o:Oper} {a:Act} {Q:Exit→Act→World→Prop}
theorem wp_mur (w w':World) (hg:o.guard=none) (m x v:Operand) (t:TypeId) (hop:o.op=Op.mapUpdate t m x v) (mv key val:Value) (hm:a.eval m=mv) (hx:a.eval x=key) (hv:a.eval v=val) (hr:(Instr.mapUpdate t mv key val).run P w=.ok () w')
  (hK:wpList P ops Q rest (a.put o.dst undef) w'):wpList P ops Q (o::rest) a w:=by
 refine wpList_plain hg fun K' hK'=>?_
 unfold Oper.wp
 simp [execOp,hop,hm,hx,hv,hr,Result.andThen]
 exact hK' _ _ hK
end Go.Proofs.YtdfdjfnfmibpjaaGreatDoor
end
section
/- Notes of changes in plain words: the program's and the reference's are one. -/
namespace Go.Proofs.YtdfdjfnfmibpjaaGreatDoor
open Go.RowKit
set_option maxHeartbeats 1600000
set_option maxRecDepth 8000
def grpOf (c:Ch) (id:Int) (nm:ByteArray):Option Fu:=match putF c with
 | some y=>if y.1.kind=1∧c.2.1=id∧y.1.name=nm then some y else none
 | none=>none
def grpS (id:Int) (nm:ByteArray) (o:Option Fu) (c:Ch):Option Fu:=match grpOf c id nm with
 | some y=>some y
 | none=>o
def ntG (done:List Ch) (id:Int) (nm:ByteArray):Option Fu:=done.foldl (grpS id nm) none
theorem ntG_snoc (done:List Ch) (c:Ch) (id:Int) (nm:ByteArray):ntG (done++[c]) id nm=grpS id nm (ntG done id nm) c:=by
 unfold ntG;rw[List.foldl_append];rfl
theorem putF_ok (c:Ch) (y:Fu) (h:putF c=some y):okX y=true:=by
 unfold putF at h
 split at h
 · cases hd:decX (Ds.bl c.2.2.2.1) with
   | none=>rw[hd] at h;cases h
   | some z =>
     rw[hd] at h
     dsimp only at h
     split at h
     · cases h;exact (decX_sound _ _ hd).1
     · cases h
 · cases h
theorem grpOf_ok (c:Ch) (id:Int) (nm:ByteArray) (g:Fu) (h:grpOf c id nm=some g):okX g=true∧g.1.kind=1∧g.1.name=nm:=by
 unfold grpOf at h
 cases hp:putF c with
 | none=>rw[hp] at h;cases h
 | some y =>
   rw[hp] at h
   dsimp only at h
   split at h
   · rename_i hc
     cases h
     exact⟨putF_ok c _ hp,hc.1,hc.2.2⟩
   · cases h
theorem ntG_fold (id:Int) (nm:ByteArray) (g:Fu):∀ (l:List Ch) (o:Option Fu),(∀ z,o=some z→okX z=true∧z.1.kind=1∧z.1.name=nm)→l.foldl (grpS id nm) o=some g→okX g=true∧g.1.kind=1∧g.1.name=nm
 | [],o,ho,h=>ho g h
 | c::l,o,ho,h=>by
   rw[List.foldl_cons] at h
   refine ntG_fold id nm g l _ (fun z hz=>?_) h
   unfold grpS at hz
   cases hg:grpOf c id nm with
   | none=>rw[hg] at hz;exact ho z hz
   | some y=>rw[hg] at hz;cases hz;exact grpOf_ok c id nm _ hg
theorem ntG_ok (done:List Ch) (id:Int) (nm:ByteArray) (g:Fu) (h:ntG done id nm=some g):okX g=true∧g.1.kind=1∧g.1.name=nm:=ntG_fold id nm g done none (fun _ h=>by cases h) h
theorem ntG_empty (done:List Ch) (id:Int):ntG done id ⟨#[]⟩=none:=by
 cases h:ntG done id ⟨#[]⟩ with
 | none=>rfl
 | some g =>
   obtain⟨h1,h2,h3⟩:=ntG_ok _ _ _ _ h
   exact absurd (by rw[h3];rfl) (name_pos g h1 h2)
def ntX (l:List Rw) (done:List Ch) (c:Ch) (y:Fu):ByteArray × Int:=match ntG done c.2.1 (splZ y.1.name) with
 | some g=>noteC y g
 | none=>noteInR l c.2.1 y
def notesX (l:List Rw):List Ch→List Ch→List Ch→List Ch × Int
 | _,[],out=>(out,0)
 | done,c::cs,out=>match putF c with
   | none=>notesX l (done++[c]) cs out
   | some y=>if y.1.kind≠0 then notesX l (done++[c]) cs out else match ntX l done c y with
     | (s,code)=>if code≠0 then ([],code) else notesX l (done++[c]) cs (out++[(7,y.1.d0,⟨#[]⟩,s,y.1.vol)])
def ntRf (l:List Rw) (done:List Ch) (c:Ch) (y:Fu):ByteArray × Int :=
 if Ds.gen (Ds.bl y.1.name)=true then (match ntG done c.2.1 (splZ y.1.name) with
  | some g=>((noteC y g).1,0)
  | none=>match getR l c.2.1 1 (splZ y.1.name) with
    | (g,code)=>if code≠0 then (⟨#[]⟩,code) else ((noteC y g).1,0))
 else ((noteC y zF0).1,0)
theorem noteC_ok (x g:Fu) (h:noteOk x g=true):noteC x g=((noteC x g).1,0):=by
 unfold noteC;rw[if_pos h]
theorem noteOk_grp (x g:Fu) (hx:okX x=true) (hk:x.1.kind=0) (hg:Ds.gen (Ds.bl x.1.name)=true) (h1:okX g=true) (h2:g.1.kind=1) (h3:Ds.bl g.1.name=Ds.splG (Ds.bl x.1.name)):noteOk x g=true:=by
 unfold noteOk fitG
 rw[hx,hk,if_pos hg,h1,h2,h3]
 simp
theorem noteOk_z (x:Fu) (hx:okX x=true) (hk:x.1.kind=0) (hg:Ds.gen (Ds.bl x.1.name)=false):noteOk x zF0=true:=by
 unfold noteOk fitG
 rw[hx,hk,if_neg (by rw[hg];simp),show noGroup zF0=true from noGroup_z]
 rfl
theorem splZ_bl (s:ByteArray):Ds.bl (splZ s)=Ds.splG (Ds.bl s):=Ds.bl_mk _
theorem gen_parts (s:List UInt8) (h:Ds.gen s=true):Ds.group (Ds.splG s)=true:=by
 unfold Ds.splG
 rw[if_pos h]
 unfold Ds.gen at h
 rw[Bool.and_eq_true] at h
 exact h.1
theorem getR_group (l:List Rw) (id:Int) (nm:ByteArray) (g:Fu) (hn:Ds.group (Ds.bl nm)=true) (h:getR l id 1 nm=(g,0)):okX g=true∧g.1.kind=1∧Ds.bl g.1.name=Ds.bl nm:=by
 obtain⟨n1,n2,-⟩:=(Ds.group_parts _).1 hn
 have hl:(Ds.bl nm).length≤31:=by omega
 have n32:=Ek.name_no32 _ n1
 have hkey:=keyZ_bl 1 nm
 rw[Ek.key_yes 1 _ (by omega) hl] at hkey
 unfold getR getF at h
 split at h
 · cases h
 rw[if_neg (by decide)] at h
 split at h
 · cases h
 · rename_i s hs
   have h':readF (keyZ 1 nm) s=(g,0):=h
   unfold readF at h'
   cases hd:decX (Ds.bl s) with
   | none=>rw[hd] at h';cases h'
   | some y =>
     rw[hd] at h'
     dsimp only at h'
     split at h'
     · rename_i hk
       cases h'
       have ho:=(decX_sound _ _ hd).1
       obtain⟨k1,k2⟩:=keyX_name g ho
       rw[k1,hkey] at hk
       injection hk with e1 e2
       have e3:g.1.kind=1:=Ek.letter_inj _ _ (okX_kind _ ho) (by omega) e1
       refine⟨ho,e3,?_⟩
       rw[← k2,e2,Ek.trim_pad _ n32]
     · cases h'
theorem ntX_ref (l:List Rw) (done:List Ch) (c:Ch) (y:Fu) (hy:okX y=true) (hk:y.1.kind=0):ntX l done c y=ntRf l done c y:=by
 unfold ntX ntRf noteInR
 cases hg:Ds.gen (Ds.bl y.1.name)
 · have e:splZ y.1.name=⟨#[]⟩:=Ds.bl_inj (by rw[splZ_bl];unfold Ds.splG;rw[hg];rfl)
   rw[e,ntG_empty,if_neg (by simp),if_neg (by simp)]
   exact noteC_ok _ _ (noteOk_z y hy hk hg)
 · rw[if_pos rfl,if_pos rfl]
   cases hn:ntG done c.2.1 (splZ y.1.name) with
   | some g =>
     obtain⟨h1,h2,h3⟩:=ntG_ok _ _ _ _ hn
     exact noteC_ok _ _ (noteOk_grp y g hy hk hg h1 h2 (by rw[h3,splZ_bl]))
   | none =>
     dsimp only
     cases hr:getR l c.2.1 1 (splZ y.1.name) with
     | mk g code =>
       dsimp only
       by_cases h0:code=0
       · rw[if_neg (fun h=>h h0),if_neg (fun h=>h h0)]
         subst h0
         obtain⟨h1,h2,h3⟩:=getR_group l _ _ g (by rw[splZ_bl];exact gen_parts _ hg) hr
         exact noteC_ok _ _ (noteOk_grp y g hy hk hg h1 h2 (by rw[h3,splZ_bl]))
       · rw[if_pos h0,if_pos h0]
theorem notesX_skip {l:List Rw} {done cs out:List Ch} {c:Ch} (h:putF c=none):notesX l done (c::cs) out=notesX l (done++[c]) cs out:=by
 rw[notesX,h]
theorem notesX_kind {l:List Rw} {done cs out:List Ch} {c:Ch} {y:Fu} (h:putF c=some y) (hk:y.1.kind≠0):notesX l done (c::cs) out=notesX l (done++[c]) cs out:=by
 rw[notesX,h]
 exact if_pos hk
theorem notesX_bad {l:List Rw} {done cs out:List Ch} {c:Ch} {y:Fu} {s:ByteArray} {code:Int} (h:putF c=some y) (hk:y.1.kind=0) (hn:ntX l done c y=(s,code)) (h0:code≠0):notesX l done (c::cs) out=([],code):=by
 rw[notesX,h]
 dsimp only
 rw[if_neg (fun h=>h hk),hn]
 exact if_pos h0
theorem notesX_one {l:List Rw} {done cs out:List Ch} {c:Ch} {y:Fu} {s:ByteArray} (h:putF c=some y) (hk:y.1.kind=0) (hn:ntX l done c y=(s,0)):notesX l done (c::cs) out=notesX l (done++[c]) cs (out++[(7,y.1.d0,⟨#[]⟩,s,y.1.vol)]):=by
 rw[notesX,h]
 dsimp only
 rw[if_neg (fun h=>h hk),hn]
 rfl
end Go.Proofs.YtdfdjfnfmibpjaaGreatDoor
end
section
/- Lists of changes in memory; Changes of the reference of chapter 35 at two equal lists. -/
namespace Go.Proofs.YtdfdjfnfmibpjaaGreatDoor
open Go.RowKit
set_option maxHeartbeats 4000000
set_option maxRecDepth 8000
def ch5 (c:Ch):Array Value:=#[.int .i64 c.1,.int .i64 c.2.1,.string c.2.2.1,.string c.2.2.2.1,.string c.2.2.2.2]
def cv:List Ch→List Value
 | []=>[]
 | c::l=>(ch5 c).toList++cv l
theorem cv_one:∀ (l:List Ch),∀ u∈cv l,u.oneCell'=true
 | [],u,h=>by cases h
 | c::r,u,h=>by
   rw[cv,List.mem_append] at h
   rcases h with h | h
   · simp only[ch5,List.mem_cons,List.not_mem_nil,or_false] at h
     rcases h with rfl | rfl | rfl | rfl | rfl <;> rfl
   · exact cv_one r u h
theorem cv_app:∀ (l m:List Ch),cv (l++m)=cv l++cv m
 | [],m=>rfl
 | x::r,m=>by rw[List.cons_append,cv,cv,cv_app r m,List.append_assoc]
theorem cv_get:∀ (l:List Ch) (k:Nat) (h:k<l.length),∀ i v,(ch5 l[k])[i]?=some v→(cv l)[k*5+i]?=some v
 | x::r,0,_,i,v,hv=>by
   have hi:i<5:=(Array.getElem?_eq_some_iff.1 hv).1
   rw[cv,Nat.zero_mul,Nat.zero_add,List.getElem?_append_left (by show i<5;exact hi)]
   simpa using hv
 | x::r,k+1,h,i,v,hv=>by
   have:=cv_get r k (by simpa using h) i v hv
   rw[cv,List.getElem?_append_right (by show 5≤_;omega),← this]
   congr 1
   show _ - 5=_
   omega
def ChS (w:World) (v:Value) (l:List Ch):Prop :=
 ∃ a c,v=.slice a l.length c∧l.length≤1000000∧(0<l.length→∃ b o,a=some ⟨b,o,none⟩∧b<w.heap.size∧∀ k (h:k<l.length) i u,(ch5 l[k])[i]?=some u→w.cell? ⟨b,o+k*5+i,none⟩=some u)
theorem ChS.below {w w':World} {v:Value} {l:List Ch} (h:ChS w v l) (hb:Below w.heap.size w w'):ChS w' v l:=by
 obtain⟨a,c,h1,h2,h3⟩:=h
 refine⟨a,c,h1,h2,fun h0=>?_⟩
 obtain⟨b,o,ha,hlt,hc⟩:=h3 h0
 exact⟨b,o,ha,Nat.lt_of_lt_of_le hlt hb.size,fun k hk i u hu=>(hb.cell (p:=⟨b,o+k*5+i,none⟩) hlt).trans (hc k hk i u hu)⟩
theorem chs_of_cells {w:World} {v:Value} {l:List Ch} (hz:l.length≤1000000) (h:CS w 5 v l.length (cv l)):ChS w v l:=by
 obtain⟨a,c,rfl,hl,hc⟩:=h
 refine⟨a,c,rfl,hz,fun h0=>?_⟩
 obtain⟨⟨b,o,s⟩,rfl,p⟩:=hc h0
 have p0:=p 0 _ (cv_get l 0 h0 0 _ rfl)
 obtain rfl:s=none:=by
  have:=World.cell?_spot p0
  simpa [Addr.add] using this
 refine⟨b,o,rfl,block_lt_of_cell (by simpa [Addr.add] using p0:w.cell? ⟨b,o,none⟩=_),fun k hk i u hu=>?_⟩
 have r:=p _ _ (cv_get l k hk i u hu)
 rw[Addr.add_lit] at r
 rw[Nat.add_assoc]
 exact r
theorem cg_i:Tryz.prog.info? 71=some ((Tryz.prog.info? 71).getD default):=by kernel_rfl
theorem cg_i0:((Tryz.prog.info? 71).getD default).zero=some (.agg #[.int .i64 0,.int .i64 0,.string ⟨#[]⟩,.string ⟨#[]⟩,.string ⟨#[]⟩]):=by kernel_rfl
theorem cg_i1:((Tryz.prog.info? 71).getD default).size=5:=by kernel_rfl
theorem cg_i2:((Tryz.prog.info? 71).getD default).bytes=64:=by kernel_rfl
theorem cs_ch1 (W:World) (x:Ch) (t:TypeId) (k:Nat) (hk:k=W.heap.size):CS (W.alloc (.cells (ch5 x) t)) 5 (.slice (some ⟨k,0,none⟩) 1 1) 1 (cv [x]):=by
 subst hk
 refine⟨_,_,rfl,rfl,fun _=>⟨_,rfl,fun j u hu=>?_⟩⟩
 rw[Addr.add_lit,Nat.zero_add,cell_of_row _ W.heap.size j _ t (0,0) (heap_alloc_new W _)]
 have:cv [x]=(ch5 x).toList:=List.append_nil _
 rw[this] at hu
 simpa using hu
end Go.Proofs.YtdfdjfnfmibpjaaGreatDoor
end
section
/- Contract of package rebuild: Notes. -/
namespace Go.Proofs.YtdfdjfnfmibpjaaGreatDoor
open Go.RowKit
open Go.ChangeMaps (setBlock)
set_option maxHeartbeats 16000000
set_option maxRecDepth 8000
set_option linter.unusedSimpArgs false
theorem is_any0 (W:World) (a:Option Addr) (c:Nat):IS W (.slice a 0 c) []:=⟨a,c,rfl,by simp,fun h=>by simp at h⟩
theorem gs_any0 (W:World) (a:Option Addr) (c:Nat):GS W (.slice a 0 c) []:=⟨a,c,rfl,by simp,fun h=>by simp at h⟩
theorem noteInF_ca (l:List Rw) (fl cd ca id:Int) (x:Fu):ca≤(noteInF l fl cd ca id x).2∧(noteInF l fl cd ca id x).2≤ca+1:=by
 unfold noteInF
 split
 · have h:=getF_ca l fl cd ca id 1 (splZ x.1.name)
   generalize getF l fl cd ca id 1 (splZ x.1.name)=g at h
   obtain⟨⟨y,c⟩,cb⟩:=g
   dsimp only at h ⊢
   split <;> exact h
 · exact⟨Int.le_refl _,by show ca≤ca+1;omega⟩
theorem group_lists (y:Fu) (h:okX y=true) (hk:y.1.kind=1):y.2.1=[]∧y.2.2=[]:=by
 obtain⟨e,l,g⟩:=y
 dsimp only at hk ⊢
 unfold okX at h
 dsimp only at h
 rw[if_neg (by omega),if_pos hk] at h
 unfold okG at h
 simp only[Bool.and_eq_true] at h
 obtain⟨-,q2,q3⟩:=(sameE_eq _ _ _ _ _ _).1 h.2
 exact⟨q2.symm,q3.symm⟩
def GV (o:Option Value) (g:Option Fu):Prop:=match o,g with
 | none,none=>True
 | some v,some y=>okX y=true∧y.1.kind=1∧∃ a1 c1 a2 c2,v=.agg (y.1.vals (.slice a1 0 c1) (.slice a2 0 c2))
 | _,_=>False
def GM (es:List (PK × Value)) (done:List Ch):Prop:=∀ id nm,GV (mget (id,nm) es) (ntG done id nm)
theorem GM.start:GM [] []:=fun _ _=>trivial
theorem GM.same {es:List (PK × Value)} {done:List Ch} (h:GM es done) (c:Ch) (hc:∀ id nm,grpOf c id nm=none):GM es (done++[c]):=fun id nm=>by
 rw[ntG_snoc];unfold grpS;rw[hc];exact h id nm
theorem GM.put {es:List (PK × Value)} {done:List Ch} (h:GM es done) (c:Ch) (y:Fu) (hp:putF c=some y) (hk:y.1.kind=1) (a1:Option Addr) (c1:Nat) (a2:Option Addr) (c2:Nat):GM (mput (c.2.1,y.1.name) (.agg (y.1.vals (.slice a1 0 c1) (.slice a2 0 c2))) es) (done++[c]):=fun id nm=>by
 rw[ntG_snoc,mget_put]
 unfold grpS grpOf
 rw[hp]
 dsimp only
 by_cases e:(id,nm)=(c.2.1,y.1.name)
 · rw[if_pos e]
   injection e with e1 e2
   rw[if_pos ⟨hk,e1.symm,e2.symm⟩]
   exact⟨putF_ok c y hp,hk,a1,c1,a2,c2,rfl⟩
 · rw[if_neg e,if_neg (fun q=>e (by rw[q.2.1,q.2.2]))]
   exact h id nm
theorem grpOf_no {c:Ch} (h:putF c=none) (id:Int) (nm:ByteArray):grpOf c id nm=none:=by unfold grpOf;rw[h]
theorem grpOf_kind {c:Ch} {y:Fu} (h:putF c=some y) (hk:y.1.kind≠1) (id:Int) (nm:ByteArray):grpOf c id nm=none:=by
 unfold grpOf;rw[h];exact if_neg (fun q=>hk q.1)
structure NSt (w0 w wr:World) (p:Nat) (sv:Value) (l:List Rw) (fl cd c:Int) (es:List (PK × Value)) (ov:Value) (out:List Ch):Prop where
 own:wr.ownsRow (w.heap.size+1) 71 5 ov out.length (cv out)
 sh:SHs w0 wr p sv l fl cd c
 g:w.grownBy wr (some p)
 m:wr.heap[w.heap.size]?=some (.map (pent es) es.length)
theorem NSt.below {w0 w wr w':World} {p:Nat} {sv:Value} {l:List Rw} {fl cd c:Int} {es:List (PK × Value)} {ov:Value} {out:List Ch} (h:NSt w0 w wr p sv l fl cd c es ov out) (hb:Below wr.heap.size wr w'):NSt w0 w w' p sv l fl cd c es ov out :=
 ⟨own_keep h.own (fun x hx=>hb.block x (own_base h.own x hx).2),h.sh.below hb,grown_bel h.g (hb.mono h.g.size),(hb.block _ (Array.getElem?_eq_some_iff.1 h.m).1).trans h.m⟩
theorem NSt.tick {w0 w wr w':World} {p:Nat} {sv:Value} {l:List Rw} {fl cd c c':Int} {es:List (PK × Value)} {ov:Value} {out:List Ch} (h:NSt w0 w wr p sv l fl cd c es ov out) (hp:p<w.heap.size) (hg:wr.grownBy w' (some p)) (hs:SHs w0 w' p sv l fl cd c'):NSt w0 w w' p sv l fl cd c' es ov out :=
 ⟨own_keep h.own (fun x hx=>hg.block x (own_base h.own x hx).2 (fun e=>by have:=Option.some.inj e;have:=(own_base h.own x hx).1;omega)),hs,grown_tr h.g hg,(hg.block _ (Array.getElem?_eq_some_iff.1 h.m).1 (fun e=>by have:=Option.some.inj e;omega)).trans h.m⟩
theorem NSt.upd {w0 w wr:World} {p:Nat} {sv:Value} {l:List Rw} {fl cd c ca:Int} {es es':List (PK × Value)} {ov:Value} {out:List Ch} (h:NSt w0 w wr p sv l fl cd c es ov out) (hS:SHs w0 w p sv l fl cd ca):NSt w0 w (setBlock wr w.heap.size (.map (pent es') es'.length)) p sv l fl cd c es' ov out:=by
 have hlt:=(Array.getElem?_eq_some_iff.1 h.m).1
 have hb:Below w.heap.size wr (setBlock wr w.heap.size (.map (pent es') es'.length)):=setBlock_below (Below.refl _ _) (Nat.le_refl _) _
 exact⟨own_keep h.own (fun x hx=>setBlock_other _ _ _ _ (by have:=(own_base h.own x hx).1;omega)),h.sh.belowB hb hS.pl (fun hl b hb=>rws_own_lt hS.r hl b hb),grown_bel h.g hb,setBlock_heap _ _ _ hlt⟩
theorem NSt.app {w0 w wr w':World} {p:Nat} {sv:Value} {l:List Rw} {fl cd c ca:Int} {es:List (PK × Value)} {ov ov':Value} {out out':List Ch} (h:NSt w0 w wr p sv l fl cd c es ov out) (hS:SHs w0 w p sv l fl cd ca) (ho:w'.ownsRow (w.heap.size+1) 71 5 ov' out'.length (cv out')) (hg:wr.grownBy w' ov.ownBlock):NSt w0 w w' p sv l fl cd c es ov' out':=by
 have hb:Below w.heap.size wr w':=grown_keep hg (fun q hq=>by have h2:=(own_base h.own q hq).1;omega) h.g.size
 exact⟨ho,h.sh.belowB hb hS.pl (fun hl b hb=>rws_own_lt hS.r hl b hb),grown_bel h.g hb,(hg.block _ (Array.getElem?_eq_some_iff.1 h.m).1 (fun e=>by have:=(own_base h.own _ e.symm).1;omega)).trans h.m⟩
attribute [local go_sem ↓] ldEnt stEnt stEntRow bldEnt
attribute [local go_sem] Held_drew isHead_mk headOf_mk offOf_mk isPtr_mk cellsOfV_mk isAggV_mk row_new row_new2 row_new2' row_drew row_drewN vals_size allOne_nil allOne_cons one_int one_bool one_string one_pointer one_slice one_func vals_0 vals_1
theorem re_notes (p:Nat) (sv:Value) (l:List Rw) (fl cd ca:Int) (v:Value) (cs:List Ch) (w0 w:World) (hm:MaxL w0) (hT:Tab w0) (hS:SHs w0 w p sv l fl cd ca) (hf:fl≤0) (hc0:0≤ca) (hc1:ca≤1000) (hcs:cs.length≤1000) (hC:ChS w0 v cs) :
  Calls Tryz.prog 43 #[.iface 45 (.pointer (some ⟨p,0,none⟩)),v] w fun r w'=>∃ ov,r=.returned (.tuple #[ov,.int .i64 (notesX l [] cs []).2])∧w'.ownsRow (w.heap.size+1) 71 5 ov (notesX l [] cs []).1.length (cv (notesX l [] cs []).1)∧w.grownBy w' (some p):=by
 have HS:=Lib.hid hS
 have hpl:=hS.pl
 obtain⟨R,hR⟩:∃ R,notesX l [] cs []=R:=⟨_,rfl⟩
 rw[hR]
 have HR:=Lib.hid hR
 have hmk:=run_makeMap (P:=Tryz.prog) 149 w
 obtain⟨va0,vc0,rfl,hz,hcell⟩:=hC
 have HC:=Lib.hid hcell
 have HPUT:=Lib.hid (fun k id key rec vol W (b:Below w0.heap.size w0 W)=>pe_put k id key rec vol W (hm.below b) (hT.below b))
 have HGRP:=Lib.hid (fun s W hs (b:Below w0.heap.size w0 W)=>nw_group s W hs (hm.below b))
 have HNOTE:=Lib.hid (fun x g al gr al2 gr2 W hx hg i1 i2 i3 i4 (b:Below w0.heap.size w0 W)=>re_noteC x g al gr al2 gr2 W (hm.below b) (hT.below b) hx hg i1 i2 i3 i4)
 have HIN:=Lib.hid (fun c id x al gr W h h0 h1 hx i1 i2 o1 o2=>nt_in p sv l fl cd c id x al gr w0 W hm hT h h0 h1 (Or.inr hf) hx i1 i2 o1 o2)
 clear hR hcell hm hT hS
 go_enter Tryz.func43,Tryz.ntmps43
 go_wp2_with fail
 go_loopw [7,21] (fun ov i wr=>∃ (k:Nat) (c:Int) (es:List (PK × Value)) (out:List Ch),k≤cs.length∧i=.int .i64 k∧0≤c∧c≤ca+k∧out.length≤k∧Hid (notesX l (cs.take k) (cs.drop k) out=R)∧Hid (GM es (cs.take k))∧NSt w0 w wr p sv l fl cd c es ov out) (fun _ i _=>cs.length - (intOf i).toNat)
 case atStart =>
  exact⟨0,ca,[],[],Nat.zero_le _,rfl,hc0,by omega,by simp,HR,Lib.hid GM.start,⟨World.ownsRow_nil _ _ _ _,HS.out.below (below_al' _ _),grown_of_below _ (below_al' _ _),heap_alloc_new w _⟩⟩
 case round =>
  obtain⟨k,c,es,out,hk,rfl,h0,h1,ho,HH,HG,hN⟩:=hrel
  obtain⟨va,vc,rfl⟩:=owns_sl hN.own
  have HN:=Lib.hid hN
  have hzr:=hN.g.size
  clear hN
  by_cases hlt:k<cs.length
  rotate_left
  · obtain rfl:k=cs.length:=by omega
    have hfin:=HH.out
    rw[List.drop_length] at hfin
    have hfin:(out,0)=R:=hfin
    subst hfin
    go_wp2_with fail
    go_ret2
    exact⟨_,rfl,HN.out.own,HN.out.g⟩
  obtain⟨b,o,rfl,hb,hcell⟩:=HC.out (by omega)
  have hd:cs.drop k=cs[k]::cs.drop (k+1):=List.drop_eq_getElem_cons hlt
  have ht:cs.take (k+1)=cs.take k++[cs[k]]:=List.take_succ_eq_append_getElem hlt
  have hcl:=fun i u hu=>(HN.out.sh.b.cell (p:=⟨b,o+k*5+i,none⟩) hb).trans (hcell k hlt i u hu)
  have hstep:=HH.out
  rw[hd] at hstep
  generalize cs[k]=ck at hstep ht hcl
  obtain⟨q0,q1,q2,q3,q4⟩:=ck
  have p0:wr.cell? ⟨b,o+k*5,none⟩=some (.int .i64 q0):=hcl 0 _ rfl
  have p1:wr.cell? ⟨b,o+k*5+1,none⟩=some (.int .i64 q1):=hcl 1 _ rfl
  have p2:wr.cell? ⟨b,o+k*5+2,none⟩=some (.string q2):=hcl 2 _ rfl
  have p3:wr.cell? ⟨b,o+k*5+3,none⟩=some (.string q3):=hcl 3 _ rfl
  have p4:wr.cell? ⟨b,o+k*5+4,none⟩=some (.string q4):=hcl 4 _ rfl
  clear hcl hcell hd HH
  have i1:(0:Int)≤(k:Int):=by omega
  have i2:(k:Int)<(cs.length:Int):=by omega
  cases hp:putF (q0,q1,q2,q3,q4) with
  | none =>
    rw[notesX_skip hp,← ht] at hstep
    have HST:=Lib.hid hstep
    have HGM:Hid (GM es (cs.take (k+1))):=Lib.hid (by rw[ht];exact HG.out.same _ (grpOf_no hp))
    clear hstep ht
    go_wp2_with (go_at_call 111;(refine (HPUT.out q0 q1 q2 q3 q4 _ (HN.out.sh.below (below_al' _ _)).b).mono ?_);rintro _ w2 ⟨x,al,gr,bb,rfl,hI,hGs,hb2,hc,hf1,hf2⟩;obtain rfl:bb=false:=(by rcases hc with ⟨h,-⟩ | ⟨-,h⟩;exact absurd (h.symm.trans hp) (by simp);exact h);have hone:=vals_one x.1 al gr (is_one hI) (gs_one hGs);have N2:=Lib.hid (((HN.out.below (below_al' wr (.cells #[.int .i64 q0,.int .i64 q1,.string q2,.string q3,.string q4] 71))).below hb2).below (below_al' w2 (.cells (x.1.vals al gr) 27)));have R2:=row_new w2 (x.1.vals al gr) 27 (0,0);have M0:=cell_row R2 0 _ (vals_0 _ _ _);have M1:=cell_row R2 1 _ (vals_1 _ _ _);have C2:=row_below (below_al' w2 (.cells (x.1.vals al gr) 27)) (row_below hb2 (row_new wr #[.int .i64 q0,.int .i64 q1,.string q2,.string q3,.string q4] 71 (0,0)) (by show 0<5;omega)) (by show 0<5;omega);have K1:=cell_row C2 1 _ rfl;have z2:wr.heap.size+1≤w2.heap.size:=(by have:=hb2.size;simpa using this);have HI:=Lib.hid hI;have HGS:=Lib.hid hGs;have HF1:=Lib.hid hf1;have HF2:=Lib.hid hf2;clear hI hGs hb2 hc hf1 hf2)
    go_roundw
    case rel=>exact⟨k+1,c,es,out,by omega,by go_num,by omega,by omega,by omega,HST,HGM,N2.out⟩
    case measure=>simp [intOf];omega
  | some y =>
    have hok:=putF_ok _ y hp
    by_cases hk1:y.1.kind=1
    · rw[notesX_kind hp (by omega),← ht] at hstep
      have HST:=Lib.hid hstep
      obtain⟨gl1,gl2⟩:=group_lists y hok hk1
      have t1:(y.1.kind==1)=true:=by rw[hk1];rfl
      have t2:(y.1.kind != 0)=true:=by rw[hk1];rfl
      have HGP:=Lib.hid (fun a1 c1 a2 c2=>HG.out.put _ y hp hk1 a1 c1 a2 c2)
      rw[← ht] at HGP
      clear hstep ht
      go_wp2_with (first | (go_at_call 111;(refine (HPUT.out q0 q1 q2 q3 q4 _ (HN.out.sh.below (below_al' _ _)).b).mono ?_);rintro _ w2 ⟨x,al,gr,bb,rfl,hI,hGs,hb2,hc,hf1,hf2⟩;obtain⟨rfl,rfl⟩:x=y∧bb=true:=(by rcases hc with ⟨h,h2⟩ | ⟨h,-⟩;exact⟨Option.some.inj (h.symm.trans hp),h2⟩;exact absurd (h.symm.trans hp) (by simp));rw[gl1] at hI;rw[gl2] at hGs;obtain⟨a1,c1,rfl,-,-⟩:=hI;obtain⟨a2,c2,rfl,-,-⟩:=hGs;have hone:=vals_one x.1 (.slice a1 0 c1) (.slice a2 0 c2) (rfl) (rfl);have N2:=Lib.hid (((HN.out.below (below_al' wr (.cells #[.int .i64 q0,.int .i64 q1,.string q2,.string q3,.string q4] 71))).below hb2).below (below_al' w2 (.cells (x.1.vals (.slice a1 0 c1) (.slice a2 0 c2)) 27)));have R2:=row_new w2 (x.1.vals (.slice a1 0 c1) (.slice a2 0 c2)) 27 (0,0);have M0:=cell_row R2 0 _ (vals_0 _ _ _);have M1:=cell_row R2 1 _ (vals_1 _ _ _);have C2:=row_below (below_al' w2 (.cells (x.1.vals (.slice a1 0 c1) (.slice a2 0 c2)) 27)) (row_below hb2 (row_new wr #[.int .i64 q0,.int .i64 q1,.string q2,.string q3,.string q4] 71 (0,0)) (by show 0<5;omega)) (by show 0<5;omega);have K1:=cell_row C2 1 _ rfl;have z2:wr.heap.size+1≤w2.heap.size:=(by have:=hb2.size;simpa using this);have HF1:=Lib.hid hf1;have HF2:=Lib.hid hf2;clear hb2 hc hf1 hf2) | (at_mapUpdate;refine wp_mur _ _ rfl _ _ _ 149 rfl (.map (some w.heap.size)) (pk (q1,x.1.name)) (.agg (x.1.vals (.slice a1 0 c1) (.slice a2 0 c2))) rfl rfl rfl (mu_pk _ w.heap.size es (q1,x.1.name) _ N2.out.m) ?_;have N5:=Lib.hid (N2.out.upd (es':=mput (q1,x.1.name) (.agg (x.1.vals (.slice a1 0 c1) (.slice a2 0 c2))) es) HS.out);have R5:row (setBlock (w2.alloc (.cells (x.1.vals (.slice a1 0 c1) (.slice a2 0 c2)) 27)) w.heap.size (.map (pent (mput (q1,x.1.name) (.agg (x.1.vals (.slice a1 0 c1) (.slice a2 0 c2))) es)) (mput (q1,x.1.name) (.agg (x.1.vals (.slice a1 0 c1) (.slice a2 0 c2))) es).length)) w2.heap.size=x.1.vals (.slice a1 0 c1) (.slice a2 0 c2):=(by unfold row at R2 ⊢;rw[setBlock_other _ _ _ _ (by omega)];exact R2);have M5:=cell_row R5 0 _ (vals_0 _ _ _)))
      have HGM:=Lib.hid (HGP.out a1 c1 a2 c2)
      go_roundw
      case rel=>exact⟨k+1,c,_,out,by omega,by go_num,by omega,by omega,by omega,HST,HGM,N5.out⟩
      case measure=>simp [intOf];omega
    by_cases hk0:y.1.kind=0
    rotate_left
    · rw[notesX_kind hp hk0,← ht] at hstep
      have HST:=Lib.hid hstep
      have t1:(y.1.kind==1)=false:=by rw[beq_eq_false_iff_ne];exact hk1
      have t2:(y.1.kind != 0)=true:=by rw[bne_iff_ne];exact hk0
      have HGM:Hid (GM es (cs.take (k+1))):=Lib.hid (by rw[ht];exact HG.out.same _ (grpOf_kind hp hk1))
      clear hstep ht
      go_wp2_with (go_at_call 111;(refine (HPUT.out q0 q1 q2 q3 q4 _ (HN.out.sh.below (below_al' _ _)).b).mono ?_);rintro _ w2 ⟨x,al,gr,bb,rfl,hI,hGs,hb2,hc,hf1,hf2⟩;obtain⟨rfl,rfl⟩:x=y∧bb=true:=(by rcases hc with ⟨h,h2⟩ | ⟨h,-⟩;exact⟨Option.some.inj (h.symm.trans hp),h2⟩;exact absurd (h.symm.trans hp) (by simp));have hone:=vals_one x.1 al gr (is_one hI) (gs_one hGs);have N2:=Lib.hid (((HN.out.below (below_al' wr (.cells #[.int .i64 q0,.int .i64 q1,.string q2,.string q3,.string q4] 71))).below hb2).below (below_al' w2 (.cells (x.1.vals al gr) 27)));have R2:=row_new w2 (x.1.vals al gr) 27 (0,0);have M0:=cell_row R2 0 _ (vals_0 _ _ _);have M1:=cell_row R2 1 _ (vals_1 _ _ _);have C2:=row_below (below_al' w2 (.cells (x.1.vals al gr) 27)) (row_below hb2 (row_new wr #[.int .i64 q0,.int .i64 q1,.string q2,.string q3,.string q4] 71 (0,0)) (by show 0<5;omega)) (by show 0<5;omega);have K1:=cell_row C2 1 _ rfl;have z2:wr.heap.size+1≤w2.heap.size:=(by have:=hb2.size;simpa using this);have HI:=Lib.hid hI;have HGS:=Lib.hid hGs;have HF1:=Lib.hid hf1;have HF2:=Lib.hid hf2;clear hI hGs hb2 hc hf1 hf2)
      go_roundw
      case rel=>exact⟨k+1,c,es,out,by omega,by go_num,by omega,by omega,by omega,HST,HGM,N2.out⟩
      case measure=>simp [intOf];omega
    have t1:(y.1.kind==1)=false:=by rw[hk0];rfl
    have t2:(y.1.kind != 0)=false:=by rw[hk0];rfl
    have HGM:Hid (GM es (cs.take (k+1))):=Lib.hid (by rw[ht];exact HG.out.same _ (grpOf_kind hp hk1))
    have hnm:y.1.name.size≤60:=by have:=(okX_name y hok).1;rw[Ds.bl_length] at this;omega
    have hg1:=fun W b=>HGRP.out y.1.name W (Nat.le_trans hnm (by decide)) b
    have hgm:=HG.out q1 (splZ y.1.name)
    have hnx:ntX l (cs.take k) (q0,q1,q2,q3,q4) y=match ntG (cs.take k) q1 (splZ y.1.name) with | some g=>noteC y g | none=>noteInR l q1 y:=rfl
    unfold splZ at hgm hnx
    generalize (⟨(Ds.splG (Ds.bl y.1.name)).toArray⟩:ByteArray)=sg at hg1 hgm hnx
    have HG1:=Lib.hid hg1
    clear hg1 hk1
    have hlk:=fun W h=>lk_pk W w.heap.size es.length es (q1,sg) h
    cases hn:ntG (cs.take k) q1 sg with
    | some g =>
      rw[hn] at hgm hnx
      cases hmg:mget (q1,sg) es with
      | none=>rw[hmg] at hgm;exact hgm.elim
      | some gv =>
        rw[hmg] at hgm hlk
        obtain⟨go1,go2,a1,c1,a2,c2,rfl⟩:=hgm
        obtain⟨gl1,gl2⟩:=group_lists g go1 go2
        have hgn:g.1.name.size≤1000:=by have:=(okX_name g go1).1;rw[Ds.bl_length] at this;omega
        have HLK:=Lib.hid (show ∀ W,W.heap[w.heap.size]?=some (.map (pent es) es.length)→(Instr.lookup 149 (.map (some w.heap.size)) (pk (q1,sg)) true).run Tryz.prog W=.ok (.tuple #[.agg (g.1.vals (.slice a1 0 c1) (.slice a2 0 c2)),.bool true]) W from hlk)
        have gone:=vals_one g.1 (.slice a1 0 c1) (.slice a2 0 c2) rfl rfl
        have HNN:=Lib.hid (fun al gr W i1 i2 b=>HNOTE.out y g al gr (.slice a1 0 c1) (.slice a2 0 c2) W (Nat.le_trans hnm (by decide)) hgn i1 i2 (by rw[gl1];exact is_any0 _ _ _) (by rw[gl2];exact gs_any0 _ _ _) b)
        replace hnx:ntX l (cs.take k) (q0,q1,q2,q3,q4) y=noteC y g:=hnx
        clear hlk hmg hn
        generalize noteC y g=nc at HNN hnx
        obtain⟨ns,nc⟩:=nc
        dsimp only at hnx HNN
        by_cases hn0:nc=0
        · subst hn0
          rw[notesX_one hp hk0 hnx,← ht] at hstep
          have HST:=Lib.hid hstep
          clear hstep ht hk0
          go_wp2_with (first | (go_at_call 111;(refine (HPUT.out q0 q1 q2 q3 q4 _ (HN.out.sh.below (below_al' _ _)).b).mono ?_);rintro _ w2 ⟨x,al,gr,bb,rfl,hI,hGs,hb2,hc,hf1,hf2⟩;obtain⟨rfl,rfl⟩:x=y∧bb=true:=(by rcases hc with ⟨h,h2⟩ | ⟨h,-⟩;exact⟨Option.some.inj (h.symm.trans hp),h2⟩;exact absurd (h.symm.trans hp) (by simp));have hone:=vals_one x.1 al gr (is_one hI) (gs_one hGs);have N2:=Lib.hid (((HN.out.below (below_al' wr (.cells #[.int .i64 q0,.int .i64 q1,.string q2,.string q3,.string q4] 71))).below hb2).below (below_al' w2 (.cells (x.1.vals al gr) 27)));have R2:=row_new w2 (x.1.vals al gr) 27 (0,0);have M0:=cell_row R2 0 _ (vals_0 _ _ _);have M1:=cell_row R2 1 _ (vals_1 _ _ _);have C2:=row_below (below_al' w2 (.cells (x.1.vals al gr) 27)) (row_below hb2 (row_new wr #[.int .i64 q0,.int .i64 q1,.string q2,.string q3,.string q4] 71 (0,0)) (by show 0<5;omega)) (by show 0<5;omega);have K1:=cell_row C2 1 _ rfl;have z2:wr.heap.size+1≤w2.heap.size:=(by have:=hb2.size;simpa using this);have HI:=Lib.hid hI;have HGS:=Lib.hid hGs;have HF1:=Lib.hid hf1;have HF2:=Lib.hid hf2;clear hI hGs hb2 hc hf1 hf2) | (go_at_call 112;(refine (HG1.out _ N2.out.sh.b).mono ?_);rintro _ w3 ⟨rfl,hb3⟩;have N3:=Lib.hid (N2.out.below hb3);have R3:=row_below hb3 R2 (by rw[vals_size];decide);have C3:=row_below hb3 C2 (by show 0<5;omega);have K3:=cell_row C3 1 _ rfl;have z3:w2.heap.size+1≤w3.heap.size:=(by have:=hb3.size;simpa using this);have B3:=Lib.hid (bt (below_al' w2 (.cells (x.1.vals al gr) 27)) hb3);clear hb3) | (at_lookup;refine wp_lk _ rfl _ _ 149 true rfl (.tuple #[.agg (g.1.vals (.slice a1 0 c1) (.slice a2 0 c2)),.bool true]) (.map (some w.heap.size)) (pk (q1,sg)) rfl rfl (HLK.out w3 N3.out.m) ?_;have N4:=Lib.hid (N3.out.below (below_al' w3 (.cells (g.1.vals (.slice a1 0 c1) (.slice a2 0 c2)) 27)));have R4:=row_below (below_al' w3 (.cells (g.1.vals (.slice a1 0 c1) (.slice a2 0 c2)) 27)) R3 (by rw[vals_size];decide);have C4:=row_below (below_al' w3 (.cells (g.1.vals (.slice a1 0 c1) (.slice a2 0 c2)) 27)) C3 (by show 0<5;omega);have K4:=cell_row C4 1 _ rfl;have RG:=row_new w3 (g.1.vals (.slice a1 0 c1) (.slice a2 0 c2)) 27 (0,0)) | (go_at_call 104;(refine (HNN.out al gr _ (HI.out.below (bt B3.out (below_al' _ _))) (HGS.out.below (bt B3.out (below_al' _ _))) N4.out.sh.b).mono ?_);rintro _ w5 ⟨rfl,hb5⟩;have N5:=Lib.hid (N4.out.below hb5);have R5:=row_below hb5 R4 (by rw[vals_size];decide);have M2:=cell_row R5 2 _ (vals_2 _ _ _);have M18:=cell_row R5 18 _ (vals_18 _ _ _);clear hb5) | (at_builtin;refine wp_appX _ rfl (.tmp 83) (.tmp 92) 41 71 _ _ 5 64 rfl Tryz.underlying41 cg_i cg_i0 cg_i1 cg_i2 rfl (by decide) (w.heap.size+1) (.slice va out.length vc) (.slice (some ⟨w5.heap.size,0,none⟩) 1 1) out.length 1 (cv out) (cv [(7,x.1.d0,⟨#[]⟩,ns,x.1.vol)]) rfl (N5.out.below (below_al' w5 (.cells (ch5 (7,x.1.d0,⟨#[]⟩,ns,x.1.vol)) 71))).own rfl (cs_ch1 w5 (7,x.1.d0,⟨#[]⟩,ns,x.1.vol) _ _ rfl) (cv_one _) (by unfold maxLen;omega) (by omega) (by have:=N5.out.g.size;have:=(Array.getElem?_eq_some_iff.1 N5.out.m).1;simp;omega) ?_;intro a5 c5 w6 hown hg6 hat6;have HOW:=Lib.hid hown;have HG6:=Lib.hid hg6;clear hown hg6 hat6))
          go_roundw
          case rel=>exact⟨k+1,c,es,_,by omega,by go_num,by omega,by omega,by simp;omega,HST,HGM,((N5.out.below (below_al' _ _)).app HS.out (out':=out++[(7,x.1.d0,⟨#[]⟩,ns,x.1.vol)]) (by rw[List.length_append,cv_app];exact HOW.out) HG6.out)⟩
          case measure=>simp [intOf];omega
        · rw[notesX_bad hp hk0 hnx hn0] at hstep
          subst hstep
          have t3:(nc != 0)=true:=by rw[bne_iff_ne];exact hn0
          clear ht hk0 hn0
          go_wp2_with (first | (go_at_call 111;(refine (HPUT.out q0 q1 q2 q3 q4 _ (HN.out.sh.below (below_al' _ _)).b).mono ?_);rintro _ w2 ⟨x,al,gr,bb,rfl,hI,hGs,hb2,hc,hf1,hf2⟩;obtain⟨rfl,rfl⟩:x=y∧bb=true:=(by rcases hc with ⟨h,h2⟩ | ⟨h,-⟩;exact⟨Option.some.inj (h.symm.trans hp),h2⟩;exact absurd (h.symm.trans hp) (by simp));have hone:=vals_one x.1 al gr (is_one hI) (gs_one hGs);have N2:=Lib.hid (((HN.out.below (below_al' wr (.cells #[.int .i64 q0,.int .i64 q1,.string q2,.string q3,.string q4] 71))).below hb2).below (below_al' w2 (.cells (x.1.vals al gr) 27)));have R2:=row_new w2 (x.1.vals al gr) 27 (0,0);have M0:=cell_row R2 0 _ (vals_0 _ _ _);have M1:=cell_row R2 1 _ (vals_1 _ _ _);have C2:=row_below (below_al' w2 (.cells (x.1.vals al gr) 27)) (row_below hb2 (row_new wr #[.int .i64 q0,.int .i64 q1,.string q2,.string q3,.string q4] 71 (0,0)) (by show 0<5;omega)) (by show 0<5;omega);have K1:=cell_row C2 1 _ rfl;have z2:wr.heap.size+1≤w2.heap.size:=(by have:=hb2.size;simpa using this);have HI:=Lib.hid hI;have HGS:=Lib.hid hGs;have HF1:=Lib.hid hf1;have HF2:=Lib.hid hf2;clear hI hGs hb2 hc hf1 hf2) | (go_at_call 112;(refine (HG1.out _ N2.out.sh.b).mono ?_);rintro _ w3 ⟨rfl,hb3⟩;have N3:=Lib.hid (N2.out.below hb3);have R3:=row_below hb3 R2 (by rw[vals_size];decide);have C3:=row_below hb3 C2 (by show 0<5;omega);have K3:=cell_row C3 1 _ rfl;have z3:w2.heap.size+1≤w3.heap.size:=(by have:=hb3.size;simpa using this);have B3:=Lib.hid (bt (below_al' w2 (.cells (x.1.vals al gr) 27)) hb3);clear hb3) | (at_lookup;refine wp_lk _ rfl _ _ 149 true rfl (.tuple #[.agg (g.1.vals (.slice a1 0 c1) (.slice a2 0 c2)),.bool true]) (.map (some w.heap.size)) (pk (q1,sg)) rfl rfl (HLK.out w3 N3.out.m) ?_;have N4:=Lib.hid (N3.out.below (below_al' w3 (.cells (g.1.vals (.slice a1 0 c1) (.slice a2 0 c2)) 27)));have R4:=row_below (below_al' w3 (.cells (g.1.vals (.slice a1 0 c1) (.slice a2 0 c2)) 27)) R3 (by rw[vals_size];decide);have C4:=row_below (below_al' w3 (.cells (g.1.vals (.slice a1 0 c1) (.slice a2 0 c2)) 27)) C3 (by show 0<5;omega);have K4:=cell_row C4 1 _ rfl;have RG:=row_new w3 (g.1.vals (.slice a1 0 c1) (.slice a2 0 c2)) 27 (0,0)) | (go_at_call 104;(refine (HNN.out al gr _ (HI.out.below (bt B3.out (below_al' _ _))) (HGS.out.below (bt B3.out (below_al' _ _))) N4.out.sh.b).mono ?_);rintro _ w5 ⟨rfl,hb5⟩;have N5:=Lib.hid (N4.out.below hb5);have R5:=row_below hb5 R4 (by rw[vals_size];decide);have M2:=cell_row R5 2 _ (vals_2 _ _ _);have M18:=cell_row R5 18 _ (vals_18 _ _ _);clear hb5))
          go_ret2
          exact⟨.slice none 0 0,rfl,World.ownsRow_nil _ _ _ _,N5.out.g⟩
    | none =>
      rw[hn] at hgm hnx
      cases hmg:mget (q1,sg) es with
      | some gv=>rw[hmg] at hgm;exact hgm.elim
      | none =>
        rw[hmg] at hlk
        have hlk2:=hlk
        unfold lkV zlit at hlk2
        have HLK:=Lib.hid hlk2
        have hni:=noteInF_no l fl cd c q1 y hf h0
        have hnb:=noteInF_ca l fl cd c q1 y
        have hin:=fun al gr W h i1 i2 o1 o2=>HIN.out c q1 y al gr W h h0 (by omega) hnm i1 i2 o1 o2
        generalize noteInF l fl cd c q1 y=nf at hni hnb hin
        obtain⟨⟨ns,nc⟩,cb⟩:=nf
        dsimp only at hni hnb hin
        replace hnx:ntX l (cs.take k) (q0,q1,q2,q3,q4) y=(ns,nc):=(show ntX l (cs.take k) (q0,q1,q2,q3,q4) y=noteInR l q1 y from hnx).trans hni.symm
        have HII:=Lib.hid hin
        clear hlk hlk2 hmg hn hin hni
        by_cases hn0:nc=0
        · subst hn0
          rw[notesX_one hp hk0 hnx,← ht] at hstep
          have HST:=Lib.hid hstep
          clear hstep ht hk0
          go_wp2_with (first | (go_at_call 111;(refine (HPUT.out q0 q1 q2 q3 q4 _ (HN.out.sh.below (below_al' _ _)).b).mono ?_);rintro _ w2 ⟨x,al,gr,bb,rfl,hI,hGs,hb2,hc,hf1,hf2⟩;obtain⟨rfl,rfl⟩:x=y∧bb=true:=(by rcases hc with ⟨h,h2⟩ | ⟨h,-⟩;exact⟨Option.some.inj (h.symm.trans hp),h2⟩;exact absurd (h.symm.trans hp) (by simp));have hone:=vals_one x.1 al gr (is_one hI) (gs_one hGs);have N2:=Lib.hid (((HN.out.below (below_al' wr (.cells #[.int .i64 q0,.int .i64 q1,.string q2,.string q3,.string q4] 71))).below hb2).below (below_al' w2 (.cells (x.1.vals al gr) 27)));have R2:=row_new w2 (x.1.vals al gr) 27 (0,0);have M0:=cell_row R2 0 _ (vals_0 _ _ _);have M1:=cell_row R2 1 _ (vals_1 _ _ _);have C2:=row_below (below_al' w2 (.cells (x.1.vals al gr) 27)) (row_below hb2 (row_new wr #[.int .i64 q0,.int .i64 q1,.string q2,.string q3,.string q4] 71 (0,0)) (by show 0<5;omega)) (by show 0<5;omega);have K1:=cell_row C2 1 _ rfl;have z2:wr.heap.size+1≤w2.heap.size:=(by have:=hb2.size;simpa using this);have HI:=Lib.hid hI;have HGS:=Lib.hid hGs;have HF1:=Lib.hid hf1;have HF2:=Lib.hid hf2;clear hI hGs hb2 hc hf1 hf2) | (go_at_call 112;(refine (HG1.out _ N2.out.sh.b).mono ?_);rintro _ w3 ⟨rfl,hb3⟩;have N3:=Lib.hid (N2.out.below hb3);have R3:=row_below hb3 R2 (by rw[vals_size];decide);have C3:=row_below hb3 C2 (by show 0<5;omega);have K3:=cell_row C3 1 _ rfl;have z3:w2.heap.size+1≤w3.heap.size:=(by have:=hb3.size;simpa using this);have B3:=Lib.hid (bt (below_al' w2 (.cells (x.1.vals al gr) 27)) hb3);clear hb3) | (at_lookup;refine wp_lk _ rfl _ _ 149 true rfl (.tuple #[.agg #[.int .i64 0,.string ⟨#[]⟩,.int .i64 0,.int .i64 0,.int .i64 0,.int .i64 0,.int .i64 0,.int .i64 0,.int .i64 0,.int .i64 0,.int .i64 0,.int .i64 0,.int .i64 0,.int .i64 0,.int .i64 0,.int .i64 0,.bool false,.int .i64 0,.string ⟨#[]⟩,.string ⟨#[]⟩,.int .i64 0,.int .i64 0,.bool false,.slice none 0 0,.int .i64 0,.int .i64 0,.int .i64 0,.bool false,.string ⟨#[]⟩,.string ⟨#[]⟩,.int .i64 0,.int .i64 0,.slice none 0 0],.bool false]) (.map (some w.heap.size)) (pk (q1,sg)) rfl rfl (HLK.out w3 N3.out.m) ?_;have N4:=Lib.hid (N3.out.below (below_al' w3 (.cells #[.int .i64 0,.string ⟨#[]⟩,.int .i64 0,.int .i64 0,.int .i64 0,.int .i64 0,.int .i64 0,.int .i64 0,.int .i64 0,.int .i64 0,.int .i64 0,.int .i64 0,.int .i64 0,.int .i64 0,.int .i64 0,.int .i64 0,.bool false,.int .i64 0,.string ⟨#[]⟩,.string ⟨#[]⟩,.int .i64 0,.int .i64 0,.bool false,.slice none 0 0,.int .i64 0,.int .i64 0,.int .i64 0,.bool false,.string ⟨#[]⟩,.string ⟨#[]⟩,.int .i64 0,.int .i64 0,.slice none 0 0] 27)));have R4:=row_below (below_al' w3 (.cells #[.int .i64 0,.string ⟨#[]⟩,.int .i64 0,.int .i64 0,.int .i64 0,.int .i64 0,.int .i64 0,.int .i64 0,.int .i64 0,.int .i64 0,.int .i64 0,.int .i64 0,.int .i64 0,.int .i64 0,.int .i64 0,.int .i64 0,.bool false,.int .i64 0,.string ⟨#[]⟩,.string ⟨#[]⟩,.int .i64 0,.int .i64 0,.bool false,.slice none 0 0,.int .i64 0,.int .i64 0,.int .i64 0,.bool false,.string ⟨#[]⟩,.string ⟨#[]⟩,.int .i64 0,.int .i64 0,.slice none 0 0] 27)) R3 (by rw[vals_size];decide);have C4:=row_below (below_al' w3 (.cells #[.int .i64 0,.string ⟨#[]⟩,.int .i64 0,.int .i64 0,.int .i64 0,.int .i64 0,.int .i64 0,.int .i64 0,.int .i64 0,.int .i64 0,.int .i64 0,.int .i64 0,.int .i64 0,.int .i64 0,.int .i64 0,.int .i64 0,.bool false,.int .i64 0,.string ⟨#[]⟩,.string ⟨#[]⟩,.int .i64 0,.int .i64 0,.bool false,.slice none 0 0,.int .i64 0,.int .i64 0,.int .i64 0,.bool false,.string ⟨#[]⟩,.string ⟨#[]⟩,.int .i64 0,.int .i64 0,.slice none 0 0] 27)) C3 (by show 0<5;omega);have K4:=cell_row C4 1 _ rfl;have RG:=row_new w3 #[.int .i64 0,.string ⟨#[]⟩,.int .i64 0,.int .i64 0,.int .i64 0,.int .i64 0,.int .i64 0,.int .i64 0,.int .i64 0,.int .i64 0,.int .i64 0,.int .i64 0,.int .i64 0,.int .i64 0,.int .i64 0,.int .i64 0,.bool false,.int .i64 0,.string ⟨#[]⟩,.string ⟨#[]⟩,.int .i64 0,.int .i64 0,.bool false,.slice none 0 0,.int .i64 0,.int .i64 0,.int .i64 0,.bool false,.string ⟨#[]⟩,.string ⟨#[]⟩,.int .i64 0,.int .i64 0,.slice none 0 0] 27 (0,0)) | (go_at_call 108;(refine (HII.out al gr _ N4.out.sh (HI.out.below (bt B3.out (below_al' _ _))) (HGS.out.below (bt B3.out (below_al' _ _))) (fun q hq=>by have:=HF1.out q hq;simp at this;omega) (fun q hq=>by have:=HF2.out q hq;simp at this;omega)).mono ?_);rintro _ w5 ⟨rfl,hs5,hg5⟩;have N5:=Lib.hid (N4.out.tick hpl hg5 hs5);have R5:=row_grownP R4 (by rw[vals_size];decide) hg5 (by omega);have M2:=cell_row R5 2 _ (vals_2 _ _ _);have M18:=cell_row R5 18 _ (vals_18 _ _ _);clear hs5 hg5) | (at_builtin;refine wp_appX _ rfl (.tmp 83) (.tmp 92) 41 71 _ _ 5 64 rfl Tryz.underlying41 cg_i cg_i0 cg_i1 cg_i2 rfl (by decide) (w.heap.size+1) (.slice va out.length vc) (.slice (some ⟨w5.heap.size,0,none⟩) 1 1) out.length 1 (cv out) (cv [(7,x.1.d0,⟨#[]⟩,ns,x.1.vol)]) rfl (N5.out.below (below_al' w5 (.cells (ch5 (7,x.1.d0,⟨#[]⟩,ns,x.1.vol)) 71))).own rfl (cs_ch1 w5 (7,x.1.d0,⟨#[]⟩,ns,x.1.vol) _ _ rfl) (cv_one _) (by unfold maxLen;omega) (by omega) (by have:=N5.out.g.size;have:=(Array.getElem?_eq_some_iff.1 N5.out.m).1;simp;omega) ?_;intro a5 c5 w6 hown hg6 hat6;have HOW:=Lib.hid hown;have HG6:=Lib.hid hg6;clear hown hg6 hat6))
          go_roundw
          case rel=>exact⟨k+1,cb,es,_,by omega,by go_num,by omega,by omega,by simp;omega,HST,HGM,((N5.out.below (below_al' _ _)).app HS.out (out':=out++[(7,x.1.d0,⟨#[]⟩,ns,x.1.vol)]) (by rw[List.length_append,cv_app];exact HOW.out) HG6.out)⟩
          case measure=>simp [intOf];omega
        · rw[notesX_bad hp hk0 hnx hn0] at hstep
          subst hstep
          have t3:(nc != 0)=true:=by rw[bne_iff_ne];exact hn0
          clear ht hk0 hn0
          go_wp2_with (first | (go_at_call 111;(refine (HPUT.out q0 q1 q2 q3 q4 _ (HN.out.sh.below (below_al' _ _)).b).mono ?_);rintro _ w2 ⟨x,al,gr,bb,rfl,hI,hGs,hb2,hc,hf1,hf2⟩;obtain⟨rfl,rfl⟩:x=y∧bb=true:=(by rcases hc with ⟨h,h2⟩ | ⟨h,-⟩;exact⟨Option.some.inj (h.symm.trans hp),h2⟩;exact absurd (h.symm.trans hp) (by simp));have hone:=vals_one x.1 al gr (is_one hI) (gs_one hGs);have N2:=Lib.hid (((HN.out.below (below_al' wr (.cells #[.int .i64 q0,.int .i64 q1,.string q2,.string q3,.string q4] 71))).below hb2).below (below_al' w2 (.cells (x.1.vals al gr) 27)));have R2:=row_new w2 (x.1.vals al gr) 27 (0,0);have M0:=cell_row R2 0 _ (vals_0 _ _ _);have M1:=cell_row R2 1 _ (vals_1 _ _ _);have C2:=row_below (below_al' w2 (.cells (x.1.vals al gr) 27)) (row_below hb2 (row_new wr #[.int .i64 q0,.int .i64 q1,.string q2,.string q3,.string q4] 71 (0,0)) (by show 0<5;omega)) (by show 0<5;omega);have K1:=cell_row C2 1 _ rfl;have z2:wr.heap.size+1≤w2.heap.size:=(by have:=hb2.size;simpa using this);have HI:=Lib.hid hI;have HGS:=Lib.hid hGs;have HF1:=Lib.hid hf1;have HF2:=Lib.hid hf2;clear hI hGs hb2 hc hf1 hf2) | (go_at_call 112;(refine (HG1.out _ N2.out.sh.b).mono ?_);rintro _ w3 ⟨rfl,hb3⟩;have N3:=Lib.hid (N2.out.below hb3);have R3:=row_below hb3 R2 (by rw[vals_size];decide);have C3:=row_below hb3 C2 (by show 0<5;omega);have K3:=cell_row C3 1 _ rfl;have z3:w2.heap.size+1≤w3.heap.size:=(by have:=hb3.size;simpa using this);have B3:=Lib.hid (bt (below_al' w2 (.cells (x.1.vals al gr) 27)) hb3);clear hb3) | (at_lookup;refine wp_lk _ rfl _ _ 149 true rfl (.tuple #[.agg #[.int .i64 0,.string ⟨#[]⟩,.int .i64 0,.int .i64 0,.int .i64 0,.int .i64 0,.int .i64 0,.int .i64 0,.int .i64 0,.int .i64 0,.int .i64 0,.int .i64 0,.int .i64 0,.int .i64 0,.int .i64 0,.int .i64 0,.bool false,.int .i64 0,.string ⟨#[]⟩,.string ⟨#[]⟩,.int .i64 0,.int .i64 0,.bool false,.slice none 0 0,.int .i64 0,.int .i64 0,.int .i64 0,.bool false,.string ⟨#[]⟩,.string ⟨#[]⟩,.int .i64 0,.int .i64 0,.slice none 0 0],.bool false]) (.map (some w.heap.size)) (pk (q1,sg)) rfl rfl (HLK.out w3 N3.out.m) ?_;have N4:=Lib.hid (N3.out.below (below_al' w3 (.cells #[.int .i64 0,.string ⟨#[]⟩,.int .i64 0,.int .i64 0,.int .i64 0,.int .i64 0,.int .i64 0,.int .i64 0,.int .i64 0,.int .i64 0,.int .i64 0,.int .i64 0,.int .i64 0,.int .i64 0,.int .i64 0,.int .i64 0,.bool false,.int .i64 0,.string ⟨#[]⟩,.string ⟨#[]⟩,.int .i64 0,.int .i64 0,.bool false,.slice none 0 0,.int .i64 0,.int .i64 0,.int .i64 0,.bool false,.string ⟨#[]⟩,.string ⟨#[]⟩,.int .i64 0,.int .i64 0,.slice none 0 0] 27)));have R4:=row_below (below_al' w3 (.cells #[.int .i64 0,.string ⟨#[]⟩,.int .i64 0,.int .i64 0,.int .i64 0,.int .i64 0,.int .i64 0,.int .i64 0,.int .i64 0,.int .i64 0,.int .i64 0,.int .i64 0,.int .i64 0,.int .i64 0,.int .i64 0,.int .i64 0,.bool false,.int .i64 0,.string ⟨#[]⟩,.string ⟨#[]⟩,.int .i64 0,.int .i64 0,.bool false,.slice none 0 0,.int .i64 0,.int .i64 0,.int .i64 0,.bool false,.string ⟨#[]⟩,.string ⟨#[]⟩,.int .i64 0,.int .i64 0,.slice none 0 0] 27)) R3 (by rw[vals_size];decide);have C4:=row_below (below_al' w3 (.cells #[.int .i64 0,.string ⟨#[]⟩,.int .i64 0,.int .i64 0,.int .i64 0,.int .i64 0,.int .i64 0,.int .i64 0,.int .i64 0,.int .i64 0,.int .i64 0,.int .i64 0,.int .i64 0,.int .i64 0,.int .i64 0,.int .i64 0,.bool false,.int .i64 0,.string ⟨#[]⟩,.string ⟨#[]⟩,.int .i64 0,.int .i64 0,.bool false,.slice none 0 0,.int .i64 0,.int .i64 0,.int .i64 0,.bool false,.string ⟨#[]⟩,.string ⟨#[]⟩,.int .i64 0,.int .i64 0,.slice none 0 0] 27)) C3 (by show 0<5;omega);have K4:=cell_row C4 1 _ rfl;have RG:=row_new w3 #[.int .i64 0,.string ⟨#[]⟩,.int .i64 0,.int .i64 0,.int .i64 0,.int .i64 0,.int .i64 0,.int .i64 0,.int .i64 0,.int .i64 0,.int .i64 0,.int .i64 0,.int .i64 0,.int .i64 0,.int .i64 0,.int .i64 0,.bool false,.int .i64 0,.string ⟨#[]⟩,.string ⟨#[]⟩,.int .i64 0,.int .i64 0,.bool false,.slice none 0 0,.int .i64 0,.int .i64 0,.int .i64 0,.bool false,.string ⟨#[]⟩,.string ⟨#[]⟩,.int .i64 0,.int .i64 0,.slice none 0 0] 27 (0,0)) | (go_at_call 108;(refine (HII.out al gr _ N4.out.sh (HI.out.below (bt B3.out (below_al' _ _))) (HGS.out.below (bt B3.out (below_al' _ _))) (fun q hq=>by have:=HF1.out q hq;simp at this;omega) (fun q hq=>by have:=HF2.out q hq;simp at this;omega)).mono ?_);rintro _ w5 ⟨rfl,hs5,hg5⟩;have N5:=Lib.hid (N4.out.tick hpl hg5 hs5);have R5:=row_grownP R4 (by rw[vals_size];decide) hg5 (by omega);have M2:=cell_row R5 2 _ (vals_2 _ _ _);have M18:=cell_row R5 18 _ (vals_18 _ _ _);clear hs5 hg5))
          go_ret2
          exact⟨.slice none 0 0,rfl,World.ownsRow_nil _ _ _ _,N5.out.g⟩
end Go.Proofs.YtdfdjfnfmibpjaaGreatDoor
end
section
/- Contract of the reference of chapter 37: Notes. Printed by wip/mknor.py. -/
namespace Go.Proofs.YtdfdjfnfmibpjaaGreatDoor
open Go.RowKit
set_option maxHeartbeats 16000000
set_option maxRecDepth 8000
set_option linter.unusedSimpArgs false
def GR1 (o:Option Fu) (cs:Array Value):Prop:=match o with
 | none=>cs=zlit 0 ⟨#[]⟩
 | some g=>∃ a1 c1 a2 c2,cs=g.1.vals (.slice a1 0 c1) (.slice a2 0 c2)
structure RNs (w wr:World) (ov:Value) (out:List Ch):Prop where
 own:wr.ownsRow w.heap.size 71 5 ov out.length (cv out)
 b:Below w.heap.size w wr
theorem RNs.below {w wr w':World} {ov:Value} {out:List Ch} (h:RNs w wr ov out) (hb:Below wr.heap.size wr w'):RNs w w' ov out :=
 ⟨own_keep h.own (fun x hx=>hb.block x (own_base h.own x hx).2),bt h.b hb⟩
theorem RNs.belowB {B:Nat} {w wr w':World} {ov:Value} {out:List Ch} (h:RNs w wr ov out) (hb:Below B wr w') (hB:w.heap.size≤B) (ho:∀ q,ov.ownBlock=some q→q<B):RNs w w' ov out :=
 ⟨own_keep h.own (fun x hx=>hb.block x (ho x hx)),h.b.trans (hb.mono hB)⟩
theorem RNs.app {w wr w':World} {ov ov':Value} {out out':List Ch} (h:RNs w wr ov out) (ho:w'.ownsRow w.heap.size 71 5 ov' out'.length (cv out')) (hg:wr.grownBy w' ov.ownBlock):RNs w w' ov' out' :=
 ⟨ho,h.b.trans (grown_keep hg (fun q hq=>(own_base h.own q hq).1) h.b.size)⟩
theorem held_dN {w:World} {g k:Nat} (h:Held w g k) (n:Nat):Held (w.drewN n) g k:=⟨by rw[row_drewN];exact h.1,h.2.1,fun o=>by have:=h.2.2 o;simpa using this⟩
theorem row_keepB {B:Nat} {w w':World} {b:Nat} {cs:Array Value} (hb:Below B w w') (h:row w b=cs) (_:0<cs.size) (hlt:b<B):row w' b=cs:=by
 unfold row at *
 rw[hb.block b hlt];exact h
theorem is_belowB {B:Nat} {w w':World} {al:Value} {l:List Int} (hb:Below B w w') (h:IS w al l) (ho:l≠[]→∀ q,al.ownBlock=some q→q<B):IS w' al l:=by
 obtain⟨a,c,rfl,hz,hc⟩:=h
 refine⟨a,c,rfl,hz,fun h0=>?_⟩
 obtain⟨b,o,rfl,hlt,hcs⟩:=hc h0
 have hB:=ho (List.length_pos_iff.1 h0) b rfl
 exact⟨b,o,rfl,Nat.lt_of_lt_of_le hlt hb.size,fun k hk=>(hb.cell (p:=⟨b,o+k,none⟩) hB).trans (hcs k hk)⟩
theorem gs_belowB {B:Nat} {w w':World} {al:Value} {l:List Gr} (hb:Below B w w') (h:GS w al l) (ho:l≠[]→∀ q,al.ownBlock=some q→q<B):GS w' al l:=by
 obtain⟨a,c,rfl,hz,hc⟩:=h
 refine⟨a,c,rfl,hz,fun h0=>?_⟩
 obtain⟨b,o,rfl,hlt,hcs⟩:=hc h0
 have hB:=ho (List.length_pos_iff.1 h0) b rfl
 exact⟨b,o,rfl,Nat.lt_of_lt_of_le hlt hb.size,fun k hk=>⟨(hb.cell (p:=⟨b,o+k*3,none⟩) hB).trans (hcs k hk).1,(hb.cell (p:=⟨b,o+k*3+1,none⟩) hB).trans (hcs k hk).2.1,(hb.cell (p:=⟨b,o+k*3+2,none⟩) hB).trans (hcs k hk).2.2⟩⟩
attribute [local go_sem ↓] ldEnt stEnt stEntRow bldEnt
attribute [local go_sem] Held_drew isHead_mk headOf_mk offOf_mk isPtr_mk cellsOfV_mk isAggV_mk row_new row_new2 row_new2' row_drew row_drewN vals_size allOne_nil allOne_cons one_int one_bool one_string one_pointer one_slice one_func vals_0 vals_1
theorem r37_notes (rv:Value) (l:List Rw) (v:Value) (cs:List Ch) (w:World) (hl:RwS w rv l) (hcs:cs.length≤1000) (hC:ChS w v cs) :
  Calls Tryz.prog 44 #[rv,v] w fun r w'=>∃ ov,r=.returned (.tuple #[ov,.int .i64 (notesX l [] cs []).2])∧w'.ownsRow w.heap.size 71 5 ov (notesX l [] cs []).1.length (cv (notesX l [] cs []).1)∧Below w.heap.size w w':=by
 obtain⟨R,hR⟩:∃ R,notesX l [] cs []=R:=⟨_,rfl⟩
 rw[hR]
 have HR:=Lib.hid hR
 obtain⟨va0,vc0,rfl,hz,hcell⟩:=hC
 have HC:=Lib.hid hcell
 have HPUT:=Lib.hid (fun k id key rec vol W=>r37_put k id key rec vol W)
 have HSPL:=Lib.hid (fun s W hs=>rds_split s W hs)
 have HNOTE:=Lib.hid (fun x g al gr al2 gr2 W hx hg i1 i2 i3 i4=>rn_noteC x g al gr al2 gr2 W hx hg i1 i2 i3 i4)
 have HGET:=Lib.hid (fun id nm W (b:Below w.heap.size w W)=>r35_get rv l id 1 nm W (hl.below b))
 clear hR hcell hl
 go_enter Tryz.func44,Tryz.ntmps44
 go_wp2_with fail
 go_loopw [6,7] (fun ov i wr=>∃ (k:Nat) (out:List Ch),k≤cs.length∧i=.int .i64 k∧out.length≤k∧Hid (notesX l (cs.take k) (cs.drop k) out=R)∧RNs w wr ov out) (fun _ i _=>cs.length - (intOf i).toNat)
 case atStart=>exact⟨0,[],Nat.zero_le _,rfl,by simp,HR,⟨World.ownsRow_made w #[] 0 (Nat.le_refl _) (Nat.zero_le _) rfl,by exact belA⟩⟩
 case round =>
  obtain⟨k,out,hk,rfl,ho,HH,hN⟩:=hrel
  obtain⟨va,vc,rfl⟩:=owns_sl hN.own
  have HN:=Lib.hid hN
  have hzr:=hN.b.size
  clear hN
  by_cases hlt:k<cs.length
  rotate_left
  · obtain rfl:k=cs.length:=by omega
    have hfin:=HH.out
    rw[List.drop_length] at hfin
    have hfin:(out,0)=R:=hfin
    subst hfin
    go_wp2_with fail
    go_ret2
    exact⟨_,rfl,HN.out.own,HN.out.b⟩
  obtain⟨b,o,rfl,hb,hcell⟩:=HC.out (by omega)
  have hd:cs.drop k=cs[k]::cs.drop (k+1):=List.drop_eq_getElem_cons hlt
  have ht:cs.take (k+1)=cs.take k++[cs[k]]:=List.take_succ_eq_append_getElem hlt
  have hcl:=fun i u hu=>(HN.out.b.cell (p:=⟨b,o+k*5+i,none⟩) hb).trans (hcell k hlt i u hu)
  have HCK:=Lib.hid (fun i u hu=>hcell k hlt i u hu)
  have hstep:=HH.out
  rw[hd] at hstep
  generalize cs[k]=ck at hstep ht hcl HCK
  obtain⟨q0,q1,q2,q3,q4⟩:=ck
  have p0:wr.cell? ⟨b,o+k*5,none⟩=some (.int .i64 q0):=hcl 0 _ rfl
  have p1:wr.cell? ⟨b,o+k*5+1,none⟩=some (.int .i64 q1):=hcl 1 _ rfl
  have p2:wr.cell? ⟨b,o+k*5+2,none⟩=some (.string q2):=hcl 2 _ rfl
  have p3:wr.cell? ⟨b,o+k*5+3,none⟩=some (.string q3):=hcl 3 _ rfl
  have p4:wr.cell? ⟨b,o+k*5+4,none⟩=some (.string q4):=hcl 4 _ rfl
  have P1:=Lib.hid (show w.cell? ⟨b,o+k*5+1,none⟩=some (.int .i64 q1) from HCK.out 1 _ rfl)
  have HCJ:=Lib.hid (fun j (hj:j<cs.length) i u hu=>hcell j hj i u hu)
  clear hcl hcell hd HH HCK
  have i1:(0:Int)≤(k:Int):=by omega
  have i2:(k:Int)<(cs.length:Int):=by omega
  cases hp:putF (q0,q1,q2,q3,q4) with
  | none =>
    rw[notesX_skip hp,← ht] at hstep
    have HST:=Lib.hid hstep
    clear hstep ht
    go_wp2_with (go_at_call 113;(refine (HPUT.out q0 q1 q2 q3 q4 _).mono ?_);rintro _ w2 ⟨x,al,gr,bb,rfl,hI,hGs,hb2,hc,hf1,hf2⟩;obtain rfl:bb=false:=(by rcases hc with ⟨h,-⟩ | ⟨-,h⟩;exact absurd (h.symm.trans hp) (by simp);exact h);have hone:=vals_one x.1 al gr (is_one hI) (gs_one hGs);have N2:=Lib.hid (HN.out.below hb2);have R2:=row_new w2 (x.1.vals al gr) 27 (0,0);have M0:=cell_row R2 0 _ (vals_0 _ _ _);have M1:=cell_row R2 1 _ (vals_1 _ _ _);have z2:=hb2.size;have HI:=Lib.hid hI;have HGS:=Lib.hid hGs;clear hI hGs hb2 hc hf1 hf2)
    go_roundw
    case rel=>exact⟨k+1,out,by omega,by go_num,by omega,HST,N2.out.below (below_al' _ _)⟩
    case measure=>simp [intOf];omega
  | some y =>
    have hok:=putF_ok _ y hp
    by_cases hk0:y.1.kind=0
    rotate_left
    · rw[notesX_kind hp hk0,← ht] at hstep
      have HST:=Lib.hid hstep
      have t2:(y.1.kind != 0)=true:=by rw[bne_iff_ne];exact hk0
      clear hstep ht
      go_wp2_with (go_at_call 113;(refine (HPUT.out q0 q1 q2 q3 q4 _).mono ?_);rintro _ w2 ⟨x,al,gr,bb,rfl,hI,hGs,hb2,hc,hf1,hf2⟩;obtain⟨rfl,rfl⟩:x=y∧bb=true:=(by rcases hc with ⟨h,h2⟩ | ⟨h,-⟩;exact⟨Option.some.inj (h.symm.trans hp),h2⟩;exact absurd (h.symm.trans hp) (by simp));have hone:=vals_one x.1 al gr (is_one hI) (gs_one hGs);have N2:=Lib.hid (HN.out.below hb2);have R2:=row_new w2 (x.1.vals al gr) 27 (0,0);have M0:=cell_row R2 0 _ (vals_0 _ _ _);have M1:=cell_row R2 1 _ (vals_1 _ _ _);have z2:=hb2.size;have HI:=Lib.hid hI;have HGS:=Lib.hid hGs;clear hI hGs hb2 hc hf1 hf2)
      go_roundw
      case rel=>exact⟨k+1,out,by omega,by go_num,by omega,HST,N2.out.below (below_al' _ _)⟩
      case measure=>simp [intOf];omega
    have t2:(y.1.kind != 0)=false:=by rw[hk0];rfl
    have hnm:y.1.name.size≤60:=by have:=(okX_name y hok).1;rw[Ds.bl_length] at this;omega
    have hs1:=fun W=>HSPL.out y.1.name W hnm
    have hrf:=ntX_ref l (cs.take k) (q0,q1,q2,q3,q4) y hok hk0
    unfold ntRf at hrf
    cases hgen:Ds.gen (Ds.bl y.1.name)
    · rw[if_neg (by rw[hgen];simp)] at hrf
      rw[hgen] at hs1
      have HS1:=Lib.hid hs1
      have hn:=fun W al gr i1 i2=>HNOTE.out y zF0 al gr (.slice none 0 0) (.slice none 0 0) W hnm short_z i1 i2 (IS.nil _) (GS.nil _)
      rw[show zF0.1.vals (.slice none 0 0) (.slice none 0 0)=zlit 0 ⟨#[]⟩ from (zlit_eq 0 ⟨#[]⟩).symm] at hn
      unfold zlit at hn
      generalize noteC y zF0=nc at hn hrf
      obtain⟨ns,nc⟩:=nc
      dsimp only at hn hrf
      rw[notesX_one hp hk0 hrf,← ht] at hstep
      have HNN:=Lib.hid hn
      have HST:=Lib.hid hstep
      clear hstep ht hn hs1 hgen hrf
      go_wp2_with (first | (go_at_call 113;(refine (HPUT.out q0 q1 q2 q3 q4 _).mono ?_);rintro _ w2 ⟨x,al,gr,bb,rfl,hI,hGs,hb2,hc,hf1,hf2⟩;obtain⟨rfl,rfl⟩:x=y∧bb=true:=(by rcases hc with ⟨h,h2⟩ | ⟨h,-⟩;exact⟨Option.some.inj (h.symm.trans hp),h2⟩;exact absurd (h.symm.trans hp) (by simp));have hone:=vals_one x.1 al gr (is_one hI) (gs_one hGs);have N2:=Lib.hid (HN.out.below hb2);have R2:=row_new w2 (x.1.vals al gr) 27 (0,0);have M0:=cell_row R2 0 _ (vals_0 _ _ _);have M1:=cell_row R2 1 _ (vals_1 _ _ _);have z2:=hb2.size;have HI:=Lib.hid hI;have HGS:=Lib.hid hGs;have RE:=row_new2 w2 (x.1.vals al gr) 27 (0,0) (.cells (zlit 0 ⟨#[]⟩) 27);have RG:=row_new2' w2 (zlit 0 ⟨#[]⟩) 27 (0,0) (.cells (x.1.vals al gr) 27);unfold zlit at RE RG;have ME1:=cell_row RE 1 _ (vals_1 _ _ _);have HGB:=Lib.hid (hz_b w2 27 (.cells (x.1.vals al gr) 27));unfold zlit at HGB;clear hI hGs hb2 hc hf1 hf2) | (go_at_call 52;(refine (HS1.out _).mono ?_);rintro _ w3 ⟨rfl,hb3⟩;have N3:=Lib.hid (N2.out.below (bt (below2' _ _ _) hb3));have B3:=Lib.hid (bt (below2' _ _ _) hb3);have RE3:=row_below hb3 RE (by rw[vals_size];decide);have RG3:=row_below hb3 RG (by decide);have HG3:=Lib.hid (HGB.out.below hb3);have z3:w2.heap.size+1+1≤w3.heap.size:=(by have:=hb3.size;simpa using this);have HI3:=Lib.hid (HI.out.below B3.out);have HGS3:=Lib.hid (HGS.out.below B3.out);clear hb3) | (go_at_call 110;(refine (HNN.out _ al gr HI3.out HGS3.out).mono ?_);rintro _ w5 ⟨rfl,hb5⟩;have N5:=Lib.hid (N3.out.below hb5);have R5:=row_below hb5 RE3 (by rw[vals_size];decide);have E2:=cell_row R5 2 _ (vals_2 _ _ _);have E18:=cell_row R5 18 _ (vals_18 _ _ _);clear hb5) | (at_builtin;refine wp_appX _ rfl (.tmp 115) (.tmp 124) 41 71 _ _ 5 64 rfl Tryz.underlying41 cg_i cg_i0 cg_i1 cg_i2 rfl (by decide) w.heap.size (.slice va out.length vc) (.slice (some ⟨w5.heap.size,0,none⟩) 1 1) out.length 1 (cv out) (cv [(7,x.1.d0,⟨#[]⟩,ns,x.1.vol)]) rfl (N5.out.below (below_al' w5 (.cells (ch5 (7,x.1.d0,⟨#[]⟩,ns,x.1.vol)) 71))).own rfl (cs_ch1 w5 (7,x.1.d0,⟨#[]⟩,ns,x.1.vol) _ _ rfl) (cv_one _) (by unfold maxLen;omega) (by omega) (by have:=N5.out.b.size;simp;omega) ?_;intro a5 c5 w6 hown hg6 hat6;have HOW:=Lib.hid hown;have HG6:=Lib.hid hg6;clear hown hg6 hat6))
      go_roundw
      case rel=>exact⟨k+1,_,by omega,by go_num,by simp;omega,HST,((N5.out.below (below_al' _ _)).app (out':=out++[(7,x.1.d0,⟨#[]⟩,ns,x.1.vol)]) (by rw[List.length_append,cv_app];exact HOW.out) HG6.out)⟩
      case measure=>simp [intOf];omega
    · rw[if_pos hgen] at hrf
      rw[hgen] at hs1
      unfold splZ at hrf
      generalize (⟨(Ds.splG (Ds.bl y.1.name)).toArray⟩:ByteArray)=sg at hs1 hrf
      have HS1:=Lib.hid hs1
      have HRF:=Lib.hid hrf
      clear hs1 hgen hrf
      go_wp2_with (first | (go_at_call 113;(refine (HPUT.out q0 q1 q2 q3 q4 _).mono ?_);rintro _ w2 ⟨x,al,gr,bb,rfl,hI,hGs,hb2,hc,hf1,hf2⟩;obtain⟨rfl,rfl⟩:x=y∧bb=true:=(by rcases hc with ⟨h,h2⟩ | ⟨h,-⟩;exact⟨Option.some.inj (h.symm.trans hp),h2⟩;exact absurd (h.symm.trans hp) (by simp));have hone:=vals_one x.1 al gr (is_one hI) (gs_one hGs);have N2:=Lib.hid (HN.out.below hb2);have R2:=row_new w2 (x.1.vals al gr) 27 (0,0);have M0:=cell_row R2 0 _ (vals_0 _ _ _);have M1:=cell_row R2 1 _ (vals_1 _ _ _);have z2:=hb2.size;have HI:=Lib.hid hI;have HGS:=Lib.hid hGs;have RE:=row_new2 w2 (x.1.vals al gr) 27 (0,0) (.cells (zlit 0 ⟨#[]⟩) 27);have RG:=row_new2' w2 (zlit 0 ⟨#[]⟩) 27 (0,0) (.cells (x.1.vals al gr) 27);unfold zlit at RE RG;have ME1:=cell_row RE 1 _ (vals_1 _ _ _);have HGB:=Lib.hid (hz_b w2 27 (.cells (x.1.vals al gr) 27));unfold zlit at HGB;clear hI hGs hb2 hc hf1 hf2) | (go_at_call 52;(refine (HS1.out _).mono ?_);rintro _ w3 ⟨rfl,hb3⟩;have N3:=Lib.hid (N2.out.below (bt (below2' _ _ _) hb3));have B3:=Lib.hid (bt (below2' _ _ _) hb3);have RE3:=row_below hb3 RE (by rw[vals_size];decide);have RG3:=row_below hb3 RG (by decide);have HG3:=Lib.hid (HGB.out.below hb3);have z3:w2.heap.size+1+1≤w3.heap.size:=(by have:=hb3.size;simpa using this);have HI3:=Lib.hid (HI.out.below B3.out);have HGS3:=Lib.hid (HGS.out.below B3.out);clear hb3))
      obtain⟨wo,hwo⟩:∃ wo,wo=wr:=⟨_,rfl⟩
      subst hwo
      go_loopw [14] (fun i wr=>∃ (j:Nat) (gc:Array Value),j≤k∧i=.int .i64 j∧Hid (GR1 (ntG (cs.take j) q1 sg) gc)∧row wr (w2.heap.size+1)=gc∧Hid (Held wr (w2.heap.size+1) 33)∧Hid (Below (w2.heap.size+1) w3 wr)) (fun i _=>k - (intOf i).toNat)
      case atStart=>exact⟨0,_,Nat.zero_le _,rfl,Lib.hid rfl,RG3,HG3,Lib.hid (Below.refl _ _)⟩
      case round =>
       obtain⟨j,gc,hj,rfl,HGJ,hgc,HHJ,HBJ⟩:=hrel
       have hBw:=N3.out.b.trans (HBJ.out.mono (by omega))
       have BW:=Lib.hid hBw
       have zj:=HBJ.out.size
       have b1:b<w.heap.size:=hb
       by_cases hjk:j<k
       · have hjl:j<cs.length:=by omega
         have htj:cs.take (j+1)=cs.take j++[cs[j]]:=List.take_succ_eq_append_getElem hjl
         have hcl:=fun i u hu=>(hBw.cell (p:=⟨b,o+j*5+i,none⟩) hb).trans (HCJ.out j hjl i u hu)
         have hgs:=ntG_snoc (cs.take j) cs[j] q1 sg
         rw[← htj] at hgs
         have s1:wr.cell? ⟨b,o+k*5+1,none⟩=some (.int .i64 q1):=(hBw.cell (p:=⟨b,o+k*5+1,none⟩) hb).trans P1.out
         have hcj:=Lib.hid (fun i u hu=>HCJ.out j hjl i u hu)
         generalize cs[j]=cj at hgs hcl hcj
         obtain⟨r0,r1,r2,r3,r4⟩:=cj
         have u0:wr.cell? ⟨b,o+j*5,none⟩=some (.int .i64 r0):=hcl 0 _ rfl
         have u1:wr.cell? ⟨b,o+j*5+1,none⟩=some (.int .i64 r1):=hcl 1 _ rfl
         have u2:wr.cell? ⟨b,o+j*5+2,none⟩=some (.string r2):=hcl 2 _ rfl
         have u3:wr.cell? ⟨b,o+j*5+3,none⟩=some (.string r3):=hcl 3 _ rfl
         have u4:wr.cell? ⟨b,o+j*5+4,none⟩=some (.string r4):=hcl 4 _ rfl
         have k1:(0:Int)≤(j:Int):=by omega
         have k2:(j:Int)<(k:Int):=by omega
         have k3:(j:Int)<(cs.length:Int):=by omega
         clear hcl hcj htj hBw
         cases hp2:putF (r0,r1,r2,r3,r4) with
         | none =>
           have hgs2:ntG (cs.take (j+1)) q1 sg=ntG (cs.take j) q1 sg:=by rw[hgs];unfold grpS;rw[grpOf_no hp2]
           have HGS2:=Lib.hid hgs2
           clear hgs hgs2
           go_wp2_with (go_at_call 113;(refine (HPUT.out r0 r1 r2 r3 r4 _).mono ?_);rintro _ w4 ⟨x2,al2,gr2,bb2,rfl,hI2,hGs2,hb4,hc2,-,-⟩;obtain rfl:bb2=false:=(by rcases hc2 with ⟨h,-⟩ | ⟨-,h⟩;exact absurd (h.symm.trans hp2) (by simp);exact h);have hone2:=vals_one x2.1 al2 gr2 (is_one hI2) (gs_one hGs2);have R4:=row_new w4 (x2.1.vals al2 gr2) 27 (0,0);have J0:=cell_row R4 0 _ (vals_0 _ _ _);have J1:=cell_row R4 1 _ (vals_1 _ _ _);have B4:=bt hb4 (below_al' w4 (.cells (x2.1.vals al2 gr2) 27));have z4:=hb4.size;have v1:=(B4.cell (p:=⟨b,o+j*5+1,none⟩) (by show b<wr.heap.size;omega)).trans u1;have v2:=(B4.cell (p:=⟨b,o+k*5+1,none⟩) (by show b<wr.heap.size;omega)).trans s1;have HB4:=Lib.hid B4; clear B4 hI2 hGs2 hb4 hc2)
           go_quiet (fail)
           go_wp2_with fail
           go_roundw
           case rel=>exact⟨j+1,gc,by omega,by go_num,Lib.hid (by rw[HGS2.out];exact HGJ.out),(row_below (below_drewN HB4.out _) hgc (by rw[show gc.size=33 from hgc ▸ HHJ.out.1];decide)),Lib.hid (HHJ.out.below (below_drewN HB4.out _)),Lib.hid (HBJ.out.trans ((below_drewN HB4.out _).mono (by omega)))⟩
           case measure=>simp [intOf];omega
         | some y2 =>
           have t3:(y2.1.name.toList==sg.toList)=decide (y2.1.name=sg):=tl_beq _ _
           by_cases hall:y2.1.kind=1∧r1=q1∧y2.1.name=sg
           rotate_left
           · have hgs2:ntG (cs.take (j+1)) q1 sg=ntG (cs.take j) q1 sg:=by
              rw[hgs];unfold grpS grpOf;rw[hp2];dsimp only;rw[if_neg hall]
             have HGS2:=Lib.hid hgs2
             clear hgs hgs2
             by_cases e1:r1=q1
             rotate_left
             · have t1:(r1==q1)=false:=by rw[beq_eq_false_iff_ne];exact e1
               clear e1 hall
               go_wp2_with (go_at_call 113;(refine (HPUT.out r0 r1 r2 r3 r4 _).mono ?_);rintro _ w4 ⟨x2,al2,gr2,bb2,rfl,hI2,hGs2,hb4,hc2,-,-⟩;obtain⟨rfl,rfl⟩:x2=y2∧bb2=true:=(by rcases hc2 with ⟨h,h2⟩ | ⟨h,-⟩;exact⟨Option.some.inj (h.symm.trans hp2),h2⟩;exact absurd (h.symm.trans hp2) (by simp));have hone2:=vals_one x2.1 al2 gr2 (is_one hI2) (gs_one hGs2);have R4:=row_new w4 (x2.1.vals al2 gr2) 27 (0,0);have J0:=cell_row R4 0 _ (vals_0 _ _ _);have J1:=cell_row R4 1 _ (vals_1 _ _ _);have B4:=bt hb4 (below_al' w4 (.cells (x2.1.vals al2 gr2) 27));have z4:=hb4.size;have v1:=(B4.cell (p:=⟨b,o+j*5+1,none⟩) (by show b<wr.heap.size;omega)).trans u1;have v2:=(B4.cell (p:=⟨b,o+k*5+1,none⟩) (by show b<wr.heap.size;omega)).trans s1;have HB4:=Lib.hid B4; clear B4 hI2 hGs2 hb4 hc2)
               go_quiet (fail)
               go_wp2_with fail
               go_roundw
               case rel=>exact⟨j+1,gc,by omega,by go_num,Lib.hid (by rw[HGS2.out];exact HGJ.out),(row_below (below_drewN HB4.out _) hgc (by rw[show gc.size=33 from hgc ▸ HHJ.out.1];decide)),Lib.hid (HHJ.out.below (below_drewN HB4.out _)),Lib.hid (HBJ.out.trans ((below_drewN HB4.out _).mono (by omega)))⟩
               case measure=>simp [intOf];omega
             have t1:(r1==q1)=true:=by rw[e1];exact beq_self_eq_true _
             by_cases e2:y2.1.kind=1
             rotate_left
             · have t4:(y2.1.kind==1)=false:=by rw[beq_eq_false_iff_ne];exact e2
               clear e2 e1 hall
               go_wp2_with (go_at_call 113;(refine (HPUT.out r0 r1 r2 r3 r4 _).mono ?_);rintro _ w4 ⟨x2,al2,gr2,bb2,rfl,hI2,hGs2,hb4,hc2,-,-⟩;obtain⟨rfl,rfl⟩:x2=y2∧bb2=true:=(by rcases hc2 with ⟨h,h2⟩ | ⟨h,-⟩;exact⟨Option.some.inj (h.symm.trans hp2),h2⟩;exact absurd (h.symm.trans hp2) (by simp));have hone2:=vals_one x2.1 al2 gr2 (is_one hI2) (gs_one hGs2);have R4:=row_new w4 (x2.1.vals al2 gr2) 27 (0,0);have J0:=cell_row R4 0 _ (vals_0 _ _ _);have J1:=cell_row R4 1 _ (vals_1 _ _ _);have B4:=bt hb4 (below_al' w4 (.cells (x2.1.vals al2 gr2) 27));have z4:=hb4.size;have v1:=(B4.cell (p:=⟨b,o+j*5+1,none⟩) (by show b<wr.heap.size;omega)).trans u1;have v2:=(B4.cell (p:=⟨b,o+k*5+1,none⟩) (by show b<wr.heap.size;omega)).trans s1;have HB4:=Lib.hid B4; clear B4 hI2 hGs2 hb4 hc2)
               go_quiet (fail)
               go_wp2_with fail
               go_roundw
               case rel=>exact⟨j+1,gc,by omega,by go_num,Lib.hid (by rw[HGS2.out];exact HGJ.out),(row_below (below_drewN HB4.out _) hgc (by rw[show gc.size=33 from hgc ▸ HHJ.out.1];decide)),Lib.hid (HHJ.out.below (below_drewN HB4.out _)),Lib.hid (HBJ.out.trans ((below_drewN HB4.out _).mono (by omega)))⟩
               case measure=>simp [intOf];omega
             have t4:(y2.1.kind==1)=true:=by rw[e2];rfl
             have e3:¬ y2.1.name=sg:=fun h=>hall ⟨e2,e1,h⟩
             rw[decide_eq_false e3] at t3
             clear e1 e2 e3 hall
             go_wp2_with (go_at_call 113;(refine (HPUT.out r0 r1 r2 r3 r4 _).mono ?_);rintro _ w4 ⟨x2,al2,gr2,bb2,rfl,hI2,hGs2,hb4,hc2,-,-⟩;obtain⟨rfl,rfl⟩:x2=y2∧bb2=true:=(by rcases hc2 with ⟨h,h2⟩ | ⟨h,-⟩;exact⟨Option.some.inj (h.symm.trans hp2),h2⟩;exact absurd (h.symm.trans hp2) (by simp));have hone2:=vals_one x2.1 al2 gr2 (is_one hI2) (gs_one hGs2);have R4:=row_new w4 (x2.1.vals al2 gr2) 27 (0,0);have J0:=cell_row R4 0 _ (vals_0 _ _ _);have J1:=cell_row R4 1 _ (vals_1 _ _ _);have B4:=bt hb4 (below_al' w4 (.cells (x2.1.vals al2 gr2) 27));have z4:=hb4.size;have v1:=(B4.cell (p:=⟨b,o+j*5+1,none⟩) (by show b<wr.heap.size;omega)).trans u1;have v2:=(B4.cell (p:=⟨b,o+k*5+1,none⟩) (by show b<wr.heap.size;omega)).trans s1;have HB4:=Lib.hid B4; clear B4 hI2 hGs2 hb4 hc2)
             go_quiet (fail)
             go_wp2_with fail
             go_roundw
             case rel=>exact⟨j+1,gc,by omega,by go_num,Lib.hid (by rw[HGS2.out];exact HGJ.out),(row_below (below_drewN HB4.out _) hgc (by rw[show gc.size=33 from hgc ▸ HHJ.out.1];decide)),Lib.hid (HHJ.out.below (below_drewN HB4.out _)),Lib.hid (HBJ.out.trans ((below_drewN HB4.out _).mono (by omega)))⟩
             case measure=>simp [intOf];omega
           · obtain⟨e2,e1,e3⟩:=hall
             have hgs2:ntG (cs.take (j+1)) q1 sg=some y2:=by
              rw[hgs];unfold grpS grpOf;rw[hp2];dsimp only;rw[if_pos ⟨e2,e1,e3⟩]
             have HGS2:=Lib.hid hgs2
             have t1:(r1==q1)=true:=by rw[e1];exact beq_self_eq_true _
             have t4:(y2.1.kind==1)=true:=by rw[e2];rfl
             rw[decide_eq_true e3] at t3
             obtain⟨gl1,gl2⟩:=group_lists y2 (putF_ok _ _ hp2) e2
             clear hgs hgs2 e1 e2 e3
             go_wp2_with (go_at_call 113;(refine (HPUT.out r0 r1 r2 r3 r4 _).mono ?_);rintro _ w4 ⟨x2,al2,gr2,bb2,rfl,hI2,hGs2,hb4,hc2,-,-⟩;obtain⟨rfl,rfl⟩:x2=y2∧bb2=true:=(by rcases hc2 with ⟨h,h2⟩ | ⟨h,-⟩;exact⟨Option.some.inj (h.symm.trans hp2),h2⟩;exact absurd (h.symm.trans hp2) (by simp));rw[gl1] at hI2;rw[gl2] at hGs2;obtain⟨a1,c1,rfl,-,-⟩:=hI2;obtain⟨a2,c2,rfl,-,-⟩:=hGs2;have hone2:=vals_one x2.1 (.slice a1 0 c1) (.slice a2 0 c2) rfl rfl;have R4:=row_new w4 (x2.1.vals (.slice a1 0 c1) (.slice a2 0 c2)) 27 (0,0);have J0:=cell_row R4 0 _ (vals_0 _ _ _);have J1:=cell_row R4 1 _ (vals_1 _ _ _);have B4:=bt hb4 (below_al' w4 (.cells (x2.1.vals (.slice a1 0 c1) (.slice a2 0 c2)) 27));have z4:=hb4.size;have v1:=(B4.cell (p:=⟨b,o+j*5+1,none⟩) (by show b<wr.heap.size;omega)).trans u1;have v2:=(B4.cell (p:=⟨b,o+k*5+1,none⟩) (by show b<wr.heap.size;omega)).trans s1;have HB4:=Lib.hid B4;have H4:=held_dN (HHJ.out.below B4);clear B4 hb4 hc2)
             go_quiet (fail)
             go_wp2_with fail
             go_roundw
             case rel=>exact⟨j+1,_,by omega,by go_num,Lib.hid (by rw[HGS2.out];exact⟨_,_,_,_,rfl⟩),row_p _ _ _ (H4 _),Lib.hid ((H4 _).set _ (fun _=>vals_size _ _ _)),Lib.hid (HBJ.out.trans (below_setRow ((below_drewN HB4.out _).mono (by omega)) (Nat.le_refl _) _))⟩
             case measure=>simp [intOf];omega
       · obtain rfl:j=k:=by omega
         have RE4:=row_keepB HBJ.out RE3 (by rw[vals_size];decide) (Nat.lt_succ_self _)
         have N4:=Lib.hid (N3.out.belowB HBJ.out (by omega) (fun q hq=>by have:=(own_base HN.out.own q hq).2;omega))
         have HI4:=Lib.hid (is_belowB HBJ.out HI3.out (fun h q hq=>by have:=is_own_lt HI.out h q hq;omega))
         have HGS4:=Lib.hid (gs_belowB HBJ.out HGS3.out (fun h q hq=>by have:=gs_own_lt' HGS.out h q hq;omega))
         have s1:wr.cell? ⟨b,o+j*5+1,none⟩=some (.int .i64 q1):=(hBw.cell (p:=⟨b,o+j*5+1,none⟩) hb).trans P1.out
         have hrf:=HRF.out
         have hgj:=HGJ.out
         cases hng:ntG (cs.take j) q1 sg with
         | some g =>
           rw[hng] at hrf hgj
           obtain⟨a1,c1,a2,c2,rfl⟩:=hgj
           obtain⟨go1,go2,-⟩:=ntG_ok _ _ _ _ hng
           obtain⟨gl1,gl2⟩:=group_lists g go1 go2
           have hgn:g.1.name.size≤60:=by have:=(okX_name g go1).1;rw[Ds.bl_length] at this;omega
           have t5:g.1.name.toList.isEmpty=false:=isEmpty_of _ (by rw[← Ds.bl_length];exact List.length_pos_iff.2 (name_pos g go1 go2))
           have gone:=vals_one g.1 (.slice a1 0 c1) (.slice a2 0 c2) rfl rfl
           have G1:=cell_row hgc 1 _ (vals_1 _ _ _)
           have hn:=fun al gr W i1 i2=>HNOTE.out x g al gr (.slice a1 0 c1) (.slice a2 0 c2) W hnm hgn i1 i2 (by rw[gl1];exact is_any0 _ _ _) (by rw[gl2];exact gs_any0 _ _ _)
           replace hrf:ntX l (cs.take j) (q0,q1,q2,q3,q4) x=((noteC x g).1,0):=hrf
           generalize noteC x g=nc at hn hrf
           obtain⟨ns,nc⟩:=nc
           dsimp only at hn hrf
           rw[notesX_one hp hk0 hrf,← ht] at hstep
           have HNN:=Lib.hid hn
           have HST:=Lib.hid hstep
           clear hstep hn hrf hng HRF hBw
           go_wp2_with (first | (go_at_call 110;(refine (HNN.out al gr _ HI4.out HGS4.out).mono ?_);rintro _ w5 ⟨rfl,hb5⟩;have N5:=Lib.hid (N4.out.below hb5);have R5:=row_below hb5 RE4 (by rw[vals_size];decide);have E2:=cell_row R5 2 _ (vals_2 _ _ _);have E18:=cell_row R5 18 _ (vals_18 _ _ _);clear hb5) | (at_builtin;refine wp_appX _ rfl (.tmp 115) (.tmp 124) 41 71 _ _ 5 64 rfl Tryz.underlying41 cg_i cg_i0 cg_i1 cg_i2 rfl (by decide) w.heap.size (.slice va out.length vc) (.slice (some ⟨w5.heap.size,0,none⟩) 1 1) out.length 1 (cv out) (cv [(7,x.1.d0,⟨#[]⟩,ns,x.1.vol)]) rfl (N5.out.below (below_al' w5 (.cells (ch5 (7,x.1.d0,⟨#[]⟩,ns,x.1.vol)) 71))).own rfl (cs_ch1 w5 (7,x.1.d0,⟨#[]⟩,ns,x.1.vol) _ _ rfl) (cv_one _) (by unfold maxLen;omega) (by omega) (by have:=N5.out.b.size;simp;omega) ?_;intro a5 c5 w6 hown hg6 hat6;have HOW:=Lib.hid hown;have HG6:=Lib.hid hg6;clear hown hg6 hat6))
           go_roundw
           case rel=>exact⟨j+1,_,by omega,by go_num,by simp;omega,HST,((N5.out.below (below_al' _ _)).app (out':=out++[(7,x.1.d0,⟨#[]⟩,ns,x.1.vol)]) (by rw[List.length_append,cv_app];exact HOW.out) HG6.out)⟩
           case measure=>simp [intOf];omega
         | none =>
           rw[hng] at hrf hgj
           have hgj:gc=zlit 0 ⟨#[]⟩:=hgj
           subst hgj
           unfold zlit at hgc
           have G1:wr.cell? ⟨w2.heap.size+1,1,none⟩=some (.string ⟨#[]⟩):=cell_row hgc 1 _ rfl
           replace hrf:ntX l (cs.take j) (q0,q1,q2,q3,q4) x=(match getR l q1 1 sg with | (g,code)=>if code≠0 then (⟨#[]⟩,code) else ((noteC x g).1,0)):=hrf
           have hget:=fun W (b:Below w.heap.size w W)=>HGET.out q1 sg W b
           have hgsh:=getR_short l q1 1 sg
           generalize getR l q1 1 sg=gg at hget hgsh hrf
           obtain⟨g,code⟩:=gg
           dsimp only at hget hgsh hrf
           have HGE:=Lib.hid hget
           clear hget hng HRF hBw
           by_cases hc0:code=0
           rotate_left
           · rw[if_pos hc0] at hrf
             rw[notesX_bad hp hk0 hrf hc0] at hstep
             subst hstep
             have t6:(code != 0)=true:=by rw[bne_iff_ne];exact hc0
             clear ht hrf hc0
             go_wp2_with (go_at_call 85;(refine (HGE.out _ BW.out).mono ?_);rintro _ w5 ⟨⟨al2,gr2,rfl,hI2,hGs2,hf3,hf4⟩,hb5⟩;have hone2:=vals_one g.1 al2 gr2 (is_one hI2) (gs_one hGs2);have B5:=Lib.hid (bt BW.out hb5);clear hI2 hGs2 hf3 hf4 hb5)
             go_ret2
             exact⟨.slice none 0 0,rfl,World.ownsRow_nil _ _ _ _,B5.out.alloc B5.out.size _⟩
           rw[if_neg (fun h=>h hc0)] at hrf
           subst hc0
           have hn:=fun al gr al2 gr2 W i1 i2 i3 i4=>HNOTE.out x g al gr al2 gr2 W hnm hgsh i1 i2 i3 i4
           generalize noteC x g=nc at hn hrf
           obtain⟨ns,nc⟩:=nc
           dsimp only at hn hrf
           rw[notesX_one hp hk0 hrf,← ht] at hstep
           have HNN:=Lib.hid hn
           have HST:=Lib.hid hstep
           clear hstep hn hrf
           go_wp2_with (first | (go_at_call 85;(refine (HGE.out _ BW.out).mono ?_);rintro _ w5 ⟨⟨al2,gr2,rfl,hI2,hGs2,hf3,hf4⟩,hb5⟩;have hone2:=vals_one g.1 al2 gr2 (is_one hI2) (gs_one hGs2);have B5:=bt hb5 (below_al' w5 (.cells (g.1.vals al2 gr2) 27));have z5:=hb5.size;have R6:=row_new w5 (g.1.vals al2 gr2) 27 (0,0);have H6:=HHJ.out.below B5;have K6:=row_p _ (g.1.vals al2 gr2) _ H6;have L6:=(row_set_ne (w5.alloc (.cells (g.1.vals al2 gr2) 27)) w2.heap.size (w2.heap.size+1) (g.1.vals al2 gr2) (by omega)).trans (row_below B5 RE4 (by rw[vals_size];decide));have HI6:=Lib.hid (is_put ((HI4.out.below B5)) (c:=g.1.vals al2 gr2) (p:=w2.heap.size+1) (fun q hq h=>by have:=is_own_lt HI.out h q hq;omega));have HGS6:=Lib.hid (gs_put ((HGS4.out.below B5)) (c:=g.1.vals al2 gr2) (p:=w2.heap.size+1) (fun q hq h=>by have:=gs_own_lt' HGS.out h q hq;omega));have HJ6:=Lib.hid (is_put (hI2.below (below_al' w5 (.cells (g.1.vals al2 gr2) 27))) (c:=g.1.vals al2 gr2) (p:=w2.heap.size+1) (fun q hq _=>by have:=hf3 q hq;omega));have HK6:=Lib.hid (gs_put (hGs2.below (below_al' w5 (.cells (g.1.vals al2 gr2) 27))) (c:=g.1.vals al2 gr2) (p:=w2.heap.size+1) (fun q hq _=>by have:=hf4 q hq;omega));have N6:=Lib.hid ((N4.out.below B5).belowB (below_setRow (Below.refl _ _) (Nat.le_refl (w2.heap.size+1)) (g.1.vals al2 gr2)) (by omega) (fun q hq=>by have:=(own_base HN.out.own q hq).2;omega));clear hI2 hGs2 hf3 hf4 hb5 B5) | (go_at_call 110;(refine (HNN.out al gr al2 gr2 _ HI6.out HGS6.out HJ6.out HK6.out).mono ?_);rintro _ w6 ⟨rfl,hb6⟩;have N7:=Lib.hid (N6.out.below hb6);have R7:=row_below hb6 L6 (by rw[vals_size];decide);have E2:=cell_row R7 2 _ (vals_2 _ _ _);have E18:=cell_row R7 18 _ (vals_18 _ _ _);clear hb6) | (at_builtin;refine wp_appX _ rfl (.tmp 115) (.tmp 124) 41 71 _ _ 5 64 rfl Tryz.underlying41 cg_i cg_i0 cg_i1 cg_i2 rfl (by decide) w.heap.size (.slice va out.length vc) (.slice (some ⟨w6.heap.size,0,none⟩) 1 1) out.length 1 (cv out) (cv [(7,x.1.d0,⟨#[]⟩,ns,x.1.vol)]) rfl (N7.out.below (below_al' w6 (.cells (ch5 (7,x.1.d0,⟨#[]⟩,ns,x.1.vol)) 71))).own rfl (cs_ch1 w6 (7,x.1.d0,⟨#[]⟩,ns,x.1.vol) _ _ rfl) (cv_one _) (by unfold maxLen;omega) (by omega) (by have:=N7.out.b.size;simp;omega) ?_;intro a5 c5 w7 hown hg6 hat6;have HOW:=Lib.hid hown;have HG6:=Lib.hid hg6;clear hown hg6 hat6))
           go_roundw
           case rel=>exact⟨j+1,_,by omega,by go_num,by simp;omega,HST,((N7.out.below (below_al' _ _)).app (out':=out++[(7,x.1.d0,⟨#[]⟩,ns,x.1.vol)]) (by rw[List.length_append,cv_app];exact HOW.out) HG6.out)⟩
           case measure=>simp [intOf];omega
end Go.Proofs.YtdfdjfnfmibpjaaGreatDoor
end
section
/- Contract of the reference of chapter 35: Changes at two equal lists. -/
namespace Go.Proofs.YtdfdjfnfmibpjaaGreatDoor
open Go.RowKit
set_option maxHeartbeats 16000000
set_option maxRecDepth 8000
theorem chg_neq (c:Ch) (w:World):(binOp .neq 71 (.agg (ch5 c)) (.agg (ch5 c))).run Tryz.prog w=.ok (.bool false) w:=by
 rw[run_neq_struct,run_equalIn_struct w 9999 71 _ _ (by simp [Program.fieldsOf,Tryz.underlying71]) (by kernel_rfl)]
 unfold ch5
 simp [Program.fieldsOf,Tryz.underlying71,Op.eqFields,go_sem]
theorem neqCh (ev:Operand→Value) (w:World) (dst x y t pos af gd) (c:Ch) (hx:ev x=.agg (ch5 c)) (hy:ev y=.agg (ch5 c)) :
  (execOp ev ⟨dst,.binOp .neq 71 x y 71,t,pos,af,gd⟩).run Tryz.prog w=.ok (.value (.bool false)) w:=by
 unfold execOp
 simp only[hx,hy,Sem.run_bind,chg_neq,Sem.run_pure]
 simp [eqGuard,go_sem]
theorem ldCh5 (ev:Operand→Value) (w:World) (dst x t pos af gd) (b o:Nat) (c:Ch) (hx:ev x=.pointer (some ⟨b,o,none⟩)) (hc:∀ i u,(ch5 c)[i]?=some u→w.cell? ⟨b,o+i,none⟩=some u) :
  (execOp ev ⟨dst,.load 71 x,t,pos,af,gd⟩).run Tryz.prog w=.ok (.value (.agg (ch5 c))) w:=by
 unfold execOp
 have hr:=run_loadAt_mid (P:=Tryz.prog) w b o 71 (ch5 c).toList _ (fun j v hv=>by rw[Array.getElem?_toList] at hv;exact hc j v hv) Tryz.underlying71 rfl (by kernel_rfl)
 simp only[hx,Sem.run_bind,hr,Result.andThen_ok,Sem.run_pure,Array.toArray_toList]
def ChAt (w:World) (b o:Nat) (c:Ch):Prop:=∀ i u,(ch5 c)[i]?=some u→w.cell? ⟨b,o+i,none⟩=some u
def ChL (w:World) (a:Option Addr) (n:Nat) (G:Nat→Ch):Prop:=n≤9223372036854775807∧∀ k,k<n→∃ b o,a=some ⟨b,o,none⟩∧b<w.heap.size∧ChAt w b (o+k*5) (G k)
def clst (G:Nat→Ch) (n:Nat):List Ch:=(List.range n).map G
theorem clst_len (G:Nat→Ch) (n:Nat):(clst G n).length=n:=by simp [clst]
theorem ChL.chs {w:World} {a:Option Addr} {n:Nat} {G:Nat→Ch} (h:ChL w a n G) (c:Nat) (hn:n≤1000000):ChS w (.slice a n c) (clst G n):=by
 refine⟨a,c,by rw[clst_len],by rw[clst_len];exact hn,fun h0=>?_⟩
 rw[clst_len] at h0
 obtain⟨b,o,ha,hlt,-⟩:=h.2 0 h0
 refine⟨b,o,ha,hlt,fun k hk i u hu=>?_⟩
 rw[clst_len] at hk
 obtain⟨b',o',ha',-,hat⟩:=h.2 k hk
 rw[ha] at ha'
 cases ha'
 have e:(clst G n)[k]'(by rw[clst_len];exact hk)=G k:=by simp [clst]
 rw[e] at hu
 exact hat i u hu
theorem rchanges (v1 v2:Value) (l:List Ch) (w:World) (h1:ChS w v1 l) (h2:ChS w v2 l) :
  Calls Tryz.prog 28 #[v1,v2] w fun r w'=>r=.returned (.bool true)∧Below w.heap.size w w':=by
 obtain⟨a1,c1,rfl,hz,hc1⟩:=h1
 obtain⟨a2,c2,rfl,-,hc2⟩:=h2
 have H1:=Lib.hid hc1
 have H2:=Lib.hid hc2
 clear hc1 hc2
 go_enter Tryz.func28,Tryz.ntmps28
 go_wp2_with fail
 go_loopw [5] (fun i wr=>∃ k:Nat,k≤l.length∧i=.int .i64 k∧∃ q,wr=w.drewN q) (fun i _=>l.length - (intOf i).toNat)
 case atStart=>exact⟨0,Nat.zero_le _,rfl,0,rfl⟩
 case round =>
  obtain⟨k,hk,rfl,q,rfl⟩:=hrel
  by_cases hlt:k<l.length
  · obtain⟨b,o,rfl,hb,hcell⟩:=H1.out (by omega)
    obtain⟨b',o',rfl,hb',hcell'⟩:=H2.out (by omega)
    have q1:=hcell k hlt
    have q2:=hcell' k hlt
    generalize l[k]=ck at q1 q2
    have Q1:ChAt (w.drewN q) b (o+k*5) ck:=q1
    have Q2:ChAt (w.drewN q) b' (o'+k*5) ck:=q2
    have j1:(0:Int)≤(k:Int):=by omega
    have j2:(k:Int)<(l.length:Int):=by omega
    clear q1 q2 hcell hcell'
    go_upto_region 6 with fail
    refine wp_region_held_drew (S:=fun w'=>ChAt w' b (o+k*5) ck∧ChAt w' b' (o'+k*5) ck) (by kernel_rfl) ?_ (fun hHeld=>?_)
    · exact⟨Q1,Q2⟩
    (refine rg_y (i:=0) (some 17) (v:=?_) rfl rfl (by kernel_rfl) (by kernel_rfl) (by kernel_rfl) (fun _ _ _ h=>h) (by kernel_rfl) ?_ (by assumption) ?_;rotate_left 1;focus (intro w hSw;(try dsimp only at hSw);(first | (go_simp;done) | (go_simp;with_reducible rfl)));(try simp only[Act.put,List.setIfInBounds_toArray,List.set_cons_zero,List.set_cons_succ]))
    (refine rg_y (i:=1) (some 18) (v:=?_) rfl rfl (by kernel_rfl) (by kernel_rfl) (by kernel_rfl) (fun _ _ _ h=>h) (by kernel_rfl) ?_ (by assumption) ?_;rotate_left 1;focus (intro w hSw;(try dsimp only at hSw);(first | (go_simp;done) | (go_simp;with_reducible rfl)));(try simp only[Act.put,List.setIfInBounds_toArray,List.set_cons_zero,List.set_cons_succ]))
    (refine rg_y (i:=2) (some 19) (v:=?_) rfl rfl (by kernel_rfl) (by kernel_rfl) (by kernel_rfl) (fun _ _ _ h=>h) (by kernel_rfl) ?_ (by assumption) ?_;rotate_left 1;focus (intro w hSw;(try dsimp only at hSw);(first | (go_simp;done) | (go_simp;with_reducible rfl)));(try simp only[Act.put,List.setIfInBounds_toArray,List.set_cons_zero,List.set_cons_succ]))
    refine rg_y (i:=3) (some 20) (v:=.agg (ch5 ck)) rfl rfl (by kernel_rfl) (by kernel_rfl) (by kernel_rfl) (fun _ _ _ h=>h) (by kernel_rfl) (fun w' hS=>?_) (by assumption) ?_
    · exact ldCh5 _ w' _ _ _ _ _ _ b (o+k*5) ck rfl hS.1
    try simp only[Act.put,List.setIfInBounds_toArray,List.set_cons_zero,List.set_cons_succ]
    (refine rg_y (i:=4) (some 21) (v:=?_) rfl rfl (by kernel_rfl) (by kernel_rfl) (by kernel_rfl) (fun _ _ _ h=>h) (by kernel_rfl) ?_ (by assumption) ?_;rotate_left 1;focus (intro w hSw;(try dsimp only at hSw);(first | (go_simp;done) | (go_simp;with_reducible rfl)));(try simp only[Act.put,List.setIfInBounds_toArray,List.set_cons_zero,List.set_cons_succ]))
    (refine rg_y (i:=5) (some 22) (v:=?_) rfl rfl (by kernel_rfl) (by kernel_rfl) (by kernel_rfl) (fun _ _ _ h=>h) (by kernel_rfl) ?_ (by assumption) ?_;rotate_left 1;focus (intro w hSw;(try dsimp only at hSw);(first | (go_simp;done) | (go_simp;with_reducible rfl)));(try simp only[Act.put,List.setIfInBounds_toArray,List.set_cons_zero,List.set_cons_succ]))
    (refine rg_y (i:=6) (some 23) (v:=?_) rfl rfl (by kernel_rfl) (by kernel_rfl) (by kernel_rfl) (fun _ _ _ h=>h) (by kernel_rfl) ?_ (by assumption) ?_;rotate_left 1;focus (intro w hSw;(try dsimp only at hSw);(first | (go_simp;done) | (go_simp;with_reducible rfl)));(try simp only[Act.put,List.setIfInBounds_toArray,List.set_cons_zero,List.set_cons_succ]))
    refine rg_y (i:=7) (some 24) (v:=.agg (ch5 ck)) rfl rfl (by kernel_rfl) (by kernel_rfl) (by kernel_rfl) (fun _ _ _ h=>h) (by kernel_rfl) (fun w' hS=>?_) (by assumption) ?_
    · exact ldCh5 _ w' _ _ _ _ _ _ b' (o'+k*5) ck rfl hS.2
    try simp only[Act.put,List.setIfInBounds_toArray,List.set_cons_zero,List.set_cons_succ]
    refine rg_y (i:=8) (some 25) (v:=.bool false) rfl rfl (by kernel_rfl) (by kernel_rfl) (by kernel_rfl) (fun _ _ _ h=>h) (by kernel_rfl) (fun w' hS=>?_) (by assumption) ?_
    · exact neqCh _ w' _ _ _ _ _ _ _ ck rfl rfl
    try simp only[Act.put,List.setIfInBounds_toArray,List.set_cons_zero,List.set_cons_succ]
    refine wpAnyH_done (by kernel_rfl) ?_ _
    go_wp2_with fail
    go_roundw
    case rel=>exact⟨k+1,by omega,by go_num,q+1,rfl⟩
    case measure=>simp [intOf];omega
  · obtain rfl:k=l.length:=by omega
    go_wp2_with fail
    go_ret
    exact⟨rfl,below_drewN (Below.refl _ _) _⟩
end Go.Proofs.YtdfdjfnfmibpjaaGreatDoor
end
