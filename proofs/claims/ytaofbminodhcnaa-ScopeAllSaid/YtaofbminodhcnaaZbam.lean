/- A tree's node: a struct that holds slices of itself. -/
import Derived.Test.YtaofbminodhcnaaZbah
import Derived.Test.YtaofbminodhcnaaZbak
set_option linter.unusedVariables false
set_option linter.unusedSimpArgs false
namespace Go.Proofs.Ytaofbminodhcnaa
open Go.RowKit
structure Node where
 Kind:Int
 Tok:Int
 Kids:List Node
 deriving Inhabited
mutual
def Jp:Node→D
 | ⟨k,t,ks⟩=>.ag [.v (.int .i64 k),.v (.int .i64 t),.sl 3 (Jcl ks)]
def Jcl:List Node→List D
 | []=>[]
 | x::r=>Jp x::Jcl r
end
theorem Ji6:∀ l,Jcl l=List.map Jp l
 | []=>by simp[Jcl]
 | x::r=>by simp[Jcl,Ji6 r]
theorem Vl(x:Node):Jp x=.ag [.v (.int .i64 x.Kind),.v (.int .i64 x.Tok),.sl 3 (List.map Jp x.Kids)]:=by
 obtain⟨k,t,ks⟩:=x
 rw[Jp,Ji6]
mutual
theorem JgC:∀ x y:Node,Jp x=Jp y→x=y
 | ⟨k,t,ks⟩,⟨k',t',ks'⟩,h=>by
  simp only[Jp,D.ag.injEq,List.cons.injEq,D.v.injEq,D.sl.injEq,Value.int.injEq,true_and,and_true]at h
  obtain⟨rfl,rfl,h2⟩:=h
  rw[Ji7 ks ks' h2]
theorem Ji7:∀ l m:List Node,Jcl l=Jcl m→l=m
 | [],[],_=>rfl
 | x::l,y::m,h=>by
  simp only[Jcl,List.cons.injEq]at h
  rw[JgC x y h.1,Ji7 l m h.2]
 | [],_::_,h=>by simp[Jcl]at h
 | _::_,[],h=>by simp[Jcl]at h
end
theorem JoF(x y:Node)(h:Vm (Jp x)=Vm (Jp y)):x=y:=by
 refine JgC x y ?_
 rw[Vl,Vl]at h ⊢
 simp only[Vm,Jcd,List.map_cons,List.map_nil,D.ag.injEq,List.cons.injEq,D.v.injEq,D.sl.injEq,Value.int.injEq,true_and,and_true]at h
 obtain⟨h0,h1,h2⟩:=h
 rw[h0,h1,h2]
theorem Z6(x:Node):(Jp x).cells.all D.one=true:=by rw[Vl]; rfl
instance:DInj Jp:=⟨JoF,JgC⟩
abbrev EB:=List (List UInt8×Bool)
abbrev EN:=List (List UInt8×Int)
def cvK(l:EB):ME:=l.map fun p=>(p.1,.bool p.2)
def cvN(l:EN):ME:=l.map fun p=>(p.1,.int .i64 p.2)
def xGet{A:Type}:List (List UInt8×A)→List UInt8→Option A
 | [],_=>none
 | (k,v)::r,s=>if s=k then some v else xGet r s
def ebV(l:EB)(s:List UInt8):Bool:=(xGet l s).getD false
def ebH(l:EB)(s:List UInt8):Bool:=(xGet l s).isSome
def enV(l:EN)(s:List UInt8):Int:=(xGet l s).getD 0
def enH(l:EN)(s:List UInt8):Bool:=(xGet l s).isSome
theorem JkG{A:Type}(f:A→Lit)(s:List UInt8):∀ l:List (List UInt8×A),mGet (l.map fun p=>(p.1,f p.2)) s=(xGet l s).map f
 | []=>rfl
 | (k,v)::r=>by
  show(if s=k then some (f v) else mGet (r.map fun p=>(p.1,f p.2)) s)=((if s=k then some v else xGet r s):Option A).map f
  split
  ·rfl
  ·exact JkG f s r
theorem Jpu(s:List UInt8)(l:EB):mGet (cvK l) s=(xGet l s).map .bool:=JkG _ s l
theorem Jis(s:List UInt8)(l:EN):mGet (cvN l) s=(xGet l s).map (.int .i64):=JkG _ s l
theorem Jrl:MapT Try.prog 52∧mapZ Try.prog 52=.bool false:=MapT.mk' Try.underlying52 Try.underlying9 (fun w=>Try.zeroValue4 w) ⟨_,rfl⟩
theorem Jsr:MapT Try.prog 58∧mapZ Try.prog 58=.int .i64 0:=MapT.mk' Try.underlying58 Try.underlying9 (fun w=>Try.zeroValue3 w) ⟨_,rfl⟩
theorem JdH:MapT Try.prog 52:=Jrl.1
theorem JdD:MapT Try.prog 58:=Jsr.1
theorem Jcz(l:EB)(s:List UInt8):Jdf Try.prog 52 (cvK l) s=.bool (ebV l s):=by
 rw[Jdf,Jpu,Jrl.2,ebV]
 cases xGet l s <;> rfl
theorem JcG(l:EN)(s:List UInt8):Jdf Try.prog 58 (cvN l) s=.int .i64 (enV l s):=by
 rw[Jdf,Jis,Jsr.2,enV]
 cases xGet l s <;> rfl
theorem Jcy(l:EB)(s:List UInt8):(mGet (cvK l) s).isSome=ebH l s:=by
 rw[Jpu,ebH]
 cases xGet l s <;> rfl
theorem JcA(l:EN)(s:List UInt8):(mGet (cvN l) s).isSome=enH l s:=by
 rw[Jis,enH]
 cases xGet l s <;> rfl
theorem JdG:cvK []=[]:=rfl
theorem JdF:cvN []=[]:=rfl
abbrev KD:=EN
abbrev KSK(L:List KD):KP:=KS Try.prog 9 58 (L.map cvN)
def kPut(K:List KD)(s:List UInt8)(v:Int):List KD:=K.set (K.length-1) ((s,v)::K.getD (K.length-1) [])
def kTop(K:List KD):KD:=K.getD (K.length-1) []
def kHas(K:List KD)(i:Int)(s:List UInt8):Bool:=enH (K.getD i.toNat []) s
def kVal(K:List KD)(i:Int)(s:List UInt8):Int:=enV (K.getD i.toNat []) s
def ifK(s:List UInt8):Int:=if s=[105,102] then 6 else if s=[119,104,105,108,101] then 7 else 0
end Go.Proofs.Ytaofbminodhcnaa
