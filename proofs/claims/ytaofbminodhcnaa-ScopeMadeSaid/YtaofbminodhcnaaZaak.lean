/- The program's structures,as data. Written by dec3.py. -/
import Derived.Test.YtaofbminodhcnaaZaai
set_option linter.unusedVariables false
set_option linter.unusedSimpArgs false
namespace Go.Proofs.Ytaofbminodhcnaa
open Go.RowKit
structure Call where
 Name:List UInt8
 File:Int
 At:Int
 deriving Inhabited,DecidableEq
def J9(x:Call):D:=.ag [.v (str x.Name),.v (.int .i64 x.File),.v (.int .i64 x.At)]
theorem Jg5(x y:Call)(h:J9 x=J9 y):x=y:=by
 rcases x with⟨_,_,_⟩; rcases y with⟨_,_,_⟩
 simp only[J9,D.ag.injEq,List.cons.injEq,and_true]at h
 obtain⟨h0,h1,h2⟩:=h
 have h0:=Jc8 _ _ h0
 have h1:=KY _ _ h1
 have h2:=KY _ _ h2
 subst_vars
 rfl
theorem JoW(x y:Call)(h:Vl (J9 x)=Vl (J9 y)):x=y:=by
 rcases x with⟨_,_,_⟩; rcases y with⟨_,_,_⟩
 simp only[J9,Vl,Jb6,List.map_cons,List.map_nil,D.ag.injEq,List.cons.injEq,and_true]at h
 obtain⟨h0,h1,h2⟩:=h
 have h0:=Jc8 _ _ h0
 have h1:=KY _ _ h1
 have h2:=KY _ _ h2
 subst_vars
 rfl
instance:DInj J9:=⟨JoW,Jg5⟩
structure Token where
 Kind:Int
 Text:List UInt8
 Space:Bool
 First:Bool
 File:Int
 At:Int
 End:Int
 Line:Int
 Hide:List (List UInt8)
 Calls:List Call
 Made:Int
 deriving Inhabited,DecidableEq
def Jb(x:Token):D:=.ag [.v (.int .i64 x.Kind),.v (str x.Text),.v (.bool x.Space),.v (.bool x.First),.v (.int .i64 x.File),.v (.int .i64 x.At),.v (.int .i64 x.End),.v (.int .i64 x.Line),.sl 1 (List.map dS x.Hide),.sl 3 (List.map J9 x.Calls),.v (.int .i64 x.Made)]
theorem JoN(x y:Token)(h:Jb x=Jb y):x=y:=by
 rcases x with⟨_,_,_,_,_,_,_,_,_,_,_⟩; rcases y with⟨_,_,_,_,_,_,_,_,_,_,_⟩
 simp only[Jb,D.ag.injEq,List.cons.injEq,and_true]at h
 obtain⟨h0,h1,h2,h3,h4,h5,h6,h7,h8,h9,h10⟩:=h
 have h0:=KY _ _ h0
 have h1:=Jc8 _ _ h1
 have h2:=Jgx _ _ h2
 have h3:=Jgx _ _ h3
 have h4:=KY _ _ h4
 have h5:=KY _ _ h5
 have h6:=KY _ _ h6
 have h7:=KY _ _ h7
 have h8:=JeV (sz:=1) Jc8 _ _ h8
 have h9:=JeV (sz:=3) Jg5 _ _ h9
 have h10:=KY _ _ h10
 subst_vars
 rfl
theorem Jnz(x y:Token)(h:Vl (Jb x)=Vl (Jb y)):x=y:=by
 rcases x with⟨_,_,_,_,_,_,_,_,_,_,_⟩; rcases y with⟨_,_,_,_,_,_,_,_,_,_,_⟩
 simp only[Jb,Vl,Jb6,List.map_cons,List.map_nil,D.ag.injEq,List.cons.injEq,and_true]at h
 obtain⟨h0,h1,h2,h3,h4,h5,h6,h7,h8,h9,h10⟩:=h
 have h0:=KY _ _ h0
 have h1:=Jc8 _ _ h1
 have h2:=Jgx _ _ h2
 have h3:=Jgx _ _ h3
 have h4:=KY _ _ h4
 have h5:=KY _ _ h5
 have h6:=KY _ _ h6
 have h7:=KY _ _ h7
 have h8:=JeV (sz:=0) Jc8 _ _ h8
 have h9:=JeV (sz:=0) Jg5 _ _ h9
 have h10:=KY _ _ h10
 subst_vars
 rfl
theorem JrK(x:Token):(Jb x).cells.all D.one=true:=rfl
instance:DInj Jb:=⟨Jnz,JoN⟩
structure Spliced where
 Text:List UInt8
 At:List Int
 deriving Inhabited,DecidableEq
def ZM(x:Spliced):D:=.ag [.v (str x.Text),.sl 1 (List.map dI x.At)]
theorem Jm1(x y:Spliced)(h:ZM x=ZM y):x=y:=by
 rcases x with⟨_,_⟩; rcases y with⟨_,_⟩
 simp only[ZM,D.ag.injEq,List.cons.injEq,and_true]at h
 obtain⟨h0,h1⟩:=h
 have h0:=Jc8 _ _ h0
 have h1:=JeV (sz:=1) KY _ _ h1
 subst_vars
 rfl
theorem Jku(x y:Spliced)(h:Vl (ZM x)=Vl (ZM y)):x=y:=by
 rcases x with⟨_,_⟩; rcases y with⟨_,_⟩
 simp only[ZM,Vl,Jb6,List.map_cons,List.map_nil,D.ag.injEq,List.cons.injEq,and_true]at h
 obtain⟨h0,h1⟩:=h
 have h0:=Jc8 _ _ h0
 have h1:=JeV (sz:=0) KY _ _ h1
 subst_vars
 rfl
instance:DInj ZM:=⟨Jku,Jm1⟩
structure Fault where
 Err:Int
 File:Int
 At:Int
 deriving Inhabited,DecidableEq
def Kh(x:Fault):D:=.ag [.v (.int .i64 x.Err),.v (.int .i64 x.File),.v (.int .i64 x.At)]
theorem JoT(x y:Fault)(h:Kh x=Kh y):x=y:=by
 rcases x with⟨_,_,_⟩; rcases y with⟨_,_,_⟩
 simp only[Kh,D.ag.injEq,List.cons.injEq,and_true]at h
 obtain⟨h0,h1,h2⟩:=h
 have h0:=KY _ _ h0
 have h1:=KY _ _ h1
 have h2:=KY _ _ h2
 subst_vars
 rfl
theorem JnG(x y:Fault)(h:Vl (Kh x)=Vl (Kh y)):x=y:=by
 rcases x with⟨_,_,_⟩; rcases y with⟨_,_,_⟩
 simp only[Kh,Vl,Jb6,List.map_cons,List.map_nil,D.ag.injEq,List.cons.injEq,and_true]at h
 obtain⟨h0,h1,h2⟩:=h
 have h0:=KY _ _ h0
 have h1:=KY _ _ h1
 have h2:=KY _ _ h2
 subst_vars
 rfl
instance:DInj Kh:=⟨JnG,JoT⟩
structure Bind where
 Tok:Int
 Decl:Int
 deriving Inhabited,DecidableEq
def Jh(x:Bind):D:=.ag [.v (.int .i64 x.Tok),.v (.int .i64 x.Decl)]
theorem Jqt(x y:Bind)(h:Jh x=Jh y):x=y:=by
 rcases x with⟨_,_⟩; rcases y with⟨_,_⟩
 simp only[Jh,D.ag.injEq,List.cons.injEq,and_true]at h
 obtain⟨h0,h1⟩:=h
 have h0:=KY _ _ h0
 have h1:=KY _ _ h1
 subst_vars
 rfl
theorem JoP(x y:Bind)(h:Vl (Jh x)=Vl (Jh y)):x=y:=by
 rcases x with⟨_,_⟩; rcases y with⟨_,_⟩
 simp only[Jh,Vl,Jb6,List.map_cons,List.map_nil,D.ag.injEq,List.cons.injEq,and_true]at h
 obtain⟨h0,h1⟩:=h
 have h0:=KY _ _ h0
 have h1:=KY _ _ h1
 subst_vars
 rfl
theorem Joq(x:Bind):(Jh x).cells.all D.one=true:=rfl
instance:DInj Jh:=⟨JoP,Jqt⟩
end Go.Proofs.Ytaofbminodhcnaa
