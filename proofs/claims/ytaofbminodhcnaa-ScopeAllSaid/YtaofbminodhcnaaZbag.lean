/- Facts on types,and which functions can be called. -/
import Derived.Test.YtaofbminodhcnaaZbae
import Derived.Test.YtaofbminodhcnaaRows
set_option linter.unusedVariables false
set_option linter.unusedSimpArgs false
namespace Go.Proofs.Ytaofbminodhcnaa
open Go.RowKit
theorem Jne:JQ Try.prog 3=true:=by kernel_rfl
theorem Jo9:Jm Try.prog 3=1:=by kernel_rfl
theorem JrA:tAgg Try.prog 3=false:=by kernel_rfl
theorem JsE:tZok Try.prog 3=true:=by kernel_rfl
theorem tZ_3:tZ Try.prog 3=[.int .i64 0]:=by kernel_rfl
theorem Jts:tCS Try.prog 3=[0]:=by kernel_rfl
theorem JnB:XP Try.prog 3=8:=by kernel_rfl
theorem Jok:JQ Try.prog 4=true:=by kernel_rfl
theorem JpC:Jm Try.prog 4=1:=by kernel_rfl
theorem Jr2:tAgg Try.prog 4=false:=by kernel_rfl
theorem Jtu:tCS Try.prog 4=[0]:=by kernel_rfl
theorem Jnl:JQ Try.prog 9=true:=by kernel_rfl
theorem Jpl:Jm Try.prog 9=1:=by kernel_rfl
theorem JrU:tAgg Try.prog 9=false:=by kernel_rfl
theorem JrY:tZok Try.prog 9=true:=by kernel_rfl
theorem tZ_9:tZ Try.prog 9=[str []]:=by kernel_rfl
theorem JtF:tCS Try.prog 9=[0]:=by kernel_rfl
theorem Joh:XP Try.prog 9=16:=by kernel_rfl
theorem Jnx:JgU Try.prog 20=true:=by kernel_rfl
theorem Joe:JeE Try.prog 20=4:=by kernel_rfl
theorem Jme:JQ Try.prog 22=true:=by kernel_rfl
theorem JnE:Jm Try.prog 22=1:=by kernel_rfl
theorem JpG:tAgg Try.prog 22=false:=by kernel_rfl
theorem Jri:tCS Try.prog 22=[11]:=by kernel_rfl
theorem JlO:JP Try.prog 22=true:=by kernel_rfl
theorem Joc:Jr Try.prog 22=44:=by kernel_rfl
theorem Jmz:JeU 22=false:=by kernel_rfl
theorem JnO:Jb0 22=false:=by kernel_rfl
theorem JlD:JQ Try.prog 24=true:=by kernel_rfl
theorem Jn6:Jm Try.prog 24=1:=by kernel_rfl
theorem Jpm:tAgg Try.prog 24=false:=by kernel_rfl
theorem JrO:tCS Try.prog 24=[3]:=by kernel_rfl
theorem Jmy:JP Try.prog 24=true:=by kernel_rfl
theorem JnV:Jr Try.prog 24=26:=by kernel_rfl
theorem JlT:JeU 24=false:=by kernel_rfl
theorem JnL:Jb0 24=true:=by kernel_rfl
theorem JmD:JQ Try.prog 26=true:=by kernel_rfl
theorem JnJ:Jm Try.prog 26=3:=by kernel_rfl
theorem Jo6:tAgg Try.prog 26=true:=by kernel_rfl
theorem Jpf:tZok Try.prog 26=true:=by kernel_rfl
theorem Jtq:tZ Try.prog 26=[.int .i64 0,.int .i64 0,.slice none 0 0]:=by kernel_rfl
theorem Jrn:tCS Try.prog 26=[0,0,3]:=by kernel_rfl
theorem Jll:XP Try.prog 26=40:=by kernel_rfl
theorem Jle:Jd4 Try.prog 26=true:=by kernel_rfl
theorem JhR:JN Try.prog 26 0=true:=by kernel_rfl
theorem JkO:tOff Try.prog 26 0=0:=by kernel_rfl
theorem JmA:tFld Try.prog 26 0=3:=by kernel_rfl
theorem Jh7:JN Try.prog 26 1=true:=by kernel_rfl
theorem Jlu:tOff Try.prog 26 1=1:=by kernel_rfl
theorem JlG:tFld Try.prog 26 1=3:=by kernel_rfl
theorem JhQ:JN Try.prog 26 2=true:=by kernel_rfl
theorem Jmj:tOff Try.prog 26 2=2:=by kernel_rfl
theorem Jk0:tFld Try.prog 26 2=24:=by kernel_rfl
theorem JlW:JQ Try.prog 27=true:=by kernel_rfl
theorem Jow:Jm Try.prog 27=1:=by kernel_rfl
theorem JpI:tAgg Try.prog 27=false:=by kernel_rfl
theorem JrF:tCS Try.prog 27=[0]:=by kernel_rfl
theorem Jk8:JQ Try.prog 29=true:=by kernel_rfl
theorem Jnw:Jm Try.prog 29=3:=by kernel_rfl
theorem JpW:tAgg Try.prog 29=true:=by kernel_rfl
theorem Jpk:tZok Try.prog 29=true:=by kernel_rfl
theorem Jtr:tZ Try.prog 29=[.int .i64 0,.int .i64 0,.int .i64 0]:=by kernel_rfl
theorem Jq4:tCS Try.prog 29=[0,0,0]:=by kernel_rfl
theorem Jl5:Jd4 Try.prog 29=true:=by kernel_rfl
theorem Joi:Jiw Try.prog 29=true:=by kernel_rfl
theorem JmR:Jib Try.prog 29=[1,1,1]:=by kernel_rfl
theorem JhE:JN Try.prog 29 0=true:=by kernel_rfl
theorem JkU:tOff Try.prog 29 0=0:=by kernel_rfl
theorem JmF:tFld Try.prog 29 0=27:=by kernel_rfl
theorem JhY:JN Try.prog 29 1=true:=by kernel_rfl
theorem JlN:tOff Try.prog 29 1=1:=by kernel_rfl
theorem JkY:tFld Try.prog 29 1=3:=by kernel_rfl
theorem Jid:JN Try.prog 29 2=true:=by kernel_rfl
theorem Jlo:tOff Try.prog 29 2=2:=by kernel_rfl
theorem JlQ:tFld Try.prog 29 2=3:=by kernel_rfl
theorem JmC:JQ Try.prog 32=true:=by kernel_rfl
theorem Joz:Jm Try.prog 32=1:=by kernel_rfl
theorem Jph:tAgg Try.prog 32=false:=by kernel_rfl
theorem Jpi:tZok Try.prog 32=true:=by kernel_rfl
theorem JtD:tZ Try.prog 32=[.slice none 0 0]:=by kernel_rfl
theorem JrG:tCS Try.prog 32=[2]:=by kernel_rfl
theorem Jlb:JP Try.prog 32=true:=by kernel_rfl
theorem Jn9:Jr Try.prog 32=40:=by kernel_rfl
theorem JlH:JeU 32=false:=by kernel_rfl
theorem JnA:Jb0 32=true:=by kernel_rfl
theorem Jlw:JQ Try.prog 40=true:=by kernel_rfl
theorem Jm8:Jm Try.prog 40=2:=by kernel_rfl
theorem Jpr:tAgg Try.prog 40=true:=by kernel_rfl
theorem Jpq:tZok Try.prog 40=true:=by kernel_rfl
theorem JtJ:tZ Try.prog 40=[.int .i64 0,.int .i64 0]:=by kernel_rfl
theorem JsB:tCS Try.prog 40=[0,0]:=by kernel_rfl
theorem Jl7:XP Try.prog 40=16:=by kernel_rfl
theorem JkT:Jd4 Try.prog 40=true:=by kernel_rfl
theorem JnN:Jiw Try.prog 40=true:=by kernel_rfl
theorem JkZ:Jib Try.prog 40=[1,1]:=by kernel_rfl
theorem JhI:JN Try.prog 40 0=true:=by kernel_rfl
theorem Jlp:tOff Try.prog 40 0=0:=by kernel_rfl
theorem Jln:tFld Try.prog 40 0=3:=by kernel_rfl
theorem Jh0:JN Try.prog 40 1=true:=by kernel_rfl
theorem Jlr:tOff Try.prog 40 1=1:=by kernel_rfl
theorem JkX:tFld Try.prog 40 1=3:=by kernel_rfl
theorem JmK:JQ Try.prog 41=true:=by kernel_rfl
theorem Jnc:Jm Try.prog 41=1:=by kernel_rfl
theorem Jo1:tAgg Try.prog 41=false:=by kernel_rfl
theorem JpQ:tZok Try.prog 41=true:=by kernel_rfl
theorem JtE:tZ Try.prog 41=[.slice none 0 0]:=by kernel_rfl
theorem Jrb:tCS Try.prog 41=[1]:=by kernel_rfl
theorem Jlx:XP Try.prog 41=24:=by kernel_rfl
theorem Jmi:JP Try.prog 41=true:=by kernel_rfl
theorem Joy:Jr Try.prog 41=9:=by kernel_rfl
theorem Jm9:Jm Try.prog 42=1:=by kernel_rfl
theorem Jsq:tCS Try.prog 42=[3]:=by kernel_rfl
theorem JmI:JQ Try.prog 44=true:=by kernel_rfl
theorem Jjj:Jm Try.prog 44=11:=by kernel_rfl
theorem Jpz:tAgg Try.prog 44=true:=by kernel_rfl
theorem JpD:tZok Try.prog 44=true:=by kernel_rfl
theorem JtI:tZ Try.prog 44=[.int .i64 0,str [],.bool false,.bool false,.int .i64 0,.int .i64 0,.int .i64 0,.int .i64 0,.slice none 0 0,.slice none 0 0,.int .i64 0]:=by kernel_rfl
theorem Jso:tCS Try.prog 44=[0,0,0,0,0,0,0,0,1,3,0]:=by kernel_rfl
theorem Jk4:XP Try.prog 44=120:=by kernel_rfl
theorem JkM:Jd4 Try.prog 44=true:=by kernel_rfl
theorem JhZ:JN Try.prog 44 0=true:=by kernel_rfl
theorem Jmr:tOff Try.prog 44 0=0:=by kernel_rfl
theorem JlI:tFld Try.prog 44 0=3:=by kernel_rfl
theorem Jd9:JN Try.prog 44 1=true:=by kernel_rfl
theorem Jia:tOff Try.prog 44 1=1:=by kernel_rfl
theorem JlV:tFld Try.prog 44 1=9:=by kernel_rfl
theorem JhP:JN Try.prog 44 2=true:=by kernel_rfl
theorem Jma:tOff Try.prog 44 2=2:=by kernel_rfl
theorem Jk1:tFld Try.prog 44 2=4:=by kernel_rfl
theorem Jhy:JN Try.prog 44 3=true:=by kernel_rfl
theorem Jl1:tOff Try.prog 44 3=3:=by kernel_rfl
theorem Jmc:tFld Try.prog 44 3=4:=by kernel_rfl
theorem Jfn:JN Try.prog 44 4=true:=by kernel_rfl
theorem Jh5:tOff Try.prog 44 4=4:=by kernel_rfl
theorem Jlm:tFld Try.prog 44 4=3:=by kernel_rfl
theorem Jfw:JN Try.prog 44 5=true:=by kernel_rfl
theorem Jio:tOff Try.prog 44 5=5:=by kernel_rfl
theorem JmO:tFld Try.prog 44 5=3:=by kernel_rfl
theorem Jin:JN Try.prog 44 6=true:=by kernel_rfl
theorem Jlf:tOff Try.prog 44 6=6:=by kernel_rfl
theorem Jl2:tFld Try.prog 44 6=3:=by kernel_rfl
theorem JhX:JN Try.prog 44 7=true:=by kernel_rfl
theorem Jk6:tOff Try.prog 44 7=7:=by kernel_rfl
theorem Jlv:tFld Try.prog 44 7=3:=by kernel_rfl
theorem Jim:JN Try.prog 44 8=true:=by kernel_rfl
theorem JlX:tOff Try.prog 44 8=8:=by kernel_rfl
theorem JmS:tFld Try.prog 44 8=41:=by kernel_rfl
theorem JhM:JN Try.prog 44 9=true:=by kernel_rfl
theorem JmP:tOff Try.prog 44 9=9:=by kernel_rfl
theorem Jmw:tFld Try.prog 44 9=42:=by kernel_rfl
theorem Jhj:JN Try.prog 44 10=true:=by kernel_rfl
theorem JjV:tOff Try.prog 44 10=10:=by kernel_rfl
theorem JjJ:tFld Try.prog 44 10=3:=by kernel_rfl
theorem Jp3:tZok Try.prog 50=true:=by kernel_rfl
theorem Jty:tZ Try.prog 50=[.slice none 0 0,.int .i64 0,.int .i64 0,.int .i64 0,.int .i64 0]:=by kernel_rfl
theorem Jsf:tCS Try.prog 50=[11,0,0,0,0]:=by kernel_rfl
theorem JlM:Jd4 Try.prog 50=true:=by kernel_rfl
theorem Jie:JN Try.prog 50 0=true:=by kernel_rfl
theorem JlY:tOff Try.prog 50 0=0:=by kernel_rfl
theorem JlU:tFld Try.prog 50 0=22:=by kernel_rfl
theorem JhL:JN Try.prog 50 1=true:=by kernel_rfl
theorem Jl4:tOff Try.prog 50 1=1:=by kernel_rfl
theorem Jlt:tFld Try.prog 50 1=29:=by kernel_rfl
theorem Jh6:JN Try.prog 50 2=true:=by kernel_rfl
theorem Jla:tOff Try.prog 50 2=4:=by kernel_rfl
theorem JlL:tFld Try.prog 50 2=3:=by kernel_rfl
theorem Jmg:JQ Try.prog 56=true:=by kernel_rfl
theorem JnM:Jm Try.prog 56=3:=by kernel_rfl
theorem JpO:tAgg Try.prog 56=true:=by kernel_rfl
theorem Jp0:tZok Try.prog 56=true:=by kernel_rfl
theorem Jtt:tZ Try.prog 56=[.int .i64 0,.int .i64 0,.int .i64 0]:=by kernel_rfl
theorem Jry:tCS Try.prog 56=[0,0,0]:=by kernel_rfl
theorem Jgf:JcL Try.prog 56=true:=by kernel_rfl
theorem Jk2:Jd4 Try.prog 56=true:=by kernel_rfl
theorem JhO:JN Try.prog 56 0=true:=by kernel_rfl
theorem JlP:tOff Try.prog 56 0=0:=by kernel_rfl
theorem Jlh:tFld Try.prog 56 0=29:=by kernel_rfl
theorem Jmx:JQ Try.prog 57=true:=by kernel_rfl
theorem Jn5:Jm Try.prog 57=1:=by kernel_rfl
theorem JpX:tAgg Try.prog 57=false:=by kernel_rfl
theorem Jsh:tCS Try.prog 57=[0]:=by kernel_rfl
theorem JhW:JQ Try.prog 58=true:=by kernel_rfl
theorem Jg6:Jm Try.prog 58=1:=by kernel_rfl
theorem Jp1:tAgg Try.prog 58=false:=by kernel_rfl
theorem JpB:tZok Try.prog 58=true:=by kernel_rfl
theorem JtB:tZ Try.prog 58=[.map none]:=by kernel_rfl
theorem JrB:tCS Try.prog 58=[0]:=by kernel_rfl
theorem Jl6:XP Try.prog 58=8:=by kernel_rfl
theorem JbT:JQ Try.prog 59=true:=by kernel_rfl
theorem JgH:Jm Try.prog 59=1:=by kernel_rfl
theorem Jfe:tAgg Try.prog 59=false:=by kernel_rfl
theorem Jrh:tCS Try.prog 59=[1]:=by kernel_rfl
theorem Jf1:JP Try.prog 59=true:=by kernel_rfl
theorem Jol:Jr Try.prog 59=58:=by kernel_rfl
theorem JkQ:JeU 59=false:=by kernel_rfl
theorem Jon:Jb0 59=false:=by kernel_rfl
theorem JpN:tZok Try.prog 61=true:=by kernel_rfl
theorem JtH:tZ Try.prog 61=[.slice none 0 0,.slice none 0 0,.slice none 0 0]:=by kernel_rfl
theorem Jq6:tCS Try.prog 61=[11,1,2]:=by kernel_rfl
theorem Jlc:Jd4 Try.prog 61=true:=by kernel_rfl
theorem Jhz:JN Try.prog 61 0=true:=by kernel_rfl
theorem Jl8:tOff Try.prog 61 0=0:=by kernel_rfl
theorem Jls:tFld Try.prog 61 0=22:=by kernel_rfl
theorem ZO:JN Try.prog 61 1=true:=by kernel_rfl
theorem JlS:tOff Try.prog 61 1=1:=by kernel_rfl
theorem Jmn:tFld Try.prog 61 1=59:=by kernel_rfl
theorem Jh2:JN Try.prog 61 2=true:=by kernel_rfl
theorem Jmo:tOff Try.prog 61 2=2:=by kernel_rfl
theorem JmL:tFld Try.prog 61 2=32:=by kernel_rfl
theorem Jmu:JQ Try.prog 63=true:=by kernel_rfl
theorem Jos:Jm Try.prog 63=1:=by kernel_rfl
theorem JpL:tAgg Try.prog 63=false:=by kernel_rfl
theorem JrL:tCS Try.prog 63=[0]:=by kernel_rfl
theorem Jk5:JQ Try.prog 78=true:=by kernel_rfl
theorem Joo:Jm Try.prog 78=1:=by kernel_rfl
theorem Jpn:tAgg Try.prog 78=false:=by kernel_rfl
theorem Jr5:tCS Try.prog 78=[1]:=by kernel_rfl
theorem JmN:JP Try.prog 78=true:=by kernel_rfl
theorem Jou:Jr Try.prog 78=3:=by kernel_rfl
theorem Jly:JeU 78=false:=by kernel_rfl
theorem Jnr:Jb0 78=false:=by kernel_rfl
theorem Jmh:JQ Try.prog 80=true:=by kernel_rfl
theorem Jnn:Jm Try.prog 80=2:=by kernel_rfl
theorem Jo7:tAgg Try.prog 80=true:=by kernel_rfl
theorem JpZ:tZok Try.prog 80=true:=by kernel_rfl
theorem Jtw:tZ Try.prog 80=[str [],.slice none 0 0]:=by kernel_rfl
theorem JrX:tCS Try.prog 80=[0,1]:=by kernel_rfl
theorem JhG:JN Try.prog 80 0=true:=by kernel_rfl
theorem Jli:tOff Try.prog 80 0=0:=by kernel_rfl
theorem Jk3:tFld Try.prog 80 0=9:=by kernel_rfl
theorem Jh4:JN Try.prog 80 1=true:=by kernel_rfl
theorem JlB:tOff Try.prog 80 1=1:=by kernel_rfl
theorem Jmv:tFld Try.prog 80 1=78:=by kernel_rfl
theorem Jjy:JP Try.prog 129=true:=by kernel_rfl
theorem Jl0:Jr Try.prog 129=41:=by kernel_rfl
theorem y_3:((((type_of% @Try.underlying3)∧(type_of% @JrA))∧((type_of% @JnB)∧(type_of% @Jts)))∧(((type_of% @Jne)∧(type_of% @Jo9))∧((type_of% @tZ_3)∧(type_of% @JsE)))):=⟨⟨⟨@Try.underlying3,@JrA⟩,⟨@JnB,@Jts⟩⟩,⟨⟨@Jne,@Jo9⟩,⟨@tZ_3,@JsE⟩⟩⟩
theorem y_4:(((type_of% @Try.underlying4)∧(type_of% @Jr2))∧((type_of% @Jtu)∧((type_of% @Jok)∧(type_of% @JpC)))):=⟨⟨@Try.underlying4,@Jr2⟩,⟨@Jtu,⟨@Jok,@JpC⟩⟩⟩
theorem y_9:((((type_of% @Try.underlying9)∧(type_of% @JrU))∧((type_of% @Joh)∧(type_of% @JtF)))∧(((type_of% @Jnl)∧(type_of% @Jpl))∧((type_of% @tZ_9)∧(type_of% @JrY)))):=⟨⟨⟨@Try.underlying9,@JrU⟩,⟨@Joh,@JtF⟩⟩,⟨⟨@Jnl,@Jpl⟩,⟨@tZ_9,@JrY⟩⟩⟩
theorem y_20:((type_of% @Jnx)∧(type_of% @Joe)):=⟨@Jnx,@Joe⟩
theorem y_22:((((type_of% @Jmz)∧(type_of% @JnO))∧((type_of% @JpG)∧(type_of% @Jri)))∧(((type_of% @Joc)∧(type_of% @Jme))∧((type_of% @JnE)∧(type_of% @JlO)))):=⟨⟨⟨@Jmz,@JnO⟩,⟨@JpG,@Jri⟩⟩,⟨⟨@Joc,@Jme⟩,⟨@JnE,@JlO⟩⟩⟩
theorem y_24:((((type_of% @JlT)∧(type_of% @JnL))∧((type_of% @Jpm)∧(type_of% @JrO)))∧(((type_of% @JnV)∧(type_of% @JlD))∧((type_of% @Jn6)∧(type_of% @Jmy)))):=⟨⟨⟨@JlT,@JnL⟩,⟨@Jpm,@JrO⟩⟩,⟨⟨@JnV,@JlD⟩,⟨@Jn6,@Jmy⟩⟩⟩
theorem y_26:(((((type_of% @Jo6)∧(type_of% @Jll))∧((type_of% @Jrn)∧(type_of% @JmA)))∧(((type_of% @JlG)∧(type_of% @Jk0))∧((type_of% @JmD)∧(type_of% @JkO))))∧((((type_of% @Jlu)∧(type_of% @Jmj))∧((type_of% @Jle)∧(type_of% @JnJ)))∧(((type_of% @JhR)∧(type_of% @Jh7))∧((type_of% @JhQ)∧((type_of% @Jtq)∧(type_of% @Jpf)))))):=⟨⟨⟨⟨@Jo6,@Jll⟩,⟨@Jrn,@JmA⟩⟩,⟨⟨@JlG,@Jk0⟩,⟨@JmD,@JkO⟩⟩⟩,⟨⟨⟨@Jlu,@Jmj⟩,⟨@Jle,@JnJ⟩⟩,⟨⟨@JhR,@Jh7⟩,⟨@JhQ,⟨@Jtq,@Jpf⟩⟩⟩⟩⟩
theorem y_27:(((type_of% @JpI)∧(type_of% @JrF))∧((type_of% @JlW)∧(type_of% @Jow))):=⟨⟨@JpI,@JrF⟩,⟨@JlW,@Jow⟩⟩
theorem y_29:(((((type_of% @JpW)∧(type_of% @Jq4))∧((type_of% @Joi)∧(type_of% @JmF)))∧(((type_of% @JkY)∧(type_of% @JlQ))∧((type_of% @JmR)∧((type_of% @Jk8)∧(type_of% @JkU)))))∧((((type_of% @JlN)∧(type_of% @Jlo))∧((type_of% @Jl5)∧(type_of% @Jnw)))∧(((type_of% @JhE)∧(type_of% @JhY))∧((type_of% @Jid)∧((type_of% @Jtr)∧(type_of% @Jpk)))))):=⟨⟨⟨⟨@JpW,@Jq4⟩,⟨@Joi,@JmF⟩⟩,⟨⟨@JkY,@JlQ⟩,⟨@JmR,⟨@Jk8,@JkU⟩⟩⟩⟩,⟨⟨⟨@JlN,@Jlo⟩,⟨@Jl5,@Jnw⟩⟩,⟨⟨@JhE,@JhY⟩,⟨@Jid,⟨@Jtr,@Jpk⟩⟩⟩⟩⟩
theorem y_32:((((type_of% @JlH)∧(type_of% @JnA))∧((type_of% @Jph)∧((type_of% @JrG)∧(type_of% @Jn9))))∧(((type_of% @JmC)∧(type_of% @Joz))∧((type_of% @Jlb)∧((type_of% @JtD)∧(type_of% @Jpi))))):=⟨⟨⟨@JlH,@JnA⟩,⟨@Jph,⟨@JrG,@Jn9⟩⟩⟩,⟨⟨@JmC,@Joz⟩,⟨@Jlb,⟨@JtD,@Jpi⟩⟩⟩⟩
theorem y_40:(((((type_of% @Jpr)∧(type_of% @Jl7))∧((type_of% @JsB)∧(type_of% @JnN)))∧(((type_of% @Jln)∧(type_of% @JkX))∧((type_of% @JkZ)∧(type_of% @Jlw))))∧((((type_of% @Jlp)∧(type_of% @Jlr))∧((type_of% @JkT)∧(type_of% @Jm8)))∧(((type_of% @JhI)∧(type_of% @Jh0))∧((type_of% @JtJ)∧(type_of% @Jpq))))):=⟨⟨⟨⟨@Jpr,@Jl7⟩,⟨@JsB,@JnN⟩⟩,⟨⟨@Jln,@JkX⟩,⟨@JkZ,@Jlw⟩⟩⟩,⟨⟨⟨@Jlp,@Jlr⟩,⟨@JkT,@Jm8⟩⟩,⟨⟨@JhI,@Jh0⟩,⟨@JtJ,@Jpq⟩⟩⟩⟩
theorem y_41:((((type_of% @Jo1)∧(type_of% @Jlx))∧((type_of% @Jrb)∧(type_of% @Joy)))∧(((type_of% @JmK)∧(type_of% @Jnc))∧((type_of% @Jmi)∧((type_of% @JtE)∧(type_of% @JpQ))))):=⟨⟨⟨@Jo1,@Jlx⟩,⟨@Jrb,@Joy⟩⟩,⟨⟨@JmK,@Jnc⟩,⟨@Jmi,⟨@JtE,@JpQ⟩⟩⟩⟩
theorem y_42:((type_of% @Jsq)∧(type_of% @Jm9)):=⟨@Jsq,@Jm9⟩
theorem y_44:((((((type_of% @Jpz)∧(type_of% @Jk4))∧((type_of% @Jso)∧((type_of% @JlI)∧(type_of% @JlV))))∧(((type_of% @JjJ)∧(type_of% @Jk1))∧((type_of% @Jmc)∧((type_of% @Jlm)∧(type_of% @JmO)))))∧((((type_of% @Jl2)∧(type_of% @Jlv))∧((type_of% @JmS)∧((type_of% @Jmw)∧(type_of% @JmI))))∧(((type_of% @Jmr)∧(type_of% @Jia))∧((type_of% @JjV)∧((type_of% @Jma)∧(type_of% @Jl1))))))∧(((((type_of% @Jh5)∧(type_of% @Jio))∧((type_of% @Jlf)∧((type_of% @Jk6)∧(type_of% @JlX))))∧(((type_of% @JmP)∧(type_of% @JkM))∧((type_of% @Jjj)∧((type_of% @JhZ)∧(type_of% @Jd9)))))∧((((type_of% @Jhj)∧(type_of% @JhP))∧((type_of% @Jhy)∧((type_of% @Jfn)∧(type_of% @Jfw))))∧(((type_of% @Jin)∧((type_of% @JhX)∧(type_of% @Jim)))∧((type_of% @JhM)∧((type_of% @JtI)∧(type_of% @JpD))))))):=⟨⟨⟨⟨⟨@Jpz,@Jk4⟩,⟨@Jso,⟨@JlI,@JlV⟩⟩⟩,⟨⟨@JjJ,@Jk1⟩,⟨@Jmc,⟨@Jlm,@JmO⟩⟩⟩⟩,⟨⟨⟨@Jl2,@Jlv⟩,⟨@JmS,⟨@Jmw,@JmI⟩⟩⟩,⟨⟨@Jmr,@Jia⟩,⟨@JjV,⟨@Jma,@Jl1⟩⟩⟩⟩⟩,⟨⟨⟨⟨@Jh5,@Jio⟩,⟨@Jlf,⟨@Jk6,@JlX⟩⟩⟩,⟨⟨@JmP,@JkM⟩,⟨@Jjj,⟨@JhZ,@Jd9⟩⟩⟩⟩,⟨⟨⟨@Jhj,@JhP⟩,⟨@Jhy,⟨@Jfn,@Jfw⟩⟩⟩,⟨⟨@Jin,⟨@JhX,@Jim⟩⟩,⟨@JhM,⟨@JtI,@JpD⟩⟩⟩⟩⟩⟩
theorem y_50:((((type_of% @Jsf)∧((type_of% @JlU)∧(type_of% @Jlt)))∧((type_of% @JlL)∧((type_of% @JlY)∧(type_of% @Jl4))))∧(((type_of% @Jla)∧((type_of% @JlM)∧(type_of% @Jie)))∧(((type_of% @JhL)∧(type_of% @Jh6))∧((type_of% @Jty)∧(type_of% @Jp3))))):=⟨⟨⟨@Jsf,⟨@JlU,@Jlt⟩⟩,⟨@JlL,⟨@JlY,@Jl4⟩⟩⟩,⟨⟨@Jla,⟨@JlM,@Jie⟩⟩,⟨⟨@JhL,@Jh6⟩,⟨@Jty,@Jp3⟩⟩⟩⟩
theorem y_56:((((type_of% @JpO)∧(type_of% @Jry))∧((type_of% @Jlh)∧((type_of% @Jmg)∧(type_of% @Jgf))))∧(((type_of% @JlP)∧((type_of% @Jk2)∧(type_of% @JnM)))∧((type_of% @JhO)∧((type_of% @Jtt)∧(type_of% @Jp0))))):=⟨⟨⟨@JpO,@Jry⟩,⟨@Jlh,⟨@Jmg,@Jgf⟩⟩⟩,⟨⟨@JlP,⟨@Jk2,@JnM⟩⟩,⟨@JhO,⟨@Jtt,@Jp0⟩⟩⟩⟩
theorem y_57:(((type_of% @JpX)∧(type_of% @Jsh))∧((type_of% @Jmx)∧(type_of% @Jn5))):=⟨⟨@JpX,@Jsh⟩,⟨@Jmx,@Jn5⟩⟩
theorem y_58:(((type_of% @Jp1)∧((type_of% @Jl6)∧(type_of% @JrB)))∧(((type_of% @JhW)∧(type_of% @Jg6))∧((type_of% @JtB)∧(type_of% @JpB)))):=⟨⟨@Jp1,⟨@Jl6,@JrB⟩⟩,⟨⟨@JhW,@Jg6⟩,⟨@JtB,@JpB⟩⟩⟩
theorem y_59:((((type_of% @JkQ)∧(type_of% @Jon))∧((type_of% @Jfe)∧(type_of% @Jrh)))∧(((type_of% @Jol)∧(type_of% @JbT))∧((type_of% @JgH)∧(type_of% @Jf1)))):=⟨⟨⟨@JkQ,@Jon⟩,⟨@Jfe,@Jrh⟩⟩,⟨⟨@Jol,@JbT⟩,⟨@JgH,@Jf1⟩⟩⟩
theorem y_61:((((type_of% @Jq6)∧((type_of% @Jls)∧(type_of% @Jmn)))∧((type_of% @JmL)∧((type_of% @Jl8)∧(type_of% @JlS))))∧(((type_of% @Jmo)∧((type_of% @Jlc)∧(type_of% @Jhz)))∧(((type_of% @ZO)∧(type_of% @Jh2))∧((type_of% @JtH)∧(type_of% @JpN))))):=⟨⟨⟨@Jq6,⟨@Jls,@Jmn⟩⟩,⟨@JmL,⟨@Jl8,@JlS⟩⟩⟩,⟨⟨@Jmo,⟨@Jlc,@Jhz⟩⟩,⟨⟨@ZO,@Jh2⟩,⟨@JtH,@JpN⟩⟩⟩⟩
theorem y_63:(((type_of% @JpL)∧(type_of% @JrL))∧((type_of% @Jmu)∧(type_of% @Jos))):=⟨⟨@JpL,@JrL⟩,⟨@Jmu,@Jos⟩⟩
theorem y_78:((((type_of% @Jly)∧(type_of% @Jnr))∧((type_of% @Jpn)∧(type_of% @Jr5)))∧(((type_of% @Jou)∧(type_of% @Jk5))∧((type_of% @Joo)∧(type_of% @JmN)))):=⟨⟨⟨@Jly,@Jnr⟩,⟨@Jpn,@Jr5⟩⟩,⟨⟨@Jou,@Jk5⟩,⟨@Joo,@JmN⟩⟩⟩
theorem y_80:((((type_of% @Jo7)∧((type_of% @JrX)∧(type_of% @Jk3)))∧((type_of% @Jmv)∧((type_of% @Jmh)∧(type_of% @Jli))))∧(((type_of% @JlB)∧((type_of% @Jnn)∧(type_of% @JhG)))∧((type_of% @Jh4)∧((type_of% @Jtw)∧(type_of% @JpZ))))):=⟨⟨⟨@Jo7,⟨@JrX,@Jk3⟩⟩,⟨@Jmv,⟨@Jmh,@Jli⟩⟩⟩,⟨⟨@JlB,⟨@Jnn,@JhG⟩⟩,⟨@Jh4,⟨@Jtw,@JpZ⟩⟩⟩⟩
theorem y_96:(type_of% @Try.underlying96):=@Try.underlying96
theorem JtC:((type_of% @Jl0)∧(type_of% @Jjy)):=⟨@Jl0,@Jjy⟩
theorem Jsa:Jf Try.prog 6:=Jh Try.func6 (by kernel_rfl) (by kernel_rfl)
theorem JrZ:Jf Try.prog 7:=Jh Try.func7 (by kernel_rfl) (by kernel_rfl)
theorem Jvk:Jf Try.prog 8:=Jh Try.func8 (by kernel_rfl) (by kernel_rfl)
theorem Jpa:Jf Try.prog 11:=Jh Try.func11 (by kernel_rfl) (by kernel_rfl)
theorem Juu:Jf Try.prog 13:=Jh Try.func13 (by kernel_rfl) (by kernel_rfl)
theorem Jqd:Jf Try.prog 14:=Jh Try.func14 (by kernel_rfl) (by kernel_rfl)
theorem JuZ:Jf Try.prog 15:=Jh Try.func15 (by kernel_rfl) (by kernel_rfl)
theorem Juf:Jf Try.prog 16:=Jh Try.func16 (by kernel_rfl) (by kernel_rfl)
theorem Ju3:Jf Try.prog 17:=Jh Try.func17 (by kernel_rfl) (by kernel_rfl)
theorem JpT:Jf Try.prog 18:=Jh Try.func18 (by kernel_rfl) (by kernel_rfl)
theorem JpE:Jf Try.prog 19:=Jh Try.func19 (by kernel_rfl) (by kernel_rfl)
theorem JuE:Jf Try.prog 20:=Jh Try.func20 (by kernel_rfl) (by kernel_rfl)
theorem Jix:Jf Try.prog 21:=Jh Try.func21 (by kernel_rfl) (by kernel_rfl)
theorem JpY:Jf Try.prog 22:=Jh Try.func22 (by kernel_rfl) (by kernel_rfl)
theorem JuT:Jf Try.prog 24:=Jh Try.func24 (by kernel_rfl) (by kernel_rfl)
theorem Jud:Jf Try.prog 25:=Jh Try.func25 (by kernel_rfl) (by kernel_rfl)
theorem JiE:Jf Try.prog 26:=Jh Try.func26 (by kernel_rfl) (by kernel_rfl)
theorem Jt8:Jf Try.prog 27:=Jh Try.func27 (by kernel_rfl) (by kernel_rfl)
theorem JtV:Jf Try.prog 28:=Jh Try.func28 (by kernel_rfl) (by kernel_rfl)
theorem Juq:Jf Try.prog 29:=Jh Try.func29 (by kernel_rfl) (by kernel_rfl)
theorem JtM:Jf Try.prog 30:=Jh Try.func30 (by kernel_rfl) (by kernel_rfl)
theorem Jua:Jf Try.prog 31:=Jh Try.func31 (by kernel_rfl) (by kernel_rfl)
theorem Ju2:Jf Try.prog 32:=Jh Try.func32 (by kernel_rfl) (by kernel_rfl)
theorem Juz:Jf Try.prog 33:=Jh Try.func33 (by kernel_rfl) (by kernel_rfl)
theorem JuM:Jf Try.prog 34:=Jh Try.func34 (by kernel_rfl) (by kernel_rfl)
theorem JtN:Jf Try.prog 35:=Jh Try.func35 (by kernel_rfl) (by kernel_rfl)
theorem Jt5:Jf Try.prog 36:=Jh Try.func36 (by kernel_rfl) (by kernel_rfl)
theorem JpR:Jf Try.prog 37:=Jh Try.func37 (by kernel_rfl) (by kernel_rfl)
theorem JuX:Jf Try.prog 38:=Jh Try.func38 (by kernel_rfl) (by kernel_rfl)
theorem JtZ:Jf Try.prog 39:=Jh Try.func39 (by kernel_rfl) (by kernel_rfl)
theorem Jpj:Jf Try.prog 40:=Jh Try.func40 (by kernel_rfl) (by kernel_rfl)
theorem JiJ:Jf Try.prog 41:=Jh Try.func41 (by kernel_rfl) (by kernel_rfl)
theorem Jpd:Jf Try.prog 42:=Jh Try.func42 (by kernel_rfl) (by kernel_rfl)
theorem Jpv:Jf Try.prog 43:=Jh Try.func43 (by kernel_rfl) (by kernel_rfl)
theorem Juo:Jf Try.prog 44:=Jh Try.func44 (by kernel_rfl) (by kernel_rfl)
theorem Jt9:Jf Try.prog 45:=Jh Try.func45 (by kernel_rfl) (by kernel_rfl)
theorem JuK:Jf Try.prog 46:=Jh Try.func46 (by kernel_rfl) (by kernel_rfl)
theorem JuG:Jf Try.prog 47:=Jh Try.func47 (by kernel_rfl) (by kernel_rfl)
theorem JpH:Jf Try.prog 51:=Jh Try.func51 (by kernel_rfl) (by kernel_rfl)
theorem Jo5:Jf Try.prog 52:=Jh Try.func52 (by kernel_rfl) (by kernel_rfl)
theorem Jt2:Jf Try.prog 53:=Jh Try.func53 (by kernel_rfl) (by kernel_rfl)
theorem JuA:Jf Try.prog 54:=Jh Try.func54 (by kernel_rfl) (by kernel_rfl)
theorem Juy:Jf Try.prog 55:=Jh Try.func55 (by kernel_rfl) (by kernel_rfl)
theorem Jur:Jf Try.prog 56:=Jh Try.func56 (by kernel_rfl) (by kernel_rfl)
theorem JuI:Jf Try.prog 57:=Jh Try.func57 (by kernel_rfl) (by kernel_rfl)
theorem Jt3:Jf Try.prog 58:=Jh Try.func58 (by kernel_rfl) (by kernel_rfl)
theorem Jpp:Jf Try.prog 59:=Jh Try.func59 (by kernel_rfl) (by kernel_rfl)
theorem Juc:Jf Try.prog 60:=Jh Try.func60 (by kernel_rfl) (by kernel_rfl)
theorem JuH:Jf Try.prog 61:=Jh Try.func61 (by kernel_rfl) (by kernel_rfl)
theorem JpA:Jf Try.prog 62:=Jh Try.func62 (by kernel_rfl) (by kernel_rfl)
theorem Jue:Jf Try.prog 63:=Jh Try.func63 (by kernel_rfl) (by kernel_rfl)
theorem JuN:Jf Try.prog 64:=Jh Try.func64 (by kernel_rfl) (by kernel_rfl)
theorem Juk:Jf Try.prog 67:=Jh Try.func67 (by kernel_rfl) (by kernel_rfl)
theorem Jum:Jf Try.prog 69:=Jh Try.func69 (by kernel_rfl) (by kernel_rfl)
theorem Juj:Jf Try.prog 76:=Jh Try.func76 (by kernel_rfl) (by kernel_rfl)
theorem JtY:Jf Try.prog 77:=Jh Try.func77 (by kernel_rfl) (by kernel_rfl)
theorem Jp5:Jf Try.prog 78:=Jh Try.func78 (by kernel_rfl) (by kernel_rfl)
theorem Jux:Jf Try.prog 79:=Jh Try.func79 (by kernel_rfl) (by kernel_rfl)
theorem JtW:Jf Try.prog 83:=Jh Try.func83 (by kernel_rfl) (by kernel_rfl)
theorem JuL:Jf Try.prog 84:=Jh Try.func84 (by kernel_rfl) (by kernel_rfl)
theorem Jp6:Jf Try.prog 85:=Jh Try.func85 (by kernel_rfl) (by kernel_rfl)
theorem JtT:Jf Try.prog 86:=Jh Try.func86 (by kernel_rfl) (by kernel_rfl)
theorem JtX:Jf Try.prog 87:=Jh Try.func87 (by kernel_rfl) (by kernel_rfl)
theorem JpU(l:List UInt8):u8s l=List.map dU l:=rfl
theorem mixed:Try.prog.follows .mixedOrders=true:=Try.checked.mixed
theorem Jj{α:Type}(σ:Nat→α)(d:Nat)(x:α)(i:Nat):upd σ d x i=if i=d then x else σ i:=rfl
theorem Jhk{α:Type}(l:List α)(i:Nat):(l.drop i).take (l.length-i)=l.drop i:=List.take_of_length_le (by simp)
theorem JlK{α β:Type}(f:α→β)(l:List α)(i:Nat):(l.map f).drop i=(l.drop i).map f:=List.map_drop.symm
theorem JlJ{α β:Type}(f:α→β)(l:List α)(i:Nat):(l.map f).take i=(l.take i).map f:=List.map_take.symm
theorem Jq{S R:Type}{b:S→Option (S ⊕ R)}{n:Nat}{x:Option R}{o:S ⊕ R}{out:R}(h:inrO x=some o)(hF:Fin' b n o out):x=some out:=by
 obtain⟨r,h1,rfl⟩:=JrE h
 cases hF
 exact h1
theorem J2{S R:Type}{b:S→Option (S ⊕ R)}{n:Nat}{s:S}{o:S ⊕ R}{out:R}(h:(some (.inl s):Option (S ⊕ R))=some o)(hF:Fin' b n o out):Fin' b n (.inl s) out:=by
 obtain rfl:=Option.some.inj h
 exact hF
end Go.Proofs.Ytaofbminodhcnaa
